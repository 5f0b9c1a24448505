/- The number of bits,by the library's JpH. -/
import Derived.Test.YtaofbminodhcnaaZcak
import Derived.Test.YtaofbminodhcnaaZcam
import Derived.Shelf.Small.Bits
set_option linter.unusedVariables false
set_option linter.unusedSimpArgs false
namespace Go.Proofs.Ytaofbminodhcnaa
open Go.Shelf
def Jqt:Go.Shelf.Ren:=⟨fun | 125=>45 | 128=>72 | 129=>73 | n=>n,fun | 46=>96 | 3=>3 | 51=>116 | 53=>118 | 4=>4 | 5=>5 | 9=>9 | n=>n,fun | n=>n⟩
theorem JwN:Go.Proofs.Lays.n125 Try.prog Jqt:={
 mixed:=by kernel_rfl
 f125:=Try.func45.trans (congrArg some (by kernel_rfl))
 f128:=Try.func72.trans (congrArg some (by kernel_rfl))
 f129:=Try.func73.trans (congrArg some (by kernel_rfl))
 t3:=Try.underlying3
 a3:=Try.isAgg3
 z3:=Try.sizeOf3
 v3:=Try.zeroValue3
 t4:=Try.underlying4
 a4:=Try.isAgg4
 z4:=Try.sizeOf4
 v4:=Try.zeroValue4
 t5:=Try.underlying5
 a5:=Try.isAgg5
 z5:=Try.sizeOf5
 v5:=Try.zeroValue5
 t9:=Try.underlying9
 a9:=Try.isAgg9
 z9:=Try.sizeOf9
 v9:=Try.zeroValue9
 t46:=Try.underlying96
 a46:=Try.isAgg96
 z46:=Try.sizeOf96
 v46:=Try.zeroValue96
 t51:=Try.underlying116
 a51:=Try.isAgg116
 z51:=Try.sizeOf116
 v51:=Try.zeroValue116
 t53:=Try.underlying118
 a53:=Try.isAgg118
 z53:=Try.sizeOf118
 v53:=Try.zeroValue118 }
open Go.RowKit
def Jhs(x:Int):Int:=((Lib.bitLen x.toNat:Nat):Int)
noncomputable def bits_Len(a0:Int):Option Unit:=if 0≤a0∧a0≤18446744073709551615 then some () else none
noncomputable def JhC(a0:Int)(r:Unit):GI :=
 ⟨[.c (.d (.v (.int .u64 a0)))],[],[],.ret (.c (.d (.v (.int .i64 (Jhs a0))))) [] []⟩
def JeV:GI→Prop:=fun g=>∃ (a0:Int) (r:Unit),bits_Len a0=some r∧g=JhC a0 r
theorem Jsl(a0:Int)(r:Unit)(H:bits_Len a0=some r):JeV (JhC a0 r):=⟨a0,r,H,rfl⟩
theorem JqA:∀ g,JeV g→Jx Try.prog 45 g:=by
 rintro _ ⟨a0,r,H,rfl⟩
 unfold bits_Len at H
 obtain⟨hg,H⟩:=Jj H
 intro e vs hw hcan hargs
 match vs,hargs with
 | [x],⟨h1,_⟩ =>
  obtain rfl:x=.int .u64 a0:=R1.vInv h1
  refine Calls.mono (Any.bits_Len JwN a0 e.w hg.1 hg.2) ?_
  rintro en w' ⟨rfl,rfl⟩
  exact⟨_,e,rfl,rfl,⟨hw,hcan,Nat.le_refl _⟩,.v _⟩
theorem Jso:Jh Try.prog 45∧(∀ g,JeV g→Jx Try.prog 45 g)∧(true=true→∀ g,JeV g→∃ val bs ts,g.out=.ret val bs ts) :=
 ⟨Jxg,JqA,fun _=>by rintro _ ⟨_,_,_,rfl⟩; exact⟨_,_,_,rfl⟩⟩
end Go.Proofs.Ytaofbminodhcnaa
