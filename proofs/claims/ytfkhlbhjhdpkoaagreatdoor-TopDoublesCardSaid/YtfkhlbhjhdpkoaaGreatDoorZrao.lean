/- slices.Grow of nil,by the library's contract. -/
import Derived.Test.YtfkhlbhjhdpkoaaGreatDoorZrae
import Derived.Test.YtfkhlbhjhdpkoaaGreatDoorZral
import Derived.Shelf.Spec.SlicesGrow
import Derived.OwnWalk
import Derived.Ground.Names8Prog
set_option linter.unusedVariables false
set_option linter.unusedSimpArgs false
namespace Go.Proofs.YtfkhlbhjhdpkoaaGreatDoor
open Go.Shelf Go.RowKit
def Jy3:Go.Shelf.Ren:=⟨fun | 4=>174 | n=>n,fun | 22=>41 | 25=>9 | 3=>3 | 4=>4 | 9=>9 | 20=>20 | 0=>0 | n=>n,fun | n=>n⟩
theorem JAO:Go.Proofs.Lays8.n4 Tryz.prog Jy3:={
  mixed:=by kernel_rfl
  f4:=⟨Tryz.f174.name,by decide,Tryz.func174.trans (congrArg some (by kernel_rfl))⟩
  t0:=Tryz.underlying0
  a0:=Tryz.isAgg0
  z0:=Tryz.sizeOf0
  v0:=Tryz.zeroValue0
  t3:=Tryz.underlying3
  a3:=Tryz.isAgg3
  z3:=Tryz.sizeOf3
  v3:=Tryz.zeroValue3
  t4:=Tryz.underlying4
  a4:=Tryz.isAgg4
  z4:=Tryz.sizeOf4
  v4:=Tryz.zeroValue4
  t9:=Tryz.underlying9
  a9:=Tryz.isAgg9
  z9:=Tryz.sizeOf9
  v9:=Tryz.zeroValue9
  t20:=Tryz.underlying20
  a20:=Tryz.isAgg20
  z20:=Tryz.sizeOf20
  v20:=Tryz.zeroValue20
  t22:=Tryz.underlying41
  a22:=Tryz.isAgg41
  z22:=Tryz.sizeOf41
  v22:=Tryz.zeroValue41 }
def JxU:Go.Shelf.Ren:=⟨fun | 4=>177 | n=>n,fun | 22=>42 | 25=>198 | 3=>3 | 4=>4 | 9=>9 | 20=>20 | 0=>0 | n=>n,fun | n=>n⟩
theorem JA5:Go.Proofs.Lays8.n4 Tryz.prog JxU:={
  mixed:=by kernel_rfl
  f4:=⟨Tryz.f177.name,by decide,Tryz.func177.trans (congrArg some (by kernel_rfl))⟩
  t0:=Tryz.underlying0
  a0:=Tryz.isAgg0
  z0:=Tryz.sizeOf0
  v0:=Tryz.zeroValue0
  t3:=Tryz.underlying3
  a3:=Tryz.isAgg3
  z3:=Tryz.sizeOf3
  v3:=Tryz.zeroValue3
  t4:=Tryz.underlying4
  a4:=Tryz.isAgg4
  z4:=Tryz.sizeOf4
  v4:=Tryz.zeroValue4
  t9:=Tryz.underlying9
  a9:=Tryz.isAgg9
  z9:=Tryz.sizeOf9
  v9:=Tryz.zeroValue9
  t20:=Tryz.underlying20
  a20:=Tryz.isAgg20
  z20:=Tryz.sizeOf20
  v20:=Tryz.zeroValue20
  t22:=Tryz.underlying42
  a22:=Tryz.isAgg42
  z22:=Tryz.sizeOf42
  v22:=Tryz.zeroValue42 }
theorem JtG{e:Env}{v:Value}(h:RC e (.sl 0 [] 0) v):∃ o,v=.slice o 0 0:=by
  obtain⟨h1,h2⟩:=h
  rcases h1.slInv with⟨_,o,rfl⟩|⟨vs,b,of,cap,rfl,_⟩
  · exact⟨o,rfl⟩
  rcases h2 with⟨a,n,h3⟩|⟨h3,_⟩
  · injection h3 with h4 h5 h6
    subst h4
    have:cap=0:=by simp at h5; omega
    subst this
    exact⟨_,rfl⟩
  exact absurd rfl h3
theorem JC4:(Tryz.prog.info? 9).map (fun i=>(i.zero,i.size,i.bytes))=some (some (.string ByteArray.empty),1,16):=by kernel_rfl
def Jjj:Value:=.agg #[.string ByteArray.empty,.int .i64 0,.int .i64 0]
theorem JC3:(Tryz.prog.info? 198).map (fun i=>(i.zero,i.size,i.bytes))=some (some Jjj,3,32):=by kernel_rfl
theorem JCy:Jq Tryz.prog 198=3:=by kernel_rfl
noncomputable def VK(a0:Int):Option Unit:=if 0≤a0∧a0 * 16≤140737488355328 then some () else none
def XP(a0:Int)(r:Unit):GI :=
  ⟨[.c (.sl 0 [] 0),cI a0],[],[],.ret (.c (.os 1 1 0 0)) [[.arr 1 (List.map dS ([]:List (List UInt8)))]] []⟩
def Vi:GI→Prop:=Sg1 VK XP
noncomputable def K5(a0:Int):Option Unit:=if 0≤a0∧a0 * 32≤140737488355328 then some () else none
def VU(a0:Int)(r:Unit):GI :=
  ⟨[.c (.sl 0 [] 0),cI a0],[],[],.ret (.c (.sl 3 (List.map Jk ([]:List Call)) 1)) [] [198]⟩
def KM:GI→Prop:=Sg1 K5 VU
theorem JyN(n:Nat)(r:Unit)(hn:n * 16≤140737488355328):Jm Tryz.prog 174 (XP (n:Int) r):=by
  intro e vs hw hc ha
  match vs,ha with
  | [v0,v1],⟨h0,h1,_⟩ =>
    obtain⟨o,rfl⟩:=JtG h0
    obtain rfl:v1=.int .i64 (n:Int):=R1.vInv h1
    have fin:∀ (e2:Env) (h2:Hp) (p:Nat),WInv (ctxG Tryz.prog 0 0 e) h2 e2→(p=0∨(p=1∧h2.H 1=some [.arr 1 []]))→GFin Tryz.prog 0 0 e [[.arr 1 []]] [] (renE ⟨[p],[]⟩ e2):=fun e2 h2 p hi hp=>by
      have hr:=JgW (rt:=0) (bs:=[[.arr 1 []]]) (ts:=[]) ⟨[p],[]⟩ rfl rfl (by rcases hp with rfl | ⟨rfl,_⟩ <;> rfl) rfl
        (by rcases hp with rfl | ⟨rfl, hH⟩
            · simp[BWk,Ren.p,Jdv]
            simp[BWk,Ren.p,hH,BWk1,CsWk,CWk]) (by simp[TWk]) rfl rfl hi
      exact⟨hr,JgK hr,Nat.zero_le _⟩
    rcases Nat.eq_zero_or_pos n with rfl | hpos
    · refine(Any8.slices_Grow_room JAO o 0 0 0 e.w (Nat.le_refl _) (by omega) (by omega) (Nat.le_refl _)).mono ?_
      rintro en w' ⟨rfl,rfl⟩
      exact⟨_,renE ⟨[0],[]⟩ e,rfl,rfl,fin e _ 0 hw (.inl rfl),.inl ⟨rfl,o,rfl⟩⟩
    obtain⟨i0,hi0,hz0,hs0,hb0⟩:=info_parts JC4
    have hge:=grownCap_ge e.w (0+n) 0 9
    have hge':n≤grownCap e.w n 0 9:=by simpa using hge
    have hmx:=grownCap_le_maxLen e.w (0+n) 0 9 (by unfold maxLen; omega)
    refine(Any8.slices_Grow_grow JAO i0 (.string ByteArray.empty) hi0 hz0 (by omega) o 0 0 n [] e.w (Nat.le_refl _) (by omega) (by rw[hb0]; omega) (by omega) (by simp) (fun _=>rfl) (fun a _ j v hj=>by simp at hj)).mono ?_
    rintro en w' ⟨rfl,rfl⟩
    obtain⟨e',g1,g2,g3,g4,g5⟩:=hw.newArrBox (el:=9) (sz:=1) (cap:=grownCap e.w (0+n) 0 9) (l:=[]) (op:=[]) (us:=[]) (ts:=[])
      (zs:=(Builtin.zeroCells (Value.string ByteArray.empty).cells (0+n-0)++Builtin.zeroCells (Value.string ByteArray.empty).cells (grownCap e.w (0+n) 0 9-(0+n))).toList)
      (cur:=(([]:List Value).toArray++Builtin.zeroCells (Value.string ByteArray.empty).cells (0+n-0)++Builtin.zeroCells (Value.string ByteArray.empty).cells (grownCap e.w (0+n) 0 9-(0+n))))
      (by simp) .anil (by simp) trivial (.inl rfl) (by decide) (by simp[size_zeroCells,Value.cells]; omega) hmx
    refine⟨_,renE ⟨[1],[]⟩ e',rfl,g1,fin e' _ 1 g2 (.inr ⟨rfl,rfl⟩),?_⟩
    have:RC e' (.os 1 1 0 0) (.slice (some ⟨e.w.heap.size,0,none⟩) 0 (grownCap e.w (0+n) 0 9)):=.inr ⟨_,_,g4,g5,by simp,by omega⟩
    exact CWk.rc (c':=.os 1 1 0 0) (by simp[CWk,Ren.p]) this
theorem Jyg(n:Nat)(r:Unit)(hn:n * 32≤140737488355328):Jm Tryz.prog 177 (VU (n:Int) r):=by
  intro e vs hw hc ha
  match vs,ha with
  | [v0,v1],⟨h0,h1,_⟩ =>
    obtain⟨o,rfl⟩:=JtG h0
    obtain rfl:v1=.int .i64 (n:Int):=R1.vInv h1
    have fin:∀ (e2:Env) (h2:Hp) (p:Nat),WInv (ctxG Tryz.prog 0 0 e) h2 e2→(p=0∨(p=1∧h2.T 1=some 198))→GFin Tryz.prog 0 0 e [] [198] (renE ⟨[],[p]⟩ e2):=fun e2 h2 p hi hp=>by
      have hr:=JgW (rt:=0) (bs:=[]) (ts:=[198]) ⟨[],[p]⟩ rfl rfl rfl (by rcases hp with rfl | ⟨rfl,_⟩ <;> rfl)
        (by simp [BWk]) (by rcases hp with rfl | ⟨rfl, hH⟩
                            · simp[TWk,Ren.q]
                            simp[TWk,Ren.q,hH]) rfl rfl hi
      exact⟨hr,JgK hr,Nat.zero_le _⟩
    rcases Nat.eq_zero_or_pos n with rfl | hpos
    · refine(Any8.slices_Grow_room JA5 o 0 0 0 e.w (Nat.le_refl _) (by omega) (by omega) (Nat.le_refl _)).mono ?_
      rintro en w' ⟨rfl,rfl⟩
      exact⟨_,renE ⟨[],[0]⟩ e,rfl,rfl,fin e _ 0 hw (.inl rfl),⟨.slnil _ _,.inl ⟨_,_,rfl⟩⟩⟩
    obtain⟨i0,hi0,hz0,hs0,hb0⟩:=info_parts JC3
    have hge:=grownCap_ge e.w (0+n) 0 198
    have hge':n≤grownCap e.w n 0 198:=by simpa using hge
    have hmx:=grownCap_le_maxLen e.w (0+n) 0 198 (by unfold maxLen; omega)
    refine(Any8.slices_Grow_grow JA5 i0 Jjj hi0 hz0 (by omega) o 0 0 n [] e.w (Nat.le_refl _) (by omega) (by rw[hb0]; omega) (by omega) (by simp) (fun _=>rfl) (fun a _ j v hj=>by simp at hj)).mono ?_
    rintro en w' ⟨rfl,rfl⟩
    obtain⟨e',g1,g2,g3,g4⟩:=hw.newArr (el:=198) (sz:=3) (cap:=grownCap e.w (0+n) 0 198) (l:=[]) (vs:=[])
      (zs:=(Builtin.zeroCells Jjj.cells (0+n-0)++Builtin.zeroCells Jjj.cells (grownCap e.w (0+n) 0 198-(0+n))).toList)
      (cur:=(([]:List Value).toArray++Builtin.zeroCells Jjj.cells (0+n-0)++Builtin.zeroCells Jjj.cells (grownCap e.w (0+n) 0 198-(0+n))))
      ⟨by decide,JCy.symm⟩ .anil (by simp) (by simp) (by simp[size_zeroCells,Value.cells,Jjj]; omega) (Nat.zero_le _) hmx
    refine⟨_,renE ⟨[],[1]⟩ e',rfl,g1,fin e' _ 1 g2 (.inr ⟨rfl,rfl⟩),?_⟩
    exact CWk.rc (c:=.sl 3 [] 1) (c':=.sl 3 (List.map Jk []) 1) (by simp[CWk,Ren.q]) g4
theorem Jfv:∀ g,Vi g→Jm Tryz.prog 174 g:=by
  rintro _ ⟨a0,r,H,rfl⟩
  unfold VK at H
  split at H
  · rename_i h
    obtain⟨n,rfl⟩:=Int.eq_ofNat_of_zero_le h.1
    exact JyN n r (by omega)
  cases H
theorem Jeh:∀ g,KM g→Jm Tryz.prog 177 g:=by
  rintro _ ⟨a0,r,H,rfl⟩
  unfold K5 at H
  split at H
  · rename_i h
    obtain⟨n,rfl⟩:=Int.eq_ofNat_of_zero_le h.1
    exact Jyg n r (by omega)
  cases H
theorem JfO:Jc Tryz.prog 174∧(∀ g,Vi g→Jm Tryz.prog 174 g)∧(true=true→∀ g,Vi g→∃ val bs ts,g.out=.ret val bs ts) :=
  ⟨Jz7,Jfv,fun _=>by rintro _ ⟨_,_,_,rfl⟩; exact⟨_,_,_,rfl⟩⟩
theorem Jep:Jc Tryz.prog 177∧(∀ g,KM g→Jm Tryz.prog 177 g)∧(true=true→∀ g,KM g→∃ val bs ts,g.out=.ret val bs ts) :=
  ⟨JAE,Jeh,fun _=>by rintro _ ⟨_,_,_,rfl⟩; exact⟨_,_,_,rfl⟩⟩
end Go.Proofs.YtfkhlbhjhdpkoaaGreatDoor
