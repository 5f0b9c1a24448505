/- strconv.ParseInt at base 10,of texts that are numbers,as a function of data. -/
import Derived.Test.YtfkhlbhjhdpkoaaGreatDoorZrar
set_option linter.unusedVariables false
set_option linter.unusedSimpArgs false
namespace Go.Proofs.YtfkhlbhjhdpkoaaGreatDoor
open Go.Shelf Go.RowKit
noncomputable def Jbb(a0:List UInt8)(a1 a2:Int):Option (Int×Bool) :=
 if a0.length≤281474976710656∧a1=10∧a2=64 then match Lib.parseIntB 64 a0 with
  | .ok v=>some (v,true)
  | _=>none
 else none
noncomputable def Jbf:PF:=PF.of (E3 dS dI dI) (fun a=>Jbb a.1 a.2.1 a.2.2) (T2 dI dE)
theorem JjW:JF Tryz.prog 180 Jbf:=by
 intro w S args vs hG hargs hS hp
 obtain⟨⟨s,b,z⟩,r,hle,H⟩:=hp
 have hargs:=Je2 hle hargs
 rw[show Jbf.val args=T2 dI dE r from PF.of_vall IEnc.inj hle H]
 replace H:Jbb s b z=some r:=H
 unfold Jbb at H
 by_cases hn:s.length≤281474976710656∧b=10∧z=64
 ·rw[if_pos hn]at H
  obtain⟨hl,rfl,rfl⟩:=hn
  have hargs:Rn w S [dS s,dI 10,dI 64] vs:=hargs
  match vs,hargs with
  | [v0,v1,v2],.acons _ _ _ _ k0 (.acons _ _ _ _ k1 (.acons _ _ _ _ k2 .anil)) =>
   obtain rfl:=R1.vInv k0
   obtain rfl:=R1.vInv k1
   obtain rfl:=R1.vInv k2
   split at H
   ·rename_i v hv
    obtain rfl:=Option.some.inj H
    refine(Any.strconv_ParseInt_10_at64_ok JzO ⟨s.toArray⟩ (by simp only[ByteArray.size,List.size_toArray]; omega) v hv w).mono ?_
    rintro en w' ⟨rfl,hW⟩
    have hg:Grows w w':=by
     rcases hW with rfl | ⟨t,rfl⟩
     ·exact Grows.refl _
     have hB:=Lib.bytesWorld_below w (Jkg.t 5) t
     exact⟨hB.os,hB.tape,hB.output,hB.size,hB.block⟩
    exact⟨_,rfl,hg,.tu _ _ (.acons _ _ _ _ (.v _) (.acons _ _ _ _ .ne0 .anil))⟩
   cases H
 rw[if_neg hn]at H; cases H
theorem Jka(a0:List UInt8)(a1 a2:Int)(r:Int×Bool)(H:Jbb a0 a1 a2=some r):PC Jbf [dS a0,dI a1,dI a2] (T2 dI dE r):=PF.c (a:=(a0,a1,a2)) H
end Go.Proofs.YtfkhlbhjhdpkoaaGreatDoor
