/- DriveOnce: a file that says so is read once,one with a guard comes out once. Plain. -/
import Derived.Test.YtfkhlbhjhdpkoaaGreatDoorZqbo
import Derived.Test.YtfkhlbhjhdpkoaaGreatDoorZqbs
set_option linter.unusedVariables false
set_option linter.unusedSimpArgs false
namespace Go.Proofs.YtfkhlbhjhdpkoaaGreatDoor
open Go.RowKit
theorem JEz:JdG=some true:=by decide +kernel
theorem JwZ(file:Int)(text:List UInt8):XC file text=some (Kt file text):=by
 by_cases h:text.length≤1099511627776
 ·exact Jyx file text h
 unfold XC Kt
 simp only[ltI,decide_eq_true_eq]
 rw[if_pos (by omega),if_pos (by omega)]
theorem JzZ(s:List UInt8)(hl:s.length≤1099511627776){b:Bool}(h:X1 s=some b)(hb:b=false):shut s:=by
 subst hb
 intro a
 refine⟨?_,?_⟩
 ·rintro rfl
  unfold X1 at h
  have hw:IntKind.i64.wrap (((a++[92]).length:Int)-1)=(a.length:Int):=by
   rw[wr _ (by omega)]
   simp only[List.length_append,List.length_cons,List.length_nil]; omega
  have hg:(a++[92]).getD a.length 0=92:=by simp[List.getD_eq_getElem?_getD]
  simp only[hw,Int.toNat_natCast,hg]at h
  simp only[ltI,eqI,decide_eq_true_eq,Kx]at h
  rw[if_pos (by simp),if_pos (by simp),if_pos (by decide)]at h
  cases h
 rintro rfl
 unfold X1 at h
 have hl2:(a++[92,13]).length=a.length+2:=by simp
 have hw:IntKind.i64.wrap (((a++[92,13]).length:Int)-1)=((a.length+1:Nat):Int):=by
  rw[hl2,wr _ (by omega)]; omega
 have hw2:IntKind.i64.wrap (((a++[92,13]).length:Int)-2)=(a.length:Int):=by
  rw[hl2,wr _ (by omega)]; omega
 have hg:(a++[92,13]).getD (a.length+1) 0=13:=by simp[List.getD_eq_getElem?_getD]
 have hg2:(a++[92,13]).getD a.length 0=92:=by simp[List.getD_eq_getElem?_getD]
 simp only[hw,hw2,Int.toNat_natCast,hg,hg2]at h
 simp only[ltI,eqI,decide_eq_true_eq,Kx]at h
 rw[if_pos (by omega),if_pos (by omega),if_neg (by decide),if_pos (by omega),if_pos (by omega),if_pos (by decide),if_pos (by omega)]at h
 cases h
theorem JC2:JcG [109]=some true:=by decide +kernel
end Go.Proofs.YtfkhlbhjhdpkoaaGreatDoor
