/- What is no macro comes out as it is,or as what is given. Plain. -/
import Derived.Test.YtfkhlbhjhdpkoaaGreatDoorZrax
import Derived.Test.YtfkhlbhjhdpkoaaGreatDoorZrbh
import Derived.Test.YtfkhlbhjhdpkoaaGreatDoorZrbk
set_option linter.unusedVariables false
set_option linter.unusedSimpArgs false
namespace Go.Proofs.YtfkhlbhjhdpkoaaGreatDoor
open Go.RowKit
def JlF:List UInt8:=[95,95,76,73,78,69,95,95]
def JlH:List UInt8:=[95,95,70,73,76,69,95,95]
def popT(t:Token)(n:Nat):Int×(List UInt8)×Bool×Bool×Int×Int×Int×Int×YO×(List Call)×Int×Nat :=
 (t.Kind,t.Text,t.Space,t.First,t.File,t.At,t.End,t.Line,t.Hide,t.Calls,t.Made,n)
theorem JyT(l:List Token)(n:Nat)(h:n<l.length)(hn:n≤4611686018427387904):X4 (n+1) l=some (popT (l.getD n default) n):=by
 unfold X4
 have e:IntKind.i64.wrap (((n+1:Nat):Int)-1)=(n:Int):=by rw[wr _ (by omega)]; omega
 simp only[e,Int.toNat_natCast]
 rw[if_pos (by omega),if_pos h,if_pos (by omega)]; rfl
theorem JpC(l:List Token):∀ (k:Nat) (s:List Token),k≤l.length→(s.length+k) * 120≤140737488355328 →
  Jt (Vy l) ((k:Int)-1,s)=some (s++(l.take k).reverse)
 | 0,s,_,_=>by
  rw[Kv]
  simp only[Vy,leI,decide_eq_true_eq]
  rw[if_neg (by omega)]
  simp[inrO]
 | k+1,s,h,hs=>by
  have hk:(((k+1:Nat):Int)-1)=(k:Int):=by omega
  rw[Kv,hk]
  simp only[Vy,leI,decide_eq_true_eq,Int.toNat_natCast,List.length_singleton]
  rw[if_pos (by omega),if_pos (by omega),if_pos (by omega),wr _ (by omega)]
  simp only
  rw[JpC l k (s++[l.getD k default]) (by omega) (by simp; omega),List.take_succ_eq_append_getElem (by omega),List.reverse_append]
  simp[List.getD_eq_getElem?_getD,List.getElem?_eq_getElem (show k<l.length by omega)]
theorem JBA(l s:List Token)(h:(s.length+l.length) * 120≤140737488355328):Jap l s=some (s++l.reverse):=by
 unfold Jap
 rw[wr _ (by omega),JpC l l.length s (Nat.le_refl _) h,List.take_length]
theorem JwY(t:Token)(M:List Macro)(fs:List Source)(f m:Int)(h1:t.Text≠JlF)(h2:t.Text≠JlH):Xi t M fs f m=some (t.Kind,t.Text,t.Made,false):=by
 unfold Xi
 rw[if_neg (by simp only[eqS,decide_eq_true_eq]; exact h1),if_neg (by simp only[eqS,decide_eq_true_eq]; exact h2)]
end Go.Proofs.YtfkhlbhjhdpkoaaGreatDoor
