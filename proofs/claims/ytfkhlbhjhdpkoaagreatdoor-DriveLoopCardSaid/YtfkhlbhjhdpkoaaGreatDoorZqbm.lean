/- What is no macro comes out as it is,or as what is given. Plain. -/
import Derived.Test.YtfkhlbhjhdpkoaaGreatDoorZqax
import Derived.Test.YtfkhlbhjhdpkoaaGreatDoorZqbh
import Derived.Test.YtfkhlbhjhdpkoaaGreatDoorZqbk
set_option linter.unusedVariables false
set_option linter.unusedSimpArgs false
namespace Go.Proofs.YtfkhlbhjhdpkoaaGreatDoor
open Go.RowKit
def JEQ:List UInt8:=[95,95,76,73,78,69,95,95]
def JE2:List UInt8:=[95,95,70,73,76,69,95,95]
theorem JAm(M:List Macro)(hM:M.length≤30)(x:List UInt8)(h:∀ m∈M,m.Name≠x):V9 M x=some (-1):=by
 unfold V9 Kk
 rw[Joj M (fun m=>decide (m.Name=x)) (fun j=>(j:Int)) (-1) (fun j hj=>?_)]
 ·have:(M.any fun m=>decide (m.Name=x))=false:=by
   rw[Bool.eq_false_iff]
   intro q
   obtain⟨m,h1,h2⟩:=List.any_eq_true.1 q
   exact h m h1 (of_decide_eq_true h2)
  rw[this]; rfl
 simp only[J5,Jgn,ltI,eqS,decide_eq_true_eq,Int.toNat_natCast,inrO,Option.map_some,Option.bind_some]
 by_cases h:j<M.length
 ·rw[if_pos (by omega),if_pos (by omega),if_pos h,wN1 j (by omega)]
 rw[if_neg (by omega),if_neg h]
def popT(t:Token)(n:Nat):Int×(List UInt8)×Bool×Bool×Int×Int×Int×Int×YV×(List Call)×Int×Nat :=
 (t.Kind,t.Text,t.Space,t.First,t.File,t.At,t.End,t.Line,t.Hide,t.Calls,t.Made,n)
theorem JEk(l:List Token)(n:Nat)(h:n<l.length)(hn:n≤4611686018427387904):Zx (n+1) l=some (popT (l.getD n default) n):=by
 unfold Zx
 have e:IntKind.i64.wrap (((n+1:Nat):Int)-1)=(n:Int):=by rw[wr _ (by omega)]; omega
 simp only[e,Int.toNat_natCast]
 rw[if_pos (by omega),if_pos h,if_pos (by omega)]; rfl
theorem JsH(l:List Token):∀ (k:Nat) (s:List Token),k≤l.length→(s.length+k) * 120≤140737488355328 →
  Jv (VT l) ((k:Int)-1,s)=some (s++(l.take k).reverse)
 | 0,s,_,_=>by
  rw[J4]
  simp only[VT,leI,decide_eq_true_eq]
  rw[if_neg (by omega)]
  simp[inrO]
 | k+1,s,h,hs=>by
  have hk:(((k+1:Nat):Int)-1)=(k:Int):=by omega
  rw[J4,hk]
  simp only[VT,leI,decide_eq_true_eq,Int.toNat_natCast,List.length_singleton]
  rw[if_pos (by omega),if_pos (by omega),if_pos (by omega),wr _ (by omega)]
  simp only
  rw[JsH l k (s++[l.getD k default]) (by omega) (by simp; omega),List.take_succ_eq_append_getElem (by omega),List.reverse_append]
  simp[List.getD_eq_getElem?_getD,List.getElem?_eq_getElem (show k<l.length by omega)]
theorem JC5(l s:List Token)(h:(s.length+l.length) * 120≤140737488355328):JaY l s=some (s++l.reverse):=by
 unfold JaY
 rw[wr _ (by omega),JsH l l.length s (Nat.le_refl _) h,List.take_length]
theorem Jy4(t:Token)(M:List Macro)(fs:List Source)(f m:Int)(h1:t.Text≠JEQ)(h2:t.Text≠JE2):JF t M fs f m=some (t.Kind,t.Text,t.Made,false):=by
 unfold JF
 rw[if_neg (by simp only[eqS,decide_eq_true_eq]; exact h1),if_neg (by simp only[eqS,decide_eq_true_eq]; exact h2)]
theorem JCa(M:List Macro)(fs:List Source)(most:Int)(out st:List Token)(f:Int)(t:Token)(n:Nat)(h:out.length+1≤1099511627776)(hm:(out.length:Int)+1≤most):
  Kc M fs most out st f (-1,n,t.Kind,t.Text,t.Space,t.First,t.File,t.At,t.End,t.Line,t.Hide,t.Calls,t.Made)=some (.inl (f,n,out++[t],st)):=by
 simp only[Kc,Kd,ltI,decide_eq_true_eq,List.length_singleton,if_true]
 rw[if_pos (by decide),if_pos (by omega),if_neg (by omega)]
def gvT(t:Token)(r:Int×List UInt8×Int×Bool):Token:=if r.2.2.2=true∧t.Kind=1 then⟨r.1,r.2.1,t.Space,t.First,t.File,t.At,t.End,t.Line,t.Hide,t.Calls,r.2.2.1⟩ else t
theorem JDy(M:List Macro)(fs:List Source)(most:Int)(out st:List Token)(f:Int)(n:Nat)(r:Int×List UInt8×Int×Bool)(hn:n<st.length)(hs:st.length≤1099511627776)(hf:1≤f∧f≤4000)
  (ho:out.length+1≤1099511627776) (hm:(out.length:Int)+1≤most) (hg:JF (st.getD n default) M fs (f-1) most=some r) (hf0:V9 M (st.getD n default).Text=some (-1)) (hh:(st.getD n default).Hide=[]) :
  KE M fs most (f,n+1,out,st)=some (.inl (f-1,n,out++[gvT (st.getD n default) r],st)):=by
 generalize ht:st.getD n default=t at *
 obtain⟨k,x,md,g⟩:=r
 have hcont:Kq t.Hide t.Text=some false:=by rw[hh]; rfl
 have hstep:IntKind.i64.wrap (f-1)=f-1:=wr _ (by omega)
 have hout:∀ t:Token,Kc M fs most out st (f-1) (-1,n,t.Kind,t.Text,t.Space,t.First,t.File,t.At,t.End,t.Line,t.Hide,t.Calls,t.Made)=some (.inl (f-1,n,out++[t],st)):=fun t=>JCa _ _ _ _ _ _ t n ho hm
 simp only[KE,ltI,decide_eq_true_eq]
 rw[if_pos (by omega),JEk st n hn (by omega),ht]
 simp only[Option.bind_some,popT,Ja7,eqI,decide_eq_true_eq]
 rw[if_neg (by omega),hstep]
 simp only[grB,hg,Option.bind_some]
 have h5:∀ b:Bool,KC M fs most out st (popT t n) (f-1) (b,n)=some (.inl (f-1,n,out++[t],st)):=by
  intro b
  cases b
  ·simp only[KC,popT,Bool.false_eq_true,if_false]; exact hout t
  simp only[KC,popT,if_true,hf0,Option.bind_some]; exact hout t
 have h4:KD M fs most out st (popT t n) (f-1) (k,x,md,g) (false,n,t.Space,t.First,t.File,t.At,t.End,t.Line,t.Hide,t.Calls)=some (.inl (f-1,n,out++[t],st)):=by
  simp only[KD,Bool.false_eq_true,if_false]
  split
  ·simp only[popT,hcont,Option.bind_some]; exact h5 _
  exact h5 _
 simp only[popT]at h4
 unfold gvT
 simp only
 by_cases hgt:g=true
 ·rw[if_pos hgt]
  by_cases hk:t.Kind=1
  ·rw[if_pos ⟨hgt,hk⟩,hk]
   simp only[KD,decide_true,if_true]
   exact hout ⟨k,x,t.Space,t.First,t.File,t.At,t.End,t.Line,t.Hide,t.Calls,md⟩
  rw[if_neg (fun q=>hk q.2),decide_eq_false hk]; exact h4
 rw[if_neg hgt,if_neg (fun q=>hgt q.1)]; exact h4
theorem JAI(M:List Macro)(fs:List Source)(most:Int)(gv:Token→Int×List UInt8×Int×Bool)(l:List Token)(hl:l.length≤1500)(F:Int)(hF:(l.length:Int)≤F∧F≤4000)(hm:(l.length:Int)≤most)
  (h:∀ t∈l,(∀ f,JF t M fs f most=some (gv t))∧V9 M t.Text=some (-1)∧t.Hide=[]):∀ n:Nat,n≤l.length →
  Jv (KE M fs most) (F-((l.length-n:Nat):Int),n,(l.take (l.length-n)).map (fun t=>gvT t (gv t)),l.reverse)=some (.ok (l.map (fun t=>gvT t (gv t)),F-(l.length:Int)))
 | 0,_=>by
  rw[J4]
  simp only[KE,ltI,decide_eq_true_eq]
  rw[if_neg (by omega)]
  simp[inrO]
 | n+1,hn=>by
  have hg:l.reverse.getD n default=l.getD (l.length-(n+1)) default:=by
   rw[List.getD_eq_getElem?_getD,List.getD_eq_getElem?_getD,List.getElem?_reverse (by omega)]
   congr 2; omega
  obtain⟨h1,h2,h3⟩:=h _ (JBd l (l.length-(n+1)) default (by omega))
  have hlen:((l.take (l.length-(n+1))).map (fun t=>gvT t (gv t))).length=l.length-(n+1):=by simp
  rw[J4,JDy M fs most _ l.reverse _ n (gv (l.getD (l.length-(n+1)) default)) (by simp; omega) (by simp; omega) (by omega) (by omega) (by omega) (by rw[hg]; exact h1 _) (by rw[hg]; exact h2) (by rw[hg]; exact h3),hg]
  simp only
  have e1:F-((l.length-(n+1):Nat):Int)-1=F-((l.length-n:Nat):Int):=by omega
  have e2:(l.take (l.length-(n+1))).map (fun t=>gvT t (gv t))++[gvT (l.getD (l.length-(n+1)) default) (gv (l.getD (l.length-(n+1)) default))]=(l.take (l.length-n)).map (fun t=>gvT t (gv t)):=by
   rw[show l.length-n=l.length-(n+1)+1 by omega,List.take_succ_eq_append_getElem (by omega),List.map_append]
   simp[List.getD_eq_getElem?_getD,List.getElem?_eq_getElem (show l.length-(n+1)<l.length by omega)]
  rw[e1,e2]
  exact JAI M fs most gv l hl F hF hm h n (by omega)
theorem JEB(M:List Macro)(fs:List Source)(most:Int)(gv:Token→Int×List UInt8×Int×Bool)(l:List Token)(hl:l.length≤1500)(F:Int)(hF:(l.length:Int)≤F∧F≤4000)(hm:(l.length:Int)≤most∧most≤1500)
  (h:∀ t∈l,(∀ f,JF t M fs f most=some (gv t))∧V9 M t.Text=some (-1)∧t.Hide=[]) :
  Jgb fs M l F most=some (l.map (fun t=>gvT t (gv t)),F-(l.length:Int),⟨0,-1,0⟩):=by
 have ha:ZA l M fs F most=some (.ok (l.map (fun t=>gvT t (gv t)),F-(l.length:Int))):=by
  unfold ZA
  rw[JC5 l [] (by simp; omega)]
  simp only[Option.bind_some,List.nil_append,List.length_reverse]
  simpa using JAI M fs most gv l hl F hF hm.1 h l.length (Nat.le_refl _)
 unfold Jgb JhQ
 simp only[ltI,decide_eq_true_eq]
 rw[if_neg (show ¬ F<0 by omega),if_neg (show ¬ 4000<F by omega),if_neg (show ¬ most<0 by omega),decide_eq_false (show ¬ 1500<most by omega)]
 simp only[Bool.false_eq_true,if_false,JaF,ha,grB,Jex,JcE,Option.bind_some,eqI,decide_true,Bool.not_true,Option.map_some]
end Go.Proofs.YtfkhlbhjhdpkoaaGreatDoor
