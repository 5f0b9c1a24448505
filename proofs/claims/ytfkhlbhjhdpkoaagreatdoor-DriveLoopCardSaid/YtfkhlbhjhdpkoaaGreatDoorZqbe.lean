/- Texts one behind the other: their tokens. Plain. -/
import Derived.Test.YtfkhlbhjhdpkoaaGreatDoorZqbb
set_option linter.unusedVariables false
set_option linter.unusedSimpArgs false
namespace Go.Proofs.YtfkhlbhjhdpkoaaGreatDoor
open Go.RowKit
def JhU(z:List UInt8):Prop:=z=[]∨z=[13]
def Jit(y:List UInt8):Prop:=∀ c,y.head? = some c→c=10∨c=13
theorem JhU.blank{z:List UInt8}(h:JhU z):Jit z:=by
 rcases h with rfl | rfl
 ·intro c hc; cases hc
 intro c hc; cases hc; exact .inr rfl
theorem JmP(v:List UInt8):Jit (10::v):=fun c hc=>by cases hc; exact .inl rfl
theorem Jqy{p:UInt8→Bool}(h10:p 10=false)(h13:p 13=false){y:List UInt8}(hy:Jit y):∀ x,runN p (x++y)=runN p x
 | []=>by
  cases y with
  | nil=>rfl
  | cons c y =>
   have:p c=false:=by rcases hy c rfl with rfl | rfl <;> assumption
   simp[runN,List.takeWhile_cons,this]
 | c::x=>by
  have ih:=Jqy h10 h13 hy x
  unfold runN at *
  by_cases hc:p c=true
  ·simp[List.takeWhile_cons,hc,ih]
  simp[List.takeWhile_cons,hc]
theorem Jql{y:List UInt8}(hy:Jit y):∀ (x:List UInt8) (pr:UInt8),numN pr (x++y)=numN pr x
 | [],pr=>by
  cases y with
  | nil=>rfl
  | cons c y =>
   have:Jf8 pr c=false:=by rcases hy c rfl with rfl | rfl <;> simp[Jf8,isWd,Jae,VL]
   simp[numN,this]
 | c::x,pr=>by simp only[List.cons_append,numN,Jql hy x c]
theorem JmV{q:UInt8}(hq:q≠13){z:List UInt8}(hz:JhU z)(v:List UInt8):∀ (n:Nat) (x:List UInt8),x.length≤n→∀ m,quoN q (x++z)=some m→m≤x.length∧quoN q (x++10::v)=some m
 | _,[],_,m,h=>by
  exfalso
  rcases hz with rfl | rfl
  ·cases h
  rw[List.nil_append,JiO]at h
  simp[hq.symm,quoN]at h
 | 0,c::x,hn,_,_=>by simp at hn
 | n+1,c::x,hn,m,h=>by
  simp only[List.length_cons]at hn
  rw[List.cons_append,JiO]at h ⊢
  by_cases h1:c=10
  ·rw[if_pos h1]at h; cases h
  rw[if_neg h1]at h ⊢
  by_cases h2:c=q
  ·rw[if_pos h2]at h ⊢
   cases h
   exact⟨by simp,rfl⟩
  rw[if_neg h2]at h ⊢
  by_cases h3:c=92
  ·rw[if_pos h3]at h ⊢
   cases x with
   | nil =>
    exfalso
    rcases hz with rfl | rfl
    ·cases h
    simp[quoN]at h
   | cons d x =>
    simp only[List.cons_append]at h ⊢
    by_cases h4:d=10
    ·rw[if_pos h4]at h; cases h
    rw[if_neg h4]at h ⊢
    cases hk:quoN q (x++z) with
    | none=>rw[hk]at h; cases h
    | some k =>
     rw[hk]at h
     cases h
     simp only[List.length_cons]at hn ⊢
     obtain⟨a,b⟩:=JmV hq hz v n x (by omega) k hk
     rw[b]
     exact⟨by omega,rfl⟩
  rw[if_neg h3]at h ⊢
  cases hk:quoN q (x++z) with
  | none=>rw[hk]at h; cases h
  | some k =>
   rw[hk]at h
   cases h
   obtain⟨a,b⟩:=JmV hq hz v n x (by omega) k hk
   rw[b]
   exact⟨by simp only[List.length_cons]; omega,rfl⟩
theorem JmE(c:UInt8)(r:List UInt8):Vc (c::r)=if c=62 then some 1 else if c=10 then none else(Vc r).map (· + 1):=by
 unfold Vc
 by_cases h1:c=62
 ·subst h1; simp[runN,List.takeWhile_cons]
 by_cases h2:c=10
 ·subst h2; simp[runN,List.takeWhile_cons]
 have e:runN (fun c=>decide (c≠62) && decide (c≠10)) (c::r)=runN (fun c=>decide (c≠62) && decide (c≠10)) r+1:=by simp[runN,List.takeWhile_cons,h1,h2]
 rw[e,if_neg h1,if_neg h2,List.drop_succ_cons]
 split <;> rfl
theorem JuQ{z:List UInt8}(hz:JhU z)(v:List UInt8):∀ (x:List UInt8),Vc (x++10::v)=Vc (x++z)∧∀ m,Vc (x++z)=some m→m≤x.length
 | []=>by
  have e:Vc z=none:=by rcases hz with rfl | rfl <;> decide
  rw[List.nil_append,List.nil_append,e,JmE]
  exact⟨rfl,fun m h=>by cases h⟩
 | c::x=>by
  obtain⟨a,b⟩:=JuQ hz v x
  rw[List.cons_append,List.cons_append,JmE,JmE,a]
  refine⟨rfl,fun m h=>?_⟩
  by_cases h1:c=62
  ·rw[if_pos h1]at h; cases h; simp
  rw[if_neg h1]at h
  by_cases h2:c=10
  ·rw[if_pos h2]at h; cases h
  rw[if_neg h2]at h
  cases hk:Vc (x++z) with
  | none=>rw[hk]at h; cases h
  | some k =>
   rw[hk]at h
   cases h
   have:=b k hk
   simp only[List.length_cons]; omega
theorem Jqm{S:List (List UInt8)}{k:Nat}(hS:∀ w∈S,w.length=k∧∀ c∈w,c≠10∧c≠13){y:List UInt8}(hy:Jit y)(x:List UInt8):S.contains ((x++y).take k)=S.contains (x.take k):=by
 rcases Nat.lt_or_ge x.length k with h | h
 ·rw[Bool.eq_iff_iff,List.contains_iff_mem,List.contains_iff_mem]
  constructor
  ·intro hm
   cases y with
   | nil=>rwa [List.append_nil]at hm
   | cons c y =>
    exfalso
    have hc:=(hS _ hm).2 c (by
     rw[List.take_append,List.mem_append]
     right
     obtain⟨j,hj⟩:∃ j,k-x.length=j+1:=⟨k-x.length-1,by omega⟩
     rw[hj]; simp)
    rcases hy c rfl with rfl | rfl
    ·exact hc.1 rfl
    exact hc.2 rfl
  intro hm
  have:=(hS _ hm).1
  rw[List.length_take]at this
  omega
 rw[List.take_append_of_le_length h]
theorem Jum{y:List UInt8}(hy:Jit y)(x:List UInt8):KH (x++y)=KH x:=by
 unfold KH
 rw[Jqm (by decide) hy,Jqm (by decide) hy,Jqm (by decide) hy]
theorem JxT{y:List UInt8}(hy:Jit y)(x:List UInt8):(((x++y).head?.map VL).getD false)=((x.head?.map VL).getD false):=by
 cases x with
 | nil =>
  cases y with
  | nil=>rfl
  | cons c y=>rcases hy c rfl with rfl | rfl <;> simp[VL]
 | cons c x=>rfl
theorem Jzk{z:List UInt8}(hz:JhU z)(v:List UInt8)(c:UInt8)(x:List UInt8)(path:Bool)(kind:Int)(m:Nat)(h:Xa ((c::x)++z) path=(kind,some m)):
  m≤(c::x).length∧Xa ((c::x)++10::v) path=(kind,some m):=by
 have hb:=hz.blank
 have r1:=Jqy (p:=isWd) (by decide) (by decide) hb (c::x)
 have r2:=Jqy (p:=isWd) (by decide) (by decide) (JmP v) (c::x)
 have n1:=Jql hb (c::x) 0
 have n2:=Jql (JmP v) (c::x) 0
 have s1:=Jum hb (c::x)
 have s2:=Jum (JmP v) (c::x)
 have hs:=Jge (c::x)
 have hr:=Jg2 isWd (c::x)
 have hn:=Jp4 0 (c::x)
 rw[List.cons_append]at *
 rw[Jba,JxT hb,r1,n1,s1]at h
 rw[Jba,JxT (JmP v),r2,n2,s2]
 split at h
 ·rename_i h1; rw[if_pos h1]; cases h; exact⟨hr,rfl⟩
 rename_i h1; rw[if_neg h1]
 split at h
 ·rename_i h1; rw[if_pos h1]; cases h; exact⟨hn,rfl⟩
 rename_i h1; rw[if_neg h1]
 split at h
 ·rename_i h1; rw[if_pos h1]
  cases hj:quoN 34 (x++z) with
  | none=>rw[hj]at h; cases h
  | some j =>
   rw[hj]at h; cases h
   obtain⟨a,b⟩:=JmV (by decide) hz v _ x (Nat.le_refl _) j hj
   rw[b]; exact⟨by simp only[List.length_cons]; omega,rfl⟩
 rename_i h1; rw[if_neg h1]
 split at h
 ·rename_i h1; rw[if_pos h1]
  cases hj:quoN 39 (x++z) with
  | none=>rw[hj]at h; cases h
  | some j =>
   rw[hj]at h; cases h
   obtain⟨a,b⟩:=JmV (by decide) hz v _ x (Nat.le_refl _) j hj
   rw[b]; exact⟨by simp only[List.length_cons]; omega,rfl⟩
 rename_i h1; rw[if_neg h1]
 obtain⟨p1,p2⟩:=JuQ hz v x
 rw[p1]
 split at h
 ·rename_i h1; rw[if_pos h1]
  cases hj:Vc (x++z) with
  | none=>rw[hj]at h; cases h
  | some j =>
   rw[hj]at h; cases h
   have:=p2 j hj
   exact⟨by simp only[List.length_cons]; omega,rfl⟩
 rename_i h1; rw[if_neg h1]
 split at h
 ·rename_i h1; rw[if_pos h1]; cases h; exact⟨hs,rfl⟩
 rename_i h1; rw[if_neg h1]
 cases h
 exact⟨by simp,rfl⟩
theorem Ju9{z:List UInt8}(hz:JhU z)(v:List UInt8):∀ (x:List UInt8) (j:Nat),endC (x++z)=some j→j+2≤x.length∧endC (x++10::v)=some j
 | [],j,h=>by
  exfalso
  rcases hz with rfl | rfl <;> simp[endC]at h
 | c::x,j,h=>by
  simp only[List.cons_append,endC]at h ⊢
  by_cases h1:c=42∧(x++z).head? = some 47
  ·rw[if_pos h1]at h
   cases h
   cases x with
   | nil=>exfalso; rcases hz with rfl | rfl <;> simp at h1
   | cons d x =>
    rw[if_pos (by simpa using h1)]
    exact⟨by simp,rfl⟩
  rw[if_neg h1]at h
  have h2:¬ (c=42∧(x++10::v).head? = some 47):=by
   cases x with
   | nil=>simp
   | cons d x=>simpa using h1
  rw[if_neg h2]
  cases hk:endC (x++z) with
  | none=>rw[hk]at h; cases h
  | some k =>
   rw[hk]at h
   cases h
   obtain⟨a,b⟩:=Ju9 hz v x k hk
   rw[b]
   exact⟨by simp only[List.length_cons]; omega,rfl⟩
theorem JvA(x y:List UInt8):KU (x++y)=if KU x<x.length then KU x else x.length+KU y:=by
 unfold KU
 induction x with
 | nil=>simp[runN]
 | cons c x ih =>
  unfold runN at *
  by_cases hc:c=10
  ·simp[List.takeWhile_cons,hc]
  simp only[List.cons_append,List.takeWhile_cons,hc,ne_eq,not_false_eq_true,decide_true,if_true,List.length_cons,ih]
  split
  ·rw[if_pos (by omega)]
  rw[if_neg (by omega)]; omega
theorem JEG(v:List UInt8):KU (10::v)=0:=by simp[KU,runN,List.takeWhile_cons]
theorem Jj3{z:List UInt8}(hz:JhU z)(v:List UInt8):∀ (n:Nat) (x:List UInt8),x.length≤n→(skip (x++z)).2.2=true →
  ((skip (x++z)).1<x.length∧skip (x++10::v)=skip (x++z))∨((skip (x++z)).1=(x++z).length∧skip (x++10::v)=(x.length+(skip (10::v)).1,true,(skip (10::v)).2.2))
 | n,[],_,_=>by
  right
  have h10:(skip (10::v)).2.1=true:=by rw[JfU (by decide)]; rfl
  refine⟨?_,?_⟩
  ·rcases hz with rfl | rfl
   ·rfl
   decide
  rw[List.nil_append,List.length_nil,Nat.zero_add]
  exact Prod.ext rfl (Prod.ext h10 rfl)
 | 0,c::x,hn,_=>by simp at hn
 | n+1,c::x,hn,ht=>by
  simp only[List.length_cons]at hn
  rw[List.cons_append]at ht ⊢
  rw[List.cons_append]
  by_cases hb:isBl c=true
  ·rw[JfU hb]at ht ⊢
   rw[JfU hb]
   rcases Jj3 hz v n x (by omega) ht with⟨a,b⟩|⟨a,b⟩
   ·left; rw[b]; exact⟨by simp only[List.length_cons]; omega,rfl⟩
   right; rw[b]
   refine⟨by simp only[List.length_cons]; omega,?_⟩
   simp only[Bool.or_true,List.length_cons,Prod.mk.injEq,and_true]
   omega
  by_cases h1:c=47∧(x++z).head? = some 47
  ·obtain⟨rfl,h1⟩:=h1
   obtain⟨x',rfl⟩:∃ x',x=47::x':=by
    cases x with
    | nil=>exfalso; rcases hz with rfl | rfl <;> simp at h1
    | cons d x=>simp at h1; exact⟨x,by rw[h1]⟩
   have h2:((47::x')++10::v).head? = some 47:=rfl
   rw[JiT h1]at ht ⊢
   rw[JiT h2]
   have e1:=JvA (47::47::x') z
   have e2:=JvA (47::47::x') (10::v)
   rw[JEG]at e2
   rw[List.cons_append]at e1 e2
   have hle:=Jg2 (fun c=>decide (c≠10)) (47::47::x')
   have hlp:=JfV (c:=47) (r:=47::x') (by decide)
   by_cases hl:KU (47::47::x')<(47::47::x').length
   ·rw[if_pos hl]at e1 e2
    rw[e1]at ht ⊢
    rw[e2]
    rw[← List.cons_append,List.drop_append_of_le_length (by omega)]at ht
    rw[← List.cons_append,← List.cons_append,List.drop_append_of_le_length (by omega),List.drop_append_of_le_length (by omega)]
    have hd:((47::47::x').drop (KU (47::47::x'))).length+KU (47::47::x')=(47::47::x').length:=by rw[List.length_drop]; omega
    rcases Jj3 hz v n ((47::47::x').drop (KU (47::47::x'))) (by simp only[List.length_cons]at hn hd ⊢; omega) ht with⟨a,b⟩|⟨a,b⟩
    ·left; rw[b]; exact⟨by omega,rfl⟩
    right; rw[b]
    refine⟨?_,?_⟩
    ·rw[a,List.length_append,List.length_append]; omega
    simp only[Prod.mk.injEq,and_true]; omega
   rw[if_neg hl]at e1 e2
   have hz0:KU z=z.length:=by rcases hz with rfl | rfl <;> decide
   right
   rw[e1,e2,hz0]
   have d1:(47::(47::x'++z)).drop ((47::47::x').length+z.length)=[]:=List.drop_of_length_le (by simp only[List.length_cons,List.length_append]; omega)
   have d2:(47::(47::x'++10::v)).drop ((47::47::x').length+0)=10::v:=by rw[Nat.add_zero,← List.cons_append,List.drop_left]
   have h10:(skip (10::v)).2.1=true:=by rw[JfU (by decide)]; rfl
   rw[d1,d2,JnV]
   refine⟨by simp only[List.length_cons,List.length_append]; omega,Prod.ext ?_ (Prod.ext h10 rfl)⟩
   simp only[List.length_cons]; omega
  by_cases h2:c=47∧(x++z).head? = some 42
  ·obtain⟨rfl,h2⟩:=h2
   obtain⟨x',rfl⟩:∃ x',x=42::x':=by
    cases x with
    | nil=>exfalso; rcases hz with rfl | rfl <;> simp at h2
    | cons d x=>simp at h2; exact⟨x,by rw[h2]⟩
   cases hj:endC (((42::x')++z).drop 1) with
   | none=>rw[JmG h2 hj]at ht; cases ht
   | some j =>
    obtain⟨a1,a2⟩:=Ju9 hz v x' j hj
    have h3:((42::x')++10::v).head? = some 42:=rfl
    rw[JiL h2 hj]at ht ⊢
    rw[JiL h3 a2]
    rw[List.drop_append_of_le_length (by simp only[List.length_cons]; omega)]at ht ⊢
    rw[List.drop_append_of_le_length (by simp only[List.length_cons]; omega)]
    have hd:((42::x').drop (j+3)).length+(j+3)=(42::x').length:=by rw[List.length_drop]; simp only[List.length_cons]; omega
    rcases Jj3 hz v n ((42::x').drop (j+3)) (by simp only[List.length_cons]at hn hd ⊢; omega) ht with⟨a,b⟩|⟨a,b⟩
    ·left; rw[b]; exact⟨by simp only[List.length_cons]at hd ⊢; omega,rfl⟩
    right; rw[b]
    refine⟨?_,?_⟩
    ·rw[a,List.length_append,List.length_cons,List.length_append]; simp only[List.length_cons]at hd ⊢; omega
    simp only[Prod.mk.injEq,and_true]; simp only[List.length_cons]at hd ⊢; omega
  left
  have g1:¬ (c=47∧(x++10::v).head? = some 47):=by
   cases x with
   | nil=>simp
   | cons d x=>simpa using h1
  have g2:¬ (c=47∧(x++10::v).head? = some 42):=by
   cases x with
   | nil=>simp
   | cons d x=>simpa using h2
  rw[JiQ (by simpa using hb) h1 h2,JiQ (by simpa using hb) g1 g2]
  exact⟨by simp,rfl⟩
end Go.Proofs.YtfkhlbhjhdpkoaaGreatDoor
