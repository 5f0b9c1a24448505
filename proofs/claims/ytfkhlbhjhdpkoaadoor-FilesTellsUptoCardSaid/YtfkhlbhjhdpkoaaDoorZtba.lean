/- FilesTells: the reference's Change is the program's. Plain. -/
import Derived.Test.YtfkhlbhjhdpkoaaDoorZtaz
set_option linter.unusedVariables false
set_option linter.unusedSimpArgs false
namespace Go.Proofs.YtfkhlbhjhdpkoaaDoor
open Go.RowKit
theorem Jm8(x1 x2:Int)(s:List Edit)(e:Edit)(k:Nat)(hk:k<s.length):KS x1 x2 s ((k:Int),e.File,e.From,e.To,e.Text)=JS x1 x2 s (k:Int) e.File e.From e.To e.Text (!kltB e (s.getD k default)):=by
 simp only[KS,Int.toNat_natCast]
 rw[if_pos (show ltI (k:Int) ((s.length:Nat):Int)=true by simp only[ltI,decide_eq_true_eq]; omega)]
 have h1:(0:Int)≤(k:Int)∧k<s.length:=⟨by omega,hk⟩
 generalize hd:s.getD k default=d
 rw[if_pos h1,if_pos hk]
 by_cases a1:d.File<e.File
 ·rw[if_pos (by simpa [ltI] using a1),show(!kltB e d)=true by simp only[kltB,Bool.not_eq_true',decide_eq_false_iff_not]; omega]
 ·rw[if_neg (by simpa [ltI] using a1),if_pos h1,if_pos hk]
  by_cases a2:d.File=e.File
  ·rw[if_pos (by simpa [eqI] using a2),if_pos h1,if_pos hk]
   by_cases a3:d.From<e.From
   ·rw[if_pos (by simpa [ltI] using a3),show(!kltB e d)=true by simp only[kltB,Bool.not_eq_true',decide_eq_false_iff_not]; omega]
   ·rw[if_neg (by simpa [ltI] using a3),if_pos h1,if_pos hk]
    by_cases a4:d.From=e.From
    ·rw[if_pos (by simpa [eqI] using a4),if_pos h1,if_pos hk]
     have:leI d.To e.To=!kltB e d:=by
      simp only[leI,kltB]
      by_cases a5:d.To≤e.To
      ·rw[decide_eq_true a5,decide_eq_false (by omega)]; rfl
      ·rw[decide_eq_false a5,decide_eq_true (by omega)]; rfl
     rw[this]
    ·rw[if_neg (by simpa [eqI] using a4),show(!kltB e d)=false by simp only[kltB,Bool.not_eq_false',decide_eq_true_eq]; omega]
  ·rw[if_neg (by simpa [eqI] using a2),show(!kltB e d)=false by simp only[kltB,Bool.not_eq_false',decide_eq_true_eq]; omega]
theorem JkE(x1:Int)(x2:Nat)(s:List Edit)(e:Edit)(k:Nat)(hk:k≤s.length)(hs:s.length≤1048576)(hx:x2≤1048576):JS x1 (x2:Int) s (k:Int) e.File e.From e.To e.Text false=some (.inr (.inl (x1,((x2+1:Nat):Int),s.take k++[e]++s.drop k))):=by
 simp only[JS,Bool.false_eq_true,if_false,Int.toNat_natCast,wN1 x2 (by omega)]
 rw[if_pos (by omega),if_pos (by omega),if_pos (by rw[List.length_take]; omega),if_pos (by simp only[List.length_take,List.length_cons,List.length_nil]; omega),if_pos (by simp only[List.length_take,List.length_drop,List.length_cons,List.length_nil]; omega)]
 rfl
theorem rins(x1:Int)(x2:Nat)(s:List Edit)(e:Edit)(hs:s.length≤1048576)(hx:x2≤1048576):∀ n k:Nat,k+n=s.length→(∀ i,i<k→kle (s.getD i default) e) →
  ∃ m,m≤s.length∧(∀ i,i<m→kle (s.getD i default) e)∧(m<s.length→kle e (s.getD m default))∧Ji (KS x1 (x2:Int) s) ((k:Int),e.File,e.From,e.To,e.Text)=some (.inl (x1,((x2+1:Nat):Int),s.take m++[e]++s.drop m)):=by
 intro n
 induction n with
 | zero =>
  intro k hk hi
  obtain rfl:k=s.length:=by omega
  refine⟨s.length,Nat.le_refl _,hi,fun h=>absurd h (Nat.lt_irrefl _),?_⟩
  have hb:KS x1 (x2:Int) s ((s.length:Int),e.File,e.From,e.To,e.Text)=JS x1 (x2:Int) s (s.length:Int) e.File e.From e.To e.Text false:=by
   simp only[KS]
   rw[if_neg (show ¬ ltI (s.length:Int) ((s.length:Nat):Int)=true by simp[ltI])]
  rw[JkE x1 x2 s e s.length (Nat.le_refl _) hs hx]at hb
  exact lend hb
 | succ n ih =>
  intro k hk hi
  have hb:=Jm8 x1 (x2:Int) s e k (by omega)
  cases hz:kltB e (s.getD k default) with
  | false =>
   rw[hz]at hb
   have hj:JS x1 (x2:Int) s (k:Int) e.File e.From e.To e.Text (!false)=some (.inl (((k+1:Nat):Int),e.File,e.From,e.To,e.Text)):=by
    simp only[JS,Bool.not_false,if_true,wN1 k (by omega)]
   rw[hj]at hb
   rw[KW hb]
   exact ih (k+1) (by omega) (fun i hik=>by
    rcases Nat.lt_succ_iff_lt_or_eq.1 hik with h | rfl
    ·exact hi i h
    ·exact JaY.1 hz)
  | true =>
   rw[hz,Bool.not_true,JkE x1 x2 s e k (by omega) hs hx]at hb
   exact⟨k,by omega,hi,fun _=>Jbs hz,lend hb⟩
theorem Jj1{s:List Edit}{e:Edit}{m:Nat}(hm:m≤s.length)(hS:s.Pairwise kle)(h1:∀ i,i<m→kle (s.getD i default) e)(h2:m<s.length→kle e (s.getD m default)):(s.take m++[e]++s.drop m).Pairwise kle∧(s.take m++[e]++s.drop m).Perm (e::s):=by
 have hsp:(s.take m++s.drop m).Pairwise kle:=by rw[List.take_append_drop]; exact hS
 obtain⟨a1,a2,a3⟩:=List.pairwise_append.1 hsp
 have ht:∀ x∈s.take m,kle x e:=fun x hx=>by
  obtain⟨i,hi,rfl⟩:=List.getElem_of_mem hx
  rw[List.length_take]at hi
  have:=h1 i (by omega)
  rw[List.getD_eq_getElem?_getD,List.getElem?_eq_getElem (by omega)]at this
  rw[List.getElem_take]
  exact this
 have hd:∀ x∈s.drop m,kle e x:=fun x hx=>by
  obtain⟨i,h3,h4,rfl⟩:=JfN hx
  exact Xb (h2 (by omega)) (Jea hS h3 h4)
 refine⟨?_,?_⟩
 ·rw[List.append_assoc]
  refine List.pairwise_append.2 ⟨a1,List.pairwise_cons.2 ⟨hd,a2⟩,fun x hx y hy=>?_⟩
  rcases List.mem_cons.1 hy with rfl | hy
  ·exact ht x hx
  ·exact a3 x hx y hy
 ·rw[List.append_assoc]
  have:=List.perm_middle (l₁:=s.take m) (a:=e) (l₂:=s.drop m)
  rw[List.take_append_drop]at this
  exact this
theorem Jnh(l:List Source)(es:List Edit)(hn:es.length≤1048576):∀ n j:Nat,j+n=es.length→∀ a:List Edit,a.Perm (es.take j)→a.Pairwise kle →
  ∃ s,s.Perm es∧s.Pairwise kle∧Ji (KH l es) ((es.length:Int),(j:Int),a)=Ji (KU l s) ((s.length:Int),0):=by
 intro n
 induction n with
 | zero =>
  intro j hj a h1 h2
  rw[List.take_of_length_le (by omega)]at h1
  refine⟨a,h1,h2,?_⟩
  have hb:KH l es ((es.length:Int),(j:Int),a)=inrO (Ji (KU l a) ((a.length:Int),0)):=by
   simp only[KH,ltI,decide_eq_true_eq]
   rw[if_neg (by omega)]
  rw[XS,hb]
  cases Ji (KU l a) ((a.length:Int),0) <;> rfl
 | succ n ih =>
  intro j hj a h1 h2
  have hla:a.length=j:=by rw[h1.length_eq,List.length_take]; omega
  obtain⟨m,m1,m2,m3,m4⟩:=rins (es.length:Int) j a (es.getD j default) (by omega) (by omega) a.length 0 (by omega) (fun i hi=>by omega)
  obtain⟨q1,q2⟩:=Jj1 m1 h2 m2 m3
  have hb:KH l es ((es.length:Int),(j:Int),a)=some (.inl ((es.length:Int),((j+1:Nat):Int),a.take m++[es.getD j default]++a.drop m)):=by
   simp only[KH,ltI,decide_eq_true_eq,Int.toNat_natCast]
   rw[if_pos (by omega),if_pos ⟨by omega,by omega⟩]
   exact m4
  rw[KW hb]
  refine ih (j+1) (by omega) _ (q2.trans ?_) q1
  have htk:es.take (j+1)=es.take j++[es.getD j default]:=by
   rw[List.take_add_one,List.getElem?_eq_getElem (by omega),List.getD_eq_getElem?_getD,List.getElem?_eq_getElem (by omega)]; rfl
  rw[htk]
  exact(h1.cons _).trans (List.perm_append_comm (l₁:=[es.getD j default]) (l₂:=es.take j))
theorem Jne(l:List Source)(s:List Edit)(hl:l.length≤1048576)(hn:s.length≤1048576):Ji (KU l s) ((s.length:Int),0)=match (List.range s.length).find? (fun i=>decide (chk l s i≠0)) with | some i=>some ([],chk l s i) | none=>Ji (Kf l s) (false,(l.length:Int),0,[]):=by
 rw[JbG s.length (fun i=>decide (chk l s i≠0)) (fun i=>(([],chk l s i):List Source×Int)) (Ji (Kf l s) (false,(l.length:Int),0,[]))]
 ·rfl
 intro j hj
 simp only[KU,ltI,leI,decide_eq_true_eq,Int.toNat_natCast]
 by_cases h:j<s.length
 ·rw[if_pos (by omega),if_pos ⟨by omega,h⟩,if_pos h,if_pos h]
  by_cases h6:(s.getD j default).File<0∨(l.length:Int)≤(s.getD j default).File
  ·have hc:chk l s j=6:=by unfold chk; rw[if_pos h6]
   rw[hc,if_pos (show(6:Int)≠0 by decide)]
   by_cases h7:(s.getD j default).File<0
   ·rw[if_pos h7]; rfl
   ·rw[if_neg h7]
    simp only[Vu]
    rw[if_pos (decide_eq_true (show(l.length:Int)≤(s.getD j default).File by omega))]
    rfl
  ·rw[if_neg (by omega)]
   simp only[Vu]
   rw[if_neg (show ¬ decide ((l.length:Int)≤(s.getD j default).File)=true by rw[decide_eq_true_eq]; omega)]
   have hF:0≤(s.getD j default).File∧(s.getD j default).File.toNat<l.length:=⟨by omega,by omega⟩
   by_cases h3:(s.getD j default).From<0∨(s.getD j default).To<(s.getD j default).From∨((l.getD (s.getD j default).File.toNat default).Text.length:Int)<(s.getD j default).To
   ·have hc:chk l s j=3:=by unfold chk; rw[if_neg h6,if_pos h3]
    rw[hc,if_pos (show(3:Int)≠0 by decide)]
    have hz:KT s (s.length:Int) (j:Int) (s.getD j default).File (s.getD j default).From true=some (.inr ([],3)):=by simp only[KT,if_true]; rfl
    by_cases a1:(s.getD j default).From<0
    ·rw[if_pos (by simpa [ltI] using a1),hz]
    ·rw[if_neg (by simpa [ltI] using a1)]
     by_cases a2:(s.getD j default).To<(s.getD j default).From
     ·rw[if_pos (by simpa [ltI] using a2),hz]
     ·rw[if_neg (by simpa [ltI] using a2),if_pos hF,show ltI (((l.getD (s.getD j default).File.toNat default).Text.length:Nat):Int) (s.getD j default).To=true by simp only[ltI,decide_eq_true_eq]; omega,hz]
   ·rw[if_neg (by simp only[ltI,decide_eq_true_eq]; omega),if_neg (by simp only[ltI,decide_eq_true_eq]; omega),if_pos hF,show ltI (((l.getD (s.getD j default).File.toNat default).Text.length:Nat):Int) (s.getD j default).To=false by simp only[ltI,decide_eq_false_iff_not]; omega]
    simp only[KT,Bool.false_eq_true,if_false]
    have hz0:Ky (s.length:Int) (j:Int) false=some (.inl ((s.length:Int),((j+1:Nat):Int))):=by simp only[Ky,Bool.false_eq_true,if_false,wN1 j (by omega)]
    have hz1:Ky (s.length:Int) (j:Int) true=some (.inr ([],8)):=by simp only[Ky,if_true]; rfl
    have hcc:chk l s j=if 0<j∧(s.getD (j-1) default).File=(s.getD j default).File∧((s.getD j default).From<(s.getD (j-1) default).To∨(s.getD (j-1) default).From=(s.getD j default).From) then 8 else 0:=by unfold chk; rw[if_neg h6,if_neg h3]
    by_cases b1:0<j
    ·rw[if_pos (by simp only[ltI,decide_eq_true_eq]; omega),wNm j (by omega)]
     have hj1:(0:Int)≤((j-1:Nat):Int)∧j-1<s.length:=⟨by omega,by omega⟩
     simp only[Int.toNat_natCast]
     rw[if_pos hj1,if_pos (show j-1<s.length by omega)]
     by_cases b2:(s.getD (j-1) default).File=(s.getD j default).File
     ·rw[if_pos (by simpa [eqI] using b2),if_pos hj1,if_pos (show j-1<s.length by omega)]
      by_cases b3:(s.getD j default).From<(s.getD (j-1) default).To
      ·rw[if_pos (by simpa [ltI] using b3),hz1,hcc.trans (if_pos ⟨b1,b2,.inl b3⟩),if_pos (show(8:Int)≠0 by decide)]
      ·rw[if_neg (by simpa [ltI] using b3),if_pos hj1,if_pos (show j-1<s.length by omega)]
       by_cases b4:(s.getD (j-1) default).From=(s.getD j default).From
       ·rw[show eqI (s.getD j default).From (s.getD (j-1) default).From=true by simp only[eqI,decide_eq_true_eq]; exact b4.symm,hz1,hcc.trans (if_pos ⟨b1,b2,.inr b4⟩),if_pos (show(8:Int)≠0 by decide)]
       ·rw[show eqI (s.getD j default).From (s.getD (j-1) default).From=false by simp only[eqI,decide_eq_false_iff_not]; exact fun h=>b4 h.symm,hz0,hcc.trans (if_neg (by omega)),if_neg (show ¬ (0:Int)≠0 by decide)]
     ·rw[if_neg (by simpa [eqI] using b2),hz0,hcc.trans (if_neg (by omega)),if_neg (show ¬ (0:Int)≠0 by decide)]
    ·rw[if_neg (by simp only[ltI,decide_eq_true_eq]; omega),hz0,hcc.trans (if_neg (by omega)),if_neg (show ¬ (0:Int)≠0 by decide)]
 ·rw[if_neg (by omega),if_neg h]
def refT(T:List UInt8)(i:Nat):Nat→List Edit→List UInt8
 | at',[]=>T.drop at'
 | at',e::es=>if e.File=(i:Int) then List.take (e.From.toNat-at') (List.drop at' T)++e.Text++refT T i e.To.toNat es else refT T i at' es
def Jef(i:Nat)(es:List Edit):Bool:=es.any fun e=>decide (e.File=(i:Int)) && decide (3000<e.Text.length)
theorem Jm9(l:List Source)(s:List Edit)(hS:s.Pairwise kle)(hc:∀ i,i<s.length→chk l s i=0)(hn:s.length≤1048576)(i:Nat)(hi:i<l.length)(hl:l.length≤1048576)(out:List Source)(ho:out.length≤1048576):
  ∀ (n k:Nat),k+n=s.length→∀ (much:Bool) (t:List UInt8) (at':Nat),at'≤(l.getD i default).Text.length→(∀ j,k≤j→j<s.length→(s.getD j default).File=(i:Int)→(at':Int)≤(s.getD j default).From) →
   t.length+((s.drop k).map fun e=>e.Text.length).sum+((l.getD i default).Text.length-at')≤8388608 →
   Ji (Kx s (l.length:Int) (i:Int) out) (much,t,(at':Int),(s.length:Int),(k:Int),(l.getD i default).Path,(l.getD i default).Text) =
    some (.inl (much || Jef i (s.drop k) || decide (3000<(t++refT (l.getD i default).Text i at' (s.drop k)).length),(l.length:Int),((i+1:Nat):Int),out++[⟨(l.getD i default).Path,t++refT (l.getD i default).Text i at' (s.drop k)⟩])):=by
 intro n
 induction n with
 | zero =>
  intro k hk much t at' hat hch hB
  rw[List.drop_of_length_le (by omega)]at hB ⊢
  simp only[refT,Jef,List.any_nil,Bool.or_false]
  simp only[List.map_nil,List.sum_nil,Nat.add_zero]at hB
  refine lend (b:=Kx s (l.length:Int) (i:Int) out) ?_
  have hj12:∀ (b:Bool) (x:List UInt8),Vm (l.length:Int) (i:Int) out (l.getD i default).Path (b,x)=some (.inl (b,(l.length:Int),((i+1:Nat):Int),out++[⟨(l.getD i default).Path,x⟩])):=fun b x=>by
   simp only[Vm,wN1 i (by omega)]
   rw[if_pos (by simp only[List.length_cons,List.length_nil]; omega)]
  simp only[Kx,ltI,decide_eq_true_eq,Int.toNat_natCast]
  rw[if_neg (by omega),if_pos (by omega),if_pos (by rw[List.length_drop]; omega),hj12,hj12]
  cases much with
  | true=>rfl
  | false =>
   simp only[Bool.false_eq_true,if_false,Bool.false_or]
   have:decide ((3000:Int)<((t++List.drop at' (l.getD i default).Text).length:Int))=decide (3000<(t++List.drop at' (l.getD i default).Text).length):=decide_eq_decide.2 (by omega)
   rw[this]
   rfl
 | succ n ih =>
  intro k hk much t at' hat hch hB
  have hks:k<s.length:=by omega
  rw[X3 s k default hks]at hB ⊢
  simp only[List.map_cons,List.sum_cons]at hB
  obtain⟨c1,c2,c3,c4,c5⟩:=JbZ (hc k hks)
  have hb0:Kx s (l.length:Int) (i:Int) out (much,t,(at':Int),(s.length:Int),(k:Int),(l.getD i default).Path,(l.getD i default).Text)=(if eqI (s.getD k default).File (i:Int)=true then if much=true then KN t (at':Int) (s.length:Int) (k:Int) (l.getD i default).Path (l.getD i default).Text (true,(s.getD k default).File,(s.getD k default).From,(s.getD k default).To,(s.getD k default).Text) else KN t (at':Int) (s.length:Int) (k:Int) (l.getD i default).Path (l.getD i default).Text (ltI 3000 ((s.getD k default).Text.length:Int),(s.getD k default).File,(s.getD k default).From,(s.getD k default).To,(s.getD k default).Text) else K5 (s.length:Int) (k:Int) (l.getD i default).Path (l.getD i default).Text (much,t,(at':Int))):=by
   simp only[Kx,Int.toNat_natCast]
   rw[if_pos (show ltI (k:Int) (s.length:Int)=true by simp only[ltI,decide_eq_true_eq]; omega),if_pos ⟨by omega,hks⟩,if_pos hks]
  by_cases hf:(s.getD k default).File=(i:Int)
  ·have hfi:(s.getD k default).File.toNat=i:=by omega
   rw[hfi]at c5
   have hfr:=hch k (Nat.le_refl _) hks hf
   have hj11:∀ b:Bool,KN t (at':Int) (s.length:Int) (k:Int) (l.getD i default).Path (l.getD i default).Text (b,(s.getD k default).File,(s.getD k default).From,(s.getD k default).To,(s.getD k default).Text) =
     some (.inl (b,t++List.take ((s.getD k default).From.toNat-at') (List.drop at' (l.getD i default).Text)++(s.getD k default).Text,(((s.getD k default).To.toNat:Nat):Int),(s.length:Int),((k+1:Nat):Int),(l.getD i default).Path,(l.getD i default).Text)):=fun b=>by
    simp only[KN,K5,Int.toNat_natCast,wN1 k (by omega)]
    rw[if_pos (by omega),if_pos (by rw[List.length_take,List.length_drop]; omega),if_pos (by rw[List.length_take,List.length_drop]; omega),show(((s.getD k default).To.toNat:Nat):Int)=(s.getD k default).To by omega]
   have hb:Kx s (l.length:Int) (i:Int) out (much,t,(at':Int),(s.length:Int),(k:Int),(l.getD i default).Path,(l.getD i default).Text)=some (.inl (much || decide (3000<(s.getD k default).Text.length),t++List.take ((s.getD k default).From.toNat-at') (List.drop at' (l.getD i default).Text)++(s.getD k default).Text,(((s.getD k default).To.toNat:Nat):Int),(s.length:Int),((k+1:Nat):Int),(l.getD i default).Path,(l.getD i default).Text)):=by
    rw[hb0,if_pos (by simpa [eqI] using hf),hj11,hj11]
    cases much with
    | true=>rfl
    | false =>
     simp only[Bool.false_eq_true,if_false,Bool.false_or,ltI]
     rw[show decide ((3000:Int)<((s.getD k default).Text.length:Int))=decide (3000<(s.getD k default).Text.length) from decide_eq_decide.2 (by omega)]
   rw[KW hb,ih (k+1) (by omega) _ _ (s.getD k default).To.toNat (by omega) (fun j h1 h2 h3=>by
    have:=Jfw hS hc k j (by omega) h2 (by omega)
    omega) (by simp only[List.length_append,List.length_take,List.length_drop]; omega)]
   simp only[refT,hf,if_true,Jef,List.any_cons,decide_true,Bool.true_and,List.append_assoc,Bool.or_assoc]
  ·have hb:Kx s (l.length:Int) (i:Int) out (much,t,(at':Int),(s.length:Int),(k:Int),(l.getD i default).Path,(l.getD i default).Text)=some (.inl (much,t,(at':Int),(s.length:Int),((k+1:Nat):Int),(l.getD i default).Path,(l.getD i default).Text)):=by
    rw[hb0,if_neg (by simpa [eqI] using hf)]
    simp only[K5,wN1 k (by omega)]
   rw[KW hb,ih (k+1) (by omega) much t at' hat (fun j h1 h2 h3=>hch j (by omega) h2 h3) (by omega)]
   simp only[refT,if_neg hf,Jef,List.any_cons,decide_eq_false hf,Bool.false_and,Bool.false_or]
theorem Jmf(l:List Source)(s:List Edit)(hS:s.Pairwise kle)(hc:∀ i,i<s.length→chk l s i=0)(i:Nat)(hi:i<l.length):∀ (n k:Nat),k+n=s.length→∀ at':Nat,at'≤(l.getD i default).Text.length→(∀ j,k≤j→j<s.length→(s.getD j default).File=(i:Int)→(at':Int)≤(s.getD j default).From) →
  ((outV l (s.drop k)).getD i default).Text=(l.getD i default).Text.take at'++refT (l.getD i default).Text i at' (s.drop k)∧((outV l (s.drop k)).getD i default).Path=(l.getD i default).Path:=by
 intro n
 induction n with
 | zero =>
  intro k hk at' hat _
  rw[List.drop_of_length_le (by omega)]
  simp only[refT,List.take_append_drop]
  exact⟨rfl,rfl⟩
 | succ n ih =>
  intro k hk at' hat hch
  have hks:k<s.length:=by omega
  rw[X3 s k default hks]
  obtain⟨c1,c2,c3,c4,c5⟩:=JbZ (hc k hks)
  have hL:=Zf l (s.drop (k+1))
  show((Z3 (s.getD k default) (outV l (s.drop (k+1)))).getD i default).Text=_∧((Z3 (s.getD k default) (outV l (s.drop (k+1)))).getD i default).Path=_
  rw[Z3,JeJ _ _ _ _ _ (by omega)]
  by_cases hf:(s.getD k default).File=(i:Int)
  ·have hfi:(s.getD k default).File.toNat=i:=by omega
   have hfr:=hch k (Nat.le_refl _) hks hf
   rw[hfi]at c5 ⊢
   obtain⟨i1,i2⟩:=ih (k+1) (by omega) (s.getD k default).To.toNat (by omega) (fun j h1 h2 h3=>by
    have:=Jfw hS hc k j (by omega) h2 (by omega)
    omega)
   rw[if_pos rfl]
   simp only
   refine⟨?_,i2⟩
   simp only[refT,hf,if_true]
   generalize (l.getD i default).Text=T at *
   have hl:(T.take (s.getD k default).To.toNat).length=(s.getD k default).To.toNat:=by rw[List.length_take]; omega
   have hd:List.drop (s.getD k default).To.toNat (T.take (s.getD k default).To.toNat++refT T i (s.getD k default).To.toNat (s.drop (k+1)))=refT T i (s.getD k default).To.toNat (s.drop (k+1)):=by
    have:=List.drop_left (l₁:=T.take (s.getD k default).To.toNat) (l₂:=refT T i (s.getD k default).To.toNat (s.drop (k+1)))
    rwa [hl]at this
   have ht:List.take (s.getD k default).From.toNat (T.take (s.getD k default).To.toNat++refT T i (s.getD k default).To.toNat (s.drop (k+1)))=T.take at'++List.take ((s.getD k default).From.toNat-at') (List.drop at' T):=by
    rw[List.take_append_of_le_length (by omega),List.take_take,Nat.min_eq_left (by omega)]
    have:(s.getD k default).From.toNat=at'+((s.getD k default).From.toNat-at'):=by omega
    rw[this,List.take_add,Nat.add_sub_cancel_left]
   rw[i1,hd,ht]
   simp
  ·rw[if_neg (by omega)]
   obtain⟨i1,i2⟩:=ih (k+1) (by omega) at' hat (fun j h1 h2 h3=>hch j (by omega) h2 h3)
   refine⟨?_,i2⟩
   rw[i1]
   simp only[refT,if_neg hf]
theorem JmX(l:List Source)(s:List Edit)(hS:s.Pairwise kle)(hc:∀ i,i<s.length→chk l s i=0)(hl:l.length≤1048576)(hn:s.length≤1048576)(ht:∀ f∈l,f.Text.length≤1048576)(hx:(s.map fun e=>e.Text.length).sum≤1048576):
  Ji (Kf l s) (false,(l.length:Int),0,[])=some (finV l s):=by
 have hout:∀ i,i<l.length→(outV l s).getD i default=⟨(l.getD i default).Path,refT (l.getD i default).Text i 0 s⟩:=fun i hi=>by
  obtain⟨h1,h2⟩:=Jmf l s hS hc i hi s.length 0 (by omega) 0 (Nat.zero_le _) (fun j _ h2 _=>by
   have:=JbZ (hc j h2)
   omega)
  rw[List.drop_zero]at h1 h2
  rw[List.take_zero,List.nil_append]at h1
  cases hv:(outV l s).getD i default with
  | mk p t =>
   rw[hv]at h1 h2
   simp only at h1 h2
   rw[h1,h2]
 have key:∀ n i:Nat,i+n=l.length→∀ much:Bool,(much=true↔∃ j,j<i∧(Jef j s=true∨3000<((outV l s).getD j default).Text.length)) →
   Ji (Kf l s) (much,(l.length:Int),(i:Int),(outV l s).take i)=some (finV l s):=by
  intro n
  induction n with
  | zero =>
   intro i hi much hm
   have hL:=Zf l s
   rw[List.take_of_length_le (by omega)]
   refine lend (b:=Kf l s) ?_
   simp only[Kf,ltI,decide_eq_true_eq]
   rw[if_neg (by omega)]
   have hfin:finV l s=if much=true then([],4) else(outV l s,0):=by
    unfold finV
    by_cases h1:s.any (fun e=>decide (3000<e.Text.length))=true
    ·rw[if_pos h1,if_pos]
     obtain⟨e,he,h3⟩:=List.any_eq_true.1 h1
     obtain⟨k,hk,rfl⟩:=JkN he
     obtain⟨c1,c2,_⟩:=JbZ (hc k hk)
     refine hm.2 ⟨(s.getD k default).File.toNat,by omega,.inl ?_⟩
     refine List.any_eq_true.2 ⟨_,he,?_⟩
     rw[Bool.and_eq_true]
     exact⟨by rw[decide_eq_true_eq]; omega,h3⟩
    ·rw[if_neg h1]
     by_cases h2:(outV l s).any (fun f=>decide (3000<f.Text.length))=true
     ·rw[if_pos h2,if_pos]
      obtain⟨f,hf,h3⟩:=List.any_eq_true.1 h2
      obtain⟨k,hk,rfl⟩:=List.getElem_of_mem hf
      refine hm.2 ⟨k,by omega,.inr ?_⟩
      rw[List.getD_eq_getElem?_getD,List.getElem?_eq_getElem hk]
      simpa using h3
     ·rw[if_neg h2,if_neg]
      intro hmt
      obtain⟨j,hj,h3 | h3⟩:=hm.1 hmt
      ·obtain⟨e,he,h4⟩:=List.any_eq_true.1 h3
       rw[Bool.and_eq_true]at h4
       exact h1 (List.any_eq_true.2 ⟨e,he,h4.2⟩)
      ·exact h2 (List.any_eq_true.2 ⟨_,XO (outV l s) j default (by omega),by simpa using h3⟩)
   rw[hfin]
   cases much <;> rfl
  | succ n ih =>
   intro i hi much hm
   have hil:i<l.length:=by omega
   have hL:=Zf l s
   have h9:=Jm9 l s hS hc hn i hil hl ((outV l s).take i) (by rw[List.length_take]; omega) s.length 0 (by omega) much [] 0 (Nat.zero_le _) (fun j _ h2 _=>by
    have:=JbZ (hc j h2)
    omega) (by
     have:=ht _ (XO l i default hil)
     rw[List.drop_zero]
     simp only[List.length_nil]
     omega)
   rw[List.drop_zero,List.nil_append]at h9
   have htk:(outV l s).take (i+1)=(outV l s).take i++[⟨(l.getD i default).Path,refT (l.getD i default).Text i 0 s⟩]:=by
    rw[← hout i hil,List.take_add_one,List.getElem?_eq_getElem (by omega),List.getD_eq_getElem?_getD,List.getElem?_eq_getElem (by omega)]; rfl
   have hb:Kf l s (much,(l.length:Int),(i:Int),(outV l s).take i)=some (.inl (much || Jef i s || decide (3000<(refT (l.getD i default).Text i 0 s).length),(l.length:Int),((i+1:Nat):Int),(outV l s).take (i+1))):=by
    rw[htk]
    simp only[Kf,ltI,decide_eq_true_eq,Int.toNat_natCast]
    rw[if_pos (by omega),if_pos ⟨by omega,hil⟩]
    exact h9
   rw[KW hb]
   refine ih (i+1) (by omega) _ ?_
   have ho:=hout i hil
   simp only[Bool.or_eq_true,decide_eq_true_eq,hm]
   constructor
   ·rintro ((⟨j,h1,h2⟩ | h) | h)
    ·exact⟨j,by omega,h2⟩
    ·exact⟨i,by omega,.inl h⟩
    ·exact⟨i,by omega,.inr (by rw[ho]; exact h)⟩
   ·rintro ⟨j,h1,h2⟩
    by_cases hji:j=i
    ·subst hji
     rcases h2 with h2 | h2
     ·exact .inl (.inr h2)
     ·rw[ho]at h2
      exact .inr h2
    ·exact .inl (.inl ⟨j,by omega,h2⟩)
 have:=key l.length 0 (by omega) false ⟨fun h=>(by cases h),fun⟨j,h,_⟩=>absurd h (Nat.not_lt_zero j)⟩
 exact this
theorem JiG{l:List Source}{es:List Edit}(hl:FilesOk l)(hn:es.length≤1048576)(hx:(es.map fun e=>e.Text.length).sum≤1048576):∃ s,s.Perm es∧s.Pairwise kle∧Xi l es=some (Xj l s):=by
 obtain⟨s,h1,h2,h3⟩:=Jnh l es hn es.length 0 (by omega) [] (by simp) (by simp)
 refine⟨s,h1,h2,?_⟩
 have hsl:s.length=es.length:=h1.length_eq
 unfold Xi Xj
 rw[Jgm l (by have:=hl.len; omega) (fun f hf=>Nat.le_trans (hl.path f hf) (by decide))]
 simp only[Option.bind_some]
 by_cases hw:(JaP l).Err=0
 ·rw[if_neg (Jad hw),if_neg (show ¬ (JaP l).Err≠0 by simpa using hw)]
  have h3':Ji (KH l es) ((es.length:Int),0,[])=_:=h3
  rw[h3',Jne l s hl.len (by omega)]
  cases hf:(List.range s.length).find? (fun i=>decide (chk l s i≠0)) with
  | some i=>rfl
  | none =>
   have hc:∀ i,i<s.length→chk l s i=0:=fun i hi=>by
    have:=List.find?_eq_none.1 hf i (List.mem_range.2 hi)
    simpa using this
   exact JmX l s h2 hc hl.len (by omega) hl.text (by rw[(h1.map fun e=>e.Text.length).sum_nat]; exact hx)
 ·rw[if_pos (Jbn hw),if_pos hw]
theorem JkX(l:List Source)(es:List Edit)(k:Int)(p:List UInt8)(q:Bool)(hl:bkL XG l≤1048576)(he:bkL JcG es≤1048576)(hp:p.length≤1048576):XJ l es k p q=some true:=by
 have hL:=Jma hl
 have hE:=JhB es
 have hlen:l.length≤1099511627776:=Nat.le_trans hL.len (by decide)
 have hpa:∀ f∈l,f.Path.length≤1099511627776:=fun f hf=>Nat.le_trans (hL.path f hf) (by decide)
 have hpb:∀ f∈l,f.Path.length≤1073741824:=fun f hf=>Nat.le_trans (hL.path f hf) (by decide)
 obtain⟨s,s1,s2,s3⟩:=JjQ (l:=l) (es:=es) hL (by omega) (by omega)
 obtain⟨t,t1,t2,t3⟩:=JiG (l:=l) (es:=es) hL (by omega) (by omega)
 have hst:Xj l s=Xj l t:=Jh3 (s1.trans t1.symm) s2 t2
 have hsame:Vb (Xj l s).1 (Xj l s).1=some true:=by
  refine Jlq _ ?_
  unfold Xj
  split
  ·simp
  ·split
   ·simp
   ·unfold finV
    split
    ·simp
    ·split
     ·simp
     ·simp only[Zf]; exact hL.len
 have key:∀ n j:Nat,j+n=l.length→Ji (Ku l es p) ((l.length:Int),(j:Int))=some true:=by
  intro n
  induction n with
  | zero =>
   intro j hj
   refine lend (b:=Ku l es p) ?_
   simp only[Ku,ltI,decide_eq_true_eq]
   rw[if_neg (by omega),s3,t3,← hst]
   simp only[Option.bind_some]
   rw[if_pos (by simp[eqI]),hsame]
   rfl
  | succ n ih =>
   intro j hj
   have hm:=hpb _ (XO l j default (by omega))
   have hb:Ku l es p ((l.length:Int),(j:Int))=some (.inl ((l.length:Int),((j+1:Nat):Int))):=by
    simp only[Ku,ltI,decide_eq_true_eq,Int.toNat_natCast]
    rw[if_pos (by omega),if_pos ⟨by omega,by omega⟩,Jcc _ _ hm (by omega)]
    simp only[Option.bind_some]
    rw[JbF _ _ hm (by omega)]
    simp only[Option.bind_some]
    rw[if_neg (JkW rfl),wN1 j (by have:=hL.len; omega)]
   rw[KW hb]
   exact ih (j+1) (by omega)
 unfold XJ
 rw[JeM p (by omega),JdM p (by omega)]
 simp only[Option.bind_some]
 rw[if_neg (by simp[eqB]),Jhr l hlen hpa,Jgm l hlen hpa]
 simp only[Option.bind_some]
 rw[if_neg (by simp[eqI]),Jen l p hlen,JcY l p hlen]
 simp only[Option.bind_some]
 rw[if_neg (Jad rfl),JjU l k p q hlen (by omega) hpb,Jiy l k p q hlen (by omega) hpb]
 simp only[Option.bind_some,KJ]
 rw[if_neg (Jad rfl)]
 exact key l.length 0 (by omega)
end Go.Proofs.YtfkhlbhjhdpkoaaDoor
