/- Numbers,loops. Plain. -/
import Derived.Test.YtfkhlbhjhdpkoaaDoorZmao
import Derived.Test.YtfkhlbhjhdpkoaaDoorZmau
import Derived.Test.YtfkhlbhjhdpkoaaDoorZmav
set_option linter.unusedVariables false
set_option linter.unusedSimpArgs false
namespace Go.Proofs.YtfkhlbhjhdpkoaaDoor
open Go.RowKit
theorem wr(x:Int)(h:-9223372036854775808≤x∧x≤9223372036854775807):IntKind.i64.wrap x=x:=IntWalk.i64_in _ h
theorem wN1(k:Nat)(h:k≤4611686018427387904):IntKind.i64.wrap ((k:Int)+1)=((k+1:Nat):Int):=by rw[wr _ (by omega)]; omega
theorem wNm(k:Nat)(h:0<k∧k≤4611686018427387904):IntKind.i64.wrap ((k:Int)-1)=((k-1:Nat):Int):=by rw[wr _ (by omega)]; omega
theorem JiW{S R:Type}{b:S→Option (S ⊕ R)}{s s':S}(h:b s=some (.inl s')):JN b s=JN b s':=by rw[Jbf,h]
theorem lend{S R:Type}{b:S→Option (S ⊕ R)}{s:S}{r:R}(h:b s=some (.inr r)):JN b s=some r:=by rw[Jbf,h]
theorem Jh9{A:Type}(l:List A)(k:Nat)(d:A)(h:k<l.length):l.drop k=l.getD k d::l.drop (k+1):=by
 rw[List.drop_eq_getElem_cons h]; simp[List.getD_eq_getElem?_getD,List.getElem?_eq_getElem h]
theorem JeV{A:Type}(l:List A)(k:Nat)(d:A)(h:k<l.length):l.getD k d∈l:=by
 rw[List.getD_eq_getElem?_getD,List.getElem?_eq_getElem h]; exact List.getElem_mem h
theorem JjN{a b:List UInt8}(h:¬ a=b):(!eqS a b)=true:=by simp[eqS,h]
theorem JjY{a b:List UInt8}(h:a=b):¬ (!eqS a b)=true:=by simp[eqS,h]
theorem JiQ{R:Type}{b:Int×Int→Option ((Int×Int) ⊕ R)}(N:Nat)(p:Nat→Bool)(x y:R)
  (hb:∀ j:Nat,j≤N→b ((N:Int),(j:Int))=if j<N then(if p j=true then some (.inl ((N:Int),((j+1:Nat):Int))) else some (.inr x)) else some (.inr y)) :
  JN b ((N:Int),0)=some (if ∀ j,j<N→p j=true then y else x):=by
 have key:∀ n j,j≤N→N-j≤n→JN b ((N:Int),(j:Int))=some (if ∀ i,i<N→j≤i→p i=true then y else x):=fun n=>by
  induction n with
  | zero =>
   intro j hj hn
   rw[lend ((hb j hj).trans (if_neg (by omega))),if_pos (fun i h1 h2=>by omega)]
  | succ n ih =>
   intro j hj hn
   have hj':=hb j hj
   by_cases h:j<N
   ·rw[if_pos h]at hj'
    by_cases hp:p j=true
    ·rw[if_pos hp]at hj'
     rw[JiW hj',ih (j+1) (by omega) (by omega)]
     congr 2
     apply propext
     exact⟨fun h i h1 h2=>by
      by_cases e:i=j
      ·rw[e]; exact hp
      ·exact h i h1 (by omega),fun h i h1 h2=>h i h1 (by omega)⟩
    ·rw[if_neg hp]at hj'
     rw[lend hj',if_neg (fun h'=>hp (h' j h (Nat.le_refl _)))]
   ·rw[if_neg h]at hj'
    rw[lend hj',if_pos (fun i h1 h2=>by omega)]
 have:=key N 0 (Nat.zero_le _) (by omega)
 rw[show(0:Int)=((0:Nat):Int) from rfl,this]
 congr 2
 apply propext
 exact⟨fun h i h1=>h i h1 (Nat.zero_le _),fun h i h1 _=>h i h1⟩
theorem Jgd{A:Type}(l:List A)(d:A)(p:A→Bool):(∀ j,j<l.length→p (l.getD j d)=true)↔l.all p=true:=by
 rw[List.all_eq_true]
 constructor
 ·intro h a ha
  obtain⟨j,hj,rfl⟩:=List.getElem_of_mem ha
  have:=h j hj
  rwa [List.getD_eq_getElem?_getD,List.getElem?_eq_getElem hj]at this
 ·intro h j hj
  rw[List.getD_eq_getElem?_getD,List.getElem?_eq_getElem hj]
  exact h _ (List.getElem_mem hj)
theorem Jg8{A R:Type} [Inhabited A] {b:Int×Int→Option ((Int×Int) ⊕ R)} (l:List A) (p:A→Bool) (f:Nat→R) (d:R)
  (hb:∀ j:Nat,j≤l.length→b ((l.length:Int),(j:Int))=if j<l.length then(if p (l.getD j default)=true then some (.inr (f j)) else some (.inl ((l.length:Int),((j+1:Nat):Int)))) else some (.inr d)) :
  JN b ((l.length:Int),0)=some (if l.any p=true then f (l.findIdx p) else d):=by
 have key:∀ (n j:Nat),j≤l.length→l.length-j≤n→JN b ((l.length:Int),(j:Int))=some (if(l.drop j).any p=true then f (j+(l.drop j).findIdx p) else d):=by
  intro n
  induction n with
  | zero =>
   intro j hj hn
   have:j=l.length:=by omega
   subst this
   rw[Jbf,hb _ hj,if_neg (by simp)]
   simp
  | succ n ih =>
   intro j hj hn
   rw[Jbf,hb j hj]
   by_cases h:j<l.length
   ·rw[if_pos h,Jh9 l j default h]
    by_cases hp:p (l.getD j default)=true
    ·rw[if_pos hp]
     simp only[List.any_cons,hp,Bool.true_or,if_true,List.findIdx_cons,cond_true,Nat.add_zero]
    ·rw[if_neg hp]
     simp only
     rw[ih (j+1) (by omega) (by omega)]
     have hp:p (l.getD j default)=false:=by simpa using hp
     simp only[List.any_cons,hp,Bool.false_or,List.findIdx_cons,cond_false]
     congr 2
     congr 1
     omega
   ·rw[if_neg h,List.drop_of_length_le (by omega)]
    rfl
 have:=key l.length 0 (Nat.zero_le _) (Nat.le_refl _)
 simpa using this
end Go.Proofs.YtfkhlbhjhdpkoaaDoor
namespace Go.Proofs.YtfkhlbhjhdpkoaaDoor
open Go.RowKit
def okc(c:UInt8):Bool:=decide (97≤c.toNat∧c.toNat≤122) || decide (65≤c.toNat∧c.toNat≤90) || decide (48≤c.toNat∧c.toNat≤57) || decide (c.toNat=46) || decide (c.toNat=95)
def JcE(p:List UInt8):Bool:=!(decide (p=[]) || decide (p=[46]) || decide (p=[46,46])) && p.all okc
theorem JjA(p:List UInt8)(h:p.length≤4611686018427387904):Zx p=some (JcE p):=by
 have hl:JN (Vz p) ((p.length:Int),0)=some (if ∀ j,j<p.length→okc (p.getD j default)=true then true else false):=by
  refine JiQ p.length (fun j=>okc (p.getD j default)) false true fun j hj=>?_
  simp only[Vz,ltI,leI,decide_eq_true_eq,Int.toNat_natCast]
  by_cases hjl:j<p.length
  ·rw[if_pos (by omega),if_pos hjl,if_pos ⟨by omega,hjl⟩]
   obtain⟨c,hc⟩:∃ c,p.getD j default=c:=⟨_,rfl⟩
   simp only[hc,JO,VC,wN1 j (by omega),eqI,inrO]
   have b1:(97:Int)≤(c.toNat:Int)↔97≤c.toNat:=by omega
   have b2:(c.toNat:Int)≤122↔c.toNat≤122:=by omega
   have b3:(65:Int)≤(c.toNat:Int)↔65≤c.toNat:=by omega
   have b4:(c.toNat:Int)≤90↔c.toNat≤90:=by omega
   have b5:(48:Int)≤(c.toNat:Int)↔48≤c.toNat:=by omega
   have b6:(c.toNat:Int)≤57↔c.toNat≤57:=by omega
   have b7:(c.toNat:Int)=46↔c.toNat=46:=by omega
   have b8:(c.toNat:Int)=95↔c.toNat=95:=by omega
   by_cases a1:97≤c.toNat <;> by_cases a2:c.toNat≤122 <;> by_cases a3:65≤c.toNat <;> by_cases a4:c.toNat≤90 <;> by_cases a5:48≤c.toNat <;> by_cases a6:c.toNat≤57 <;> by_cases a7:c.toNat=46 <;> by_cases a8:c.toNat=95 <;>
    first
    | (exfalso; omega)
    | simp[okc,b1,b2,b3,b4,b5,b6,b7,b8,a1,a2,a3,a4,a5,a6,a7,a8]
  ·rw[if_neg (by omega),if_neg hjl]
   rfl
 have hl2:JN (Vz p) ((p.length:Int),0)=some (p.all okc):=by
  rw[hl]
  congr 1
  by_cases ha:p.all okc=true
  ·rw[if_pos ((Jgd p default okc).2 ha),ha]
  ·rw[if_neg (fun h=>ha ((Jgd p default okc).1 h))]
   simpa using ha
 unfold Zx JcE
 simp only[eqS,decide_eq_true_eq,VF]
 by_cases h1:p=[]
 ·subst h1; rfl
 ·rw[if_neg h1]
  by_cases h2:p=[46]
  ·subst h2; rfl
  ·rw[if_neg h2]
   by_cases h3:p=[46,46]
   ·subst h3; rfl
   ·rw[if_neg h3,hl2]
    simp[h1,h2,h3]
theorem Jek{A:Type}{f:A→Option Bool}{p:A→Bool}:∀ {l:List A},(∀ x∈l,f x=some (p x))→Jae f l=some (l.all p)
 | [],_=>rfl
 | x::l,h=>by
  simp only[Jae,h x (by simp),Option.bind_some,List.all_cons]
  cases hp:p x with
  | true=>simp only[if_true,Bool.true_and]; exact Jek fun y hy=>h y (by simp[hy])
  | false=>simp
theorem Jbh(c:UInt8):∀ s:List UInt8,((splV c s).map fun x=>x.length+1).sum=s.length+1
 | []=>rfl
 | x::r=>by
  have ih:=Jbh c r
  unfold splV
  split
  ·simp only[List.map_cons,List.sum_cons,List.length_nil,List.length_cons,ih]; omega
  ·obtain⟨p,ps,h⟩:=Jds c r
   rw[h]at ih ⊢
   simp only[List.map_cons,List.sum_cons,List.length_cons]at ih ⊢
   omega
def wgt(l:List (List UInt8)):Nat:=(l.map fun x=>x.length+1).sum
theorem JgG:∀ {l:List (List UInt8)} {x:List UInt8},x∈l→x.length+1≤wgt l
 | y::l,x,h=>by
  rcases List.mem_cons.1 h with rfl | h
  ·simp only[wgt,List.map_cons,List.sum_cons]; omega
  ·have:=JgG h
   simp only[wgt,List.map_cons,List.sum_cons]at this ⊢; omega
theorem Jb3:∀ l:List (List UInt8),l.length≤wgt l
 | []=>by simp[wgt]
 | x::l=>by
  have:=Jb3 l
  simp only[wgt,List.map_cons,List.sum_cons,List.length_cons]at this ⊢; omega
theorem JgQ(l m:List (List UInt8)):wgt (l++m)=wgt l+wgt m:=by simp[wgt]
theorem Je3(l:List (List UInt8)):wgt l.dropLast≤wgt l:=by
 rcases List.eq_nil_or_concat l with rfl | ⟨m,x,rfl⟩
 ·simp
 ·simp only[List.concat_eq_append,List.dropLast_concat,JgQ]; omega
def JaK(s:List UInt8):Bool:=decide (s.length≤40) && (splV 47 s).all JcE
theorem Jfm(s:List UInt8)(h:s.length≤1099511627776):K7 s=some (JaK s):=by
 unfold K7 JaK
 simp only[ltI,decide_eq_true_eq]
 by_cases h1:s.length≤40
 ·rw[if_neg (by omega),if_pos (by omega),Jek (p:=JcE)]
  ·simp[h1]
  ·intro x hx
   refine JjA x ?_
   have:=JgG hx
   have h2:=Jbh 47 s
   simp only[wgt]at this
   omega
 ·rw[if_pos (by omega)]
  simp[h1]
def upV:List (List UInt8)→List (List UInt8)→Option (List (List UInt8))
 | up,[]=>some up
 | up,x::r=>if x=[46] then upV up r else if x=[46,46] then(if up=[] then none else upV up.dropLast r) else upV (up++[x]) r
theorem Jb6:∀ {ps up u:List (List UInt8)},upV up ps=some u→wgt u≤wgt up+wgt ps
 | [],up,u,h=>by cases h; simp[wgt]
 | x::r,up,u,h=>by
  have hw:wgt (x::r)=x.length+1+wgt r:=by simp[wgt]
  unfold upV at h
  split at h
  ·have:=Jb6 h; omega
  ·split at h
   ·split at h
    ·cases h
    ·have:=Jb6 h
     have:=Je3 up
     omega
   ·have:=Jb6 h
    rw[JgQ]at this
    have hx:wgt [x]=x.length+1:=by simp[wgt]
    omega
theorem JaZ:∀ (ps:List (List UInt8)) (n:Nat) (l:List (List UInt8)),n≤l.length→n+ps.length≤1099511627776 →
  ∃ o,ZU K4 (n,l) ps=some o∧(match upV (l.take n) ps with | none=>o=.inr [] | some up=>∃ n' l',o=.inl (n',l')∧n'≤l'.length∧l'.take n'=up)
 | [],n,l,hn,_=>⟨.inl (n,l),rfl,n,l,rfl,hn,rfl⟩
 | x::r,n,l,hn,hb=>by
  rw[List.length_cons]at hb
  simp only[ZU,K4,eqS,decide_eq_true_eq,upV,eqI]
  by_cases h1:x=[46]
  ·rw[if_pos h1,if_pos h1]
   simp only[Option.bind_some]
   exact JaZ r n l hn (by omega)
  ·rw[if_neg h1,if_neg h1]
   by_cases h2:x=[46,46]
   ·rw[if_pos h2,if_pos h2]
    by_cases h3:n=0
    ·subst h3
     exact⟨.inr [],by simp,by simp⟩
    ·have h4:l.take n≠[]:=by
      intro h
      have:=congrArg List.length h
      rw[List.length_take,List.length_nil]at this
      omega
     rw[if_neg (show ¬ ((n:Int)=0) by omega),if_neg h4,wNm n (by omega),if_pos (show(0:Int)≤0∧0≤((n-1:Nat):Int)∧((n-1:Nat):Int)≤(n:Int) by omega)]
     simp only[Option.bind_some,Int.toNat_natCast]
     have:=JaZ r (n-1) l (by omega) (by omega)
     have e:(l.take n).dropLast=l.take (n-1):=by rw[List.dropLast_eq_take,List.take_take,List.length_take]; congr 1; omega
     rwa [e]
   ·rw[if_neg h2,if_neg h2,if_pos (by simp only[List.length_cons,List.length_nil]; omega)]
    simp only[Option.bind_some,List.length_cons,List.length_nil]
    have hl:(l.take n).length=n:=by simp; omega
    have:=JaZ r (n+1) (l.take n++[x]) (by rw[List.length_append,hl]; exact Nat.le_refl _) (by omega)
    rw[List.take_of_length_le (l:=l.take n++[x]) (by rw[List.length_append,hl]; exact Nat.le_refl _)]at this
    exact this
theorem JdA:∀ l:List (List UInt8),(List.intercalate [47] l).length≤wgt l
 | []=>by simp[List.intercalate,wgt]
 | [x]=>by simp[List.intercalate,wgt]
 | x::y::l=>by
  have:=JdA (y::l)
  rw[show List.intercalate [47] (x::y::l)=x++[47]++List.intercalate [47] (y::l) by simp[List.intercalate]]
  simp only[wgt,List.map_cons,List.sum_cons,List.length_append,List.length_cons,List.length_nil]at this ⊢
  omega
def VB(a b:List UInt8):List UInt8 :=
 match upV (splV 47 a).dropLast (splV 47 b) with
 | none=>[]
 | some up=>if JaK (List.intercalate [47] up)=true then List.intercalate [47] up else []
theorem Jav(a b:List UInt8)(ha:a.length≤1073741824)(hb:b.length≤1073741824):KG a b=some (VB a b):=by
 have h1:=Jbh 47 a
 have h2:=Jbh 47 b
 have h3:=Jb3 (splV 47 a)
 have h4:=Jb3 (splV 47 b)
 have hd:=Je3 (splV 47 a)
 simp only[wgt]at h3 h4 hd
 obtain⟨p,ps,hp⟩:=Jds 47 a
 have hpos:0<(splV 47 a).length:=by rw[hp]; simp
 unfold KG VD
 rw[if_pos ⟨by omega,rfl⟩]
 simp only[Option.bind_some]
 rw[wNm _ (by omega),if_pos (by omega),if_pos (by omega)]
 simp only[Int.toNat_natCast]
 obtain⟨o,ho,hm⟩:=JaZ (splV 47 b) ((splV 47 a).length-1) (splV 47 a) (by omega) (by omega)
 rw[ho]
 simp only[Option.bind_some]
 rw[← List.dropLast_eq_take]at hm
 unfold VB
 cases hu:upV (splV 47 a).dropLast (splV 47 b) with
 | none =>
  rw[hu]at hm
  subst hm
  rfl
 | some up =>
  rw[hu]at hm
  obtain⟨n',l',rfl,_,he⟩:=hm
  have hw:=Jb6 hu
  have hi:=JdA up
  have hul:=Jb3 up
  simp only[wgt]at hw hi hul
  simp only[JaR,Vd,he,Vy]
  rw[if_pos ⟨by omega,by omega⟩]
  simp only[Option.bind_some]
  rw[Jfm _ (by omega)]
  simp only[Option.bind_some]
  cases JaK (List.intercalate [47] up) <;> rfl
def ZA(l:List Source)(p:List UInt8):Int:=if l.any (fun f=>decide (f.Path=p))=true then((l.findIdx fun f=>decide (f.Path=p):Nat):Int) else -1
theorem Jb1(l:List Source)(p:List UInt8)(hl:l.length≤1099511627776):K6 l p=some (ZA l p):=by
 unfold K6 Jz
 rw[Jg8 l (fun f=>decide (f.Path=p)) (fun n=>(n:Int)) (-1)]
 ·rfl
 ·intro j hj
  simp only[JK,ltI,decide_eq_true_eq,Int.toNat_natCast,Xu,eqS,Option.bind_some,inrO,Option.map_some]
  by_cases h:j<l.length
  ·rw[if_pos (by omega),if_pos ⟨by omega,h⟩,if_pos h,wN1 j (by omega)]
  ·rw[if_neg (by omega),if_neg h]
theorem JfH(l:List Source)(p:List UInt8):ZA l p<(l.length:Int)∧-1≤ZA l p:=by
 unfold ZA
 split
 ·rename_i h
  obtain⟨x,hx,hp⟩:=List.any_eq_true.1 h
  have:=List.findIdx_lt_length_of_exists (p:=fun f:Source=>decide (f.Path=p)) ⟨x,hx,hp⟩
  omega
 ·omega
def VP(l:List Source)(k:Int)(p:List UInt8)(q:Bool):Int :=
 if k<0∨(l.length:Int)≤k then -1 else if q=false then ZA l (VB [108,105,98,47,120] p)
 else if 0≤ZA l (VB (l.getD k.toNat default).Path p) then ZA l (VB (l.getD k.toNat default).Path p) else ZA l (VB [120] p)
theorem Jg9(l:List Source)(k:Int)(p:List UInt8)(q:Bool)(hl:l.length≤1099511627776)(hp:p.length≤1073741824)(hs:∀ f∈l,f.Path.length≤1073741824):Vh l k p q=some (VP l k p q):=by
 unfold Vh VP
 simp only[ltI,leI,decide_eq_true_eq,Vw]
 by_cases h1:k<0
 ·rw[if_pos h1,if_pos (show k<0∨(l.length:Int)≤k from .inl h1)]
  rfl
 ·rw[if_neg h1]
  by_cases h2:(l.length:Int)≤k
  ·rw[if_pos h2,if_pos (show k<0∨(l.length:Int)≤k from .inr h2)]
  ·rw[if_neg h2,if_neg (show ¬ (k<0∨(l.length:Int)≤k) by omega)]
   cases q with
   | false =>
    simp only[Bool.not_false,if_true]
    rw[Jav _ _ (by decide) hp]
    simp only[Option.bind_some]
    rw[Jb1 _ _ hl]
    rfl
   | true =>
    have hk:k.toNat<l.length:=by omega
    simp only[Bool.not_true,Bool.false_eq_true,if_false,reduceCtorEq]
    rw[if_pos ⟨by omega,hk⟩,Jav _ _ (hs _ (JeV l _ default hk)) hp]
    simp only[Option.bind_some]
    rw[Jb1 _ _ hl]
    simp only[Option.bind_some]
    by_cases h3:0≤ZA l (VB (l.getD k.toNat default).Path p)
    ·rw[if_pos h3,if_pos h3]
    ·rw[if_neg h3,if_neg h3,Jav _ _ (by decide) hp]
     simp only[Option.bind_some]
     rw[Jb1 _ _ hl]
     rfl
theorem Jf8(l:List Source)(k:Int)(p:List UInt8)(q:Bool):VP l k p q<(l.length:Int)∧-1≤VP l k p q:=by
 unfold VP
 split
 ·omega
 ·split
  ·exact JfH l _
  ·split <;> exact JfH l _
end Go.Proofs.YtfkhlbhjhdpkoaaDoor
namespace Go.Proofs.YtfkhlbhjhdpkoaaDoor
open Go.RowKit
theorem Jbv(a b:List UInt8):VB a b=[]∨JaK (VB a b)=true:=by
 unfold VB
 split
 ·exact .inl rfl
 ·split
  ·rename_i h; exact .inr h
  ·exact .inl rfl
theorem Jf5(a b:List UInt8)(ha:a.length≤1073741824)(hb:b.length≤1073741824):(VB a b).length≤40:=by
 rcases Jbv a b with h | h
 ·rw[h]; simp
 ·unfold JaK at h
  simp only[Bool.and_eq_true,decide_eq_true_eq]at h
  exact h.1
theorem JhZ(l:List Source)(k:Int)(p:List UInt8)(q:Bool)(hl:l.length≤1048576)(hp:p.length≤1048576)(hs:∀ f∈l,f.Path.length≤1048576):K9 l k p q=some true:=by
 have hs':∀ f∈l,f.Path.length≤1073741824:=fun f hf=>Nat.le_trans (hs f hf) (by decide)
 unfold K9
 rw[Jcx]
 simp only[Option.bind_some,Bool.not_true,Bool.false_eq_true,if_false]
 have key:∀ n j:Nat,j+n=l.length→JN (J8 l k p q) ((l.length:Int),(j:Int))=some true:=by
  intro n
  induction n with
  | zero =>
   intro j hj
   refine lend ?_
   simp only[J8,ltI,decide_eq_true_eq]
   rw[if_neg (by omega),Jg9 l k p q (by omega) (by omega) hs']
   obtain⟨h1,h2⟩:=Jf8 l k p q
   simp only[Option.bind_some]
   rw[if_pos h1]
   by_cases h3:VP l k p q<0
   ·rw[if_pos h3]; rfl
   ·rw[if_neg h3,if_pos (by omega),Jb1 l _ (by omega)]
    have hk:(VP l k p q).toNat<l.length:=by omega
    have hx:ZA l (l.getD (VP l k p q).toNat default).Path≤VP l k p q:=by
     generalize VP l k p q=m at *
     unfold ZA
     split
     ·have hle:l.findIdx (fun f=>decide (f.Path=(l.getD m.toNat default).Path))≤m.toNat:=by
       rcases Nat.lt_or_ge m.toNat (l.findIdx fun f:Source=>decide (f.Path=(l.getD m.toNat default).Path)) with h | h
       ·have:=List.not_of_lt_findIdx h
        simp[List.getD_eq_getElem?_getD,List.getElem?_eq_getElem hk]at this
       ·exact h
      omega
     ·omega
    simp only[Option.bind_some,Kk,leI,decide_eq_true hx]
    rfl
  | succ n ih =>
   intro j hj
   have hjl:j<l.length:=by omega
   have h0:J8 l k p q ((l.length:Int),(j:Int))=some (.inl ((l.length:Int),((j+1:Nat):Int))):=by
    have hm:=hs' _ (JeV l j default hjl)
    simp only[J8,ltI,decide_eq_true_eq,Int.toNat_natCast]
    rw[if_pos (by omega),if_pos ⟨by omega,hjl⟩,Jav _ _ hm (by omega)]
    simp only[Option.bind_some]
    by_cases h1:VB (l.getD j default).Path p=[]
    ·rw[if_neg (JjY h1)]
     simp only[Bool.false_eq_true,if_false,Kl,wN1 j (by omega)]
    ·rw[if_pos (JjN h1),Jfm _ (Nat.le_trans (Jf5 _ _ hm (by omega)) (by decide)),(Jbv _ _).resolve_left h1]
     simp only[Option.bind_some,Bool.not_true,Bool.false_eq_true,if_false,Kl,wN1 j (by omega)]
   rw[JiW h0]
   exact ih (j+1) (by omega)
 exact key l.length 0 (by omega)
end Go.Proofs.YtfkhlbhjhdpkoaaDoor
namespace Go.Proofs.YtfkhlbhjhdpkoaaDoor
open Go.RowKit
theorem Jjz(l:List Source):l.length+1≤bkL V0 l:=Jgg (fun a=>by simp only[V0,bkS]; omega) l
theorem JjG{l:List Source}{f:Source}(h:f∈l):f.Path.length+f.Text.length≤bkL V0 l:=by
 have:=Jgr (b:=V0) h
 simp only[V0,bkS]at this
 omega
theorem Jil(l:List Source)(k:Int)(p:List UInt8)(q:Bool)(hl:bkL V0 l≤1048576)(hp:p.length≤1048576):K9 l k p q=some true:=by
 have:=Jjz l
 exact JhZ l k p q (by omega) hp fun f hf=>by have:=JjG hf; omega
end Go.Proofs.YtfkhlbhjhdpkoaaDoor
