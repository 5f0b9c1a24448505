/- Numbers,loops. Plain. -/
import Derived.Test.YtfkhlbhjhdpkoaaDoorZtao
import Derived.Test.YtfkhlbhjhdpkoaaDoorZtaw
import Derived.Test.YtfkhlbhjhdpkoaaDoorZtax
import Derived.Test.YtfkhlbhjhdpkoaaDoorZtay
set_option linter.unusedVariables false
set_option linter.unusedSimpArgs false
set_option maxHeartbeats 4000000
namespace Go.Proofs.YtfkhlbhjhdpkoaaDoor
open Go.RowKit
theorem wr(x:Int)(h:-9223372036854775808≤x∧x≤9223372036854775807):IntKind.i64.wrap x=x:=IntWalk.i64_in _ h
theorem wN1(k:Nat)(h:k≤4611686018427387904):IntKind.i64.wrap ((k:Int)+1)=((k+1:Nat):Int):=by rw[wr _ (by omega)]; omega
theorem wNm(k:Nat)(h:0<k∧k≤4611686018427387904):IntKind.i64.wrap ((k:Int)-1)=((k-1:Nat):Int):=by rw[wr _ (by omega)]; omega
theorem KW{S R:Type}{b:S→Option (S ⊕ R)}{s s':S}(h:b s=some (.inl s')):Ji b s=Ji b s':=by rw[XS,h]
theorem lend{S R:Type}{b:S→Option (S ⊕ R)}{s:S}{r:R}(h:b s=some (.inr r)):Ji b s=some r:=by rw[XS,h]
theorem X3{A:Type}(l:List A)(k:Nat)(d:A)(h:k<l.length):l.drop k=l.getD k d::l.drop (k+1):=by
 rw[List.drop_eq_getElem_cons h]; simp[List.getD_eq_getElem?_getD,List.getElem?_eq_getElem h]
theorem XO{A:Type}(l:List A)(k:Nat)(d:A)(h:k<l.length):l.getD k d∈l:=by
 rw[List.getD_eq_getElem?_getD,List.getElem?_eq_getElem h]; exact List.getElem_mem h
theorem Jad{a b:Int}(h:a=b):¬ (!eqI a b)=true:=by simp[eqI,h]
theorem Jbn{a b:Int}(h:¬ a=b):(!eqI a b)=true:=by simp[eqI,h]
theorem Jm3{a b:List UInt8}(h:¬ a=b):(!eqS a b)=true:=by simp[eqS,h]
theorem JkW{a b:List UInt8}(h:a=b):¬ (!eqS a b)=true:=by simp[eqS,h]
theorem Jdg{R:Type}{b:Int×Int→Option ((Int×Int) ⊕ R)}(N:Nat)(p:Nat→Bool)(x y:R)
  (hb:∀ j:Nat,j≤N→b ((N:Int),(j:Int))=if j<N then(if p j=true then some (.inl ((N:Int),((j+1:Nat):Int))) else some (.inr x)) else some (.inr y)) :
  Ji b ((N:Int),0)=some (if ∀ j,j<N→p j=true then y else x):=by
 have key:∀ n j,j≤N→N-j≤n→Ji b ((N:Int),(j:Int))=some (if ∀ i,i<N→j≤i→p i=true then y else x):=fun n=>by
  induction n with
  | zero =>
   intro j hj hn
   rw[lend ((hb j hj).trans (if_neg (by omega))),if_pos (fun i h1 h2=>by omega)]
  | succ n ih =>
   intro j hj hn
   have hj':=hb j hj
   by_cases h:j<N
   ·rw[if_pos h]at hj'
    by_cases hp:p j=true
    ·rw[if_pos hp]at hj'
     rw[KW hj',ih (j+1) (by omega) (by omega)]
     congr 2
     apply propext
     exact⟨fun h i h1 h2=>by
      by_cases e:i=j
      ·rw[e]; exact hp
      ·exact h i h1 (by omega),fun h i h1 h2=>h i h1 (by omega)⟩
    ·rw[if_neg hp]at hj'
     rw[lend hj',if_neg (fun h'=>hp (h' j h (Nat.le_refl _)))]
   ·rw[if_neg h]at hj'
    rw[lend hj',if_pos (fun i h1 h2=>by omega)]
 have:=key N 0 (Nat.zero_le _) (by omega)
 rw[show(0:Int)=((0:Nat):Int) from rfl,this]
 congr 2
 apply propext
 exact⟨fun h i h1=>h i h1 (Nat.zero_le _),fun h i h1 _=>h i h1⟩
theorem JbK{A:Type}(l:List A)(d:A)(p:A→Bool):(∀ j,j<l.length→p (l.getD j d)=true)↔l.all p=true:=by
 rw[List.all_eq_true]
 constructor
 ·intro h a ha
  obtain⟨j,hj,rfl⟩:=List.getElem_of_mem ha
  have:=h j hj
  rwa [List.getD_eq_getElem?_getD,List.getElem?_eq_getElem hj]at this
 ·intro h j hj
  rw[List.getD_eq_getElem?_getD,List.getElem?_eq_getElem hj]
  exact h _ (List.getElem_mem hj)
theorem Jc4{A R:Type} [Inhabited A] {b:Int×Int→Option ((Int×Int) ⊕ R)} (l:List A) (p:A→Bool) (f:Nat→R) (d:R)
  (hb:∀ j:Nat,j≤l.length→b ((l.length:Int),(j:Int))=if j<l.length then(if p (l.getD j default)=true then some (.inr (f j)) else some (.inl ((l.length:Int),((j+1:Nat):Int)))) else some (.inr d)) :
  Ji b ((l.length:Int),0)=some (if l.any p=true then f (l.findIdx p) else d):=by
 have key:∀ (n j:Nat),j≤l.length→l.length-j≤n→Ji b ((l.length:Int),(j:Int))=some (if(l.drop j).any p=true then f (j+(l.drop j).findIdx p) else d):=by
  intro n
  induction n with
  | zero =>
   intro j hj hn
   have:j=l.length:=by omega
   subst this
   rw[XS,hb _ hj,if_neg (by simp)]
   simp
  | succ n ih =>
   intro j hj hn
   rw[XS,hb j hj]
   by_cases h:j<l.length
   ·rw[if_pos h,X3 l j default h]
    by_cases hp:p (l.getD j default)=true
    ·rw[if_pos hp]
     simp only[List.any_cons,hp,Bool.true_or,if_true,List.findIdx_cons,cond_true,Nat.add_zero]
    ·rw[if_neg hp]
     simp only
     rw[ih (j+1) (by omega) (by omega)]
     have hp:p (l.getD j default)=false:=by simpa using hp
     simp only[List.any_cons,hp,Bool.false_or,List.findIdx_cons,cond_false]
     congr 2
     congr 1
     omega
   ·rw[if_neg h,List.drop_of_length_le (by omega)]
    rfl
 have:=key l.length 0 (Nat.zero_le _) (Nat.le_refl _)
 simpa using this
end Go.Proofs.YtfkhlbhjhdpkoaaDoor
namespace Go.Proofs.YtfkhlbhjhdpkoaaDoor
open Go.RowKit
def okc(c:UInt8):Bool:=decide (97≤c.toNat∧c.toNat≤122) || decide (65≤c.toNat∧c.toNat≤90) || decide (48≤c.toNat∧c.toNat≤57) || decide (c.toNat=46) || decide (c.toNat=95)
def X1(p:List UInt8):Bool:=!(decide (p=[]) || decide (p=[46]) || decide (p=[46,46])) && p.all okc
theorem Jmd(p:List UInt8)(h:p.length≤4611686018427387904):JaJ p=some (X1 p):=by
 have hl:Ji (Xw p) ((p.length:Int),0)=some (if ∀ j,j<p.length→okc (p.getD j default)=true then true else false):=by
  refine Jdg p.length (fun j=>okc (p.getD j default)) false true fun j hj=>?_
  simp only[Xw,ltI,leI,decide_eq_true_eq,Int.toNat_natCast]
  by_cases hjl:j<p.length
  ·rw[if_pos (by omega),if_pos hjl,if_pos ⟨by omega,hjl⟩]
   obtain⟨c,hc⟩:∃ c,p.getD j default=c:=⟨_,rfl⟩
   simp only[hc,Kr,XA,wN1 j (by omega),eqI,inrO]
   have b1:(97:Int)≤(c.toNat:Int)↔97≤c.toNat:=by omega
   have b2:(c.toNat:Int)≤122↔c.toNat≤122:=by omega
   have b3:(65:Int)≤(c.toNat:Int)↔65≤c.toNat:=by omega
   have b4:(c.toNat:Int)≤90↔c.toNat≤90:=by omega
   have b5:(48:Int)≤(c.toNat:Int)↔48≤c.toNat:=by omega
   have b6:(c.toNat:Int)≤57↔c.toNat≤57:=by omega
   have b7:(c.toNat:Int)=46↔c.toNat=46:=by omega
   have b8:(c.toNat:Int)=95↔c.toNat=95:=by omega
   by_cases a1:97≤c.toNat <;> by_cases a2:c.toNat≤122 <;> by_cases a3:65≤c.toNat <;> by_cases a4:c.toNat≤90 <;> by_cases a5:48≤c.toNat <;> by_cases a6:c.toNat≤57 <;> by_cases a7:c.toNat=46 <;> by_cases a8:c.toNat=95 <;>
    first
    | (exfalso; omega)
    | simp[okc,b1,b2,b3,b4,b5,b6,b7,b8,a1,a2,a3,a4,a5,a6,a7,a8]
  ·rw[if_neg (by omega),if_neg hjl]
   rfl
 have hl2:Ji (Xw p) ((p.length:Int),0)=some (p.all okc):=by
  rw[hl]
  congr 1
  by_cases ha:p.all okc=true
  ·rw[if_pos ((JbK p default okc).2 ha),ha]
  ·rw[if_neg (fun h=>ha ((JbK p default okc).1 h))]
   simpa using ha
 unfold JaJ X1
 simp only[eqS,decide_eq_true_eq,Xu]
 by_cases h1:p=[]
 ·subst h1; rfl
 ·rw[if_neg h1]
  by_cases h2:p=[46]
  ·subst h2; rfl
  ·rw[if_neg h2]
   by_cases h3:p=[46,46]
   ·subst h3; rfl
   ·rw[if_neg h3,hl2]
    simp[h1,h2,h3]
theorem Jgd{A:Type}{f:A→Option Bool}{p:A→Bool}:∀ {l:List A},(∀ x∈l,f x=some (p x))→JbH f l=some (l.all p)
 | [],_=>rfl
 | x::l,h=>by
  simp only[JbH,h x (by simp),Option.bind_some,List.all_cons]
  cases hp:p x with
  | true=>simp only[if_true,Bool.true_and]; exact Jgd fun y hy=>h y (by simp[hy])
  | false=>simp
theorem ZG(c:UInt8):∀ s:List UInt8,((splV c s).map fun x=>x.length+1).sum=s.length+1
 | []=>rfl
 | x::r=>by
  have ih:=ZG c r
  unfold splV
  split
  ·simp only[List.map_cons,List.sum_cons,List.length_nil,List.length_cons,ih]; omega
  ·obtain⟨p,ps,h⟩:=Ja7 c r
   rw[h]at ih ⊢
   simp only[List.map_cons,List.sum_cons,List.length_cons]at ih ⊢
   omega
def wgt(l:List (List UInt8)):Nat:=(l.map fun x=>x.length+1).sum
theorem JcJ:∀ {l:List (List UInt8)} {x:List UInt8},x∈l→x.length+1≤wgt l
 | y::l,x,h=>by
  rcases List.mem_cons.1 h with rfl | h
  ·simp only[wgt,List.map_cons,List.sum_cons]; omega
  ·have:=JcJ h
   simp only[wgt,List.map_cons,List.sum_cons]at this ⊢; omega
theorem ZQ:∀ l:List (List UInt8),l.length≤wgt l
 | []=>by simp[wgt]
 | x::l=>by
  have:=ZQ l
  simp only[wgt,List.map_cons,List.sum_cons,List.length_cons]at this ⊢; omega
theorem Jd4(l m:List (List UInt8)):wgt (l++m)=wgt l+wgt m:=by simp[wgt]
theorem JcM(l:List (List UInt8)):wgt l.dropLast≤wgt l:=by
 rcases List.eq_nil_or_concat l with rfl | ⟨m,x,rfl⟩
 ·simp
 ·simp only[List.concat_eq_append,List.dropLast_concat,Jd4]; omega
def XC(s:List UInt8):Bool:=decide (s.length≤40) && (splV 47 s).all X1
theorem JeM(s:List UInt8)(h:s.length≤1099511627776):Xa s=some (XC s):=by
 unfold Xa XC
 simp only[ltI,decide_eq_true_eq]
 by_cases h1:s.length≤40
 ·rw[if_neg (by omega),if_pos (by omega),Jgd (p:=X1)]
  ·simp[h1]
  ·intro x hx
   refine Jmd x ?_
   have:=JcJ hx
   have h2:=ZG 47 s
   simp only[wgt]at this
   omega
 ·rw[if_pos (by omega)]
  simp[h1]
def upV:List (List UInt8)→List (List UInt8)→Option (List (List UInt8))
 | up,[]=>some up
 | up,x::r=>if x=[46] then upV up r else if x=[46,46] then(if up=[] then none else upV up.dropLast r) else upV (up++[x]) r
theorem Jej:∀ {ps up u:List (List UInt8)},upV up ps=some u→wgt u≤wgt up+wgt ps
 | [],up,u,h=>by cases h; simp[wgt]
 | x::r,up,u,h=>by
  have hw:wgt (x::r)=x.length+1+wgt r:=by simp[wgt]
  unfold upV at h
  split at h
  ·have:=Jej h; omega
  ·split at h
   ·split at h
    ·cases h
    ·have:=Jej h
     have:=JcM up
     omega
   ·have:=Jej h
    rw[Jd4]at this
    have hx:wgt [x]=x.length+1:=by simp[wgt]
    omega
theorem Jc3:∀ (ps:List (List UInt8)) (n:Nat) (l:List (List UInt8)),n≤l.length→n+ps.length≤1099511627776 →
  ∃ o,Jbj VJ (n,l) ps=some o∧(match upV (l.take n) ps with | none=>o=.inr [] | some up=>∃ n' l',o=.inl (n',l')∧n'≤l'.length∧l'.take n'=up)
 | [],n,l,hn,_=>⟨.inl (n,l),rfl,n,l,rfl,hn,rfl⟩
 | x::r,n,l,hn,hb=>by
  rw[List.length_cons]at hb
  simp only[Jbj,VJ,eqS,decide_eq_true_eq,upV,eqI]
  by_cases h1:x=[46]
  ·rw[if_pos h1,if_pos h1]
   simp only[Option.bind_some]
   exact Jc3 r n l hn (by omega)
  ·rw[if_neg h1,if_neg h1]
   by_cases h2:x=[46,46]
   ·rw[if_pos h2,if_pos h2]
    by_cases h3:n=0
    ·subst h3
     exact⟨.inr [],by simp,by simp⟩
    ·have h4:l.take n≠[]:=by
      intro h
      have:=congrArg List.length h
      rw[List.length_take,List.length_nil]at this
      omega
     rw[if_neg (show ¬ ((n:Int)=0) by omega),if_neg h4,wNm n (by omega),if_pos (show(0:Int)≤0∧0≤((n-1:Nat):Int)∧((n-1:Nat):Int)≤(n:Int) by omega)]
     simp only[Option.bind_some,Int.toNat_natCast]
     have:=Jc3 r (n-1) l (by omega) (by omega)
     have e:(l.take n).dropLast=l.take (n-1):=by rw[List.dropLast_eq_take,List.take_take,List.length_take]; congr 1; omega
     rwa [e]
   ·rw[if_neg h2,if_neg h2,if_pos (by simp only[List.length_cons,List.length_nil]; omega)]
    simp only[Option.bind_some,List.length_cons,List.length_nil]
    have hl:(l.take n).length=n:=by simp; omega
    have:=Jc3 r (n+1) (l.take n++[x]) (by rw[List.length_append,hl]; exact Nat.le_refl _) (by omega)
    rw[List.take_of_length_le (l:=l.take n++[x]) (by rw[List.length_append,hl]; exact Nat.le_refl _)]at this
    exact this
theorem Jcj:∀ l:List (List UInt8),(List.intercalate [47] l).length≤wgt l
 | []=>by simp[List.intercalate,wgt]
 | [x]=>by simp[List.intercalate,wgt]
 | x::y::l=>by
  have:=Jcj (y::l)
  rw[show List.intercalate [47] (x::y::l)=x++[47]++List.intercalate [47] (y::l) by simp[List.intercalate]]
  simp only[wgt,List.map_cons,List.sum_cons,List.length_append,List.length_cons,List.length_nil]at this ⊢
  omega
def ZN(a b:List UInt8):List UInt8 :=
 match upV (splV 47 a).dropLast (splV 47 b) with
 | none=>[]
 | some up=>if XC (List.intercalate [47] up)=true then List.intercalate [47] up else []
theorem Jcc(a b:List UInt8)(ha:a.length≤1073741824)(hb:b.length≤1073741824):Vt a b=some (ZN a b):=by
 have h1:=ZG 47 a
 have h2:=ZG 47 b
 have h3:=ZQ (splV 47 a)
 have h4:=ZQ (splV 47 b)
 have hd:=JcM (splV 47 a)
 simp only[wgt]at h3 h4 hd
 obtain⟨p,ps,hp⟩:=Ja7 47 a
 have hpos:0<(splV 47 a).length:=by rw[hp]; simp
 unfold Vt Xx
 rw[if_pos ⟨by omega,rfl⟩]
 simp only[Option.bind_some]
 rw[wNm _ (by omega),if_pos (by omega),if_pos (by omega)]
 simp only[Int.toNat_natCast]
 obtain⟨o,ho,hm⟩:=Jc3 (splV 47 b) ((splV 47 a).length-1) (splV 47 a) (by omega) (by omega)
 rw[ho]
 simp only[Option.bind_some]
 rw[← List.dropLast_eq_take]at hm
 unfold ZN
 cases hu:upV (splV 47 a).dropLast (splV 47 b) with
 | none =>
  rw[hu]at hm
  subst hm
  rfl
 | some up =>
  rw[hu]at hm
  obtain⟨n',l',rfl,_,he⟩:=hm
  have hw:=Jej hu
  have hi:=Jcj up
  have hul:=ZQ up
  simp only[wgt]at hw hi hul
  simp only[JcE,VV,he,Xp]
  rw[if_pos ⟨by omega,by omega⟩]
  simp only[Option.bind_some]
  rw[JeM _ (by omega)]
  simp only[Option.bind_some]
  cases XC (List.intercalate [47] up) <;> rfl
def Jcb(l:List Source)(p:List UInt8):Int:=if l.any (fun f=>decide (f.Path=p))=true then((l.findIdx fun f=>decide (f.Path=p):Nat):Int) else -1
theorem Jen(l:List Source)(p:List UInt8)(hl:l.length≤1099511627776):V5 l p=some (Jcb l p):=by
 unfold V5 J4
 rw[Jc4 l (fun f=>decide (f.Path=p)) (fun n=>(n:Int)) (-1)]
 ·rfl
 ·intro j hj
  simp only[Kl,ltI,decide_eq_true_eq,Int.toNat_natCast,ZH,eqS,Option.bind_some,inrO,Option.map_some]
  by_cases h:j<l.length
  ·rw[if_pos (by omega),if_pos ⟨by omega,h⟩,if_pos h,wN1 j (by omega)]
  ·rw[if_neg (by omega),if_neg h]
def JcU(l:List Source)(k:Int)(p:List UInt8)(q:Bool):Int :=
 if k<0∨(l.length:Int)≤k then -1 else if q=false then Jcb l (ZN [108,105,98,47,120] p)
 else if 0≤Jcb l (ZN (l.getD k.toNat default).Path p) then Jcb l (ZN (l.getD k.toNat default).Path p) else Jcb l (ZN [120] p)
theorem JjU(l:List Source)(k:Int)(p:List UInt8)(q:Bool)(hl:l.length≤1099511627776)(hp:p.length≤1073741824)(hs:∀ f∈l,f.Path.length≤1073741824):Xy l k p q=some (JcU l k p q):=by
 unfold Xy JcU
 simp only[ltI,leI,decide_eq_true_eq,Xq]
 by_cases h1:k<0
 ·rw[if_pos h1,if_pos (show k<0∨(l.length:Int)≤k from .inl h1)]
  rfl
 ·rw[if_neg h1]
  by_cases h2:(l.length:Int)≤k
  ·rw[if_pos h2,if_pos (show k<0∨(l.length:Int)≤k from .inr h2)]
  ·rw[if_neg h2,if_neg (show ¬ (k<0∨(l.length:Int)≤k) by omega)]
   cases q with
   | false =>
    simp only[Bool.not_false,if_true]
    rw[Jcc _ _ (by decide) hp]
    simp only[Option.bind_some]
    rw[Jen _ _ hl]
    rfl
   | true =>
    have hk:k.toNat<l.length:=by omega
    simp only[Bool.not_true,Bool.false_eq_true,if_false,reduceCtorEq]
    rw[if_pos ⟨by omega,hk⟩,Jcc _ _ (hs _ (XO l _ default hk)) hp]
    simp only[Option.bind_some]
    rw[Jen _ _ hl]
    simp only[Option.bind_some]
    by_cases h3:0≤Jcb l (ZN (l.getD k.toNat default).Path p)
    ·rw[if_pos h3,if_pos h3]
    ·rw[if_neg h3,if_neg h3,Jcc _ _ (by decide) hp]
     simp only[Option.bind_some]
     rw[Jen _ _ hl]
     rfl
end Go.Proofs.YtfkhlbhjhdpkoaaDoor
namespace Go.Proofs.YtfkhlbhjhdpkoaaDoor
open Go.RowKit
theorem JbG{R:Type}{b:Int×Int→Option ((Int×Int) ⊕ R)}(N:Nat)(p:Nat→Bool)(f:Nat→R)(o:Option R)
  (hb:∀ j:Nat,j≤N→b ((N:Int),(j:Int))=if j<N then(if p j=true then some (.inr (f j)) else some (.inl ((N:Int),((j+1:Nat):Int)))) else inrO o) :
  Ji b ((N:Int),0)=match (List.range N).find? p with | some i=>some (f i) | none=>o:=by
 have key:∀ n j,j+n=N→Ji b ((N:Int),(j:Int))=match (List.range' j n).find? p with | some i=>some (f i) | none=>o:=fun n=>by
  induction n with
  | zero =>
   intro j hj
   have h:=hb j (by omega)
   rw[if_neg (by omega)]at h
   rw[XS,h]
   cases o <;> rfl
  | succ n ih =>
   intro j hj
   have h:=hb j (by omega)
   rw[if_pos (by omega)]at h
   rw[List.range'_succ,List.find?_cons]
   cases hp:p j with
   | true =>
    rw[hp,if_pos rfl]at h
    rw[lend h]
   | false =>
    rw[hp,if_neg (by simp)]at h
    rw[KW h,ih (j+1) (by omega)]
 have:=key N 0 (by omega)
 rw[List.range_eq_range']
 exact this
def badF(l:List Source)(i:Nat):Int :=
 if XC (l.getD i default).Path=false then 7 else if 3000<(l.getD i default).Text.length then 4
 else if 0<i∧Op.bytesLess (l.getD (i-1) default).Path (l.getD i default).Path=false then 2 else 0
def JaP(l:List Source):Fault :=
 if 8<l.length then⟨5,-1,0⟩ else match (List.range l.length).find? (fun i=>decide (badF l i≠0)) with | some i=>⟨badF l i,i,0⟩ | none=>⟨0,-1,0⟩
theorem Jhr(l:List Source)(hl:l.length≤1099511627776)(hs:∀ f∈l,f.Path.length≤1099511627776):XR l=some (JaP l):=by
 unfold XR JaP
 simp only[ltI,decide_eq_true_eq]
 by_cases h8:8<l.length
 ·rw[if_pos (by omega),if_pos h8]
 ·rw[if_neg (by omega),if_neg h8]
  rw[JbG l.length (fun i=>decide (badF l i≠0)) (fun i=>(⟨badF l i,i,0⟩:Fault)) (some ⟨0,-1,0⟩)]
  ·split <;> rfl
  ·intro j hj
   simp only[Z0,ltI,decide_eq_true_eq,Int.toNat_natCast]
   by_cases h:j<l.length
   ·have hm:=hs _ (XO l j default h)
    rw[if_pos (by omega),if_pos ⟨by omega,h⟩,if_pos h,JeM _ hm]
    simp only[Option.bind_some]
    by_cases h1:XC (l.getD j default).Path=true
    ·rw[h1]
     simp only[Bool.not_true,Bool.false_eq_true,if_false]
     by_cases h2:3000<(l.getD j default).Text.length
     ·rw[if_pos (by omega)]
      have hb:badF l j=4:=by unfold badF; rw[h1,if_neg (by simp),if_pos h2]
      rw[if_pos (by rw[hb]; decide),hb]
      rfl
     ·rw[if_neg (by omega)]
      by_cases h3:0<j
      ·rw[if_pos (by omega),wNm j (by omega),if_pos (by omega)]
       simp only[Int.toNat_natCast,Xf,wN1 j (by omega)]
       by_cases h4:Op.bytesLess (l.getD (j-1) default).Path (l.getD j default).Path=true
       ·have hb:badF l j=0:=by unfold badF; rw[h1,if_neg (by simp),if_neg h2,if_neg (fun hh=>by rw[h4]at hh; exact absurd hh.2 (by simp))]
        rw[h4,if_neg (by simp),if_neg (by rw[hb]; decide)]
       ·have h4:Op.bytesLess (l.getD (j-1) default).Path (l.getD j default).Path=false:=by simpa using h4
        have hb:badF l j=2:=by unfold badF; rw[h1,if_neg (by simp),if_neg h2,if_pos ⟨h3,h4⟩]
        rw[h4,if_pos (by simp),if_pos (by rw[hb]; decide),hb]
        rfl
      ·have hb:badF l j=0:=by unfold badF; rw[h1,if_neg (by simp),if_neg h2,if_neg (by omega)]
       rw[if_neg (by omega),if_neg (by rw[hb]; decide)]
       simp only[Xf,Bool.false_eq_true,if_false,wN1 j (by omega)]
    ·have h1:XC (l.getD j default).Path=false:=by simpa using h1
     have hb:badF l j=7:=by unfold badF; rw[if_pos h1]
     rw[h1,if_pos (by simp),if_pos (by rw[hb]; decide),hb]
     rfl
   ·rw[if_neg (by omega),if_neg h]
def kle(a b:Edit):Prop:=a.File<b.File∨a.File=b.File∧(a.From<b.From∨a.From=b.From∧a.To≤b.To)
def chk(l:List Source)(s:List Edit)(i:Nat):Int :=
 if(s.getD i default).File<0∨(l.length:Int)≤(s.getD i default).File then 6
 else if(s.getD i default).From<0∨(s.getD i default).To<(s.getD i default).From∨((l.getD (s.getD i default).File.toNat default).Text.length:Int)<(s.getD i default).To then 3
 else if 0<i∧(s.getD (i-1) default).File=(s.getD i default).File∧((s.getD i default).From<(s.getD (i-1) default).To∨(s.getD (i-1) default).From=(s.getD i default).From) then 8 else 0
def Z3(e:Edit)(out:List Source):List Source :=
 out.set e.File.toNat ⟨(out.getD e.File.toNat default).Path,(out.getD e.File.toNat default).Text.take e.From.toNat++e.Text++(out.getD e.File.toNat default).Text.drop e.To.toNat⟩
def outV(l:List Source)(s:List Edit):List Source:=s.foldr Z3 l
def finV(l:List Source)(s:List Edit):List Source×Int :=
 if s.any (fun e=>decide (3000<e.Text.length))=true then([],4) else if(outV l s).any (fun f=>decide (3000<f.Text.length))=true then([],4) else(outV l s,0)
def Xj(l:List Source)(s:List Edit):List Source×Int :=
 if(JaP l).Err≠0 then([],(JaP l).Err) else match (List.range s.length).find? (fun i=>decide (chk l s i≠0)) with | some i=>([],chk l s i) | none=>finV l s
theorem Zf(l:List Source):∀ s:List Edit,(outV l s).length=l.length
 | []=>rfl
 | e::s=>by
  show(Z3 e (outV l s)).length=_
  rw[Z3,List.length_set,Zf l s]
theorem JeJ{A:Type}(l:List A)(i j:Nat)(x d:A)(h:i<l.length):(l.set i x).getD j d=if i=j then x else l.getD j d:=by
 rw[List.getD_eq_getElem?_getD,List.getElem?_set,List.getD_eq_getElem?_getD]
 by_cases hij:i=j
 ·subst hij; simp[h]
 ·simp[hij]
theorem Jio(l:List Source)(f:Nat)(hf:f<l.length)(q:Nat)(hq:q≤(l.getD f default).Text.length):∀ s:List Edit,(∀ e∈s,0≤e.File∧e.File<(l.length:Int))→(∀ e∈s,e.File=(f:Int)→(q:Int)≤e.From) →
  ((outV l s).getD f default).Text.take q=(l.getD f default).Text.take q∧q≤((outV l s).getD f default).Text.length∧((outV l s).getD f default).Path=(l.getD f default).Path
 | [],_,_=>⟨rfl,hq,rfl⟩
 | e::s,h1,h2=>by
  obtain⟨i1,i2,i3⟩:=Jio l f hf q hq s (fun x hx=>h1 x (by simp[hx])) (fun x hx=>h2 x (by simp[hx]))
  have hL:=Zf l s
  obtain⟨e1,e2⟩:=h1 e (by simp)
  show((Z3 e (outV l s)).getD f default).Text.take q=_∧q≤((Z3 e (outV l s)).getD f default).Text.length∧((Z3 e (outV l s)).getD f default).Path=_
  rw[Z3,JeJ _ _ _ _ _ (by omega)]
  by_cases he:e.File.toNat=f
  ·have h3:=h2 e (by simp) (by omega)
   subst he
   rw[if_pos rfl]
   refine⟨?_,?_,i3⟩
   ·rw[List.append_assoc,List.take_append_of_le_length (by rw[List.length_take]; omega),List.take_take,← i1]
    congr 1; omega
   ·rw[List.length_append,List.length_append,List.length_take]; omega
  ·rw[if_neg he]
   exact⟨i1,i2,i3⟩
theorem Jgv(l:List Source)(f:Nat):∀ s:List Edit,(∀ e∈s,0≤e.File∧e.File<(l.length:Int)∧e.From≤e.To)→((outV l s).getD f default).Text.length≤(l.getD f default).Text.length+(s.map fun e=>e.Text.length).sum
 | [],_=>by simp[outV]
 | e::s,h=>by
  have ih:=Jgv l f s (fun x hx=>h x (by simp[hx]))
  obtain⟨e1,e2,e3⟩:=h e (by simp)
  have hL:=Zf l s
  show((Z3 e (outV l s)).getD f default).Text.length≤_
  rw[Z3,JeJ _ _ _ _ _ (by omega),List.map_cons,List.sum_cons]
  by_cases he:e.File.toNat=f
  ·subst he
   rw[if_pos rfl]
   simp only[List.length_append,List.length_take,List.length_drop]
   omega
  ·rw[if_neg he]; omega
theorem Jfw{l:List Source}{s:List Edit}(hS:s.Pairwise kle)(hc:∀ i,i<s.length→chk l s i=0):∀ i j,i<j→j<s.length→(s.getD i default).File=(s.getD j default).File→(s.getD i default).To≤(s.getD j default).From:=by
 have hle:∀ i j,i<j→j<s.length→kle (s.getD i default) (s.getD j default):=fun i j h1 h2=>by
  rw[List.getD_eq_getElem?_getD,List.getD_eq_getElem?_getD,List.getElem?_eq_getElem (by omega),List.getElem?_eq_getElem h2]
  exact List.pairwise_iff_getElem.1 hS i j (by omega) h2 h1
 have adj:∀ j,0<j→j<s.length→(s.getD (j-1) default).File=(s.getD j default).File→(s.getD (j-1) default).To≤(s.getD j default).From∧(s.getD j default).From≤(s.getD j default).To:=fun j h0 h1 h2=>by
  have:=hc j h1
  unfold chk at this
  split at this
  ·cases this
  ·split at this
   ·cases this
   ·split at this
    ·cases this
    ·rename_i a b c
     constructor
     ·rcases Int.lt_or_le (s.getD j default).From (s.getD (j-1) default).To with h | h
      ·exact absurd ⟨h0,h2,.inl h⟩ c
      ·exact h
     ·omega
 intro i j hij
 obtain⟨n,rfl⟩:∃ n,j=i+1+n:=⟨j-i-1,by omega⟩
 clear hij
 induction n with
 | zero =>
  intro hj he
  exact(adj (i+1) (by omega) hj (by simpa using he)).1
 | succ n ih =>
  intro hj he
  have h1:=hle i (i+1+n) (by omega) (by omega)
  have h2:=hle (i+1+n) (i+1+(n+1)) (by omega) hj
  have hm:(s.getD i default).File=(s.getD (i+1+n) default).File:=by
   unfold kle at h1 h2
   omega
  have h3:=ih (by omega) hm
  have h4:=adj (i+1+(n+1)) (by omega) hj (by rw[show i+1+(n+1)-1=i+1+n by omega]; omega)
  rw[show i+1+(n+1)-1=i+1+n by omega]at h4
  have h5:=hc (i+1+n) (by omega)
  unfold chk at h5
  split at h5
  ·cases h5
  ·split at h5
   ·cases h5
   ·rename_i a b
    omega
theorem JbZ{l:List Source}{s:List Edit}{i:Nat}(h:chk l s i=0):0≤(s.getD i default).File∧(s.getD i default).File<(l.length:Int)∧0≤(s.getD i default).From∧(s.getD i default).From≤(s.getD i default).To∧(s.getD i default).To≤((l.getD (s.getD i default).File.toNat default).Text.length:Int):=by
 unfold chk at h
 split at h
 ·cases h
 ·split at h
  ·cases h
  ·rename_i a b
   omega
theorem JkN{s:List Edit}{e:Edit}(h:e∈s):∃ i,i<s.length∧s.getD i default=e:=by
 obtain⟨i,hi,rfl⟩:=List.getElem_of_mem h
 exact⟨i,hi,by rw[List.getD_eq_getElem?_getD,List.getElem?_eq_getElem hi]; rfl⟩
theorem JfN{s:List Edit}{k:Nat}{e:Edit}(h:e∈s.drop k):∃ i,k≤i∧i<s.length∧s.getD i default=e:=by
 obtain⟨i,hi,rfl⟩:=List.getElem_of_mem h
 rw[List.length_drop]at hi
 exact⟨k+i,by omega,by omega,by rw[List.getD_eq_getElem?_getD,List.getElem?_eq_getElem (by omega),List.getElem_drop]; rfl⟩
theorem Jno(out:List Source)(h:out.length≤1099511627776):Ji (XB out) ((out.length:Int),0)=some (if out.any (fun f=>decide (3000<f.Text.length))=true then([],4) else(out,0)):=by
 rw[Jc4 out (fun f=>decide (3000<f.Text.length)) (fun _=>(([],4):List Source×Int)) (out,0)]
 intro j hj
 simp only[XB,ltI,decide_eq_true_eq,Int.toNat_natCast,inrO,Option.map_some]
 by_cases hjl:j<out.length
 ·rw[if_pos (by omega),if_pos ⟨by omega,hjl⟩,if_pos hjl,if_pos hjl,wN1 j (by omega)]
  by_cases h3:3000<(out.getD j default).Text.length
  ·rw[if_pos (by omega),if_pos h3]
  ·rw[if_neg (by omega),if_neg h3]
 ·rw[if_neg (by omega),if_neg hjl]
theorem Jl1(l:List Source)(s:List Edit)(hS:s.Pairwise kle)(hc:∀ i,i<s.length→chk l s i=0)(hl:l.length≤1048576)(hn:s.length≤1048576)(ht:∀ f∈l,f.Text.length≤1048576)(hx:(s.map fun e=>e.Text.length).sum≤1048576):
  ∀ k:Nat,k≤s.length→Ji (KL s) ((k:Int)-1,outV l (s.drop k))=some (if(s.take k).any (fun e=>decide (3000<e.Text.length))=true then([],4) else if(outV l s).any (fun f=>decide (3000<f.Text.length))=true then([],4) else(outV l s,0))
 | 0,_=>by
  refine lend (b:=KL s) ?_
  simp only[KL,leI,decide_eq_true_eq]
  rw[if_neg (by omega),Jno _ (by rw[Zf]; omega)]
  simp only[List.drop_zero,List.take_zero,List.any_nil,Bool.false_eq_true,if_false]
  rfl
 | k+1,hk=>by
  obtain⟨c1,c2,c3,c4,c5⟩:=JbZ (hc k (by omega))
  have hd:∀ e∈s.drop (k+1),0≤e.File∧e.File<(l.length:Int)∧e.From≤e.To:=fun e he=>by
   obtain⟨i,_,h2,rfl⟩:=JfN he
   obtain⟨a1,a2,_,a4,_⟩:=JbZ (hc i h2)
   exact⟨a1,a2,a4⟩
  have hL:=Zf l (s.drop (k+1))
  have hfl:(s.getD k default).File.toNat<l.length:=by omega
  have hkeep:=Jio l (s.getD k default).File.toNat hfl (s.getD k default).To.toNat (by omega) (s.drop (k+1)) (fun e he=>⟨(hd e he).1,(hd e he).2.1⟩) (fun e he hf=>by
   obtain⟨i,h1,h2,rfl⟩:=JfN he
   have:=Jfw hS hc k i (by omega) h2 (by omega)
   omega)
  have hsm:=Jgv l (s.getD k default).File.toNat (s.drop (k+1)) hd
  have hdl:((s.drop (k+1)).map fun e=>e.Text.length).sum+(s.getD k default).Text.length≤(s.map fun e=>e.Text.length).sum:=by
   have h1:s=s.take k++(s.getD k default::s.drop (k+1)):=by rw[← X3 s k default (by omega),List.take_append_drop]
   have h2:(s.map fun e=>e.Text.length).sum=((s.take k++(s.getD k default::s.drop (k+1))).map fun e=>e.Text.length).sum:=by rw[← h1]
   rw[h2,List.map_append,List.sum_append,List.map_cons,List.sum_cons]
   omega
  have hlt:=ht _ (XO l (s.getD k default).File.toNat default hfl)
  have hge:=hkeep.2.1
  have hta:(s.take (k+1)).any (fun e=>decide (3000<e.Text.length))=((s.take k).any (fun e=>decide (3000<e.Text.length)) || decide (3000<(s.getD k default).Text.length)):=by
   rw[List.take_add_one,List.any_append]
   congr 1
   rw[List.getElem?_eq_getElem (by omega),List.getD_eq_getElem?_getD,List.getElem?_eq_getElem (by omega)]
   simp
  have hstep:(s.drop k)=s.getD k default::s.drop (k+1):=X3 s k default (by omega)
  rw[show(((k+1:Nat):Int)-1)=(k:Int) by omega]
  have hb:KL s ((k:Int),outV l (s.drop (k+1)))=if 3000<(s.getD k default).Text.length then some (.inr ([],4)) else some (.inl ((k:Int)-1,outV l (s.drop k))):=by
   have hst:outV l (s.drop k)=Z3 (s.getD k default) (outV l (s.drop (k+1))):=by rw[hstep]; rfl
   rw[hst]
   clear hst
   generalize outV l (s.drop (k+1))=out at *
   simp only[KL,leI,ltI,decide_eq_true_eq,Int.toNat_natCast]
   rw[if_pos (by omega),if_pos ⟨by omega,by omega⟩,if_pos (by omega),if_pos ⟨c1,by omega⟩,if_pos (by omega)]
   by_cases h3:3000<(s.getD k default).Text.length
   ·rw[if_pos (by omega),if_pos h3]
    rfl
   ·rw[if_neg (by omega),if_neg h3,if_pos ⟨by omega,c3,by omega⟩,if_pos (by rw[List.length_take]; omega),if_pos ⟨by omega,by omega,by omega⟩,if_pos (by rw[List.length_take,List.length_drop]; omega),if_pos ⟨c1,by omega⟩,if_pos (by omega),wr _ (by omega)]
    rfl
  by_cases h3:3000<(s.getD k default).Text.length
  ·rw[if_pos h3]at hb
   rw[lend hb,hta,decide_eq_true h3,Bool.or_true,if_pos rfl]
  ·rw[if_neg h3]at hb
   rw[KW hb,Jl1 l s hS hc hl hn ht hx k (by omega),hta,decide_eq_false h3,Bool.or_false]
theorem Jnf(l:List Source)(s:List Edit)(hl:l.length≤1048576)(hn:s.length≤1048576):Ji (XM l s) ((s.length:Int),0)=match (List.range s.length).find? (fun i=>decide (chk l s i≠0)) with | some i=>some ([],chk l s i) | none=>Ji (KL s) ((s.length:Int)-1,l):=by
 rw[JbG s.length (fun i=>decide (chk l s i≠0)) (fun i=>(([],chk l s i):List Source×Int)) (Ji (KL s) ((s.length:Int)-1,l))]
 intro j hj
 simp only[XM,ltI,leI,decide_eq_true_eq,Int.toNat_natCast]
 by_cases h:j<s.length
 ·rw[if_pos (by omega),if_pos ⟨by omega,h⟩,if_pos h,if_pos h]
  by_cases h6:(s.getD j default).File<0∨(l.length:Int)≤(s.getD j default).File
  ·have hc:chk l s j=6:=by unfold chk; rw[if_pos h6]
   rw[hc,if_pos (show(6:Int)≠0 by decide)]
   by_cases h7:(s.getD j default).File<0
   ·rw[if_pos h7]; rfl
   ·rw[if_neg h7]
    simp only[VX]
    rw[if_pos (decide_eq_true (show(l.length:Int)≤(s.getD j default).File by omega))]
    rfl
  ·rw[if_neg (by omega)]
   simp only[VX]
   rw[if_neg (show ¬ decide ((l.length:Int)≤(s.getD j default).File)=true by rw[decide_eq_true_eq]; omega)]
   have hF:0≤(s.getD j default).File∧(s.getD j default).File.toNat<l.length:=⟨by omega,by omega⟩
   by_cases h3:(s.getD j default).From<0∨(s.getD j default).To<(s.getD j default).From∨((l.getD (s.getD j default).File.toNat default).Text.length:Int)<(s.getD j default).To
   ·have hc:chk l s j=3:=by unfold chk; rw[if_neg h6,if_pos h3]
    rw[hc,if_pos (show(3:Int)≠0 by decide)]
    have hz:Vc s (s.length:Int) (j:Int) (s.getD j default).File (s.getD j default).From true=some (.inr ([],3)):=by simp only[Vc,if_true]; rfl
    by_cases a1:(s.getD j default).From<0
    ·rw[if_pos (by simpa [ltI] using a1),hz]
    ·rw[if_neg (by simpa [ltI] using a1)]
     by_cases a2:(s.getD j default).To<(s.getD j default).From
     ·rw[if_pos (by simpa [ltI] using a2),hz]
     ·rw[if_neg (by simpa [ltI] using a2),if_pos hF,show ltI (((l.getD (s.getD j default).File.toNat default).Text.length:Nat):Int) (s.getD j default).To=true by simp only[ltI,decide_eq_true_eq]; omega,hz]
   ·rw[if_neg (by simp only[ltI,decide_eq_true_eq]; omega),if_neg (by simp only[ltI,decide_eq_true_eq]; omega),if_pos hF,show ltI (((l.getD (s.getD j default).File.toNat default).Text.length:Nat):Int) (s.getD j default).To=false by simp only[ltI,decide_eq_false_iff_not]; omega]
    simp only[Vc,Bool.false_eq_true,if_false]
    have hz0:KK (s.length:Int) (j:Int) false=some (.inl ((s.length:Int),((j+1:Nat):Int))):=by simp only[KK,Bool.false_eq_true,if_false,wN1 j (by omega)]
    have hz1:KK (s.length:Int) (j:Int) true=some (.inr ([],8)):=by simp only[KK,if_true]; rfl
    have hcc:chk l s j=if 0<j∧(s.getD (j-1) default).File=(s.getD j default).File∧((s.getD j default).From<(s.getD (j-1) default).To∨(s.getD (j-1) default).From=(s.getD j default).From) then 8 else 0:=by unfold chk; rw[if_neg h6,if_neg h3]
    by_cases b1:0<j
    ·rw[if_pos (by simp only[ltI,decide_eq_true_eq]; omega),wNm j (by omega)]
     have hj1:(0:Int)≤((j-1:Nat):Int)∧j-1<s.length:=⟨by omega,by omega⟩
     simp only[Int.toNat_natCast]
     rw[if_pos hj1,if_pos (show j-1<s.length by omega)]
     by_cases b2:(s.getD (j-1) default).File=(s.getD j default).File
     ·rw[if_pos (by simpa [eqI] using b2),if_pos hj1,if_pos (show j-1<s.length by omega)]
      by_cases b3:(s.getD j default).From<(s.getD (j-1) default).To
      ·rw[if_pos (by simpa [ltI] using b3),hz1,hcc.trans (if_pos ⟨b1,b2,.inl b3⟩),if_pos (show(8:Int)≠0 by decide)]
      ·rw[if_neg (by simpa [ltI] using b3),if_pos hj1,if_pos (show j-1<s.length by omega)]
       by_cases b4:(s.getD (j-1) default).From=(s.getD j default).From
       ·rw[show eqI (s.getD (j-1) default).From (s.getD j default).From=true by simpa [eqI] using b4,hz1,hcc.trans (if_pos ⟨b1,b2,.inr b4⟩),if_pos (show(8:Int)≠0 by decide)]
       ·rw[show eqI (s.getD (j-1) default).From (s.getD j default).From=false by simpa [eqI] using b4,hz0,hcc.trans (if_neg (by omega)),if_neg (show ¬ (0:Int)≠0 by decide)]
     ·rw[if_neg (by simpa [eqI] using b2),hz0,hcc.trans (if_neg (by omega)),if_neg (show ¬ (0:Int)≠0 by decide)]
    ·rw[if_neg (by simp only[ltI,decide_eq_true_eq]; omega),hz0,hcc.trans (if_neg (by omega)),if_neg (show ¬ (0:Int)≠0 by decide)]
 ·rw[if_neg (by omega),if_neg h,wr _ (by omega)]
theorem Jks(l:List Source)(es s:List Edit)(hs:JB es=some s)(hS:s.Pairwise kle)(hlen:s.length=es.length)(hl:l.length≤1048576)(hn:s.length≤1048576)(hp:∀ f∈l,f.Path.length≤1048576)(ht:∀ f∈l,f.Text.length≤1048576)
  (hx:(s.map fun e=>e.Text.length).sum≤1048576):Xk l es=some (Xj l s):=by
 unfold Xk Xj
 rw[Jhr l (by omega) (fun f hf=>Nat.le_trans (hp f hf) (by decide))]
 simp only[Option.bind_some]
 by_cases hw:(JaP l).Err=0
 ·rw[if_neg (Jad hw),if_neg (by simpa using hw)]
  unfold Km Ks
  rw[if_pos (by omega),if_pos (by omega),hs]
  simp only[Option.bind_some]
  rw[if_pos hlen,← hlen,Jnf l s hl hn]
  cases hf:(List.range s.length).find? (fun i=>decide (chk l s i≠0)) with
  | some i=>rfl
  | none =>
   have hc:∀ i,i<s.length→chk l s i=0:=fun i hi=>by
    have:=List.find?_eq_none.1 hf i (List.mem_range.2 hi)
    simpa using this
   have:=Jl1 l s hS hc hl hn ht hx s.length (Nat.le_refl _)
   rw[List.drop_length,List.take_length]at this
   exact this
 ·rw[if_pos (Jbn hw),if_pos hw]
end Go.Proofs.YtfkhlbhjhdpkoaaDoor
namespace Go.Proofs.YtfkhlbhjhdpkoaaDoor
open Go.RowKit
theorem Jca(c x:UInt8):∀ (t:List UInt8) (L:List (List UInt8)) (p:List UInt8),splV c t=L++[p]→splV c (t++[x])=if x=c then L++[p]++[[]] else L++[p++[x]]
 | [],L,p,h=>by
  have h:[[]]=L++[p]:=h
  cases L with
  | nil =>
   have:p=[]:=by simpa using h.symm
   subst this
   simp only[List.nil_append,splV]
   split <;> rfl
  | cons a L=>simp at h
 | y::t,L,p,h=>by
  obtain⟨q,qs,hq⟩:=Ja7 c t
  rw[List.cons_append]
  unfold splV at h ⊢
  by_cases hy:y=c
  ·rw[if_pos hy]at h ⊢
   cases L with
   | nil =>
    rw[List.nil_append,List.cons.injEq]at h
    obtain⟨w,ws,hw⟩:=Ja7 c t
    rw[hw]at h
    exact absurd h.2 (by simp)
   | cons a L =>
    rw[List.cons_append,List.cons.injEq]at h
    obtain⟨rfl,h⟩:=h
    rw[Jca c x t L p h]
    split <;> simp
  ·rw[if_neg hy]at h ⊢
   cases L with
   | nil =>
    rw[hq]at h
    simp only[List.nil_append,List.cons.injEq]at h
    obtain⟨rfl,rfl⟩:=h
    rw[Jca c x t [] q (by simpa using hq)]
    by_cases hxc:x=c <;> simp[hxc]
   | cons a L =>
    rw[hq]at h
    simp only[List.cons_append,List.cons.injEq]at h
    obtain⟨rfl,h⟩:=h
    rw[Jca c x t (q::L) p (by rw[hq,h]; rfl)]
    by_cases hxc:x=c <;> simp[hxc]
theorem Jku(c:UInt8)(s:List UInt8):∃ L p,splV c s=L++[p]:=by
 obtain⟨q,qs,hq⟩:=Ja7 c s
 rcases List.eq_nil_or_concat (splV c s) with h | ⟨L,p,h⟩
 ·rw[hq]at h; cases h
 ·exact⟨L,p,by simpa using h⟩
theorem JdH(s:List UInt8)(h:s.length≤1099511627776):VY s=some (splV 47 s):=by
 have key:∀ n j:Nat,j+n=s.length→Ji (K4 s) ((s.length:Int),(j:Int),splV 47 (s.take j))=some (splV 47 s):=by
  intro n
  induction n with
  | zero =>
   intro j hj
   refine lend (b:=K4 s) ?_
   simp only[K4,ltI,decide_eq_true_eq]
   rw[if_neg (by omega),List.take_of_length_le (by omega)]
   rfl
  | succ n ih =>
   intro j hj
   have hjl:j<s.length:=by omega
   obtain⟨L,p,hL⟩:=Jku 47 (s.take j)
   have hlen:=ZQ (splV 47 (s.take j))
   have hw:=ZG 47 (s.take j)
   simp only[wgt]at hlen
   rw[hw,List.length_take,hL,List.length_append,List.length_cons,List.length_nil]at hlen
   have hsn:=Jca 47 (s.getD j 0) (s.take j) L p hL
   have htk:s.take (j+1)=s.take j++[s.getD j 0]:=by
    rw[List.take_add_one,List.getElem?_eq_getElem hjl,List.getD_eq_getElem?_getD,List.getElem?_eq_getElem hjl]; rfl
   have hpc:p.length+1≤s.length+1:=by
    have:=JcJ (l:=splV 47 (s.take j)) (x:=p) (by rw[hL]; simp)
    simp only[wgt]at this
    rw[hw,List.length_take]at this
    omega
   have hb:K4 s ((s.length:Int),(j:Int),splV 47 (s.take j))=some (.inl ((s.length:Int),((j+1:Nat):Int),splV 47 (s.take (j+1)))):=by
    rw[htk,hsn,hL]
    simp only[K4,ltI,decide_eq_true_eq,Int.toNat_natCast,Xn,wN1 j (by omega)]
    rw[if_pos (by omega),if_pos ⟨by omega,hjl⟩]
    by_cases hc:s.getD j 0=47
    ·rw[if_pos (show eqI ((s.getD j 0).toNat:Int) 47=true by rw[hc]; rfl),if_pos (by simp only[List.length_append,List.length_cons,List.length_nil]; omega),if_pos hc]
    ·have hcn:¬ eqI ((s.getD j 0).toNat:Int) 47=true:=by
      intro he
      simp only[eqI,decide_eq_true_eq]at he
      exact hc (UInt8.toNat_inj.1 (by show(s.getD j 0).toNat=47; omega))
     have hlm:(L++[p]).length=L.length+1:=by simp
     have hg:(L++[p]).getD L.length default=p:=by
      have:=X3 (L++[p]) L.length default (by simp)
      rw[List.drop_left]at this
      simp only[List.cons.injEq]at this
      exact this.1.symm
     have hd:List.take (j+1-j) (List.drop j s)=[s.getD j 0]:=by
      rw[X3 s j 0 hjl,show j+1-j=1 by omega]; rfl
     rw[if_neg hcn,if_neg hc,hlm,wNm (L.length+1) (by omega),show L.length+1-1=L.length by omega]
     simp only[Int.toNat_natCast,hg,hd]
     rw[if_pos (by omega),if_pos (by omega),if_pos (by omega),if_pos (by simp only[List.length_cons,List.length_nil]; omega),if_pos (by omega),if_pos (by omega),List.set_append_right _ _ (Nat.le_refl _),Nat.sub_self]
     rfl
   rw[KW hb]
   exact ih (j+1) (by omega)
 have:=key s.length 0 (by omega)
 rw[List.take_zero]at this
 exact this
theorem Jj3(c:UInt8):Xh c=some (decide (97≤c.toNat∧c.toNat≤122) || decide (65≤c.toNat∧c.toNat≤90) || decide (c.toNat=95)):=by
 have b1:(97:Int)≤(c.toNat:Int)↔97≤c.toNat:=by omega
 have b2:(c.toNat:Int)≤122↔c.toNat≤122:=by omega
 have b3:(65:Int)≤(c.toNat:Int)↔65≤c.toNat:=by omega
 have b4:(c.toNat:Int)≤90↔c.toNat≤90:=by omega
 have b8:(c.toNat:Int)=95↔c.toNat=95:=by omega
 simp only[Xh,Kv,leI,eqI,decide_eq_true_eq]
 by_cases a1:97≤c.toNat <;> by_cases a2:c.toNat≤122 <;> by_cases a3:65≤c.toNat <;> by_cases a4:c.toNat≤90 <;> by_cases a8:c.toNat=95 <;>
  first
  | (exfalso; omega)
  | simp[b1,b2,b3,b4,b8,a1,a2,a3,a4,a8]
theorem Jk5(c:UInt8):Xv c=some (decide (48≤c.toNat∧c.toNat≤57)):=by
 have b1:(48:Int)≤(c.toNat:Int)↔48≤c.toNat:=by omega
 have b2:(c.toNat:Int)≤57↔c.toNat≤57:=by omega
 simp only[Xv,Xr,leI,decide_eq_true_eq]
 by_cases a1:48≤c.toNat <;> by_cases a2:c.toNat≤57 <;> simp[b1,b2,a1,a2]
theorem JlO(N i:Nat)(hi:i≤1099511627776)(p:List UInt8)(h:p.length≤1099511627776):Ji (VI (N:Int) (i:Int) p) ((p.length:Int),0)=some (if p.all okc=true then .inl ((N:Int),((i+1:Nat):Int)) else .inr false):=by
 have:=Jdg (b:=VI (N:Int) (i:Int) p) p.length (fun j=>okc (p.getD j 0)) (.inr false) (.inl ((N:Int),((i+1:Nat):Int))) (fun j hj=>by
  simp only[VI,ltI,decide_eq_true_eq,Int.toNat_natCast,wN1 i (by omega)]
  by_cases hjl:j<p.length
  ·rw[if_pos (by omega),if_pos ⟨by omega,hjl⟩,if_pos hjl]
   obtain⟨c,hc⟩:∃ c,p.getD j 0=c:=⟨_,rfl⟩
   simp only[hc,Jj3,Jk5,Option.bind_some,VD,wN1 j (by omega)]
   have b7:(c.toNat:Int)=46↔c.toNat=46:=by omega
   by_cases l1:(decide (97≤c.toNat∧c.toNat≤122) || decide (65≤c.toNat∧c.toNat≤90) || decide (c.toNat=95))=true
   ·have hok:okc c=true:=by
     unfold okc
     simp only[Bool.or_eq_true,decide_eq_true_eq]at l1 ⊢
     omega
    rw[l1,hok]
    rfl
   ·have l2:(decide (97≤c.toNat∧c.toNat≤122) || decide (65≤c.toNat∧c.toNat≤90) || decide (c.toNat=95))=false:=by simpa using l1
    rw[l2]
    by_cases d1:decide (48≤c.toNat∧c.toNat≤57)=true
    ·have hok:okc c=true:=by
      unfold okc
      simp only[Bool.or_eq_true,decide_eq_true_eq]at d1 ⊢
      omega
     rw[d1,hok]
     rfl
    ·have d2:decide (48≤c.toNat∧c.toNat≤57)=false:=by simpa using d1
     rw[d2]
     by_cases e1:c.toNat=46
     ·have hok:okc c=true:=by unfold okc; simp[e1]
      rw[hok,if_pos (by rfl),if_pos (by rfl),if_neg (by simp[eqI,b7,e1])]
      rfl
     ·have hok:okc c=false:=by
       unfold okc
       simp only[Bool.or_eq_true,decide_eq_true_eq,decide_eq_false_iff_not]at l1 d1 ⊢
       simp only[Bool.or_eq_false_iff,decide_eq_false_iff_not]
       omega
      rw[hok,if_pos (by rfl),if_pos (by rfl),if_pos (by simp[eqI,b7,e1])]
      rfl
  ·rw[if_neg (by omega),if_neg hjl]
   rfl)
 rw[this]
 congr 1
 by_cases ha:p.all okc=true
 ·rw[if_pos ((JbK p 0 okc).2 ha),if_pos ha]
 ·rw[if_neg (fun h=>ha ((JbK p 0 okc).1 h)),if_neg ha]
theorem JdM(s:List UInt8)(h:s.length≤1099511627776):Vx s=some (XC s):=by
 unfold Vx XC
 simp only[ltI,decide_eq_true_eq]
 by_cases h1:s.length≤40
 ·rw[if_neg (by omega),JdH s h]
  simp only[Option.bind_some]
  have hlen:=ZQ (splV 47 s)
  have hw:=ZG 47 s
  simp only[wgt]at hlen
  have:=Jdg (b:=Xo (splV 47 s)) (splV 47 s).length (fun j=>X1 ((splV 47 s).getD j default)) false true (fun j hj=>by
   simp only[Xo,ltI,decide_eq_true_eq,Int.toNat_natCast]
   by_cases hjl:j<(splV 47 s).length
   ·rw[if_pos (by omega),if_pos ⟨by omega,hjl⟩,if_pos hjl]
    have hm:=JcJ (XO (splV 47 s) j default hjl)
    simp only[wgt]at hm
    have hr:=JlO (splV 47 s).length j (by omega) ((splV 47 s).getD j default) (by omega)
    generalize (splV 47 s).getD j default=p at *
    simp only[VH,if_true]
    by_cases p1:p=[]
    ·rw[if_pos (by simp[eqS,p1])]
     simp[p1,inrO,X1]
    ·rw[if_neg (by simp[eqS,p1])]
     by_cases p2:p=[46]
     ·rw[if_pos (by simp[eqS,p2])]
      simp[p2,inrO,X1]
     ·rw[if_neg (by simp[eqS,p2])]
      by_cases p3:p=[46,46]
      ·rw[if_pos (by simp[eqS,p3])]
       simp[p3,inrO,X1]
      ·rw[if_neg (by simp[eqS,p3]),hr]
       have hpo:X1 p=p.all okc:=by unfold X1; simp[p1,p2,p3]
       rw[hpo]
       by_cases hao:p.all okc=true
       ·rw[if_pos hao,if_pos hao]
       ·rw[if_neg hao,if_neg hao]
   ·rw[if_neg (by omega),if_neg hjl]
    rfl)
  rw[this]
  congr 1
  rw[show decide (s.length≤40)=true by simpa using h1,Bool.true_and]
  by_cases ha:(splV 47 s).all X1=true
  ·rw[if_pos ((JbK _ default X1).2 ha),ha]
  ·rw[if_neg (fun h=>ha ((JbK _ default X1).1 h))]
   simpa using ha
 ·rw[if_pos (by omega)]
  simp[h1]
theorem JfC:∀ a b:List UInt8,(Op.bytesLess b a || eqS b a)=!Op.bytesLess a b
 | [],[]=>rfl
 | [],y::b=>by simp[Op.bytesLess,eqS]
 | x::a,[]=>by simp[Op.bytesLess,eqS]
 | x::a,y::b=>by
  have ih:=JfC a b
  unfold Op.bytesLess
  by_cases h1:x<y
  ·have h2:¬ y<x:=by rw[UInt8.lt_iff_toNat_lt]at *; omega
   have h3:¬ y=x:=fun h=>by subst h; exact h2 h1
   simp[h1,h2,h3,eqS]
  ·by_cases h2:y<x
   ·have h3:¬ x=y:=fun h=>by subst h; exact h1 h2
    simp[h1,h2,h3,eqS]
   ·have h3:x=y:=by
     apply UInt8.toNat_inj.1
     rw[UInt8.lt_iff_toNat_lt]at *
     omega
    subst h3
    simp only[eqS]at ih
    simp[h1,eqS]at ih ⊢
    exact ih
theorem Jgm(l:List Source)(hl:l.length≤1099511627776)(hs:∀ f∈l,f.Path.length≤1099511627776):V0 l=some (JaP l):=by
 unfold V0 JaP
 simp only[ltI,decide_eq_true_eq]
 by_cases h8:8<l.length
 ·rw[if_pos (by omega),if_pos h8]
 ·rw[if_neg (by omega),if_neg h8]
  rw[JbG l.length (fun i=>decide (badF l i≠0)) (fun i=>(⟨badF l i,i,0⟩:Fault)) (some ⟨0,-1,0⟩)]
  ·split <;> rfl
  ·intro j hj
   simp only[Zb,ltI,decide_eq_true_eq,Int.toNat_natCast]
   have hj2:∀ e:Int,KZ (l.length:Int) (j:Int) e=if e≠0 then some (.inr ⟨e,j,0⟩) else some (.inl ((l.length:Int),((j+1:Nat):Int))):=fun e=>by
    simp only[KZ,wN1 j (by omega)]
    by_cases he:e=0
    ·rw[if_neg (Jad he),if_neg (by simpa using he)]
    ·rw[if_pos (Jbn he),if_pos he]; rfl
   by_cases h:j<l.length
   ·have hm:=hs _ (XO l j default h)
    rw[if_pos (by omega),if_pos ⟨by omega,h⟩,if_pos h,JdM _ hm]
    simp only[Option.bind_some]
    by_cases h1:XC (l.getD j default).Path=true
    ·rw[h1]
     simp only[Bool.not_true,Bool.false_eq_true,if_false]
     by_cases h2:3000<(l.getD j default).Text.length
     ·have hb:badF l j=4:=by unfold badF; rw[h1,if_neg (by simp),if_pos h2]
      rw[if_pos (by omega),hj2,hb]
     ·rw[if_neg (by omega)]
      by_cases h3:0<j
      ·rw[if_pos (by omega),wNm j (by omega),if_pos (by omega)]
       simp only[Int.toNat_natCast,JfC]
       by_cases h4:Op.bytesLess (l.getD (j-1) default).Path (l.getD j default).Path=true
       ·have hb:badF l j=0:=by unfold badF; rw[h1,if_neg (by simp),if_neg h2,if_neg (fun hh=>by rw[h4]at hh; exact absurd hh.2 (by simp))]
        rw[h4]
        simp only[Bool.not_true,Vk,Bool.false_eq_true,if_false]
        rw[hj2,hb]
       ·have h4:Op.bytesLess (l.getD (j-1) default).Path (l.getD j default).Path=false:=by simpa using h4
        have hb:badF l j=2:=by unfold badF; rw[h1,if_neg (by simp),if_neg h2,if_pos ⟨h3,h4⟩]
        rw[h4]
        simp only[Bool.not_false,Vk,if_true]
        rw[hj2,hb]
      ·have hb:badF l j=0:=by unfold badF; rw[h1,if_neg (by simp),if_neg h2,if_neg (by omega)]
       rw[if_neg (by omega)]
       simp only[Vk,Bool.false_eq_true,if_false]
       rw[hj2,hb]
    ·have h1:XC (l.getD j default).Path=false:=by simpa using h1
     have hb:badF l j=7:=by unfold badF; rw[if_pos h1]
     rw[h1,if_pos (by simp),hj2,hb]
   ·rw[if_neg (by omega),if_neg h]
theorem JcY(l:List Source)(p:List UInt8)(hl:l.length≤1099511627776):Vr l p=some (Jcb l p):=by
 unfold Vr
 rw[Jc4 l (fun f=>decide (f.Path=p)) (fun n=>(n:Int)) (-1)]
 ·rfl
 ·intro j hj
  simp only[Zz,ltI,decide_eq_true_eq,Int.toNat_natCast,eqS,inrO,Option.map_some]
  by_cases h:j<l.length
  ·rw[if_pos (by omega),if_pos ⟨by omega,h⟩,if_pos h,wN1 j (by omega)]
  ·rw[if_neg (by omega),if_neg h]
theorem JeY(x:List UInt8):∀ l:List (List UInt8),List.intercalate [47] (l++[x])=if l=[] then x else List.intercalate [47] l++[47]++x
 | []=>by simp[List.intercalate]
 | [y]=>by simp[List.intercalate]
 | y::z::l=>by
  have:=JeY x (z::l)
  rw[if_neg (by simp)]at this ⊢
  have e:∀ (a b:List UInt8) (m:List (List UInt8)),List.intercalate [47] (a::b::m)=a++[47]++List.intercalate [47] (b::m):=fun a b m=>by simp[List.intercalate]
  rw[List.cons_append,List.cons_append,e,e]
  rw[List.cons_append]at this
  rw[this]
  simp
theorem JlG(l:List (List UInt8))(n:Nat)(hn:n≤l.length)(hw:wgt (l.take n)≤4294967296):∀ k i:Nat,i+k=n →
  Ji (Kw l) (List.intercalate [47] (l.take i),n,(n:Int),(i:Int))=some (if XC (List.intercalate [47] (l.take n))=true then List.intercalate [47] (l.take n) else []):=by
 have hl:n≤4294967296:=by
  have:=ZQ (l.take n)
  rw[List.length_take]at this
  omega
 intro k
 induction k with
 | zero =>
  intro i hi
  obtain rfl:i=n:=by omega
  have:=Jcj (l.take i)
  refine lend (b:=Kw l) ?_
  simp only[Kw,ltI,decide_eq_true_eq]
  rw[if_neg (by omega),JdM _ (by omega)]
  simp only[Option.bind_some]
  cases XC (List.intercalate [47] (l.take i)) <;> rfl
 | succ k ih =>
  intro i hi
  have htk:l.take (i+1)=l.take i++[l.getD i default]:=by
   rw[List.take_add_one,List.getElem?_eq_getElem (by omega),List.getD_eq_getElem?_getD,List.getElem?_eq_getElem (by omega)]; rfl
  have hwi:wgt (l.take (i+1))≤wgt (l.take n):=by
   have:l.take n=l.take (i+1)++(l.take n).drop (i+1):=by
    have:=(List.take_append_drop (i+1) (l.take n)).symm
    rwa [List.take_take,Nat.min_eq_left (by omega)]at this
   rw[this,Jd4]
   omega
  have hin:=Jcj (l.take (i+1))
  have hsn:=JeY (l.getD i default) (l.take i)
  rw[← htk]at hsn
  have hb:Kw l (List.intercalate [47] (l.take i),n,(n:Int),(i:Int))=some (.inl (List.intercalate [47] (l.take (i+1)),n,(n:Int),((i+1:Nat):Int))):=by
   rw[hsn]at hin ⊢
   simp only[Kw,ltI,decide_eq_true_eq,Int.toNat_natCast,V3,wN1 i (by omega)]
   rw[if_pos (by omega),if_pos ⟨by omega,by omega⟩,if_pos (by omega)]
   by_cases h0:0<i
   ·have hne:¬ l.take i=[]:=by
     intro h
     have:=congrArg List.length h
     rw[List.length_take,List.length_nil]at this
     omega
    rw[if_neg hne]at hin ⊢
    simp only[List.length_append,List.length_cons,List.length_nil]at hin ⊢
    rw[if_pos (by omega),if_pos (by omega),if_pos (by omega)]
   ·obtain rfl:i=0:=by omega
    rw[if_neg (by omega)]
    have hnil:List.intercalate [47] (List.take 0 l)=[]:=rfl
    have hgd:(l.getD 0 default).length+1≤4294967296+1:=by
     have:=JcJ (l:=l.take (0+1)) (x:=l.getD 0 default) (by rw[htk]; simp)
     omega
    rw[if_pos (show List.take 0 l=[] from rfl),if_pos (show(List.intercalate [47] (List.take 0 l)).length+(l.getD 0 default).length≤9223372036854775807 by rw[hnil,List.length_nil]; omega),hnil]
    rfl
  rw[KW hb]
  exact ih (i+1) (by omega)
theorem JkZ(ps:List (List UInt8))(hps:ps.length≤1099511627776):∀ (k i n:Nat) (l:List (List UInt8)),i+k=ps.length→n≤l.length→n+k≤1099511627776→wgt (l.take n)+wgt (ps.drop i)≤4294967296 →
  Ji (J5 ps) (n,(ps.length:Int),(i:Int),l)=some (match upV (l.take n) (ps.drop i) with | none=>[] | some up=>if XC (List.intercalate [47] up)=true then List.intercalate [47] up else []):=by
 intro k
 induction k with
 | zero =>
  intro i n l hi hn _ hw
  rw[List.drop_of_length_le (by omega)]at hw ⊢
  simp only[upV]
  have hb:J5 ps (n,(ps.length:Int),(i:Int),l)=inrO (Ji (Kw l) ([],n,(n:Int),0)):=by
   simp only[J5,ltI,decide_eq_true_eq]
   rw[if_neg (by omega)]
  have hj:=JlG l n hn (by omega) n 0 (by omega)
  rw[List.take_zero]at hj
  have hj:Ji (Kw l) ([],n,(n:Int),0)=_:=hj
  rw[hj]at hb
  rw[lend hb]
 | succ k ih =>
  intro i n l hi hn hnk hw
  have hil:i<ps.length:=by omega
  rw[X3 ps i default hil]at hw ⊢
  have hwx:∀ r:List (List UInt8),wgt (ps.getD i default::r)=(ps.getD i default).length+1+wgt r:=fun r=>by simp[wgt]
  rw[hwx]at hw
  simp only[upV]
  generalize hx:ps.getD i default=x at *
  have hb0:J5 ps (n,(ps.length:Int),(i:Int),l)=(if(eqS x [46,46])=true then if(eqI (n:Int) 0)=true then inrO (some []) else if(0:Int)≤0∧0≤(IntKind.i64.wrap ((n:Int)-1))∧(IntKind.i64.wrap ((n:Int)-1))≤(n:Int) then Kh (ps.length:Int) (i:Int) ((IntKind.i64.wrap ((n:Int)-1)).toNat,l) else none else if(!eqS x [46])=true then if n≤l.length∧(n + [x].length) * 16≤140737488355328 then Kh (ps.length:Int) (i:Int) (n + [x].length,(List.take n l)++[x]) else none else Kh (ps.length:Int) (i:Int) (n,l)):=by
   simp only[J5,Int.toNat_natCast,hx]
   rw[if_pos (show ltI (i:Int) (ps.length:Int)=true by simp only[ltI,decide_eq_true_eq]; omega),if_pos ⟨by omega,hil⟩]
  by_cases h1:x=[46]
  ·have hb:J5 ps (n,(ps.length:Int),(i:Int),l)=some (.inl (n,(ps.length:Int),((i+1:Nat):Int),l)):=by
    rw[hb0,if_neg (by simp[eqS,h1]),if_neg (JkW h1)]
    simp only[Kh,wN1 i (by omega)]
   rw[KW hb,if_pos h1,ih (i+1) n l (by omega) hn (by omega) (by omega)]
  ·rw[if_neg h1]
   by_cases h2:x=[46,46]
   ·rw[if_pos h2]
    by_cases h3:n=0
    ·subst h3
     have hb:J5 ps (0,(ps.length:Int),(i:Int),l)=some (.inr []):=by
      rw[hb0,if_pos (by simp[eqS,h2]),if_pos (by rfl)]
      rfl
     rw[lend hb]
     simp
    ·have h4:l.take n≠[]:=by
      intro h
      have:=congrArg List.length h
      rw[List.length_take,List.length_nil]at this
      omega
     have e:(l.take n).dropLast=l.take (n-1):=by rw[List.dropLast_eq_take,List.take_take,List.length_take]; congr 1; omega
     have hb:J5 ps (n,(ps.length:Int),(i:Int),l)=some (.inl (n-1,(ps.length:Int),((i+1:Nat):Int),l)):=by
      rw[hb0,if_pos (by simp[eqS,h2]),if_neg (by simp[eqI]; omega),wNm n (by omega),if_pos (by omega)]
      simp only[Kh,wN1 i (by omega),Int.toNat_natCast]
     have hwd:=JcM (l.take n)
     rw[KW hb,if_neg h4,ih (i+1) (n-1) l (by omega) (by omega) (by omega) (by rw[← e]; omega),e]
   ·rw[if_neg h2]
    have hl:(l.take n).length=n:=by rw[List.length_take]; omega
    have hb:J5 ps (n,(ps.length:Int),(i:Int),l)=some (.inl (n+1,(ps.length:Int),((i+1:Nat):Int),l.take n++[x])):=by
     rw[hb0,if_neg (by simp[eqS,h2]),if_pos (Jm3 h1),if_pos (by simp only[List.length_cons,List.length_nil]; omega)]
     simp only[Kh,wN1 i (by omega),List.length_cons,List.length_nil]
    have htl:List.take (n+1) (l.take n++[x])=l.take n++[x]:=List.take_of_length_le (by rw[List.length_append,hl]; exact Nat.le_refl _)
    have hwa:wgt (l.take n++[x])=wgt (l.take n)+(x.length+1):=by rw[Jd4]; simp[wgt]
    rw[KW hb,ih (i+1) (n+1) (l.take n++[x]) (by omega) (by rw[List.length_append,hl]; exact Nat.le_refl _) (by omega) (by rw[htl,hwa]; omega),htl]
theorem JbF(a b:List UInt8)(ha:a.length≤1073741824)(hb:b.length≤1073741824):K7 a b=some (ZN a b):=by
 have h1:=ZG 47 a
 have h2:=ZG 47 b
 have h3:=ZQ (splV 47 a)
 have h4:=ZQ (splV 47 b)
 have hd:=JcM (splV 47 a)
 have g1:wgt (splV 47 a)=a.length+1:=h1
 have g2:wgt (splV 47 b)=b.length+1:=h2
 obtain⟨p,ps,hp⟩:=Ja7 47 a
 have hpos:0<(splV 47 a).length:=by rw[hp]; simp
 unfold K7
 rw[JdH a (by omega),JdH b (by omega)]
 simp only[Option.bind_some]
 rw[wNm _ (by omega),if_pos (by omega)]
 simp only[Int.toNat_natCast]
 rw[if_pos (by rw[List.length_take]; omega),← List.dropLast_eq_take]
 have:=JkZ (splV 47 b) (by omega) (splV 47 b).length 0 (splV 47 a).dropLast.length (splV 47 a).dropLast (by omega) (Nat.le_refl _) (by rw[List.length_dropLast]; omega) (by rw[List.take_length,List.drop_zero]; omega)
 rw[List.take_length,List.drop_zero]at this
 exact this
theorem Jiy(l:List Source)(k:Int)(p:List UInt8)(q:Bool)(hl:l.length≤1099511627776)(hp:p.length≤1073741824)(hs:∀ f∈l,f.Path.length≤1073741824):VS l k p q=some (JcU l k p q):=by
 unfold VS JcU
 simp only[ltI,leI,decide_eq_true_eq,VP,VM]
 by_cases h1:k<0
 ·rw[if_pos h1,if_pos (show k<0∨(l.length:Int)≤k from .inl h1)]
  rfl
 ·rw[if_neg h1]
  by_cases h2:(l.length:Int)≤k
  ·rw[if_pos h2,if_pos (show k<0∨(l.length:Int)≤k from .inr h2)]
  ·rw[if_neg h2,if_neg (show ¬ (k<0∨(l.length:Int)≤k) by omega)]
   cases q with
   | false =>
    simp only[Bool.not_false,if_true]
    rw[JbF _ _ (by decide) hp]
    simp only[Option.bind_some]
    rw[JcY _ _ hl]
    rfl
   | true =>
    have hk:k.toNat<l.length:=by omega
    simp only[Bool.not_true,Bool.false_eq_true,if_false,reduceCtorEq]
    rw[if_pos ⟨by omega,hk⟩,JbF _ _ (hs _ (XO l _ default hk)) hp]
    simp only[Option.bind_some]
    rw[JcY _ _ hl]
    simp only[Option.bind_some]
    by_cases h3:0≤Jcb l (ZN (l.getD k.toNat default).Path p)
    ·rw[if_neg (by omega),if_pos h3]
    ·rw[if_pos (by omega),if_neg h3,JbF _ _ (by decide) hp]
     simp only[Option.bind_some]
     rw[JcY _ _ hl]
     rfl
end Go.Proofs.YtfkhlbhjhdpkoaaDoor
namespace Go.Proofs.YtfkhlbhjhdpkoaaDoor
open Go.RowKit
theorem Xb{a b c:Edit}(h:kle a b)(k:kle b c):kle a c:=by unfold kle at *; omega
theorem Jhs(a:Edit):kle a a:=by unfold kle; omega
def cmpV(x y:Int):Int:=if x<y then -1 else if y<x then 1 else 0
theorem Jdf(x y:Int):Vd x y=some (cmpV x y):=by
 unfold Vd Xt cmpV
 have h:∀ z:Int,(!eqI z z)=false:=fun z=>by simp[eqI]
 simp only[h,Option.bind_some,Bool.false_eq_true,if_false,ltI,decide_eq_true_eq]
 by_cases h1:x<y
 ·rw[if_pos h1,if_pos h1]
 ·rw[if_neg h1,if_neg h1]
  by_cases h2:y<x
  ·rw[if_pos h2,if_pos h2]
  ·rw[if_neg h2,if_neg h2]
theorem Jnn(a b c:Int):ZT [a,b,c]=some (if a≠0 then a else if b≠0 then b else c):=by
 unfold ZT
 have s0:VA [a,b,c] (3,0)=if(!eqI a 0)=true then some (.inr a) else some (.inl (3,1)):=rfl
 have s1:VA [a,b,c] (3,1)=if(!eqI b 0)=true then some (.inr b) else some (.inl (3,2)):=rfl
 have s2:VA [a,b,c] (3,2)=if(!eqI c 0)=true then some (.inr c) else some (.inl (3,3)):=rfl
 have s3:VA [a,b,c] (3,3)=some (.inr 0):=rfl
 show Ji (VA [a,b,c]) (3,0)=_
 by_cases h1:a=0
 ·rw[if_neg (by simpa using h1)]
  rw[if_neg (Jad h1)]at s0
  rw[KW s0]
  by_cases h2:b=0
  ·rw[if_neg (by simpa using h2)]
   rw[if_neg (Jad h2)]at s1
   rw[KW s1]
   by_cases h3:c=0
   ·rw[if_neg (Jad h3)]at s2
    rw[KW s2,lend s3,h3]
   ·rw[if_pos (Jbn h3)]at s2
    rw[lend s2]
  ·rw[if_pos h2]
   rw[if_pos (Jbn h2)]at s1
   rw[lend s1]
 ·rw[if_pos h1]
  rw[if_pos (Jbn h1)]at s0
  rw[lend s0]
def kltB(a b:Edit):Bool:=decide (a.File<b.File∨a.File=b.File∧(a.From<b.From∨a.From=b.From∧a.To<b.To))
theorem JaY{a b:Edit}:kltB a b=false↔kle b a:=by
 unfold kltB kle
 rw[decide_eq_false_iff_not]
 omega
theorem Jbs{a b:Edit}(h:kltB a b=true):kle a b:=by
 unfold kltB at h
 rw[decide_eq_true_eq]at h
 unfold kle
 omega
theorem JcR(a b:Edit):∃ o,VL a b=some o∧ltI o 0=kltB a b:=by
 unfold VL
 rw[Jdf,Jdf,Jdf]
 simp only[Option.bind_some,Jnn]
 refine⟨_,rfl,?_⟩
 unfold ltI kltB
 apply decide_eq_decide.2
 unfold cmpV
 split <;> (repeat' split) <;> omega
theorem swp{A:Type}(P M Q:List A)(x y:A):List.set (List.set (P++x::(M++y::Q)) P.length y) (P.length+1+M.length) x=P++y::(M++x::Q):=by
 rw[List.set_append_right _ _ (Nat.le_refl _),Nat.sub_self,List.set_cons_zero,List.set_append_right _ _ (by omega),show P.length+1+M.length-P.length=M.length+1 by omega,List.set_cons_succ,List.set_append_right _ _ (Nat.le_refl _),Nat.sub_self,List.set_cons_zero]
theorem getM{A:Type}(P Q:List A)(x d:A):(P++x::Q).getD P.length d=x:=by
 rw[List.getD_eq_getElem?_getD,List.getElem?_append_right (Nat.le_refl _),Nat.sub_self]; rfl
theorem Jhh{A:Type}(P M Q:List A)(x y d:A):(P++x::(M++y::Q)).getD (P.length+1+M.length) d=y:=by
 have:=getM (P++x::M) Q y d
 rw[List.length_append,List.length_cons]at this
 rw[show P++x::(M++y::Q)=P++x::M++y::Q by simp,show P.length+1+M.length=P.length+(M.length+1) by omega]
 exact this
theorem JlV(n:Nat)(p m q:List Edit)(hB:(p.length+n+m.length+n+q.length)≤1099511627776):∀ (x z zd xd:List Edit),x.length=z.length→zd.length=xd.length→zd.length+x.length=n →
  Ji (JC (p.length:Int) ((p.length+n+m.length:Nat):Int) (n:Int)) ((zd.length:Int),p++zd++x++m++xd++z++q)=some (p++zd++z++m++xd++x++q)
 | [],z,zd,xd,hxz,h2,h3=>by
  obtain rfl:z=[]:=List.eq_nil_of_length_eq_zero (by simpa using hxz.symm)
  refine lend (b:=JC (p.length:Int) ((p.length+n+m.length:Nat):Int) (n:Int)) ?_
  simp only[JC,ltI,decide_eq_true_eq]
  rw[if_neg (by simp only[List.length_nil]at h3; omega)]
  rfl
 | x::xs,[],zd,xd,hxz,_,_=>by simp at hxz
 | x::xs,z::zs,zd,xd,hxz,h2,h3=>by
  simp only[List.length_cons,Nat.add_right_cancel_iff]at hxz h3
  have hl:p++zd++(x::xs)++m++xd++(z::zs)++q=(p++zd)++x::((xs++m++xd)++z::(zs++q)):=by simp
  have hlen:((p++zd)++x::((xs++m++xd)++z::(zs++q))).length=p.length+n+m.length+n+q.length:=by
   simp only[List.length_append,List.length_cons]; omega
  have hi:(p++zd).length=p.length+zd.length:=List.length_append
  have hj:(p++zd).length+1+(xs++m++xd).length=p.length+n+m.length+zd.length:=by simp only[List.length_append]; omega
  have g1:=getM (p++zd) ((xs++m++xd)++z::(zs++q)) x default
  have g2:=Jhh (p++zd) (xs++m++xd) (zs++q) x z default
  have g3:=swp (p++zd) (xs++m++xd) (zs++q) x z
  rw[hj]at g2 g3
  rw[hi]at g1 g3
  have hstep:JC (p.length:Int) ((p.length+n+m.length:Nat):Int) (n:Int) ((zd.length:Int),p++zd++(x::xs)++m++xd++(z::zs)++q)=some (.inl (((zd.length+1:Nat):Int),(p++zd)++z::((xs++m++xd)++x::(zs++q)))):=by
   rw[hl]
   simp only[JC,ltI,decide_eq_true_eq]
   rw[if_pos (by omega),wr ((((p.length+n+m.length:Nat):Int))+(zd.length:Int)) (by omega),wr ((p.length:Int)+(zd.length:Int)) (by omega),wN1 zd.length (by omega)]
   rw[show((((p.length+n+m.length:Nat):Int))+(zd.length:Int)).toNat=p.length+n+m.length+zd.length by omega,show((p.length:Int)+(zd.length:Int)).toNat=p.length+zd.length by omega]
   rw[hlen,List.length_set,hlen,g1,g2,g3]
   rw[if_pos (by omega),if_pos (by omega),if_pos (by omega),if_pos (by omega),if_pos (by omega),if_pos (by omega),if_pos (by omega),if_pos (by omega)]
  rw[KW hstep]
  have ih:=JlV n p m q hB xs zs (zd++[z]) (xd++[x]) hxz (by simp[h2]) (by simp only[List.length_append,List.length_cons,List.length_nil]; omega)
  rw[List.length_append,List.length_cons,List.length_nil]at ih
  rw[show(p++zd)++z::((xs++m++xd)++x::(zs++q))=p++(zd++[z])++xs++m++(xd++[x])++zs++q by simp]
  rw[ih]
  simp
theorem Jb1(p x m z q:List Edit)(h:x.length=z.length)(hB:(p++x++m++z++q).length≤1099511627776):
  JH (p.length:Int) ((p.length+x.length+m.length:Nat):Int) (x.length:Int) (p++x++m++z++q)=some (p++z++m++x++q):=by
 have:=JlV x.length p m q (by simp only[List.length_append]at hB; omega) x z [] [] h rfl (by simp)
 simpa [JH] using this
theorem rotR:∀ (n:Nat) (p u v q:List Edit),u.length+v.length≤n→0<u.length→0<v.length→(p++u++v++q).length≤1099511627776 →
  Ji (Ju ((p.length+u.length:Nat):Int)) ((u.length:Int),(v.length:Int),p++u++v++q)=some (p++v++u++q)
 | 0,p,u,v,q,hn,hu,hv,hB=>by omega
 | n+1,p,u,v,q,hn,hu,hv,hB=>by
  have hL:p.length+u.length+v.length+q.length≤1099511627776:=by simpa only[List.length_append] using hB
  rcases Nat.lt_trichotomy u.length v.length with h | h | h
  ·-- the second one is longer
   obtain⟨v1,v2,rfl,h2⟩:∃ v1 v2,v=v1++v2∧v2.length=u.length:=⟨v.take (v.length-u.length),v.drop (v.length-u.length),(List.take_append_drop _ _).symm,by rw[List.length_drop]; omega⟩
   rw[List.length_append]at h hn hL hv
   have hs:=Jb1 p u v1 v2 q h2.symm (by simp only[List.length_append]at hB ⊢; omega)
   have hstep:Ju ((p.length+u.length:Nat):Int) ((u.length:Int),((v1++v2).length:Int),p++u++(v1++v2)++q)=some (.inl ((u.length:Int),(v1.length:Int),p++v2++v1++u++q)):=by
    simp only[Ju]
    rw[if_pos (Jbn (by rw[List.length_append]; omega)),if_neg (by simp only[ltI,decide_eq_true_eq,List.length_append]; omega)]
    rw[List.length_append,wr (((p.length+u.length:Nat):Int)-(u.length:Int)) (by omega),wr (((p.length+u.length:Nat):Int)+((v1.length+v2.length:Nat):Int)) (by omega)]
    rw[wr ((((p.length+u.length:Nat):Int)+((v1.length+v2.length:Nat):Int))-(u.length:Int)) (by omega),wr (((v1.length+v2.length:Nat):Int)-(u.length:Int)) (by omega)]
    rw[show((p.length+u.length:Nat):Int)-(u.length:Int)=(p.length:Int) by omega,show((p.length+u.length:Nat):Int)+((v1.length+v2.length:Nat):Int)-(u.length:Int)=((p.length+u.length+v1.length:Nat):Int) by omega]
    rw[show p++u++(v1++v2)++q=p++u++v1++v2++q by simp,hs]
    simp only[Option.bind_some]
    rw[if_pos (by simp only[List.length_append]; omega),show((v1.length+v2.length:Nat):Int)-(u.length:Int)=(v1.length:Int) by omega]
   rw[KW hstep]
   have ih:=rotR n p v2 v1 (u++q) (by omega) (by omega) (by omega) (by simp only[List.length_append]; omega)
   rw[h2]at ih
   rw[show p++v2++v1++u++q=p++v2++v1++(u++q) by simp,ih]
   simp
  ·have hs:=Jb1 p u [] v q h (by simpa using hB)
   refine lend (b:=Ju ((p.length+u.length:Nat):Int)) ?_
   simp only[Ju]
   rw[if_neg (Jad (by omega)),wr (((p.length+u.length:Nat):Int)-(u.length:Int)) (by omega),show((p.length+u.length:Nat):Int)-(u.length:Int)=(p.length:Int) by omega]
   simp only[List.append_nil,List.length_nil,Nat.add_zero]at hs
   rw[hs]
   simp only[Option.bind_some]
   rw[if_pos (by simp only[List.length_append]; omega)]
   rfl
  ·obtain⟨u1,u2,rfl,h2⟩:∃ u1 u2,u=u1++u2∧u1.length=v.length:=⟨u.take v.length,u.drop v.length,(List.take_append_drop _ _).symm,by rw[List.length_take]; omega⟩
   rw[List.length_append]at h hn hL hu
   have hs:=Jb1 p u1 u2 v q h2 (by simp only[List.length_append]at hB ⊢; omega)
   have hstep:Ju ((p.length+(u1++u2).length:Nat):Int) (((u1++u2).length:Int),(v.length:Int),p++(u1++u2)++v++q)=some (.inl ((u2.length:Int),(v.length:Int),p++v++u2++u1++q)):=by
    simp only[Ju]
    rw[if_pos (Jbn (by rw[List.length_append]; omega)),if_pos (by simp only[ltI,decide_eq_true_eq,List.length_append]; omega)]
    rw[List.length_append,wr (((p.length+(u1.length+u2.length):Nat):Int)-((u1.length+u2.length:Nat):Int)) (by omega),wr (((u1.length+u2.length:Nat):Int)-(v.length:Int)) (by omega)]
    rw[show((p.length+(u1.length+u2.length):Nat):Int)-((u1.length+u2.length:Nat):Int)=(p.length:Int) by omega,show((p.length+(u1.length+u2.length):Nat):Int)=((p.length+u1.length+u2.length:Nat):Int) by omega,← h2]
    rw[show p++(u1++u2)++v++q=p++u1++u2++v++q by simp,hs]
    simp only[Option.bind_some]
    rw[if_pos (by simp only[List.length_append]; omega),show((u1.length+u2.length:Nat):Int)-(u1.length:Int)=(u2.length:Int) by omega]
   rw[KW hstep]
   have ih:=rotR n (p++v) u2 u1 q (by omega) (by omega) (by omega) (by simp only[List.length_append]; omega)
   rw[show((p++v).length+u2.length)=p.length+(u1++u2).length by simp only[List.length_append]; omega,h2]at ih
   rw[ih]
   simp
theorem Jkw(p u v q:List Edit)(hu:0<u.length)(hv:0<v.length)(hB:(p++u++v++q).length≤1099511627776):
  Ki (p.length:Int) ((p.length+u.length:Nat):Int) ((p.length+u.length+v.length:Nat):Int) (p++u++v++q)=some (p++v++u++q):=by
 have hL:p.length+u.length+v.length+q.length≤1099511627776:=by simpa only[List.length_append] using hB
 unfold Ki
 rw[wr _ (by omega),wr _ (by omega),show((p.length+u.length:Nat):Int)-(p.length:Int)=(u.length:Int) by omega,show((p.length+u.length+v.length:Nat):Int)-((p.length+u.length:Nat):Int)=(v.length:Int) by omega]
 exact rotR _ p u v q (Nat.le_refl _) hu hv hB
end Go.Proofs.YtfkhlbhjhdpkoaaDoor
namespace Go.Proofs.YtfkhlbhjhdpkoaaDoor
open Go.RowKit
theorem swpD{A:Type}(P M Q:List A)(x y:A):List.set (List.set (P++x::(M++y::Q)) (P.length+1+M.length) x) P.length y=P++y::(M++x::Q):=by
 rw[List.set_comm _ _ (by omega),swp]
theorem insI(p r:List Edit)(y:Edit)(i:Nat)(hi:i≤1099511627776):∀ (n:Nat) (s1 s2:List Edit),s1.length=n→(s1++s2).Pairwise kle→(∀ e∈s2,kle y e)→p.length+n+s2.length+r.length+1≤1099511627776 →
  ∃ w,Ji (Jw (p.length:Int) (i:Int)) (((p.length+n:Nat):Int),p++s1++y::(s2++r))=some (.inl (((i+1:Nat):Int),p++w++r))∧w.Perm (y::(s1++s2))∧w.Pairwise kle
 | 0,s1,s2,h1,h2,h3,hB=>by
  obtain rfl:s1=[]:=List.eq_nil_of_length_eq_zero h1
  refine⟨y::s2,?_,.refl _,List.pairwise_cons.2 ⟨h3,h2⟩⟩
  refine lend (b:=Jw (p.length:Int) (i:Int)) ?_
  simp only[Jw,ltI,decide_eq_true_eq]
  rw[if_neg (by omega)]
  simp only[Jo,Bool.false_eq_true,if_false,wN1 i (by omega)]
  simp[inrO]
 | n+1,s1,s2,h1,h2,h3,hB=>by
  obtain⟨t,z,rfl⟩:∃ t z,s1=t++[z]:=by
   rcases List.eq_nil_or_concat s1 with rfl | ⟨t,z,rfl⟩
   ·simp at h1
   ·exact⟨t,z,by simp⟩
  have ht:t.length=n:=by simpa using h1
  have hl:p++(t++[z])++y::(s2++r)=(p++t)++z::([]++y::(s2++r)):=by simp
  have hpt:(p++t).length=p.length+n:=by rw[List.length_append,ht]
  have hlen:((p++t)++z::([]++y::(s2++r))).length=p.length+n+2+s2.length+r.length:=by simp only[List.length_append,List.length_cons,List.length_nil]; omega
  have g1:=getM (p++t) ([]++y::(s2++r)) z default
  have g2:=Jhh (p++t) [] (s2++r) z y default
  have g3:=swpD (p++t) [] (s2++r) z y
  simp only[List.length_nil,Nat.add_zero]at g2 g3
  rw[hpt]at g1 g2 g3
  obtain⟨o,ho,hk⟩:=JcR y z
  have hW:IntKind.i64.wrap (((p.length+(n+1):Nat):Int)-1)=((p.length+n:Nat):Int):=by rw[wr _ (by omega)]; omega
  have hb:Jw (p.length:Int) (i:Int) (((p.length+(n+1):Nat):Int),p++(t++[z])++y::(s2++r))=Jo (i:Int) ((p.length+(n+1):Nat):Int) ((p++t)++z::([]++y::(s2++r))) (kltB y z):=by
   rw[hl]
   simp only[Jw,ltI,decide_eq_true_eq,hW,Int.toNat_natCast]
   rw[hlen,if_pos (by omega),if_pos (by omega),if_pos (by omega),if_pos (by omega),if_pos (by omega),show p.length+(n+1)=p.length+n+1 by omega,g1,g2,ho]
   simp only[Option.bind_some]
   rw[← hk]; rfl
  cases hz:kltB y z with
  | true =>
   have hj:Jo (i:Int) ((p.length+(n+1):Nat):Int) ((p++t)++z::([]++y::(s2++r))) true=some (.inl (((p.length+n:Nat):Int),(p++t)++y::([]++z::(s2++r)))):=by
    simp only[Jo,if_true,hW,Int.toNat_natCast]
    rw[List.length_set,hlen,show p.length+(n+1)=p.length+n+1 by omega,g1,g2,g3]
    rw[if_pos (by omega),if_pos (by omega),if_pos (by omega),if_pos (by omega),if_pos (by omega),if_pos (by omega),if_pos (by omega),if_pos (by omega)]
   rw[hz,hj]at hb
   rw[KW hb]
   obtain⟨w,q1,q2,q3⟩:=insI p r y i hi n t (z::s2) ht (by simpa using h2) (fun e he=>by
    rcases List.mem_cons.1 he with rfl | he
    ·exact Jbs hz
    ·exact h3 e he) (by simp only[List.length_cons]; omega)
   refine⟨w,?_,?_,q3⟩
   ·rw[← q1]; simp
   ·simpa using q2
  | false =>
   have hj:Jo (i:Int) ((p.length+(n+1):Nat):Int) ((p++t)++z::([]++y::(s2++r))) false=some (.inr (.inl (((i+1:Nat):Int),(p++t)++z::([]++y::(s2++r))))):=by
    simp only[Jo,Bool.false_eq_true,if_false,wN1 i (by omega)]
    rfl
   rw[hz,hj]at hb
   rw[lend hb]
   have hzy:=JaY.1 hz
   refine⟨t++[z]++y::s2,by simp,?_,?_⟩
   ·exact List.perm_middle
   ·obtain⟨a1,a2,a3⟩:=List.pairwise_append.1 h2
    refine List.pairwise_append.2 ⟨a1,List.pairwise_cons.2 ⟨h3,a2⟩,fun x hx e he=>?_⟩
    have hxz:kle x z:=by
     rcases List.mem_append.1 hx with hx | hx
     ·exact(List.pairwise_append.1 a1).2.2 x hx z (by simp)
     ·rw[List.mem_singleton]at hx; subst hx; exact Jhs _
    rcases List.mem_cons.1 he with rfl | he
    ·exact Xb hxz hzy
    ·exact a3 x hx e he
theorem insO(p q:List Edit)(N:Nat):∀ (t s:List Edit),s.Pairwise kle→p.length+s.length+t.length=N→(p++s++t++q).length≤1099511627776-1 →
  ∃ w,Ji (Jn (p.length:Int) (N:Int)) (((p.length+s.length:Nat):Int),p++s++t++q)=some (p++w++q)∧w.Perm (s++t)∧w.Pairwise kle
 | [],s,hs,hN,hB=>by
  refine⟨s,?_,by simp,hs⟩
  refine lend (b:=Jn (p.length:Int) (N:Int)) ?_
  simp only[Jn,ltI,decide_eq_true_eq]
  rw[if_neg (by simp only[List.length_nil]at hN; omega)]
  simp[inrO]
 | y::t,s,hs,hN,hB=>by
  simp only[List.length_append,List.length_cons]at hB hN
  obtain⟨w1,q1,q2,q3⟩:=insI p (t++q) y (p.length+s.length) (by omega) s.length s [] rfl (by simpa using hs) (by simp) (by simp only[List.length_nil,List.length_append]; omega)
  have hb:Jn (p.length:Int) (N:Int) (((p.length+s.length:Nat):Int),p++s++(y::t)++q)=some (.inl (((p.length+s.length+1:Nat):Int),p++w1++t++q)):=by
   simp only[Jn,ltI,decide_eq_true_eq]
   rw[if_pos (by omega),show p++s++(y::t)++q=p++s++y::([]++(t++q)) by simp,q1]
   simp
  have hw:w1.length=s.length+1:=by simpa using q2.length_eq
  rw[KW hb]
  obtain⟨w,r1,r2,r3⟩:=insO p q N t w1 q3 (by omega) (by simp only[List.length_append]; omega)
  rw[hw]at r1
  refine⟨w,r1,r2.trans ?_,r3⟩
  have:=(q2.append_right t)
  simp only[List.append_nil]at this
  exact this.trans (by simpa using (List.perm_middle (l₁:=s) (a:=y) (l₂:=t)).symm)
theorem Jd1(p u q:List Edit)(hB:(p++u++q).length≤1099511627776-1):∃ w,JG (p.length:Int) ((p.length+u.length:Nat):Int) (p++u++q)=some (p++w++q)∧w.Perm u∧w.Pairwise kle:=by
 simp only[List.length_append]at hB
 unfold JG
 rw[wN1 _ (by omega)]
 cases u with
 | nil =>
  refine⟨[],?_,.refl _,by simp⟩
  refine lend (b:=Jn (p.length:Int) _) ?_
  simp only[Jn,ltI,decide_eq_true_eq]
  rw[if_neg (by simp only[List.length_nil]; omega)]
  rfl
 | cons x t =>
  have:=insO p q (p.length+(x::t).length) t [x] (by simp) (by simp only[List.length_cons,List.length_nil]; omega) (by simp only[List.length_append,List.length_cons,List.length_nil]at hB ⊢; omega)
  simpa using this
theorem Jeh(i j:Nat)(h:i+j≤1099511627776 * 4):IntKind.i64.wrap (Int.fdiv (IntKind.u64.wrap (IntKind.i64.wrap ((i:Int)+(j:Int)))) (2 ^ (min 1 IntKind.u64.bits)))=(((i+j) / 2:Nat):Int):=by
 rw[wr ((i:Int)+(j:Int)) (by omega)]
 have h1:IntKind.u64.wrap ((i:Int)+(j:Int))=((i+j:Nat):Int):=by
  rw[← Int.natCast_add]
  show((i+j:Nat):Int) % (2 ^ 64)=_
  exact Int.emod_eq_of_lt (by omega) (by omega)
 rw[h1]
 have h2:(2:Int) ^ (min 1 IntKind.u64.bits)=2:=rfl
 rw[h2]
 have h3:Int.fdiv ((i+j:Nat):Int) 2=(((i+j) / 2:Nat):Int):=by
  rw[Int.fdiv_eq_ediv_of_nonneg _ (by decide)]
  omega
 rw[h3,wr _ (by omega)]
theorem Jcz{S R:Type}{B:S→Option (S ⊕ R)}(mk:Nat→Nat→S)(P:Nat→Bool)(fin:Nat→Option R)(lo hi:Nat)
  (hB:∀ i j:Nat,lo≤i→j≤hi→i≤j→B (mk i j)=if i<j then(if P ((i+j) / 2)=true then some (.inl (mk ((i+j) / 2+1) j)) else some (.inl (mk i ((i+j) / 2)))) else inrO (fin i)) :
  ∀ (n i j:Nat),i≤j→j-i≤n→lo≤i→j≤hi→(i=lo∨P (i-1)=true)→(j=hi∨P j=false)→∃ c,i≤c∧c≤j∧Ji B (mk i j)=fin c∧(c=lo∨P (c-1)=true)∧(c=hi∨P c=false)
 | 0,i,j,h1,h2,h3,h4,h5,h6=>by
  obtain rfl:i=j:=by omega
  have hb:=hB i i h3 h4 (Nat.le_refl _)
  rw[if_neg (by omega)]at hb
  refine⟨i,by omega,by omega,?_,h5,h6⟩
  rw[XS,hb]
  cases fin i <;> rfl
 | n+1,i,j,h1,h2,h3,h4,h5,h6=>by
  have hb:=hB i j h3 h4 h1
  by_cases hij:i<j
  ·rw[if_pos hij]at hb
   cases hP:P ((i+j) / 2) with
   | true =>
    rw[hP,if_pos rfl]at hb
    rw[KW hb]
    obtain⟨c,c1,c2,c3⟩:=Jcz mk P fin lo hi hB n ((i+j) / 2+1) j (by omega) (by omega) (by omega) h4 (.inr (by simpa using hP)) h6
    exact⟨c,by omega,c2,c3⟩
   | false =>
    rw[hP,if_neg (by simp)]at hb
    rw[KW hb]
    obtain⟨c,c1,c2,c3⟩:=Jcz mk P fin lo hi hB n i ((i+j) / 2) (by omega) (by omega) h3 (by omega) h5 (.inr hP)
    exact⟨c,c1,by omega,c3⟩
  ·rw[if_neg hij]at hb
   obtain rfl:i=j:=by omega
   refine⟨i,by omega,by omega,?_,h5,h6⟩
   rw[XS,hb]
   cases fin i <;> rfl
end Go.Proofs.YtfkhlbhjhdpkoaaDoor
namespace Go.Proofs.YtfkhlbhjhdpkoaaDoor
open Go.RowKit
theorem mvR(x:Edit)(r:List Edit):∀ (v p:List Edit),p.length+v.length+r.length+1≤1099511627776 →
  Ji (Jy ((p.length+1+v.length:Nat):Int)) ((p.length:Int),p++x::(v++r))=some (p++v++x::r)
 | [],p,hB=>by
  refine lend (b:=Jy _) ?_
  simp only[Jy,ltI,decide_eq_true_eq]
  rw[wr _ (by omega),if_neg (by simp only[List.length_nil]; omega)]
  simp[inrO]
 | y::t,p,hB=>by
  simp only[List.length_cons]at hB
  have hlen:(p++x::([]++y::(t++r))).length=p.length+2+t.length+r.length:=by simp only[List.length_append,List.length_cons,List.length_nil]; omega
  have g1:=getM p ([]++y::(t++r)) x default
  have g2:=Jhh p [] (t++r) x y default
  have g3:=swp p [] (t++r) x y
  simp only[List.length_nil,Nat.add_zero]at g2 g3
  have hb:Jy ((p.length+1+(y::t).length:Nat):Int) ((p.length:Int),p++x::((y::t)++r))=some (.inl (((p.length+1:Nat):Int),p++y::([]++x::(t++r)))):=by
   rw[show p++x::((y::t)++r)=p++x::([]++y::(t++r)) by simp]
   simp only[Jy,ltI,decide_eq_true_eq]
   rw[wr (((p.length+1+(y::t).length:Nat):Int)-1) (by simp only[List.length_cons]; omega),wN1 p.length (by omega)]
   simp only[Int.toNat_natCast]
   rw[List.length_set,hlen,g1,g2,g3]
   rw[if_pos (by simp only[List.length_cons]; omega),if_pos (by omega),if_pos (by omega),if_pos (by omega),if_pos (by omega),if_pos (by omega),if_pos (by omega),if_pos (by omega),if_pos (by omega)]
  rw[KW hb]
  have ih:=mvR x r t (p++[y]) (by simp only[List.length_append,List.length_cons,List.length_nil]; omega)
  rw[List.length_append,List.length_cons,List.length_nil]at ih
  rw[show p.length+1+(y::t).length=p.length+(0+1)+1+t.length by simp only[List.length_cons]; omega]
  have:=ih
  simp only[List.append_assoc,List.cons_append,List.nil_append,Nat.zero_add]at this ⊢
  exact this
theorem mvL(y:Edit)(p:List Edit):∀ (n:Nat) (u r:List Edit),u.length=n→p.length+n+r.length+1≤1099511627776 →
  Ji (Jz (p.length:Int)) (((p.length+n:Nat):Int),p++u++y::r)=some (p++y::(u++r))
 | 0,u,r,hu,hB=>by
  obtain rfl:u=[]:=List.eq_nil_of_length_eq_zero hu
  refine lend (b:=Jz _) ?_
  simp only[Jz,ltI,decide_eq_true_eq]
  rw[if_neg (by omega)]
  simp[inrO]
 | n+1,u,r,hu,hB=>by
  obtain⟨t,z,rfl⟩:∃ t z,u=t++[z]:=by
   rcases List.eq_nil_or_concat u with rfl | ⟨t,z,rfl⟩
   ·simp at hu
   ·exact⟨t,z,by simp⟩
  have ht:t.length=n:=by simpa using hu
  have hpt:(p++t).length=p.length+n:=by rw[List.length_append,ht]
  have hlen:((p++t)++z::([]++y::r)).length=p.length+n+2+r.length:=by simp only[List.length_append,List.length_cons,List.length_nil]; omega
  have g1:=getM (p++t) ([]++y::r) z default
  have g2:=Jhh (p++t) [] r z y default
  have g3:=swpD (p++t) [] r z y
  simp only[List.length_nil,Nat.add_zero]at g2 g3
  rw[hpt]at g1 g2 g3
  have hb:Jz (p.length:Int) (((p.length+(n+1):Nat):Int),p++(t++[z])++y::r)=some (.inl (((p.length+n:Nat):Int),(p++t)++y::([]++z::r))):=by
   rw[show p++(t++[z])++y::r=(p++t)++z::([]++y::r) by simp]
   simp only[Jz,ltI,decide_eq_true_eq]
   rw[show IntKind.i64.wrap (((p.length+(n+1):Nat):Int)-1)=((p.length+n:Nat):Int) by rw[wr _ (by omega)]; omega]
   simp only[Int.toNat_natCast]
   rw[show p.length+(n+1)=p.length+n+1 by omega,List.length_set,hlen,g1,g2,g3]
   rw[if_pos (by omega),if_pos (by omega),if_pos (by omega),if_pos (by omega),if_pos (by omega),if_pos (by omega),if_pos (by omega),if_pos (by omega),if_pos (by omega)]
  rw[KW hb]
  have ih:=mvL y p n t (z::r) ht (by simp only[List.length_cons]; omega)
  simp only[List.append_assoc,List.cons_append,List.nil_append]at ih ⊢
  exact ih
theorem Je9{p u r:List Edit}{k:Nat}(h:k<u.length):(p++u++r).getD (p.length+k) default=u.getD k default:=by
 rw[List.getD_eq_getElem?_getD,List.getD_eq_getElem?_getD,List.append_assoc,List.getElem?_append_right (by omega),show p.length+k-p.length=k by omega,List.getElem?_append_left h]
theorem JbP(u:List Edit)(k:Nat)(h:k≤u.length):∃ u1 u2,u=u1++u2∧u1.length=k:=⟨u.take k,u.drop k,(List.take_append_drop _ _).symm,by rw[List.length_take]; omega⟩
theorem Jea{u:List Edit}(h:u.Pairwise kle){i j:Nat}(hij:i≤j)(hj:j<u.length):kle (u.getD i default) (u.getD j default):=by
 rw[List.getD_eq_getElem?_getD,List.getD_eq_getElem?_getD,List.getElem?_eq_getElem (by omega),List.getElem?_eq_getElem hj]
 rcases Nat.lt_or_eq_of_le hij with h1 | rfl
 ·exact List.pairwise_iff_getElem.1 h i j (by omega) hj h1
 ·exact Jhs _
theorem Jda{u1 u2:List Edit}(h:(u1++u2).Pairwise kle){e:Edit}(he:e∈u1):kle e ((u1++u2).getD (u1.length-1) default):=by
 obtain⟨i,hi,rfl⟩:=List.getElem_of_mem he
 have:=Jea h (show i≤u1.length-1 by omega) (by rw[List.length_append]; omega)
 have hg:(u1++u2).getD i default=u1[i]:=by rw[List.getD_eq_getElem?_getD,List.getElem?_append_left hi,List.getElem?_eq_getElem hi]; rfl
 rwa [hg]at this
theorem Jcl{u1 u2:List Edit}(h:(u1++u2).Pairwise kle){e:Edit}(he:e∈u2):kle ((u1++u2).getD u1.length default) e:=by
 obtain⟨i,hi,rfl⟩:=List.getElem_of_mem he
 have:=Jea h (show u1.length≤u1.length+i by omega) (by rw[List.length_append]; omega)
 have hg:(u1++u2).getD (u1.length+i) default=u2[i]:=by rw[List.getD_eq_getElem?_getD,List.getElem?_append_right (by omega),show u1.length+i-u1.length=i by omega,List.getElem?_eq_getElem hi]; rfl
 rwa [hg]at this
theorem JmZ(x:Edit)(p v q:List Edit)(hv:v.Pairwise kle)(hB:p.length+1+v.length+q.length≤1099511627776):
  ∃ w,Ji (JV (p.length:Int) (p++[x]++v++q)) (((p.length+1:Nat):Int),((p.length+1+v.length:Nat):Int))=some (p++w++q)∧w.Perm ([x]++v)∧w.Pairwise kle:=by
 have hlen:(p++[x]++v++q).length=p.length+1+v.length+q.length:=by simp only[List.length_append,List.length_cons,List.length_nil]
 have gx:(p++[x]++v++q).getD p.length default=x:=by simp
 have gv:∀ k,k<v.length→(p++[x]++v++q).getD (p.length+1+k) default=v.getD k default:=fun k hk=>by
  have:=Je9 (p:=p++[x]) (u:=v) (r:=q) hk
  rwa [List.length_append]at this
 obtain⟨c,c1,c2,c3,c4,c5⟩:=Jcz (B:=JV (p.length:Int) (p++[x]++v++q)) (fun i j=>((i:Int),(j:Int))) (fun h=>kltB ((p++[x]++v++q).getD h default) x)
  (fun i=>Ji (Jy (i:Int)) ((p.length:Int),p++[x]++v++q)) (p.length+1) (p.length+1+v.length) (fun i j h1 h2 h3=>by
   simp only[JV,ltI,decide_eq_true_eq]
   by_cases hij:i<j
   ·obtain⟨o,ho,hk⟩:=JcR ((p++[x]++v++q).getD ((i+j) / 2) default) x
    rw[if_pos (by omega),if_pos hij,if_pos (by omega),Jeh i j (by omega)]
    simp only[Int.toNat_natCast,gx,hlen]
    rw[if_pos (by omega),if_pos (by omega),if_pos (by omega),if_pos (by omega),ho]
    simp only[Option.bind_some,wN1 ((i+j) / 2) (by omega)]
    simp only[ltI]at hk
    rw[← hk]
    simp only[decide_eq_true_eq]
   ·rw[if_neg (by omega),if_neg hij]) _ (p.length+1) (p.length+1+v.length) (by omega) (Nat.le_refl _) (by omega) (Nat.le_refl _) (.inl rfl) (.inl rfl)
 obtain⟨v1,v2,rfl,hv1⟩:=JbP v (c-(p.length+1)) (by omega)
 simp only[List.length_append]at hB c2 c5 gv
 refine⟨v1++x::v2,?_,?_,?_⟩
 ·rw[c3]
  have:=mvR x (v2++q) v1 p (by simp only[List.length_append]; omega)
  rw[show p.length+1+v1.length=c by omega]at this
  simpa using this
 ·exact List.perm_middle
 ·obtain⟨a1,a2,a3⟩:=List.pairwise_append.1 hv
  refine List.pairwise_append.2 ⟨a1,List.pairwise_cons.2 ⟨fun e he=>?_,a2⟩,fun e he f hf=>?_⟩
  ·have h0:=List.length_pos_of_mem he
   have h5:=c5.resolve_left (by omega)
   rw[show c=p.length+1+v1.length by omega,gv _ (by omega)]at h5
   exact Xb (JaY.1 h5) (Jcl hv he)
  ·rcases List.mem_cons.1 hf with rfl | hf
   ·have h0:=List.length_pos_of_mem he
    have h4:=c4.resolve_left (by omega)
    rw[show c-1=p.length+1+(v1.length-1) by omega,gv _ (by omega)]at h4
    exact Xb (Jda hv he) (Jbs h4)
   ·exact a3 e he f hf
theorem Jna(y:Edit)(p u q:List Edit)(hu:u.Pairwise kle)(hB:p.length+u.length+1+q.length≤1099511627776):
  ∃ w,Ji (JX ((p.length+u.length:Nat):Int) (p++u++[y]++q)) ((p.length:Int),((p.length+u.length:Nat):Int))=some (p++w++q)∧w.Perm (u++[y])∧w.Pairwise kle:=by
 have hlen:(p++u++[y]++q).length=p.length+u.length+1+q.length:=by simp only[List.length_append,List.length_cons,List.length_nil]
 have gy:(p++u++[y]++q).getD (p.length+u.length) default=y:=by simp
 have gu:∀ k,k<u.length→(p++u++[y]++q).getD (p.length+k) default=u.getD k default:=fun k hk=>by
  have:=Je9 (p:=p) (u:=u) (r:=[y]++q) hk
  simpa using this
 obtain⟨c,c1,c2,c3,c4,c5⟩:=Jcz (B:=JX ((p.length+u.length:Nat):Int) (p++u++[y]++q)) (fun i j=>((i:Int),(j:Int))) (fun h=>!kltB y ((p++u++[y]++q).getD h default))
  (fun i=>Ji (Jz (i:Int)) (((p.length+u.length:Nat):Int),p++u++[y]++q)) p.length (p.length+u.length) (fun i j h1 h2 h3=>by
   simp only[JX]
   by_cases hij:i<j
   ·obtain⟨o,ho,hk⟩:=JcR y ((p++u++[y]++q).getD ((i+j) / 2) default)
    rw[if_pos (by simp only[ltI,decide_eq_true_eq]; omega),if_pos hij,if_pos (by omega),Jeh i j (by omega)]
    simp only[Int.toNat_natCast,gy,hlen]
    rw[if_pos (by omega),if_pos (by omega),if_pos (by omega),if_pos (by omega),ho]
    simp only[Option.bind_some,wN1 ((i+j) / 2) (by omega),hk]
   ·rw[if_neg (by simp only[ltI,decide_eq_true_eq]; omega),if_neg hij]) _ p.length (p.length+u.length) (by omega) (Nat.le_refl _) (Nat.le_refl _) (Nat.le_refl _) (.inl rfl) (.inl rfl)
 obtain⟨u1,u2,rfl,hu1⟩:=JbP u (c-p.length) (by omega)
 simp only[List.length_append]at hB c2 c5 gu
 refine⟨u1++y::u2,?_,?_,?_⟩
 ·rw[c3]
  have:=mvL y (p++u1) u2.length u2 q rfl (by simp only[List.length_append]; omega)
  rw[List.length_append,show p.length+u1.length=c by omega]at this
  rw[show p.length+(u1++u2).length=c+u2.length by simp only[List.length_append]; omega]
  simpa using this
 ·exact List.perm_middle.trans (List.perm_append_comm (l₁:=[y]) (l₂:=u1++u2))
 ·obtain⟨a1,a2,a3⟩:=List.pairwise_append.1 hu
  refine List.pairwise_append.2 ⟨a1,List.pairwise_cons.2 ⟨fun e he=>?_,a2⟩,fun e he f hf=>?_⟩
  ·have h0:=List.length_pos_of_mem he
   have h5:=c5.resolve_left (by omega)
   rw[show c=p.length+u1.length by omega,gu _ (by omega)]at h5
   exact Xb (Jbs (by simpa using h5)) (Jcl hu he)
  ·rcases List.mem_cons.1 hf with rfl | hf
   ·have h0:=List.length_pos_of_mem he
    have h4:=c4.resolve_left (by omega)
    rw[show c-1=p.length+(u1.length-1) by omega,gu _ (by omega)]at h4
    exact Xb (Jda hu he) (JaY.1 (by simpa using h4))
   ·exact a3 e he f hf
end Go.Proofs.YtfkhlbhjhdpkoaaDoor
namespace Go.Proofs.YtfkhlbhjhdpkoaaDoor
open Go.RowKit
def Jeb(q1:Int→Int→Int→List Edit→Option (List Edit))(n:Nat):Prop:=∀ (p u v q:List Edit),u.length+v.length≤n→0<u.length→0<v.length→u.Pairwise kle→v.Pairwise kle→p.length+u.length+v.length+q.length≤1099511627776 →
 ∃ w,q1 (p.length:Int) ((p.length+u.length:Nat):Int) ((p.length+u.length+v.length:Nat):Int) (p++u++v++q)=some (p++w++q)∧w.Perm (u++v)∧w.Pairwise kle
theorem Jko{q1:Int→Int→Int→List Edit→Option (List Edit)}{n:Nat}(hq:Jeb q1 n)(p u v q:List Edit)(hn:u.length+v.length≤n)(hu:u.Pairwise kle)(hv:v.Pairwise kle)(hB:p.length+u.length+v.length+q.length≤1099511627776)(b e:Int):
  ∃ w,JD q1 (p.length:Int) b ((p.length+u.length+v.length:Nat):Int) ((p.length+u.length:Nat):Int) (e,p++u++v++q)=JK q1 b ((p.length+u.length+v.length:Nat):Int) e (p++w++q)∧w.Perm (u++v)∧w.Pairwise kle:=by
 simp only[JD,ltI,decide_eq_true_eq]
 rcases Nat.eq_zero_or_pos u.length with h1 | h1
 ·obtain rfl:=List.eq_nil_of_length_eq_zero h1
  refine⟨v,?_,by simp,hv⟩
  rw[if_neg (by simp only[List.length_nil]; omega)]
  simp only[JI,Bool.false_eq_true,if_false,List.append_nil]
 ·rw[if_pos (by omega)]
  rcases Nat.eq_zero_or_pos v.length with h2 | h2
  ·obtain rfl:=List.eq_nil_of_length_eq_zero h2
   refine⟨u,?_,by simp,hu⟩
   rw[decide_eq_false (by simp only[List.length_nil]; omega)]
   simp only[JI,Bool.false_eq_true,if_false,List.append_nil]
  ·obtain⟨w,h3,h4,h5⟩:=hq p u v q hn h1 h2 hu hv hB
   refine⟨w,?_,h4,h5⟩
   rw[decide_eq_true (by omega)]
   simp only[JI,if_true,h3,Option.bind_some]
   rw[if_pos (by have:=h4.length_eq; simp only[List.length_append]at this ⊢; omega)]
theorem JjK{q1:Int→Int→Int→List Edit→Option (List Edit)}{n:Nat}(hq:Jeb q1 n)(p u v q:List Edit)(hn:u.length+v.length≤n)(hu:u.Pairwise kle)(hv:v.Pairwise kle)(hB:p.length+u.length+v.length+q.length≤1099511627776):
  ∃ w,JK q1 ((p.length+u.length+v.length:Nat):Int) (p.length:Int) ((p.length+u.length:Nat):Int) (p++u++v++q)=some (p++w++q)∧w.Perm (u++v)∧w.Pairwise kle:=by
 simp only[JK,ltI,decide_eq_true_eq]
 rcases Nat.eq_zero_or_pos u.length with h1 | h1
 ·obtain rfl:=List.eq_nil_of_length_eq_zero h1
  refine⟨v,?_,by simp,hv⟩
  rw[if_neg (by simp only[List.length_nil]; omega)]
  simp only[JJ,Bool.false_eq_true,if_false,List.append_nil]
 ·rw[if_pos (by omega)]
  rcases Nat.eq_zero_or_pos v.length with h2 | h2
  ·obtain rfl:=List.eq_nil_of_length_eq_zero h2
   refine⟨u,?_,by simp,hu⟩
   rw[decide_eq_false (by simp only[List.length_nil]; omega)]
   simp only[JJ,Bool.false_eq_true,if_false,List.append_nil]
  ·obtain⟨w,h3,h4,h5⟩:=hq p u v q hn h1 h2 hu hv hB
   refine⟨w,?_,h4,h5⟩
   rw[decide_eq_true (by omega)]
   simp only[JJ,if_true,h3,Option.bind_some]
   rw[if_pos (by have:=h4.length_eq; simp only[List.length_append]at this ⊢; omega)]
theorem Jln(q1:Int→Int→Int→List Edit→Option (List Edit))(p u1 u2 v1 v2 q:List Edit)(b mid:Int)(hB:p.length+u1.length+u2.length+v1.length+v2.length+q.length≤1099511627776):
  (if ltI ((p.length+u1.length:Nat):Int) ((p.length+u1.length+u2.length:Nat):Int)=true then Jp q1 (p.length:Int) ((p.length+u1.length+u2.length:Nat):Int) b (p++u1++u2++v1++v2++q) mid ((p.length+u1.length:Nat):Int) (((p.length+u1.length+u2.length+v1.length:Nat):Int),ltI ((p.length+u1.length+u2.length:Nat):Int) ((p.length+u1.length+u2.length+v1.length:Nat):Int))
   else Jp q1 (p.length:Int) ((p.length+u1.length+u2.length:Nat):Int) b (p++u1++u2++v1++v2++q) mid ((p.length+u1.length:Nat):Int) (((p.length+u1.length+u2.length+v1.length:Nat):Int),false)) =
  JD q1 (p.length:Int) b mid ((p.length+u1.length:Nat):Int) (((p.length+u1.length+u2.length+v1.length:Nat):Int),p++u1++v1++(u2++v2++q)):=by
 simp only[ltI,decide_eq_true_eq]
 rcases Nat.eq_zero_or_pos u2.length with h1 | h1
 ·obtain rfl:=List.eq_nil_of_length_eq_zero h1
  rw[if_neg (by simp only[List.length_nil]; omega)]
  simp only[Jp,Bool.false_eq_true,if_false,List.append_nil,List.nil_append,List.append_assoc]
 ·rw[if_pos (by omega)]
  rcases Nat.eq_zero_or_pos v1.length with h2 | h2
  ·obtain rfl:=List.eq_nil_of_length_eq_zero h2
   rw[decide_eq_false (by simp only[List.length_nil]; omega)]
   simp only[Jp,Bool.false_eq_true,if_false,List.append_nil,List.append_assoc]
  ·rw[decide_eq_true (by omega)]
   have:=Jkw (p++u1) u2 v1 (v2++q) h1 h2 (by simp only[List.length_append]; omega)
   rw[List.length_append]at this
   simp only[Jp,if_true]
   rw[show p++u1++u2++v1++v2++q=p++u1++u2++v1++(v2++q) by simp,this]
   simp only[Option.bind_some]
   rw[if_pos (by simp only[List.length_append]; omega)]
   simp
theorem JkY{q1:Int→Int→Int→List Edit→Option (List Edit)}{n:Nat}(hq:Jeb q1 n)(p u1 u2 v1 v2 q:List Edit)(h1:u1.length+v1.length≤n)(h2:u2.length+v2.length≤n)(hu:(u1++u2).Pairwise kle)(hv:(v1++v2).Pairwise kle)
  (hB:p.length+u1.length+u2.length+v1.length+v2.length+q.length≤1099511627776) (c1:∀ x∈u1,∀ y∈v2,kle x y) (c2:∀ x∈v1,∀ y∈u2,kle x y) :
  ∃ w,JD q1 (p.length:Int) ((p.length+u1.length+v1.length+u2.length+v2.length:Nat):Int) ((p.length+u1.length+v1.length:Nat):Int) ((p.length+u1.length:Nat):Int) (((p.length+u1.length+v1.length+u2.length:Nat):Int),p++u1++v1++(u2++v2++q))=some (p++w++q)∧w.Perm ((u1++u2)++(v1++v2))∧w.Pairwise kle:=by
 obtain⟨a1,a2,a3⟩:=List.pairwise_append.1 hu
 obtain⟨b1,b2,b3⟩:=List.pairwise_append.1 hv
 obtain⟨wl,l1,l2,l3⟩:=Jko hq p u1 v1 (u2++v2++q) h1 a1 b1 (by simp only[List.length_append]; omega) ((p.length+u1.length+v1.length+u2.length+v2.length:Nat):Int) ((p.length+u1.length+v1.length+u2.length:Nat):Int)
 have hwl:wl.length=u1.length+v1.length:=by simpa using l2.length_eq
 obtain⟨wr,r1,r2,r3⟩:=JjK hq (p++wl) u2 v2 q h2 a2 b2 (by simp only[List.length_append]; omega)
 rw[List.length_append,hwl]at r1
 refine⟨wl++wr,?_,?_,?_⟩
 ·rw[l1,show p++wl++(u2++v2++q)=p++wl++u2++v2++q by simp,show p.length+u1.length+v1.length=p.length+(u1.length+v1.length) by omega,r1]
  simp
 ·refine(l2.append r2).trans ?_
  have:(u1++v1++(u2++v2)).Perm (u1++u2++(v1++v2)):=by
   rw[List.append_assoc,List.append_assoc]
   refine List.Perm.append_left u1 ?_
   rw[← List.append_assoc,← List.append_assoc]
   exact List.Perm.append_right v2 List.perm_append_comm
  exact this
 ·refine List.pairwise_append.2 ⟨l3,r3,fun x hx y hy=>?_⟩
  have hx:=(l2.mem_iff).1 hx
  have hy:=(r2.mem_iff).1 hy
  rcases List.mem_append.1 hx with hx | hx <;> rcases List.mem_append.1 hy with hy | hy
  ·exact a3 x hx y hy
  ·exact c1 x hx y hy
  ·exact c2 x hx y hy
  ·exact b3 x hx y hy
theorem symR:∀ n:Nat,Jeb (JU n) n
 | 0=>fun p u v q h1 h2 _ _ _ _=>by omega
 | n+1=>fun p u v q h1 h2 h3 hu hv hB=>by
  have hq:=symR n
  show ∃ w,Ko (JU n) (p.length:Int) ((p.length+u.length:Nat):Int) ((p.length+u.length+v.length:Nat):Int) (p++u++v++q)=some (p++w++q)∧w.Perm (u++v)∧w.Pairwise kle
  generalize JU n=q1 at hq
  unfold Ko
  rw[wr (((p.length+u.length:Nat):Int)-(p.length:Int)) (by omega),wr (((p.length+u.length+v.length:Nat):Int)-((p.length+u.length:Nat):Int)) (by omega)]
  simp only[eqI,decide_eq_true_eq]
  by_cases e1:u.length=1
  ·rw[if_pos (by omega)]
   obtain⟨x,rfl⟩:=List.length_eq_one_iff.1 e1
   have:=JmZ x p v q hv (by simp only[List.length_cons,List.length_nil]at hB; omega)
   simpa using this
  rw[if_neg (by omega)]
  by_cases e2:v.length=1
  ·rw[if_pos (by omega)]
   obtain⟨y,rfl⟩:=List.length_eq_one_iff.1 e2
   exact Jna y p u q hu (by simp only[List.length_cons,List.length_nil]at hB; omega)
  rw[if_neg (by omega),if_pos (by omega),Jeh p.length (p.length+u.length+v.length) (by omega)]
  -- the middle,and what both places add up to
  obtain⟨mid,hmid⟩:∃ mid,mid=(p.length+(p.length+u.length+v.length)) / 2:=⟨_,rfl⟩
  rw[← hmid,wr ((mid:Int)+((p.length+u.length:Nat):Int)) (by omega)]
  have hlen:(p++u++v++q).length=p.length+u.length+v.length+q.length:=by simp only[List.length_append]
  -- the search
  have srch:∀ (lo hi:Nat),p.length≤lo→lo≤hi→hi≤p.length+u.length→hi≤mid→mid+(p.length+u.length)≤lo+(p.length+u.length+v.length)→(lo=p.length∨mid+(p.length+u.length)=lo+(p.length+u.length+v.length))→(hi=mid∨hi=p.length+u.length) →
    ∃ w,JW q1 (p.length:Int) ((p.length+u.length:Nat):Int) ((p.length+u.length+v.length:Nat):Int) (p++u++v++q) ((mid:Int),(mid:Int)+((p.length+u.length:Nat):Int),(lo:Int),(hi:Int))=some (p++w++q)∧w.Perm (u++v)∧w.Pairwise kle:=by
   intro lo hi k1 k2 k3 k4 k5 k6 k7
   simp only[JW]
   rw[wr ((mid:Int)+((p.length+u.length:Nat):Int)-1) (by omega)]
   obtain⟨c,c1,c2,c3,c4,c5⟩:=Jcz (B:=Kb q1 (p.length:Int) ((p.length+u.length:Nat):Int) ((p.length+u.length+v.length:Nat):Int) (p++u++v++q) (mid:Int) ((mid:Int)+((p.length+u.length:Nat):Int)))
    (fun i j=>((i:Int),(j:Int),(mid:Int)+((p.length+u.length:Nat):Int)-1)) (fun h=>!kltB ((p++u++v++q).getD (mid+(p.length+u.length)-1-h) default) ((p++u++v++q).getD h default))
    (fun i=>if ltI (i:Int) ((p.length+u.length:Nat):Int)=true then Jp q1 (p.length:Int) ((p.length+u.length:Nat):Int) ((p.length+u.length+v.length:Nat):Int) (p++u++v++q) (mid:Int) (i:Int) (IntKind.i64.wrap ((mid:Int)+((p.length+u.length:Nat):Int)-(i:Int)),ltI ((p.length+u.length:Nat):Int) (IntKind.i64.wrap ((mid:Int)+((p.length+u.length:Nat):Int)-(i:Int))))
     else Jp q1 (p.length:Int) ((p.length+u.length:Nat):Int) ((p.length+u.length+v.length:Nat):Int) (p++u++v++q) (mid:Int) (i:Int) (IntKind.i64.wrap ((mid:Int)+((p.length+u.length:Nat):Int)-(i:Int)),false)) lo hi (fun i j g1 g2 g3=>by
     simp only[Kb]
     by_cases hij:i<j
     ·obtain⟨o,ho,hk⟩:=JcR ((p++u++v++q).getD (mid+(p.length+u.length)-1-(i+j) / 2) default) ((p++u++v++q).getD ((i+j) / 2) default)
      rw[if_pos (by simp only[ltI,decide_eq_true_eq]; omega),if_pos hij,if_pos (by omega),Jeh i j (by omega)]
      rw[show IntKind.i64.wrap ((mid:Int)+((p.length+u.length:Nat):Int)-1-(((i+j) / 2:Nat):Int))=((mid+(p.length+u.length)-1-(i+j) / 2:Nat):Int) by rw[wr _ (by omega)]; omega]
      simp only[Int.toNat_natCast,hlen]
      rw[if_pos (by omega),if_pos (by omega),if_pos (by omega),if_pos (by omega),ho]
      simp only[Option.bind_some,wN1 ((i+j) / 2) (by omega),hk]
     ·rw[if_neg (by simp only[ltI,decide_eq_true_eq]; omega),if_neg hij]) _ lo hi k2 (Nat.le_refl _) (Nat.le_refl _) (Nat.le_refl _) (.inl rfl) (.inl rfl)
   rw[c3]
   obtain⟨u1,u2,rfl,hu1⟩:=JbP u (c-p.length) (by omega)
   obtain⟨v1,v2,rfl,hv1⟩:=JbP v (mid-c) (by omega)
   simp only[List.length_append]at *
   have gu:∀ k,k<u1.length+u2.length→(p++(u1++u2)++(v1++v2)++q).getD (p.length+k) default=(u1++u2).getD k default:=fun k hk=>by
    have:=Je9 (p:=p) (u:=u1++u2) (r:=(v1++v2)++q) (k:=k) (by rw[List.length_append]; exact hk)
    simpa using this
   have gv:∀ k,k<v1.length+v2.length→(p++(u1++u2)++(v1++v2)++q).getD (p.length+(u1.length+u2.length)+k) default=(v1++v2).getD k default:=fun k hk=>by
    have:=Je9 (p:=p++(u1++u2)) (u:=v1++v2) (r:=q) (k:=k) (by rw[List.length_append]; exact hk)
    rw[List.length_append,List.length_append]at this
    exact this
   have fin:=JkY hq p u1 u2 v1 v2 q (by omega) (by omega) hu hv (by omega) (fun x hx y hy=>by
    have x0:=List.length_pos_of_mem hx
    have y0:=List.length_pos_of_mem hy
    have h4:=c4.resolve_left (by omega)
    rw[show c-1=p.length+(u1.length-1) by omega,gu _ (by omega),show mid+(p.length+(u1.length+u2.length))-1-(p.length+(u1.length-1))=p.length+(u1.length+u2.length)+v1.length by omega,gv _ (by omega)]at h4
    exact Xb (Jda hu hx) (Xb (JaY.1 (by simpa using h4)) (Jcl hv hy))) (fun x hx y hy=>by
    have x0:=List.length_pos_of_mem hx
    have y0:=List.length_pos_of_mem hy
    have h5:=c5.resolve_left (by omega)
    rw[show c=p.length+u1.length by omega,gu _ (by omega),show mid+(p.length+(u1.length+u2.length))-1-(p.length+u1.length)=p.length+(u1.length+u2.length)+(v1.length-1) by omega,gv _ (by omega)]at h5
    exact Xb (Jda hv hx) (Xb (Jbs (by simpa using h5)) (Jcl hu hy)))
   have rot:=Jln q1 p u1 u2 v1 v2 q ((p.length+(u1.length+u2.length)+(v1.length+v2.length):Nat):Int) (mid:Int) (by omega)
   rw[show(p.length+u1.length+u2.length:Nat)=p.length+(u1.length+u2.length) by omega]at rot
   rw[show IntKind.i64.wrap ((mid:Int)+((p.length+(u1.length+u2.length):Nat):Int)-(c:Int))=((p.length+(u1.length+u2.length)+v1.length:Nat):Int) by rw[wr _ (by omega)]; omega,show(c:Int)=((p.length+u1.length:Nat):Int) by omega,
    show p++(u1++u2)++(v1++v2)++q=p++u1++u2++v1++v2++q by simp,rot]
   rw[show(mid:Int)=((p.length+u1.length+v1.length:Nat):Int) by omega,show p.length+(u1.length+u2.length)+(v1.length+v2.length)=p.length+u1.length+v1.length+u2.length+v2.length by omega,show p.length+(u1.length+u2.length)+v1.length=p.length+u1.length+v1.length+u2.length by omega]
   exact fin
  by_cases hm:mid<p.length+u.length
  ·rw[if_pos (by simp only[ltI,decide_eq_true_eq]; omega),wr _ (by omega)]
   rw[show(mid:Int)+((p.length+u.length:Nat):Int)-((p.length+u.length+v.length:Nat):Int)=((mid+(p.length+u.length)-(p.length+u.length+v.length):Nat):Int) by omega]
   exact srch _ mid (by omega) (by omega) (by omega) (Nat.le_refl _) (by omega) (.inr (by omega)) (.inl rfl)
  ·rw[if_neg (by simp only[ltI,decide_eq_true_eq]; omega)]
   exact srch p.length (p.length+u.length) (Nat.le_refl _) (by omega) (Nat.le_refl _) (by omega) (by omega) (.inl rfl) (.inr rfl)
end Go.Proofs.YtfkhlbhjhdpkoaaDoor
namespace Go.Proofs.YtfkhlbhjhdpkoaaDoor
open Go.RowKit
theorem JkH(p u v q:List Edit)(h1:0<u.length)(h2:0<v.length)(hu:u.Pairwise kle)(hv:v.Pairwise kle)(hB:p.length+u.length+v.length+q.length≤1099511627776):
  ∃ w,J6 (p.length:Int) ((p.length+u.length:Nat):Int) ((p.length+u.length+v.length:Nat):Int) (p++u++v++q)=some (p++w++q)∧w.Perm (u++v)∧w.Pairwise kle :=
 symR bigF p u v q (Nat.le_trans (by omega) JmG) h1 h2 hu hv hB
inductive Runs (k:Nat):List Edit→Prop
 | last (u:List Edit):u.length≤k→u.Pairwise kle→Runs k u
 | cons (u r:List Edit):u.length=k→u.Pairwise kle→Runs k r→Runs k (u++r)
theorem Runs.small{k:Nat}{t:List Edit}(h:Runs k t)(ht:t.length≤k):t.Pairwise kle:=by
 cases h with
 | last _ _ h=>exact h
 | cons u r h1 h2 h3 =>
  rw[List.length_append]at ht
  obtain rfl:r=[]:=List.eq_nil_of_length_eq_zero (by omega)
  simpa using h2
theorem Runs.first{k:Nat}{t:List Edit}(h:Runs k t)(ht:k≤t.length):∃ u r,t=u++r∧u.length=k∧u.Pairwise kle∧Runs k r:=by
 cases h with
 | last _ h1 h=>exact⟨t,[],by simp,by omega,h,.last _ (Nat.zero_le _) (by simp)⟩
 | cons u r h1 h2 h3=>exact⟨u,r,rfl,h1,h2,h3⟩
theorem Jnr(n:Nat)(hn:n≤549755813888):∀ (m:Nat) (p t:List Edit),t.length≤m→p.length+t.length=n →
  ∃ w,w.Perm t∧Runs 20 w∧Ji (Jv (n:Int)) ((p.length:Int),((p.length+20:Nat):Int),p++t)=Ji (Jh (n:Int)) (20,p++w):=by
 intro m
 induction m with
 | zero =>
  intro p t ht hpt
  obtain rfl:t=[]:=List.eq_nil_of_length_eq_zero (by omega)
  refine⟨[],.refl _,.last _ (by simp) (by simp),?_⟩
  obtain⟨w,h1,h2,h3⟩:=Jd1 p [] [] (by simp only[List.length_append,List.length_nil]at hpt ⊢; omega)
  obtain rfl:=h2.eq_nil
  simp only[List.append_nil,List.length_nil,Nat.add_zero]at h1 hpt ⊢
  have hb:Jv (n:Int) ((p.length:Int),((p.length+20:Nat):Int),p)=inrO (Ji (Jh (n:Int)) (20,p)):=by
   simp only[Jv,leI,decide_eq_true_eq]
   rw[if_neg (by omega),← hpt,h1]
   simp only[Option.bind_some,if_true]
  rw[XS,hb]
  cases Ji (Jh (n:Int)) (20,p) <;> rfl
 | succ m ih =>
  intro p t ht hpt
  by_cases h20:20≤t.length
  ·obtain⟨t1,t2,rfl,hl⟩:=JbP t 20 h20
   rw[List.length_append]at ht hpt
   obtain⟨w1,h1,h2,h3⟩:=Jd1 p t1 t2 (by simp only[List.length_append]; omega)
   have hw1:w1.length=20:=by rw[h2.length_eq,hl]
   obtain⟨w2,k1,k2,k3⟩:=ih (p++w1) t2 (by omega) (by rw[List.length_append]; omega)
   refine⟨w1++w2,h2.append k1,.cons _ _ hw1 h3 k2,?_⟩
   rw[hl]at h1
   have hb:Jv (n:Int) ((p.length:Int),((p.length+20:Nat):Int),p++(t1++t2))=some (.inl (((p.length+20:Nat):Int),((p.length+20+20:Nat):Int),p++w1++t2)):=by
    simp only[Jv,leI,decide_eq_true_eq]
    rw[if_pos (by omega),← List.append_assoc,h1]
    simp only[Option.bind_some]
    rw[if_pos (by simp only[List.length_append]; omega),wr _ (by omega)]
    rfl
   rw[KW hb]
   rw[List.length_append,hw1]at k3
   rw[k3]
   simp
  ·obtain⟨w,h1,h2,h3⟩:=Jd1 p t [] (by simp only[List.length_append,List.length_nil]; omega)
   simp only[List.append_nil]at h1
   refine⟨w,h2,.last _ (by rw[h2.length_eq]; omega) h3,?_⟩
   have hb:Jv (n:Int) ((p.length:Int),((p.length+20:Nat):Int),p++t)=inrO (Ji (Jh (n:Int)) (20,p++w)):=by
    simp only[Jv,leI,decide_eq_true_eq]
    rw[if_neg (by omega),← hpt,h1]
    simp only[Option.bind_some]
    rw[if_pos (by have:=h2.length_eq; simp only[List.length_append]; omega)]
   rw[XS,hb]
   cases Ji (Jh (n:Int)) (20,p++w) <;> rfl
theorem Jnm(n k:Nat)(hn:n≤549755813888)(hk:0<k∧k<n):∀ (m:Nat) (p t:List Edit),t.length≤m→p.length+t.length=n→Runs k t →
  ∃ w,w.Perm t∧Runs (2 * k) w∧Ji (Jq (n:Int) (k:Int)) ((p.length:Int),((p.length+2 * k:Nat):Int),p++t)=some (.inl (((2 * k:Nat):Int),p++w)):=by
 intro m
 induction m with
 | zero =>
  intro p t ht hpt hr
  obtain rfl:t=[]:=List.eq_nil_of_length_eq_zero (by omega)
  refine⟨[],.refl _,.last _ (by simp) (by simp),lend (b:=Jq (n:Int) (k:Int)) ?_⟩
  simp only[List.length_nil,Nat.add_zero]at hpt
  simp only[Jq,leI,ltI,decide_eq_true_eq]
  rw[if_neg (by omega),wr ((p.length:Int)+(k:Int)) (by omega),if_neg (by omega)]
  simp only[JR]
  rw[wr _ (by omega),show(k:Int) * 2=((2 * k:Nat):Int) by omega]
  rfl
 | succ m ih =>
  intro p t ht hpt hr
  by_cases h2k:2 * k≤t.length
  ·obtain⟨u,r1,rfl,u1,u2,u3⟩:=hr.first (by omega)
   rw[List.length_append]at h2k ht hpt
   obtain⟨v,r,rfl,v1,v2,v3⟩:=u3.first (by omega)
   rw[List.length_append]at h2k ht hpt
   obtain⟨w1,h1,h2,h3⟩:=JkH p u v r (by omega) (by omega) u2 v2 (by omega)
   have hw1:w1.length=2 * k:=by have:=h2.length_eq; rw[List.length_append]at this; omega
   obtain⟨w2,k1,k2,k3⟩:=ih (p++w1) r (by omega) (by rw[List.length_append]; omega) v3
   refine⟨w1++w2,?_,.cons _ _ hw1 h3 k2,?_⟩
   ·rw[← List.append_assoc]
    exact h2.append k1
   ·rw[u1,v1]at h1
    have hb:Jq (n:Int) (k:Int) ((p.length:Int),((p.length+2 * k:Nat):Int),p++(u++(v++r)))=some (.inl (((p.length+2 * k:Nat):Int),((p.length+2 * k+2 * k:Nat):Int),p++w1++r)):=by
     simp only[Jq,leI,ltI,decide_eq_true_eq]
     rw[if_pos (by omega),wr ((p.length:Int)+(k:Int)) (by omega),wr (2 * (k:Int)) (by omega),show(p.length:Int)+(k:Int)=((p.length+k:Nat):Int) by omega,show p.length+2 * k=p.length+k+k by omega,show p++(u++(v++r))=p++u++v++r by simp,h1]
     simp only[Option.bind_some]
     rw[if_pos (by simp only[List.length_append]; omega),wr _ (by omega),show((p.length+k+k:Nat):Int)+2 * (k:Int)=((p.length+k+k+2 * k:Nat):Int) by omega]
    rw[KW hb]
    rw[List.length_append,hw1]at k3
    rw[k3]
    simp
  ·by_cases hk1:k<t.length
   ·obtain⟨u,v,rfl,u1,u2,u3⟩:=hr.first (by omega)
    rw[List.length_append]at h2k ht hpt hk1
    have v2:=u3.small (by omega)
    obtain⟨w,h1,h2,h3⟩:=JkH p u v [] (by omega) (by omega) u2 v2 (by simp only[List.length_nil]; omega)
    have hw:w.length=u.length+v.length:=by have:=h2.length_eq; rwa [List.length_append]at this
    refine⟨w,h2,.last _ (by omega) h3,lend (b:=Jq (n:Int) (k:Int)) ?_⟩
    simp only[List.append_nil]at h1
    rw[show p.length+u.length+v.length=n by omega,u1]at h1
    simp only[Jq,leI,ltI,decide_eq_true_eq]
    rw[if_neg (by omega),wr ((p.length:Int)+(k:Int)) (by omega),if_pos (by omega),show(p.length:Int)+(k:Int)=((p.length+k:Nat):Int) by omega,← List.append_assoc,h1]
    simp only[Option.bind_some]
    rw[if_pos (by simp only[List.length_append]; omega)]
    simp only[JR]
    rw[wr _ (by omega),show(k:Int) * 2=((2 * k:Nat):Int) by omega]
    rfl
   ·refine⟨t,.refl _,.last _ (by omega) (hr.small (by omega)),lend (b:=Jq (n:Int) (k:Int)) ?_⟩
    simp only[Jq,leI,ltI,decide_eq_true_eq]
    rw[if_neg (by omega),wr ((p.length:Int)+(k:Int)) (by omega),if_neg (by omega)]
    simp only[JR]
    rw[wr _ (by omega),show(k:Int) * 2=((2 * k:Nat):Int) by omega]
    rfl
theorem Jnp(n:Nat)(hn:n≤549755813888):∀ (m k:Nat) (l:List Edit),n-k≤m→0<k→k≤2 * 549755813888→l.length=n→Runs k l→∃ w,w.Perm l∧w.Pairwise kle∧Ji (Jh (n:Int)) ((k:Int),l)=some w:=by
 intro m
 induction m with
 | zero =>
  intro k l hm hk _ hl hr
  refine⟨l,.refl _,hr.small (by omega),lend (b:=Jh (n:Int)) ?_⟩
  simp only[Jh,ltI,decide_eq_true_eq]
  rw[if_neg (by omega)]
  rfl
 | succ m ih =>
  intro k l hm hk hk2 hl hr
  by_cases hkn:k<n
  ·obtain⟨w1,h1,h2,h3⟩:=Jnm n k hn ⟨hk,hkn⟩ l.length [] l (Nat.le_refl _) (by simpa using hl) hr
   simp only[List.nil_append,List.length_nil,Nat.zero_add]at h3
   have hb:Jh (n:Int) ((k:Int),l)=some (.inl (((2 * k:Nat):Int),w1)):=by
    simp only[Jh,ltI,decide_eq_true_eq]
    rw[if_pos (by omega),wr _ (by omega),show 2 * (k:Int)=((2 * k:Nat):Int) by omega]
    exact h3
   obtain⟨w,k1,k2,k3⟩:=ih (2 * k) w1 (by omega) (by omega) (by omega) (by rw[h1.length_eq,hl]) h2
   exact⟨w,k1.trans h1,k2,by rw[KW hb,k3]⟩
  ·refine⟨l,.refl _,hr.small (by omega),lend (b:=Jh (n:Int)) ?_⟩
   simp only[Jh,ltI,decide_eq_true_eq]
   rw[if_neg (by omega)]
   rfl
theorem Jmt(l:List Edit)(hn:l.length≤549755813888):∃ s,JB l=some s∧s.Perm l∧s.Pairwise kle:=by
 obtain⟨w,h1,h2,h3⟩:=Jnr l.length hn l.length [] l (Nat.le_refl _) (by simp)
 obtain⟨s,k1,k2,k3⟩:=Jnp l.length hn l.length 20 w (by omega) (by decide) (by decide) h1.length_eq h2
 simp only[List.nil_append,List.length_nil,Nat.zero_add]at h3
 have:Kj ((l.length:Nat):Int) l=some s:=by
  unfold Kj
  exact h3.trans k3
 refine⟨s,?_,k1.trans h1,k2⟩
 unfold JB
 rw[this]
 simp only[Option.bind_some]
 rw[if_pos (k1.trans h1).length_eq]
end Go.Proofs.YtfkhlbhjhdpkoaaDoor
namespace Go.Proofs.YtfkhlbhjhdpkoaaDoor
open Go.RowKit
theorem Jlq(a:List Source)(h:a.length≤1048576):Vb a a=some true:=by
 unfold Vb
 rw[if_neg (Jad rfl)]
 have:=Jdg (b:=Vs a a) a.length (fun _=>true) false true (fun j hj=>by
  simp only[Vs,ltI,decide_eq_true_eq,Int.toNat_natCast]
  by_cases h1:j<a.length
  ·rw[if_pos (by omega),if_pos ⟨by omega,h1⟩,if_pos ⟨by omega,h1⟩,if_pos h1,if_neg (by simp[eqS]),wN1 j (by omega)]
   rfl
  ·rw[if_neg (by omega),if_neg h1]; rfl)
 rw[this,if_pos (fun _ _=>rfl)]
theorem Jlm{A:Type}{l m:List A}(d:A)(h:l.length=m.length)(he:∀ i,i<l.length→l.getD i d=m.getD i d):l=m:=by
 refine List.ext_getElem h fun i h1 h2=>?_
 have:=he i h1
 simpa [List.getD_eq_getElem?_getD,List.getElem?_eq_getElem h1,List.getElem?_eq_getElem h2] using this
end Go.Proofs.YtfkhlbhjhdpkoaaDoor
namespace Go.Proofs.YtfkhlbhjhdpkoaaDoor
open Go.RowKit
def keyE(e:Edit):Int×Int×Int:=(e.File,e.From,e.To)
def kleK(a b:Int×Int×Int):Prop:=a.1<b.1∨a.1=b.1∧(a.2.1<b.2.1∨a.2.1=b.2.1∧a.2.2≤b.2.2)
theorem JiQ{s t:List Edit}(h:s.Perm t)(hs:s.Pairwise kle)(ht:t.Pairwise kle):s.map keyE=t.map keyE:=by
 refine List.Perm.eq_of_pairwise (le:=kleK) ?_ (List.pairwise_map.2 hs) (List.pairwise_map.2 ht) (h.map keyE)
 intro a b _ _ h1 h2
 obtain⟨a1,a2,a3⟩:=a
 obtain⟨b1,b2,b3⟩:=b
 unfold kleK at h1 h2
 simp only at h1 h2
 have:a1=b1∧a2=b2∧a3=b3:=by omega
 obtain⟨rfl,rfl,rfl⟩:=this
 rfl
theorem Jhk{s t:List Edit}(h:s.map keyE=t.map keyE)(i:Nat):(s.getD i default).File=(t.getD i default).File∧(s.getD i default).From=(t.getD i default).From∧(s.getD i default).To=(t.getD i default).To:=by
 have h1:(s.map keyE)[i]? = (t.map keyE)[i]? := by rw[h]
 rw[List.getElem?_map,List.getElem?_map]at h1
 rw[List.getD_eq_getElem?_getD,List.getD_eq_getElem?_getD]
 cases hs:s[i]? with
 | none =>
  rw[hs]at h1
  cases ht:t[i]? with
  | none=>exact⟨rfl,rfl,rfl⟩
  | some y=>rw[ht]at h1; cases h1
 | some x =>
  rw[hs]at h1
  cases ht:t[i]? with
  | none=>rw[ht]at h1; cases h1
  | some y =>
   rw[ht]at h1
   have:=Option.some.inj h1
   simp only[keyE,Prod.mk.injEq]at this
   exact this
theorem JfS{l:List Source}{s t:List Edit}(h:s.map keyE=t.map keyE)(i:Nat):chk l s i=chk l t i:=by
 obtain⟨h1,h2,h3⟩:=Jhk h i
 obtain⟨k1,k2,k3⟩:=Jhk h (i-1)
 unfold chk
 rw[h1,h2,h3,k1,k2,k3]
theorem Jjh{s t:List Edit}(h:s.map keyE=t.map keyE):s.length=t.length:=by simpa using congrArg List.length h
theorem Jfq{l:List Source}{s:List Edit}(hS:s.Pairwise kle)(hc:∀ i,i<s.length→chk l s i=0){i j:Nat}(hij:i<j)(hj:j<s.length):keyE (s.getD i default)≠keyE (s.getD j default):=by
 intro h
 simp only[keyE,Prod.mk.injEq]at h
 obtain⟨h1,h2,h3⟩:=h
 have hle:∀ a b,a<b→b<s.length→kle (s.getD a default) (s.getD b default):=fun a b h1 h2=>Jea hS (Nat.le_of_lt h1) h2
 have hcj:=hc j hj
 -- the one ahead of j has j's key too
 have hk:(s.getD (j-1) default).File=(s.getD j default).File∧(s.getD (j-1) default).From=(s.getD j default).From:=by
  by_cases e:i=j-1
  ·rw[← e]; exact⟨h1,h2⟩
  ·have q1:=hle i (j-1) (by omega) (by omega)
   have q2:=hle (j-1) j (by omega) hj
   unfold kle at q1 q2
   omega
 unfold chk at hcj
 split at hcj
 ·cases hcj
 ·split at hcj
  ·cases hcj
  ·split at hcj
   ·cases hcj
   ·rename_i c
    exact c ⟨by omega,hk.1,.inr hk.2⟩
theorem Jiq{l:List Source}{s t:List Edit}(hp:s.Perm t)(hs:s.Pairwise kle)(ht:t.Pairwise kle)(hc:∀ i,i<s.length→chk l s i=0):s=t:=by
 have hk:=JiQ hp hs ht
 have hl:=Jjh hk
 refine Jlm default hl fun i hi=>?_
 have hm:t.getD i default∈s:=hp.mem_iff.2 (XO t i default (by omega))
 obtain⟨j,hj,he⟩:=JkN hm
 have hkey:keyE (s.getD j default)=keyE (s.getD i default):=by
  rw[he]
  obtain⟨h1,h2,h3⟩:=Jhk hk i
  simp only[keyE,h1,h2,h3]
 rcases Nat.lt_trichotomy i j with h | h | h
 ·exact absurd hkey.symm (Jfq hs hc h hj)
 ·rw[h,he,← h]
 ·exact absurd hkey (Jfq hs hc h hi)
theorem Jh3{l:List Source}{s t:List Edit}(hp:s.Perm t)(hs:s.Pairwise kle)(ht:t.Pairwise kle):Xj l s=Xj l t:=by
 have hk:=JiQ hp hs ht
 have hl:=Jjh hk
 have hf:(fun i=>decide (chk l s i≠0))=fun i=>decide (chk l t i≠0):=by
  funext i; rw[JfS hk i]
 unfold Xj
 rw[hl,hf]
 split
 ·rfl
 ·split
  ·rename_i i _
   rw[JfS hk i]
  ·rename_i hn
   have hc:∀ i,i<s.length→chk l s i=0:=fun i hi=>by
    have:=List.find?_eq_none.1 hn i (List.mem_range.2 (by omega))
    rw[JfS hk i]
    simpa using this
   rw[Jiq hp hs ht hc]
structure FilesOk (l:List Source):Prop where
 len:l.length≤1048576
 path:∀ f∈l,f.Path.length≤1048576
 text:∀ f∈l,f.Text.length≤1048576
theorem Jma{l:List Source}(hl:bkL XG l≤1048576):FilesOk l:=by
 have b1:l.length+1≤bkL XG l:=JiT (fun a=>by simp only[XG,bkS]; omega) l
 have b2:∀ f∈l,f.Path.length+f.Text.length≤bkL XG l:=fun f hf=>by
  have:=JiW (b:=XG) hf
  simp only[XG,bkS]at this
  omega
 exact⟨by omega,fun f hf=>by have:=b2 f hf; omega,fun f hf=>by have:=b2 f hf; omega⟩
theorem JhB:∀ es:List Edit,es.length+(es.map fun e=>e.Text.length).sum≤bkL JcG es
 | []=>by simp[bkL]
 | e::es=>by
  have:=JhB es
  simp only[bkL,List.map_cons,List.sum_cons,List.length_cons,JcG,bkS,bk1]at this ⊢
  omega
theorem JjQ{l:List Source}{es:List Edit}(hl:FilesOk l)(hn:es.length≤1048576)(hx:(es.map fun e=>e.Text.length).sum≤1048576):∃ s,s.Perm es∧s.Pairwise kle∧Xk l es=some (Xj l s):=by
 obtain⟨s,h1,h2,h3⟩:=Jmt es (by omega)
 refine⟨s,h2,h3,Jks l es s h1 h3 h2.length_eq hl.len (by rw[h2.length_eq]; exact hn) hl.path hl.text ?_⟩
 rw[(h2.map fun e=>e.Text.length).sum_nat]
 exact hx
end Go.Proofs.YtfkhlbhjhdpkoaaDoor
