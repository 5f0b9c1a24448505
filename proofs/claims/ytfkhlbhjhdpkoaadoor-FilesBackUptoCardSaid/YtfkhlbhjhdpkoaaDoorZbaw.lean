/- Numbers,loops. Plain. -/
import Derived.Test.YtfkhlbhjhdpkoaaDoorZbao
import Derived.Test.YtfkhlbhjhdpkoaaDoorZbau
import Derived.Test.YtfkhlbhjhdpkoaaDoorZbav
set_option linter.unusedVariables false
set_option linter.unusedSimpArgs false
namespace Go.Proofs.YtfkhlbhjhdpkoaaDoor
open Go.RowKit
theorem wr(x:Int)(h:-9223372036854775808≤x∧x≤9223372036854775807):IntKind.i64.wrap x=x:=IntWalk.i64_in _ h
theorem wN1(k:Nat)(h:k≤4611686018427387904):IntKind.i64.wrap ((k:Int)+1)=((k+1:Nat):Int):=by rw[wr _ (by omega)]; omega
theorem wNm(k:Nat)(h:0<k∧k≤4611686018427387904):IntKind.i64.wrap ((k:Int)-1)=((k-1:Nat):Int):=by rw[wr _ (by omega)]; omega
theorem Jhd{S R:Type}{b:S→Option (S ⊕ R)}{s s':S}(h:b s=some (.inl s')):Jz b s=Jz b s':=by rw[Jag,h]
theorem lend{S R:Type}{b:S→Option (S ⊕ R)}{s:S}{r:R}(h:b s=some (.inr r)):Jz b s=some r:=by rw[Jag,h]
theorem JbJ{A:Type}(l:List A)(k:Nat)(d:A)(h:k<l.length):l.drop k=l.getD k d::l.drop (k+1):=by
 rw[List.drop_eq_getElem_cons h]; simp[List.getD_eq_getElem?_getD,List.getElem?_eq_getElem h]
theorem Jai{A:Type}(l:List A)(k:Nat)(d:A)(h:k<l.length):l.getD k d∈l:=by
 rw[List.getD_eq_getElem?_getD,List.getElem?_eq_getElem h]; exact List.getElem_mem h
theorem Jfm{a b:Int}(h:a=b):¬ (!eqI a b)=true:=by simp[eqI,h]
theorem Jb3{a b:Int}(h:¬ a=b):(!eqI a b)=true:=by simp[eqI,h]
theorem Jfi{R:Type}{b:Int×Int→Option ((Int×Int) ⊕ R)}(N:Nat)(p:Nat→Bool)(x y:R)
  (hb:∀ j:Nat,j≤N→b ((N:Int),(j:Int))=if j<N then(if p j=true then some (.inl ((N:Int),((j+1:Nat):Int))) else some (.inr x)) else some (.inr y)) :
  Jz b ((N:Int),0)=some (if ∀ j,j<N→p j=true then y else x):=by
 have key:∀ n j,j≤N→N-j≤n→Jz b ((N:Int),(j:Int))=some (if ∀ i,i<N→j≤i→p i=true then y else x):=fun n=>by
  induction n with
  | zero =>
   intro j hj hn
   rw[lend ((hb j hj).trans (if_neg (by omega))),if_pos (fun i h1 h2=>by omega)]
  | succ n ih =>
   intro j hj hn
   have hj':=hb j hj
   by_cases h:j<N
   ·rw[if_pos h]at hj'
    by_cases hp:p j=true
    ·rw[if_pos hp]at hj'
     rw[Jhd hj',ih (j+1) (by omega) (by omega)]
     congr 2
     apply propext
     exact⟨fun h i h1 h2=>by
      by_cases e:i=j
      ·rw[e]; exact hp
      ·exact h i h1 (by omega),fun h i h1 h2=>h i h1 (by omega)⟩
    ·rw[if_neg hp]at hj'
     rw[lend hj',if_neg (fun h'=>hp (h' j h (Nat.le_refl _)))]
   ·rw[if_neg h]at hj'
    rw[lend hj',if_pos (fun i h1 h2=>by omega)]
 have:=key N 0 (Nat.zero_le _) (by omega)
 rw[show(0:Int)=((0:Nat):Int) from rfl,this]
 congr 2
 apply propext
 exact⟨fun h i h1=>h i h1 (Nat.zero_le _),fun h i h1 _=>h i h1⟩
theorem Jgz{A:Type}(l:List A)(d:A)(p:A→Bool):(∀ j,j<l.length→p (l.getD j d)=true)↔l.all p=true:=by
 rw[List.all_eq_true]
 constructor
 ·intro h a ha
  obtain⟨j,hj,rfl⟩:=List.getElem_of_mem ha
  have:=h j hj
  rwa [List.getD_eq_getElem?_getD,List.getElem?_eq_getElem hj]at this
 ·intro h j hj
  rw[List.getD_eq_getElem?_getD,List.getElem?_eq_getElem hj]
  exact h _ (List.getElem_mem hj)
theorem Jhg{A R:Type} [Inhabited A] {b:Int×Int→Option ((Int×Int) ⊕ R)} (l:List A) (p:A→Bool) (f:Nat→R) (d:R)
  (hb:∀ j:Nat,j≤l.length→b ((l.length:Int),(j:Int))=if j<l.length then(if p (l.getD j default)=true then some (.inr (f j)) else some (.inl ((l.length:Int),((j+1:Nat):Int)))) else some (.inr d)) :
  Jz b ((l.length:Int),0)=some (if l.any p=true then f (l.findIdx p) else d):=by
 have key:∀ (n j:Nat),j≤l.length→l.length-j≤n→Jz b ((l.length:Int),(j:Int))=some (if(l.drop j).any p=true then f (j+(l.drop j).findIdx p) else d):=by
  intro n
  induction n with
  | zero =>
   intro j hj hn
   have:j=l.length:=by omega
   subst this
   rw[Jag,hb _ hj,if_neg (by simp)]
   simp
  | succ n ih =>
   intro j hj hn
   rw[Jag,hb j hj]
   by_cases h:j<l.length
   ·rw[if_pos h,JbJ l j default h]
    by_cases hp:p (l.getD j default)=true
    ·rw[if_pos hp]
     simp only[List.any_cons,hp,Bool.true_or,if_true,List.findIdx_cons,cond_true,Nat.add_zero]
    ·rw[if_neg hp]
     simp only
     rw[ih (j+1) (by omega) (by omega)]
     have hp:p (l.getD j default)=false:=by simpa using hp
     simp only[List.any_cons,hp,Bool.false_or,List.findIdx_cons,cond_false]
     congr 2
     congr 1
     omega
   ·rw[if_neg h,List.drop_of_length_le (by omega)]
    rfl
 have:=key l.length 0 (Nat.zero_le _) (Nat.le_refl _)
 simpa using this
end Go.Proofs.YtfkhlbhjhdpkoaaDoor
namespace Go.Proofs.YtfkhlbhjhdpkoaaDoor
open Go.RowKit
def okc(c:UInt8):Bool:=decide (97≤c.toNat∧c.toNat≤122) || decide (65≤c.toNat∧c.toNat≤90) || decide (48≤c.toNat∧c.toNat≤57) || decide (c.toNat=46) || decide (c.toNat=95)
def Jc1(p:List UInt8):Bool:=!(decide (p=[]) || decide (p=[46]) || decide (p=[46,46])) && p.all okc
theorem Jjx(p:List UInt8)(h:p.length≤4611686018427387904):ZJ p=some (Jc1 p):=by
 have hl:Jz (Vz p) ((p.length:Int),0)=some (if ∀ j,j<p.length→okc (p.getD j default)=true then true else false):=by
  refine Jfi p.length (fun j=>okc (p.getD j default)) false true fun j hj=>?_
  simp only[Vz,ltI,leI,decide_eq_true_eq,Int.toNat_natCast]
  by_cases hjl:j<p.length
  ·rw[if_pos (by omega),if_pos hjl,if_pos ⟨by omega,hjl⟩]
   obtain⟨c,hc⟩:∃ c,p.getD j default=c:=⟨_,rfl⟩
   simp only[hc,JQ,Vx,wN1 j (by omega),eqI,inrO]
   have b1:(97:Int)≤(c.toNat:Int)↔97≤c.toNat:=by omega
   have b2:(c.toNat:Int)≤122↔c.toNat≤122:=by omega
   have b3:(65:Int)≤(c.toNat:Int)↔65≤c.toNat:=by omega
   have b4:(c.toNat:Int)≤90↔c.toNat≤90:=by omega
   have b5:(48:Int)≤(c.toNat:Int)↔48≤c.toNat:=by omega
   have b6:(c.toNat:Int)≤57↔c.toNat≤57:=by omega
   have b7:(c.toNat:Int)=46↔c.toNat=46:=by omega
   have b8:(c.toNat:Int)=95↔c.toNat=95:=by omega
   by_cases a1:97≤c.toNat <;> by_cases a2:c.toNat≤122 <;> by_cases a3:65≤c.toNat <;> by_cases a4:c.toNat≤90 <;> by_cases a5:48≤c.toNat <;> by_cases a6:c.toNat≤57 <;> by_cases a7:c.toNat=46 <;> by_cases a8:c.toNat=95 <;>
    first
    | (exfalso; omega)
    | simp[okc,b1,b2,b3,b4,b5,b6,b7,b8,a1,a2,a3,a4,a5,a6,a7,a8]
  ·rw[if_neg (by omega),if_neg hjl]
   rfl
 have hl2:Jz (Vz p) ((p.length:Int),0)=some (p.all okc):=by
  rw[hl]
  congr 1
  by_cases ha:p.all okc=true
  ·rw[if_pos ((Jgz p default okc).2 ha),ha]
  ·rw[if_neg (fun h=>ha ((Jgz p default okc).1 h))]
   simpa using ha
 unfold ZJ Jc1
 simp only[eqS,decide_eq_true_eq,Vy]
 by_cases h1:p=[]
 ·subst h1; rfl
 ·rw[if_neg h1]
  by_cases h2:p=[46]
  ·subst h2; rfl
  ·rw[if_neg h2]
   by_cases h3:p=[46,46]
   ·subst h3; rfl
   ·rw[if_neg h3,hl2]
    simp[h1,h2,h3]
theorem Jey{A:Type}{f:A→Option Bool}{p:A→Bool}:∀ {l:List A},(∀ x∈l,f x=some (p x))→Jac f l=some (l.all p)
 | [],_=>rfl
 | x::l,h=>by
  simp only[Jac,h x (by simp),Option.bind_some,List.all_cons]
  cases hp:p x with
  | true=>simp only[if_true,Bool.true_and]; exact Jey fun y hy=>h y (by simp[hy])
  | false=>simp
theorem Jfc(c:UInt8):∀ s:List UInt8,((splV c s).map fun x=>x.length+1).sum=s.length+1
 | []=>rfl
 | x::r=>by
  have ih:=Jfc c r
  unfold splV
  split
  ·simp only[List.map_cons,List.sum_cons,List.length_nil,List.length_cons,ih]; omega
  ·obtain⟨p,ps,h⟩:=JgA c r
   rw[h]at ih ⊢
   simp only[List.map_cons,List.sum_cons,List.length_cons]at ih ⊢
   omega
def wgt(l:List (List UInt8)):Nat:=(l.map fun x=>x.length+1).sum
theorem JgC:∀ {l:List (List UInt8)} {x:List UInt8},x∈l→x.length+1≤wgt l
 | y::l,x,h=>by
  rcases List.mem_cons.1 h with rfl | h
  ·simp only[wgt,List.map_cons,List.sum_cons]; omega
  ·have:=JgC h
   simp only[wgt,List.map_cons,List.sum_cons]at this ⊢; omega
def JbF(s:List UInt8):Bool:=decide (s.length≤40) && (splV 47 s).all Jc1
theorem Jis(s:List UInt8)(h:s.length≤1099511627776):Vn s=some (JbF s):=by
 unfold Vn JbF
 simp only[ltI,decide_eq_true_eq]
 by_cases h1:s.length≤40
 ·rw[if_neg (by omega),if_pos (by omega),Jey (p:=Jc1)]
  ·simp[h1]
  ·intro x hx
   refine Jjx x ?_
   have:=JgC hx
   have h2:=Jfc 47 s
   simp only[wgt]at this
   omega
 ·rw[if_pos (by omega)]
  simp[h1]
end Go.Proofs.YtfkhlbhjhdpkoaaDoor
namespace Go.Proofs.YtfkhlbhjhdpkoaaDoor
open Go.RowKit
theorem JcZ{R:Type}{b:Int×Int→Option ((Int×Int) ⊕ R)}(N:Nat)(p:Nat→Bool)(f:Nat→R)(o:Option R)
  (hb:∀ j:Nat,j≤N→b ((N:Int),(j:Int))=if j<N then(if p j=true then some (.inr (f j)) else some (.inl ((N:Int),((j+1:Nat):Int)))) else inrO o) :
  Jz b ((N:Int),0)=match (List.range N).find? p with | some i=>some (f i) | none=>o:=by
 have key:∀ n j,j+n=N→Jz b ((N:Int),(j:Int))=match (List.range' j n).find? p with | some i=>some (f i) | none=>o:=fun n=>by
  induction n with
  | zero =>
   intro j hj
   have h:=hb j (by omega)
   rw[if_neg (by omega)]at h
   rw[Jag,h]
   cases o <;> rfl
  | succ n ih =>
   intro j hj
   have h:=hb j (by omega)
   rw[if_pos (by omega)]at h
   rw[List.range'_succ,List.find?_cons]
   cases hp:p j with
   | true =>
    rw[hp,if_pos rfl]at h
    rw[lend h]
   | false =>
    rw[hp,if_neg (by simp)]at h
    rw[Jhd h,ih (j+1) (by omega)]
 have:=key N 0 (by omega)
 rw[List.range_eq_range']
 exact this
def badF(l:List Source)(i:Nat):Int :=
 if JbF (l.getD i default).Path=false then 7 else if 3000<(l.getD i default).Text.length then 4
 else if 0<i∧Op.bytesLess (l.getD (i-1) default).Path (l.getD i default).Path=false then 2 else 0
def Xe(l:List Source):Fault :=
 if 8<l.length then⟨5,-1,0⟩ else match (List.range l.length).find? (fun i=>decide (badF l i≠0)) with | some i=>⟨badF l i,i,0⟩ | none=>⟨0,-1,0⟩
theorem JiD(l:List Source)(hl:l.length≤1099511627776)(hs:∀ f∈l,f.Path.length≤1099511627776):VL l=some (Xe l):=by
 unfold VL Xe
 simp only[ltI,decide_eq_true_eq]
 by_cases h8:8<l.length
 ·rw[if_pos (by omega),if_pos h8]
 ·rw[if_neg (by omega),if_neg h8]
  rw[JcZ l.length (fun i=>decide (badF l i≠0)) (fun i=>(⟨badF l i,i,0⟩:Fault)) (some ⟨0,-1,0⟩)]
  ·split <;> rfl
  ·intro j hj
   simp only[XQ,ltI,decide_eq_true_eq,Int.toNat_natCast]
   by_cases h:j<l.length
   ·have hm:=hs _ (Jai l j default h)
    rw[if_pos (by omega),if_pos ⟨by omega,h⟩,if_pos h,Jis _ hm]
    simp only[Option.bind_some]
    by_cases h1:JbF (l.getD j default).Path=true
    ·rw[h1]
     simp only[Bool.not_true,Bool.false_eq_true,if_false]
     by_cases h2:3000<(l.getD j default).Text.length
     ·rw[if_pos (by omega)]
      have hb:badF l j=4:=by unfold badF; rw[h1,if_neg (by simp),if_pos h2]
      rw[if_pos (by rw[hb]; decide),hb]
      rfl
     ·rw[if_neg (by omega)]
      by_cases h3:0<j
      ·rw[if_pos (by omega),wNm j (by omega),if_pos (by omega)]
       simp only[Int.toNat_natCast,Vr,wN1 j (by omega)]
       by_cases h4:Op.bytesLess (l.getD (j-1) default).Path (l.getD j default).Path=true
       ·have hb:badF l j=0:=by unfold badF; rw[h1,if_neg (by simp),if_neg h2,if_neg (fun hh=>by rw[h4]at hh; exact absurd hh.2 (by simp))]
        rw[h4,if_neg (by simp),if_neg (by rw[hb]; decide)]
       ·have h4:Op.bytesLess (l.getD (j-1) default).Path (l.getD j default).Path=false:=by simpa using h4
        have hb:badF l j=2:=by unfold badF; rw[h1,if_neg (by simp),if_neg h2,if_pos ⟨h3,h4⟩]
        rw[h4,if_pos (by simp),if_pos (by rw[hb]; decide),hb]
        rfl
      ·have hb:badF l j=0:=by unfold badF; rw[h1,if_neg (by simp),if_neg h2,if_neg (by omega)]
       rw[if_neg (by omega),if_neg (by rw[hb]; decide)]
       simp only[Vr,Bool.false_eq_true,if_false,wN1 j (by omega)]
    ·have h1:JbF (l.getD j default).Path=false:=by simpa using h1
     have hb:badF l j=7:=by unfold badF; rw[if_pos h1]
     rw[h1,if_pos (by simp),if_pos (by rw[hb]; decide),hb]
     rfl
   ·rw[if_neg (by omega),if_neg h]
def kle(a b:Edit):Prop:=a.File<b.File∨a.File=b.File∧(a.From<b.From∨a.From=b.From∧a.To≤b.To)
def chk(l:List Source)(s:List Edit)(i:Nat):Int :=
 if(s.getD i default).File<0∨(l.length:Int)≤(s.getD i default).File then 6
 else if(s.getD i default).From<0∨(s.getD i default).To<(s.getD i default).From∨((l.getD (s.getD i default).File.toNat default).Text.length:Int)<(s.getD i default).To then 3
 else if 0<i∧(s.getD (i-1) default).File=(s.getD i default).File∧((s.getD i default).From<(s.getD (i-1) default).To∨(s.getD (i-1) default).From=(s.getD i default).From) then 8 else 0
def J8(e:Edit)(out:List Source):List Source :=
 out.set e.File.toNat ⟨(out.getD e.File.toNat default).Path,(out.getD e.File.toNat default).Text.take e.From.toNat++e.Text++(out.getD e.File.toNat default).Text.drop e.To.toNat⟩
def outV(l:List Source)(s:List Edit):List Source:=s.foldr J8 l
def finV(l:List Source)(s:List Edit):List Source×Int :=
 if s.any (fun e=>decide (3000<e.Text.length))=true then([],4) else if(outV l s).any (fun f=>decide (3000<f.Text.length))=true then([],4) else(outV l s,0)
def VU(l:List Source)(s:List Edit):List Source×Int :=
 if(Xe l).Err≠0 then([],(Xe l).Err) else match (List.range s.length).find? (fun i=>decide (chk l s i≠0)) with | some i=>([],chk l s i) | none=>finV l s
theorem Jao(l:List Source):∀ s:List Edit,(outV l s).length=l.length
 | []=>rfl
 | e::s=>by
  show(J8 e (outV l s)).length=_
  rw[J8,List.length_set,Jao l s]
theorem ZT{A:Type}(l:List A)(i j:Nat)(x d:A)(h:i<l.length):(l.set i x).getD j d=if i=j then x else l.getD j d:=by
 rw[List.getD_eq_getElem?_getD,List.getElem?_set,List.getD_eq_getElem?_getD]
 by_cases hij:i=j
 ·subst hij; simp[h]
 ·simp[hij]
theorem JfE(l:List Source)(f:Nat)(hf:f<l.length)(q:Nat)(hq:q≤(l.getD f default).Text.length):∀ s:List Edit,(∀ e∈s,0≤e.File∧e.File<(l.length:Int))→(∀ e∈s,e.File=(f:Int)→(q:Int)≤e.From) →
  ((outV l s).getD f default).Text.take q=(l.getD f default).Text.take q∧q≤((outV l s).getD f default).Text.length∧((outV l s).getD f default).Path=(l.getD f default).Path
 | [],_,_=>⟨rfl,hq,rfl⟩
 | e::s,h1,h2=>by
  obtain⟨i1,i2,i3⟩:=JfE l f hf q hq s (fun x hx=>h1 x (by simp[hx])) (fun x hx=>h2 x (by simp[hx]))
  have hL:=Jao l s
  obtain⟨e1,e2⟩:=h1 e (by simp)
  show((J8 e (outV l s)).getD f default).Text.take q=_∧q≤((J8 e (outV l s)).getD f default).Text.length∧((J8 e (outV l s)).getD f default).Path=_
  rw[J8,ZT _ _ _ _ _ (by omega)]
  by_cases he:e.File.toNat=f
  ·have h3:=h2 e (by simp) (by omega)
   subst he
   rw[if_pos rfl]
   refine⟨?_,?_,i3⟩
   ·rw[List.append_assoc,List.take_append_of_le_length (by rw[List.length_take]; omega),List.take_take,← i1]
    congr 1; omega
   ·rw[List.length_append,List.length_append,List.length_take]; omega
  ·rw[if_neg he]
   exact⟨i1,i2,i3⟩
theorem JdR(l:List Source)(f:Nat):∀ s:List Edit,(∀ e∈s,0≤e.File∧e.File<(l.length:Int)∧e.From≤e.To)→((outV l s).getD f default).Text.length≤(l.getD f default).Text.length+(s.map fun e=>e.Text.length).sum
 | [],_=>by simp[outV]
 | e::s,h=>by
  have ih:=JdR l f s (fun x hx=>h x (by simp[hx]))
  obtain⟨e1,e2,e3⟩:=h e (by simp)
  have hL:=Jao l s
  show((J8 e (outV l s)).getD f default).Text.length≤_
  rw[J8,ZT _ _ _ _ _ (by omega),List.map_cons,List.sum_cons]
  by_cases he:e.File.toNat=f
  ·subst he
   rw[if_pos rfl]
   simp only[List.length_append,List.length_take,List.length_drop]
   omega
  ·rw[if_neg he]; omega
theorem Jg8{l:List Source}{s:List Edit}(hS:s.Pairwise kle)(hc:∀ i,i<s.length→chk l s i=0):∀ i j,i<j→j<s.length→(s.getD i default).File=(s.getD j default).File→(s.getD i default).To≤(s.getD j default).From:=by
 have hle:∀ i j,i<j→j<s.length→kle (s.getD i default) (s.getD j default):=fun i j h1 h2=>by
  rw[List.getD_eq_getElem?_getD,List.getD_eq_getElem?_getD,List.getElem?_eq_getElem (by omega),List.getElem?_eq_getElem h2]
  exact List.pairwise_iff_getElem.1 hS i j (by omega) h2 h1
 have adj:∀ j,0<j→j<s.length→(s.getD (j-1) default).File=(s.getD j default).File→(s.getD (j-1) default).To≤(s.getD j default).From∧(s.getD j default).From≤(s.getD j default).To:=fun j h0 h1 h2=>by
  have:=hc j h1
  unfold chk at this
  split at this
  ·cases this
  ·split at this
   ·cases this
   ·split at this
    ·cases this
    ·rename_i a b c
     constructor
     ·rcases Int.lt_or_le (s.getD j default).From (s.getD (j-1) default).To with h | h
      ·exact absurd ⟨h0,h2,.inl h⟩ c
      ·exact h
     ·omega
 intro i j hij
 obtain⟨n,rfl⟩:∃ n,j=i+1+n:=⟨j-i-1,by omega⟩
 clear hij
 induction n with
 | zero =>
  intro hj he
  exact(adj (i+1) (by omega) hj (by simpa using he)).1
 | succ n ih =>
  intro hj he
  have h1:=hle i (i+1+n) (by omega) (by omega)
  have h2:=hle (i+1+n) (i+1+(n+1)) (by omega) hj
  have hm:(s.getD i default).File=(s.getD (i+1+n) default).File:=by
   unfold kle at h1 h2
   omega
  have h3:=ih (by omega) hm
  have h4:=adj (i+1+(n+1)) (by omega) hj (by rw[show i+1+(n+1)-1=i+1+n by omega]; omega)
  rw[show i+1+(n+1)-1=i+1+n by omega]at h4
  have h5:=hc (i+1+n) (by omega)
  unfold chk at h5
  split at h5
  ·cases h5
  ·split at h5
   ·cases h5
   ·rename_i a b
    omega
theorem JeS{l:List Source}{s:List Edit}{i:Nat}(h:chk l s i=0):0≤(s.getD i default).File∧(s.getD i default).File<(l.length:Int)∧0≤(s.getD i default).From∧(s.getD i default).From≤(s.getD i default).To∧(s.getD i default).To≤((l.getD (s.getD i default).File.toNat default).Text.length:Int):=by
 unfold chk at h
 split at h
 ·cases h
 ·split at h
  ·cases h
  ·rename_i a b
   omega
theorem JgJ{s:List Edit}{k:Nat}{e:Edit}(h:e∈s.drop k):∃ i,k≤i∧i<s.length∧s.getD i default=e:=by
 obtain⟨i,hi,rfl⟩:=List.getElem_of_mem h
 rw[List.length_drop]at hi
 exact⟨k+i,by omega,by omega,by rw[List.getD_eq_getElem?_getD,List.getElem?_eq_getElem (by omega),List.getElem_drop]; rfl⟩
theorem Jkm(out:List Source)(h:out.length≤1099511627776):Jz (VF out) ((out.length:Int),0)=some (if out.any (fun f=>decide (3000<f.Text.length))=true then([],4) else(out,0)):=by
 rw[Jhg out (fun f=>decide (3000<f.Text.length)) (fun _=>(([],4):List Source×Int)) (out,0)]
 intro j hj
 simp only[VF,ltI,decide_eq_true_eq,Int.toNat_natCast,inrO,Option.map_some]
 by_cases hjl:j<out.length
 ·rw[if_pos (by omega),if_pos ⟨by omega,hjl⟩,if_pos hjl,if_pos hjl,wN1 j (by omega)]
  by_cases h3:3000<(out.getD j default).Text.length
  ·rw[if_pos (by omega),if_pos h3]
  ·rw[if_neg (by omega),if_neg h3]
 ·rw[if_neg (by omega),if_neg hjl]
theorem Jjc(l:List Source)(s:List Edit)(hS:s.Pairwise kle)(hc:∀ i,i<s.length→chk l s i=0)(hl:l.length≤1048576)(hn:s.length≤1048576)(ht:∀ f∈l,f.Text.length≤1048576)(hx:(s.map fun e=>e.Text.length).sum≤1048576):
  ∀ k:Nat,k≤s.length→Jz (Ke s) ((k:Int)-1,outV l (s.drop k))=some (if(s.take k).any (fun e=>decide (3000<e.Text.length))=true then([],4) else if(outV l s).any (fun f=>decide (3000<f.Text.length))=true then([],4) else(outV l s,0))
 | 0,_=>by
  refine lend (b:=Ke s) ?_
  simp only[Ke,leI,decide_eq_true_eq]
  rw[if_neg (by omega),Jkm _ (by rw[Jao]; omega)]
  simp only[List.drop_zero,List.take_zero,List.any_nil,Bool.false_eq_true,if_false]
  rfl
 | k+1,hk=>by
  obtain⟨c1,c2,c3,c4,c5⟩:=JeS (hc k (by omega))
  have hd:∀ e∈s.drop (k+1),0≤e.File∧e.File<(l.length:Int)∧e.From≤e.To:=fun e he=>by
   obtain⟨i,_,h2,rfl⟩:=JgJ he
   obtain⟨a1,a2,_,a4,_⟩:=JeS (hc i h2)
   exact⟨a1,a2,a4⟩
  have hL:=Jao l (s.drop (k+1))
  have hfl:(s.getD k default).File.toNat<l.length:=by omega
  have hkeep:=JfE l (s.getD k default).File.toNat hfl (s.getD k default).To.toNat (by omega) (s.drop (k+1)) (fun e he=>⟨(hd e he).1,(hd e he).2.1⟩) (fun e he hf=>by
   obtain⟨i,h1,h2,rfl⟩:=JgJ he
   have:=Jg8 hS hc k i (by omega) h2 (by omega)
   omega)
  have hsm:=JdR l (s.getD k default).File.toNat (s.drop (k+1)) hd
  have hdl:((s.drop (k+1)).map fun e=>e.Text.length).sum+(s.getD k default).Text.length≤(s.map fun e=>e.Text.length).sum:=by
   have h1:s=s.take k++(s.getD k default::s.drop (k+1)):=by rw[← JbJ s k default (by omega),List.take_append_drop]
   have h2:(s.map fun e=>e.Text.length).sum=((s.take k++(s.getD k default::s.drop (k+1))).map fun e=>e.Text.length).sum:=by rw[← h1]
   rw[h2,List.map_append,List.sum_append,List.map_cons,List.sum_cons]
   omega
  have hlt:=ht _ (Jai l (s.getD k default).File.toNat default hfl)
  have hge:=hkeep.2.1
  have hta:(s.take (k+1)).any (fun e=>decide (3000<e.Text.length))=((s.take k).any (fun e=>decide (3000<e.Text.length)) || decide (3000<(s.getD k default).Text.length)):=by
   rw[List.take_add_one,List.any_append]
   congr 1
   rw[List.getElem?_eq_getElem (by omega),List.getD_eq_getElem?_getD,List.getElem?_eq_getElem (by omega)]
   simp
  have hstep:(s.drop k)=s.getD k default::s.drop (k+1):=JbJ s k default (by omega)
  rw[show(((k+1:Nat):Int)-1)=(k:Int) by omega]
  have hb:Ke s ((k:Int),outV l (s.drop (k+1)))=if 3000<(s.getD k default).Text.length then some (.inr ([],4)) else some (.inl ((k:Int)-1,outV l (s.drop k))):=by
   have hst:outV l (s.drop k)=J8 (s.getD k default) (outV l (s.drop (k+1))):=by rw[hstep]; rfl
   rw[hst]
   clear hst
   generalize outV l (s.drop (k+1))=out at *
   simp only[Ke,leI,ltI,decide_eq_true_eq,Int.toNat_natCast]
   rw[if_pos (by omega),if_pos ⟨by omega,by omega⟩,if_pos (by omega),if_pos ⟨c1,by omega⟩,if_pos (by omega)]
   by_cases h3:3000<(s.getD k default).Text.length
   ·rw[if_pos (by omega),if_pos h3]
    rfl
   ·rw[if_neg (by omega),if_neg h3,if_pos ⟨by omega,c3,by omega⟩,if_pos (by rw[List.length_take]; omega),if_pos ⟨by omega,by omega,by omega⟩,if_pos (by rw[List.length_take,List.length_drop]; omega),if_pos ⟨c1,by omega⟩,if_pos (by omega),wr _ (by omega)]
    rfl
  by_cases h3:3000<(s.getD k default).Text.length
  ·rw[if_pos h3]at hb
   rw[lend hb,hta,decide_eq_true h3,Bool.or_true,if_pos rfl]
  ·rw[if_neg h3]at hb
   rw[Jhd hb,Jjc l s hS hc hl hn ht hx k (by omega),hta,decide_eq_false h3,Bool.or_false]
theorem Jkg(l:List Source)(s:List Edit)(hl:l.length≤1048576)(hn:s.length≤1048576):Jz (VJ l s) ((s.length:Int),0)=match (List.range s.length).find? (fun i=>decide (chk l s i≠0)) with | some i=>some ([],chk l s i) | none=>Jz (Ke s) ((s.length:Int)-1,l):=by
 rw[JcZ s.length (fun i=>decide (chk l s i≠0)) (fun i=>(([],chk l s i):List Source×Int)) (Jz (Ke s) ((s.length:Int)-1,l))]
 intro j hj
 simp only[VJ,ltI,leI,decide_eq_true_eq,Int.toNat_natCast]
 by_cases h:j<s.length
 ·rw[if_pos (by omega),if_pos ⟨by omega,h⟩,if_pos h,if_pos h]
  by_cases h6:(s.getD j default).File<0∨(l.length:Int)≤(s.getD j default).File
  ·have hc:chk l s j=6:=by unfold chk; rw[if_pos h6]
   rw[hc,if_pos (show(6:Int)≠0 by decide)]
   by_cases h7:(s.getD j default).File<0
   ·rw[if_pos h7]; rfl
   ·rw[if_neg h7]
    simp only[Vb]
    rw[if_pos (decide_eq_true (show(l.length:Int)≤(s.getD j default).File by omega))]
    rfl
  ·rw[if_neg (by omega)]
   simp only[Vb]
   rw[if_neg (show ¬ decide ((l.length:Int)≤(s.getD j default).File)=true by rw[decide_eq_true_eq]; omega)]
   have hF:0≤(s.getD j default).File∧(s.getD j default).File.toNat<l.length:=⟨by omega,by omega⟩
   by_cases h3:(s.getD j default).From<0∨(s.getD j default).To<(s.getD j default).From∨((l.getD (s.getD j default).File.toNat default).Text.length:Int)<(s.getD j default).To
   ·have hc:chk l s j=3:=by unfold chk; rw[if_neg h6,if_pos h3]
    rw[hc,if_pos (show(3:Int)≠0 by decide)]
    have hz:KG s (s.length:Int) (j:Int) (s.getD j default).File (s.getD j default).From true=some (.inr ([],3)):=by simp only[KG,if_true]; rfl
    by_cases a1:(s.getD j default).From<0
    ·rw[if_pos (by simpa [ltI] using a1),hz]
    ·rw[if_neg (by simpa [ltI] using a1)]
     by_cases a2:(s.getD j default).To<(s.getD j default).From
     ·rw[if_pos (by simpa [ltI] using a2),hz]
     ·rw[if_neg (by simpa [ltI] using a2),if_pos hF,show ltI (((l.getD (s.getD j default).File.toNat default).Text.length:Nat):Int) (s.getD j default).To=true by simp only[ltI,decide_eq_true_eq]; omega,hz]
   ·rw[if_neg (by simp only[ltI,decide_eq_true_eq]; omega),if_neg (by simp only[ltI,decide_eq_true_eq]; omega),if_pos hF,show ltI (((l.getD (s.getD j default).File.toNat default).Text.length:Nat):Int) (s.getD j default).To=false by simp only[ltI,decide_eq_false_iff_not]; omega]
    simp only[KG,Bool.false_eq_true,if_false]
    have hz0:Kf (s.length:Int) (j:Int) false=some (.inl ((s.length:Int),((j+1:Nat):Int))):=by simp only[Kf,Bool.false_eq_true,if_false,wN1 j (by omega)]
    have hz1:Kf (s.length:Int) (j:Int) true=some (.inr ([],8)):=by simp only[Kf,if_true]; rfl
    have hcc:chk l s j=if 0<j∧(s.getD (j-1) default).File=(s.getD j default).File∧((s.getD j default).From<(s.getD (j-1) default).To∨(s.getD (j-1) default).From=(s.getD j default).From) then 8 else 0:=by unfold chk; rw[if_neg h6,if_neg h3]
    by_cases b1:0<j
    ·rw[if_pos (by simp only[ltI,decide_eq_true_eq]; omega),wNm j (by omega)]
     have hj1:(0:Int)≤((j-1:Nat):Int)∧j-1<s.length:=⟨by omega,by omega⟩
     simp only[Int.toNat_natCast]
     rw[if_pos hj1,if_pos (show j-1<s.length by omega)]
     by_cases b2:(s.getD (j-1) default).File=(s.getD j default).File
     ·rw[if_pos (by simpa [eqI] using b2),if_pos hj1,if_pos (show j-1<s.length by omega)]
      by_cases b3:(s.getD j default).From<(s.getD (j-1) default).To
      ·rw[if_pos (by simpa [ltI] using b3),hz1,hcc.trans (if_pos ⟨b1,b2,.inl b3⟩),if_pos (show(8:Int)≠0 by decide)]
      ·rw[if_neg (by simpa [ltI] using b3),if_pos hj1,if_pos (show j-1<s.length by omega)]
       by_cases b4:(s.getD (j-1) default).From=(s.getD j default).From
       ·rw[show eqI (s.getD (j-1) default).From (s.getD j default).From=true by simpa [eqI] using b4,hz1,hcc.trans (if_pos ⟨b1,b2,.inr b4⟩),if_pos (show(8:Int)≠0 by decide)]
       ·rw[show eqI (s.getD (j-1) default).From (s.getD j default).From=false by simpa [eqI] using b4,hz0,hcc.trans (if_neg (by omega)),if_neg (show ¬ (0:Int)≠0 by decide)]
     ·rw[if_neg (by simpa [eqI] using b2),hz0,hcc.trans (if_neg (by omega)),if_neg (show ¬ (0:Int)≠0 by decide)]
    ·rw[if_neg (by simp only[ltI,decide_eq_true_eq]; omega),hz0,hcc.trans (if_neg (by omega)),if_neg (show ¬ (0:Int)≠0 by decide)]
 ·rw[if_neg (by omega),if_neg h,wr _ (by omega)]
theorem JhN(l:List Source)(es s:List Edit)(hs:Jk es=some s)(hS:s.Pairwise kle)(hlen:s.length=es.length)(hl:l.length≤1048576)(hn:s.length≤1048576)(hp:∀ f∈l,f.Path.length≤1048576)(ht:∀ f∈l,f.Text.length≤1048576)
  (hx:(s.map fun e=>e.Text.length).sum≤1048576):KV l es=some (VU l s):=by
 unfold KV VU
 rw[JiD l (by omega) (fun f hf=>Nat.le_trans (hp f hf) (by decide))]
 simp only[Option.bind_some]
 by_cases hw:(Xe l).Err=0
 ·rw[if_neg (Jfm hw),if_neg (by simpa using hw)]
  unfold JN JT
  rw[if_pos (by omega),if_pos (by omega),hs]
  simp only[Option.bind_some]
  rw[if_pos hlen,← hlen,Jkg l s hl hn]
  cases hf:(List.range s.length).find? (fun i=>decide (chk l s i≠0)) with
  | some i=>rfl
  | none =>
   have hc:∀ i,i<s.length→chk l s i=0:=fun i hi=>by
    have:=List.find?_eq_none.1 hf i (List.mem_range.2 hi)
    simpa using this
   have:=Jjc l s hS hc hl hn ht hx s.length (Nat.le_refl _)
   rw[List.drop_length,List.take_length]at this
   exact this
 ·rw[if_pos (Jb3 hw),if_pos hw]
end Go.Proofs.YtfkhlbhjhdpkoaaDoor
namespace Go.Proofs.YtfkhlbhjhdpkoaaDoor
open Go.RowKit
theorem Jix(a b:Int)(l:List Edit)(h:b≤IntKind.i64.wrap (a+1)):Jt a b l=some l:=by
 refine lend (b:=Jw a b) ?_
 simp only[Jw,ltI,decide_eq_true_eq]
 rw[if_neg (by omega)]; rfl
theorem JiY(x:Edit):Jk [x]=some [x]:=by
 have h2:Jz (Kj 1) (20,[x])=some [x]:=lend rfl
 have h1:JJ 1 [x]=some [x]:=by
  refine lend (b:=JS 1) ?_
  simp only[JS,leI,decide_eq_true_eq]
  rw[if_neg (by omega),Jix _ _ _ (by decide)]
  simp only[Option.bind_some,if_true,h2]
  rfl
 unfold Jk
 show((JJ 1 [x]).bind _)=_
 rw[h1]
 rfl
theorem JcI(l:List Source)(x:Edit)(hl:l.length≤1048576)(hp:∀ f∈l,f.Path.length≤1048576)(ht:∀ f∈l,f.Text.length≤1048576)(hx:x.Text.length≤1048576):KV l [x]=some (VU l [x]) :=
 JhN l [x] [x] (JiY x) (by simp) rfl hl (by simp) hp ht (by simpa using hx)
theorem JiZ(a:List Source)(h:a.length≤1048576):KX a a=some true:=by
 unfold KX
 rw[if_neg (Jfm rfl)]
 have:=Jfi (b:=KW a a) a.length (fun _=>true) false true (fun j hj=>by
  simp only[KW,ltI,decide_eq_true_eq,Int.toNat_natCast]
  by_cases h1:j<a.length
  ·rw[if_pos (by omega),if_pos ⟨by omega,h1⟩,if_pos ⟨by omega,h1⟩,if_pos h1,if_neg (by simp[eqS]),wN1 j (by omega)]
   rfl
  ·rw[if_neg (by omega),if_neg h1]; rfl)
 rw[this,if_pos (fun _ _=>rfl)]
theorem Jhu{l m:List Source}{i:Nat}(h:∀ j,(m.getD j default).Path=(l.getD j default).Path)(hm:(m.getD i default).Text.length≤3000)(hl:badF l i=0):badF m i=0:=by
 unfold badF at *
 rw[h i,h (i-1)]
 split at hl
 ·cases hl
 ·rename_i a
  rw[if_neg a]
  split at hl
  ·cases hl
  ·rw[if_neg (by omega)]; exact hl
theorem Jim{A:Type}{p:A→Bool}{l:List A}(h:l.any p=false){x:A}(hx:x∈l):p x=false:=by
 cases hp:p x with
 | false=>rfl
 | true =>
  have:l.any p=true:=List.any_eq_true.2 ⟨x,hx,hp⟩
  rw[h]at this; cases this
theorem JiA{A:Type}{l m:List A}(d:A)(h:l.length=m.length)(he:∀ i,i<l.length→l.getD i d=m.getD i d):l=m:=by
 refine List.ext_getElem h fun i h1 h2=>?_
 have:=he i h1
 simpa [List.getD_eq_getElem?_getD,List.getElem?_eq_getElem h1,List.getElem?_eq_getElem h2] using this
theorem JiL{l:List Source}(h:(Xe l).Err=0):l.length≤8∧∀ i,i<l.length→badF l i=0:=by
 unfold Xe at h
 split at h
 ·cases h
 ·rename_i h8
  refine⟨by omega,fun i hi=>?_⟩
  cases hf:(List.range l.length).find? (fun i=>decide (badF l i≠0)) with
  | some j =>
   rw[hf]at h
   have:=List.find?_some hf
   simp only[decide_eq_true_eq]at this
   exact absurd h this
  | none =>
   have:=List.find?_eq_none.1 hf i (List.mem_range.2 hi)
   simpa using this
theorem Ji5{l:List Source}(h8:l.length≤8)(h:∀ i,i<l.length→badF l i=0):Xe l=⟨0,-1,0⟩:=by
 unfold Xe
 rw[if_neg (by omega)]
 have:(List.range l.length).find? (fun i=>decide (badF l i≠0))=none:=List.find?_eq_none.2 fun i hi=>by simpa using h i (List.mem_range.1 hi)
 rw[this]
theorem Jcs(p:Nat→Bool):(List.range 1).find? p=if p 0=true then some 0 else none:=by
 show [0].find? p=_
 rw[List.find?_cons]
 cases p 0 <;> rfl
theorem JiP(t x:List UInt8)(a b:Nat)(h:a≤b)(hb:b≤t.length):(t.take a++x++t.drop b).take a++(t.drop a).take (b-a)++(t.take a++x++t.drop b).drop (a+x.length)=t:=by
 have h1:(t.take a++x++t.drop b).take a=t.take a:=by
  rw[List.append_assoc,List.take_append_of_le_length (by rw[List.length_take]; omega),List.take_take,Nat.min_self]
 have h2:(t.take a++x++t.drop b).drop (a+x.length)=t.drop b:=by
  have:(t.take a++x).length=a+x.length:=by rw[List.length_append,List.length_take]; omega
  rw[← this,List.drop_left]
 rw[h1,h2]
 have h3:(t.drop a).take (b-a)++t.drop b=t.drop a:=by
  have:t.drop b=(t.drop a).drop (b-a):=by rw[List.drop_drop]; congr 1; omega
  rw[this,List.take_append_drop]
 rw[List.append_assoc,h3,List.take_append_drop]
theorem Jit(l:List Source)(x:Edit)(hl:bkL V0 l≤1048576)(hx:Jcf x≤1048576)(hk:Jgh x):VS l x=some true:=by
 have b1:l.length+1≤bkL V0 l:=JgL (fun a=>by simp only[V0,bkS]; omega) l
 have b2:∀ f∈l,f.Path.length+f.Text.length≤bkL V0 l:=fun f hf=>by
  have:=JgS (b:=V0) hf
  simp only[V0,bkS]at this
  omega
 have hp:∀ f∈l,f.Path.length≤1048576:=fun f hf=>by have:=b2 f hf; omega
 have ht:∀ f∈l,f.Text.length≤1048576:=fun f hf=>by have:=b2 f hf; omega
 have hxt:x.Text.length≤1048576:=by simp only[Jcf,bkS,bk1]at hx; omega
 obtain⟨k1,k2,k3,_⟩:=hk
 simp only[okI]at k1 k2 k3
 unfold VS
 rw[JcD]
 simp only[Option.bind_some,Bool.not_true,Bool.false_eq_true,if_false]
 rw[JcI l x (by omega) hp ht hxt]
 simp only[Option.bind_some]
 by_cases hw:(Xe l).Err=0
 case neg =>
  have:VU l [x]=([],(Xe l).Err):=by unfold VU; rw[if_pos hw]
  rw[this,if_pos (Jb3 hw)]
  rfl
 case pos =>
 obtain⟨h8,hbad⟩:=JiL hw
 by_cases hc:chk l [x] 0=0
 case neg =>
  have:VU l [x]=([],chk l [x] 0):=by
   unfold VU
   rw[if_neg (by simpa using hw),show [x].length=1 from rfl,Jcs,if_pos (by simpa using hc)]
  rw[this,if_pos (Jb3 hc)]
  rfl
 case pos =>
 have hch:VU l [x]=finV l [x]:=by
  unfold VU
  rw[if_neg (by simpa using hw),show [x].length=1 from rfl,Jcs,if_neg (by simpa using hc)]
 rw[hch]
 obtain⟨c1,c2,c3,c4,c5⟩:=JeS hc
 have hg:([x]:List Edit).getD 0 default=x:=rfl
 rw[hg]at c1 c2 c3 c4 c5
 by_cases hm:[x].any (fun e=>decide (3000<e.Text.length))=true
 ·have:finV l [x]=([],4):=by unfold finV; rw[if_pos hm]
  rw[this,if_pos (Jb3 (by decide))]
  rfl
 have hfl:x.File.toNat<l.length:=by omega
 have hO:outV l [x]=J8 x l:=rfl
 by_cases ho:(J8 x l).any (fun f=>decide (3000<f.Text.length))=true
 ·have:finV l [x]=([],4):=by unfold finV; rw[if_neg hm,hO,if_pos ho]
  rw[this,if_pos (Jb3 (by decide))]
  rfl
 have:finV l [x]=(J8 x l,0):=by unfold finV; rw[if_neg hm,hO,if_neg ho]
 rw[this]
 have hm':x.Text.length≤3000:=by simpa using hm
 have ho':∀ f∈J8 x l,f.Text.length≤3000:=fun f hf=>by
  have:=Jim (Bool.eq_false_iff.2 ho) hf
  simpa using this
 simp only
 rw[if_neg (Jfm rfl),if_pos ⟨c1,hfl⟩,if_pos ⟨c3,c4,c5⟩]
 -- what comes back
 have hlen:(J8 x l).length=l.length:=by rw[J8,List.length_set]
 have htf:=ht _ (Jai l x.File.toNat default hfl)
 have hbadL:=hbad _ hfl
 have htl:(l.getD x.File.toNat default).Text.length≤3000:=by
  unfold badF at hbadL
  split at hbadL
  ·cases hbadL
  ·split at hbadL
   ·cases hbadL
   ·omega
 have hpath:∀ j,((J8 x l).getD j default).Path=(l.getD j default).Path:=fun j=>by
  rw[J8,ZT _ _ _ _ _ hfl]
  by_cases hj:x.File.toNat=j
  ·rw[if_pos hj,hj]
  ·rw[if_neg hj]
 have hwm:Xe (J8 x l)=⟨0,-1,0⟩:=Ji5 (by omega) fun i hi=>Jhu hpath (ho' _ (Jai _ i default hi)) (hbad i (by omega))
 generalize hy:(⟨x.File,x.From,IntKind.i64.wrap (x.From+(x.Text.length:Int)),List.take (x.To.toNat-x.From.toNat) (List.drop x.From.toNat ((l.getD x.File.toNat default).Text))⟩:Edit)=y
 have y1:y.File=x.File:=by rw[← hy]
 have y2:y.From=x.From:=by rw[← hy]
 have y3:y.To=x.From+(x.Text.length:Int):=by rw[← hy]; exact wr _ (by omega)
 have y4:y.Text=List.take (x.To.toNat-x.From.toNat) (List.drop x.From.toNat ((l.getD x.File.toNat default).Text)):=by rw[← hy]
 have hyt:y.Text.length≤3000:=by rw[y4,List.length_take,List.length_drop]; omega
 rw[JcI (J8 x l) y (by omega) (fun f hf=>by
  obtain⟨i,hi,rfl⟩:=List.getElem_of_mem hf
  have:=hpath i
  rw[List.getD_eq_getElem?_getD,List.getElem?_eq_getElem hi,Option.getD_some]at this
  rw[this]
  exact hp _ (Jai l i default (by omega))) (fun f hf=>Nat.le_trans (ho' f hf) (by decide)) (by omega)]
 simp only[Option.bind_some]
 have hst:((J8 x l).getD x.File.toNat default)=⟨(l.getD x.File.toNat default).Path,(l.getD x.File.toNat default).Text.take x.From.toNat++x.Text++(l.getD x.File.toNat default).Text.drop x.To.toNat⟩:=by
  rw[J8,ZT _ _ _ _ _ hfl,if_pos rfl]
 have hc2:chk (J8 x l) [y] 0=0:=by
  unfold chk
  have hg:([y]:List Edit).getD 0 default=y:=rfl
  rw[hg,y1,y2,y3,hlen,hst,if_neg (by omega)]
  rw[if_neg (by simp only[List.length_append,List.length_take,List.length_drop]; omega),if_neg (by omega)]
 have hback:J8 y (J8 x l)=l:=by
  refine JiA default (by rw[J8,List.length_set,hlen]) fun i hi=>?_
  rw[J8,List.length_set,hlen]at hi
  rw[J8,ZT _ _ _ _ _ (by rw[hlen,y1]; exact hfl),y1,y2,y3,y4,hst]
  by_cases hij:x.File.toNat=i
  ·subst hij
   rw[if_pos rfl]
   have:=JiP (l.getD x.File.toNat default).Text x.Text x.From.toNat x.To.toNat (by omega) (by omega)
   rw[show(x.From+(x.Text.length:Int)).toNat=x.From.toNat+x.Text.length by omega]
   simp only
   rw[this]
  ·rw[if_neg hij,J8,ZT _ _ _ _ _ hfl,if_neg hij]
 have hch2:VU (J8 x l) [y]=(l,0):=by
  unfold VU
  rw[hwm,if_neg (by simp),show [y].length=1 from rfl,Jcs,if_neg (by simpa using hc2)]
  unfold finV
  rw[if_neg (by simp; omega),show outV (J8 x l) [y]=J8 y (J8 x l) from rfl,hback]
  rw[if_neg]
  intro ha
  obtain⟨f,hf,h3⟩:=List.any_eq_true.1 ha
  obtain⟨i,hi,rfl⟩:=List.getElem_of_mem hf
  have:=hbad i hi
  unfold badF at this
  rw[List.getD_eq_getElem?_getD,List.getElem?_eq_getElem hi]at this
  split at this
  ·cases this
  ·split at this
   ·cases this
   ·rename_i hh
    exact hh (by simpa using h3)
 rw[hch2]
 simp only
 rw[if_pos (show eqI 0 0=true from rfl),JiZ l (by omega)]
 rfl
end Go.Proofs.YtfkhlbhjhdpkoaaDoor
