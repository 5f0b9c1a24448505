/- Numbers,loops. Plain. -/
import Derived.Test.YtfkhlbhjhdpkoaaDoorZoao
import Derived.Test.YtfkhlbhjhdpkoaaDoorZoau
import Derived.Test.YtfkhlbhjhdpkoaaDoorZoav
set_option linter.unusedVariables false
set_option linter.unusedSimpArgs false
set_option maxHeartbeats 4000000
namespace Go.Proofs.YtfkhlbhjhdpkoaaDoor
open Go.RowKit
theorem wr(x:Int)(h:-9223372036854775808≤x∧x≤9223372036854775807):IntKind.i64.wrap x=x:=IntWalk.i64_in _ h
theorem wN1(k:Nat)(h:k≤4611686018427387904):IntKind.i64.wrap ((k:Int)+1)=((k+1:Nat):Int):=by rw[wr _ (by omega)]; omega
theorem wNm(k:Nat)(h:0<k∧k≤4611686018427387904):IntKind.i64.wrap ((k:Int)-1)=((k-1:Nat):Int):=by rw[wr _ (by omega)]; omega
theorem Vp{S R:Type}{b:S→Option (S ⊕ R)}{s s':S}(h:b s=some (.inl s')):Ju b s=Ju b s':=by rw[Xj,h]
theorem lend{S R:Type}{b:S→Option (S ⊕ R)}{s:S}{r:R}(h:b s=some (.inr r)):Ju b s=some r:=by rw[Xj,h]
theorem JbV{A:Type}(l:List A)(k:Nat)(d:A)(h:k<l.length):l.drop k=l.getD k d::l.drop (k+1):=by
 rw[List.drop_eq_getElem_cons h]; simp[List.getD_eq_getElem?_getD,List.getElem?_eq_getElem h]
theorem JcT{A:Type}(l:List A)(k:Nat)(d:A)(h:k<l.length):l.getD k d∈l:=by
 rw[List.getD_eq_getElem?_getD,List.getElem?_eq_getElem h]; exact List.getElem_mem h
theorem Jar{a b:Int}(h:a=b):¬ (!eqI a b)=true:=by simp[eqI,h]
theorem JaA{a b:Int}(h:¬ a=b):(!eqI a b)=true:=by simp[eqI,h]
theorem JfV{R:Type}{b:Int×Int→Option ((Int×Int) ⊕ R)}(N:Nat)(p:Nat→Bool)(x y:R)
  (hb:∀ j:Nat,j≤N→b ((N:Int),(j:Int))=if j<N then(if p j=true then some (.inl ((N:Int),((j+1:Nat):Int))) else some (.inr x)) else some (.inr y)) :
  Ju b ((N:Int),0)=some (if ∀ j,j<N→p j=true then y else x):=by
 have key:∀ n j,j≤N→N-j≤n→Ju b ((N:Int),(j:Int))=some (if ∀ i,i<N→j≤i→p i=true then y else x):=fun n=>by
  induction n with
  | zero =>
   intro j hj hn
   rw[lend ((hb j hj).trans (if_neg (by omega))),if_pos (fun i h1 h2=>by omega)]
  | succ n ih =>
   intro j hj hn
   have hj':=hb j hj
   by_cases h:j<N
   ·rw[if_pos h]at hj'
    by_cases hp:p j=true
    ·rw[if_pos hp]at hj'
     rw[Vp hj',ih (j+1) (by omega) (by omega)]
     congr 2
     apply propext
     exact⟨fun h i h1 h2=>by
      by_cases e:i=j
      ·rw[e]; exact hp
      ·exact h i h1 (by omega),fun h i h1 h2=>h i h1 (by omega)⟩
    ·rw[if_neg hp]at hj'
     rw[lend hj',if_neg (fun h'=>hp (h' j h (Nat.le_refl _)))]
   ·rw[if_neg h]at hj'
    rw[lend hj',if_pos (fun i h1 h2=>by omega)]
 have:=key N 0 (Nat.zero_le _) (by omega)
 rw[show(0:Int)=((0:Nat):Int) from rfl,this]
 congr 2
 apply propext
 exact⟨fun h i h1=>h i h1 (Nat.zero_le _),fun h i h1 _=>h i h1⟩
theorem JgJ{A:Type}(l:List A)(d:A)(p:A→Bool):(∀ j,j<l.length→p (l.getD j d)=true)↔l.all p=true:=by
 rw[List.all_eq_true]
 constructor
 ·intro h a ha
  obtain⟨j,hj,rfl⟩:=List.getElem_of_mem ha
  have:=h j hj
  rwa [List.getD_eq_getElem?_getD,List.getElem?_eq_getElem hj]at this
 ·intro h j hj
  rw[List.getD_eq_getElem?_getD,List.getElem?_eq_getElem hj]
  exact h _ (List.getElem_mem hj)
theorem JhG{A R:Type} [Inhabited A] {b:Int×Int→Option ((Int×Int) ⊕ R)} (l:List A) (p:A→Bool) (f:Nat→R) (d:R)
  (hb:∀ j:Nat,j≤l.length→b ((l.length:Int),(j:Int))=if j<l.length then(if p (l.getD j default)=true then some (.inr (f j)) else some (.inl ((l.length:Int),((j+1:Nat):Int)))) else some (.inr d)) :
  Ju b ((l.length:Int),0)=some (if l.any p=true then f (l.findIdx p) else d):=by
 have key:∀ (n j:Nat),j≤l.length→l.length-j≤n→Ju b ((l.length:Int),(j:Int))=some (if(l.drop j).any p=true then f (j+(l.drop j).findIdx p) else d):=by
  intro n
  induction n with
  | zero =>
   intro j hj hn
   have:j=l.length:=by omega
   subst this
   rw[Xj,hb _ hj,if_neg (by simp)]
   simp
  | succ n ih =>
   intro j hj hn
   rw[Xj,hb j hj]
   by_cases h:j<l.length
   ·rw[if_pos h,JbV l j default h]
    by_cases hp:p (l.getD j default)=true
    ·rw[if_pos hp]
     simp only[List.any_cons,hp,Bool.true_or,if_true,List.findIdx_cons,cond_true,Nat.add_zero]
    ·rw[if_neg hp]
     simp only
     rw[ih (j+1) (by omega) (by omega)]
     have hp:p (l.getD j default)=false:=by simpa using hp
     simp only[List.any_cons,hp,Bool.false_or,List.findIdx_cons,cond_false]
     congr 2
     congr 1
     omega
   ·rw[if_neg h,List.drop_of_length_le (by omega)]
    rfl
 have:=key l.length 0 (Nat.zero_le _) (Nat.le_refl _)
 simpa using this
end Go.Proofs.YtfkhlbhjhdpkoaaDoor
namespace Go.Proofs.YtfkhlbhjhdpkoaaDoor
open Go.RowKit
def okc(c:UInt8):Bool:=decide (97≤c.toNat∧c.toNat≤122) || decide (65≤c.toNat∧c.toNat≤90) || decide (48≤c.toNat∧c.toNat≤57) || decide (c.toNat=46) || decide (c.toNat=95)
def Jdi(p:List UInt8):Bool:=!(decide (p=[]) || decide (p=[46]) || decide (p=[46,46])) && p.all okc
theorem Jkl(p:List UInt8)(h:p.length≤4611686018427387904):ZB p=some (Jdi p):=by
 have hl:Ju (VH p) ((p.length:Int),0)=some (if ∀ j,j<p.length→okc (p.getD j default)=true then true else false):=by
  refine JfV p.length (fun j=>okc (p.getD j default)) false true fun j hj=>?_
  simp only[VH,ltI,leI,decide_eq_true_eq,Int.toNat_natCast]
  by_cases hjl:j<p.length
  ·rw[if_pos (by omega),if_pos hjl,if_pos ⟨by omega,hjl⟩]
   obtain⟨c,hc⟩:∃ c,p.getD j default=c:=⟨_,rfl⟩
   simp only[hc,Kc,VF,wN1 j (by omega),eqI,inrO]
   have b1:(97:Int)≤(c.toNat:Int)↔97≤c.toNat:=by omega
   have b2:(c.toNat:Int)≤122↔c.toNat≤122:=by omega
   have b3:(65:Int)≤(c.toNat:Int)↔65≤c.toNat:=by omega
   have b4:(c.toNat:Int)≤90↔c.toNat≤90:=by omega
   have b5:(48:Int)≤(c.toNat:Int)↔48≤c.toNat:=by omega
   have b6:(c.toNat:Int)≤57↔c.toNat≤57:=by omega
   have b7:(c.toNat:Int)=46↔c.toNat=46:=by omega
   have b8:(c.toNat:Int)=95↔c.toNat=95:=by omega
   by_cases a1:97≤c.toNat <;> by_cases a2:c.toNat≤122 <;> by_cases a3:65≤c.toNat <;> by_cases a4:c.toNat≤90 <;> by_cases a5:48≤c.toNat <;> by_cases a6:c.toNat≤57 <;> by_cases a7:c.toNat=46 <;> by_cases a8:c.toNat=95 <;>
    first
    | (exfalso; omega)
    | simp[okc,b1,b2,b3,b4,b5,b6,b7,b8,a1,a2,a3,a4,a5,a6,a7,a8]
  ·rw[if_neg (by omega),if_neg hjl]
   rfl
 have hl2:Ju (VH p) ((p.length:Int),0)=some (p.all okc):=by
  rw[hl]
  congr 1
  by_cases ha:p.all okc=true
  ·rw[if_pos ((JgJ p default okc).2 ha),ha]
  ·rw[if_neg (fun h=>ha ((JgJ p default okc).1 h))]
   simpa using ha
 unfold ZB Jdi
 simp only[eqS,decide_eq_true_eq,VG]
 by_cases h1:p=[]
 ·subst h1; rfl
 ·rw[if_neg h1]
  by_cases h2:p=[46]
  ·subst h2; rfl
  ·rw[if_neg h2]
   by_cases h3:p=[46,46]
   ·subst h3; rfl
   ·rw[if_neg h3,hl2]
    simp[h1,h2,h3]
theorem JeI{A:Type}{f:A→Option Bool}{p:A→Bool}:∀ {l:List A},(∀ x∈l,f x=some (p x))→Jaj f l=some (l.all p)
 | [],_=>rfl
 | x::l,h=>by
  simp only[Jaj,h x (by simp),Option.bind_some,List.all_cons]
  cases hp:p x with
  | true=>simp only[if_true,Bool.true_and]; exact JeI fun y hy=>h y (by simp[hy])
  | false=>simp
theorem JfJ(c:UInt8):∀ s:List UInt8,((splV c s).map fun x=>x.length+1).sum=s.length+1
 | []=>rfl
 | x::r=>by
  have ih:=JfJ c r
  unfold splV
  split
  ·simp only[List.map_cons,List.sum_cons,List.length_nil,List.length_cons,ih]; omega
  ·obtain⟨p,ps,h⟩:=Jg4 c r
   rw[h]at ih ⊢
   simp only[List.map_cons,List.sum_cons,List.length_cons]at ih ⊢
   omega
def wgt(l:List (List UInt8)):Nat:=(l.map fun x=>x.length+1).sum
theorem Jha:∀ {l:List (List UInt8)} {x:List UInt8},x∈l→x.length+1≤wgt l
 | y::l,x,h=>by
  rcases List.mem_cons.1 h with rfl | h
  ·simp only[wgt,List.map_cons,List.sum_cons]; omega
  ·have:=Jha h
   simp only[wgt,List.map_cons,List.sum_cons]at this ⊢; omega
def Jci(s:List UInt8):Bool:=decide (s.length≤40) && (splV 47 s).all Jdi
theorem Jjg(s:List UInt8)(h:s.length≤1099511627776):Vr s=some (Jci s):=by
 unfold Vr Jci
 simp only[ltI,decide_eq_true_eq]
 by_cases h1:s.length≤40
 ·rw[if_neg (by omega),if_pos (by omega),JeI (p:=Jdi)]
  ·simp[h1]
  ·intro x hx
   refine Jkl x ?_
   have:=Jha hx
   have h2:=JfJ 47 s
   simp only[wgt]at this
   omega
 ·rw[if_pos (by omega)]
  simp[h1]
end Go.Proofs.YtfkhlbhjhdpkoaaDoor
namespace Go.Proofs.YtfkhlbhjhdpkoaaDoor
open Go.RowKit
theorem Jc6{R:Type}{b:Int×Int→Option ((Int×Int) ⊕ R)}(N:Nat)(p:Nat→Bool)(f:Nat→R)(o:Option R)
  (hb:∀ j:Nat,j≤N→b ((N:Int),(j:Int))=if j<N then(if p j=true then some (.inr (f j)) else some (.inl ((N:Int),((j+1:Nat):Int)))) else inrO o) :
  Ju b ((N:Int),0)=match (List.range N).find? p with | some i=>some (f i) | none=>o:=by
 have key:∀ n j,j+n=N→Ju b ((N:Int),(j:Int))=match (List.range' j n).find? p with | some i=>some (f i) | none=>o:=fun n=>by
  induction n with
  | zero =>
   intro j hj
   have h:=hb j (by omega)
   rw[if_neg (by omega)]at h
   rw[Xj,h]
   cases o <;> rfl
  | succ n ih =>
   intro j hj
   have h:=hb j (by omega)
   rw[if_pos (by omega)]at h
   rw[List.range'_succ,List.find?_cons]
   cases hp:p j with
   | true =>
    rw[hp,if_pos rfl]at h
    rw[lend h]
   | false =>
    rw[hp,if_neg (by simp)]at h
    rw[Vp h,ih (j+1) (by omega)]
 have:=key N 0 (by omega)
 rw[List.range_eq_range']
 exact this
def badF(l:List Source)(i:Nat):Int :=
 if Jci (l.getD i default).Path=false then 7 else if 3000<(l.getD i default).Text.length then 4
 else if 0<i∧Op.bytesLess (l.getD (i-1) default).Path (l.getD i default).Path=false then 2 else 0
def V7(l:List Source):Fault :=
 if 8<l.length then⟨5,-1,0⟩ else match (List.range l.length).find? (fun i=>decide (badF l i≠0)) with | some i=>⟨badF l i,i,0⟩ | none=>⟨0,-1,0⟩
theorem Jf0(l:List Source)(hl:l.length≤1099511627776)(hs:∀ f∈l,f.Path.length≤1099511627776):Vs l=some (V7 l):=by
 unfold Vs V7
 simp only[ltI,decide_eq_true_eq]
 by_cases h8:8<l.length
 ·rw[if_pos (by omega),if_pos h8]
 ·rw[if_neg (by omega),if_neg h8]
  rw[Jc6 l.length (fun i=>decide (badF l i≠0)) (fun i=>(⟨badF l i,i,0⟩:Fault)) (some ⟨0,-1,0⟩)]
  ·split <;> rfl
  ·intro j hj
   simp only[XU,ltI,decide_eq_true_eq,Int.toNat_natCast]
   by_cases h:j<l.length
   ·have hm:=hs _ (JcT l j default h)
    rw[if_pos (by omega),if_pos ⟨by omega,h⟩,if_pos h,Jjg _ hm]
    simp only[Option.bind_some]
    by_cases h1:Jci (l.getD j default).Path=true
    ·rw[h1]
     simp only[Bool.not_true,Bool.false_eq_true,if_false]
     by_cases h2:3000<(l.getD j default).Text.length
     ·rw[if_pos (by omega)]
      have hb:badF l j=4:=by unfold badF; rw[h1,if_neg (by simp),if_pos h2]
      rw[if_pos (by rw[hb]; decide),hb]
      rfl
     ·rw[if_neg (by omega)]
      by_cases h3:0<j
      ·rw[if_pos (by omega),wNm j (by omega),if_pos (by omega)]
       simp only[Int.toNat_natCast,Vx,wN1 j (by omega)]
       by_cases h4:Op.bytesLess (l.getD (j-1) default).Path (l.getD j default).Path=true
       ·have hb:badF l j=0:=by unfold badF; rw[h1,if_neg (by simp),if_neg h2,if_neg (fun hh=>by rw[h4]at hh; exact absurd hh.2 (by simp))]
        rw[h4,if_neg (by simp),if_neg (by rw[hb]; decide)]
       ·have h4:Op.bytesLess (l.getD (j-1) default).Path (l.getD j default).Path=false:=by simpa using h4
        have hb:badF l j=2:=by unfold badF; rw[h1,if_neg (by simp),if_neg h2,if_pos ⟨h3,h4⟩]
        rw[h4,if_pos (by simp),if_pos (by rw[hb]; decide),hb]
        rfl
      ·have hb:badF l j=0:=by unfold badF; rw[h1,if_neg (by simp),if_neg h2,if_neg (by omega)]
       rw[if_neg (by omega),if_neg (by rw[hb]; decide)]
       simp only[Vx,Bool.false_eq_true,if_false,wN1 j (by omega)]
    ·have h1:Jci (l.getD j default).Path=false:=by simpa using h1
     have hb:badF l j=7:=by unfold badF; rw[if_pos h1]
     rw[h1,if_pos (by simp),if_pos (by rw[hb]; decide),hb]
     rfl
   ·rw[if_neg (by omega),if_neg h]
def kle(a b:Edit):Prop:=a.File<b.File∨a.File=b.File∧(a.From<b.From∨a.From=b.From∧a.To≤b.To)
def chk(l:List Source)(s:List Edit)(i:Nat):Int :=
 if(s.getD i default).File<0∨(l.length:Int)≤(s.getD i default).File then 6
 else if(s.getD i default).From<0∨(s.getD i default).To<(s.getD i default).From∨((l.getD (s.getD i default).File.toNat default).Text.length:Int)<(s.getD i default).To then 3
 else if 0<i∧(s.getD (i-1) default).File=(s.getD i default).File∧((s.getD i default).From<(s.getD (i-1) default).To∨(s.getD (i-1) default).From=(s.getD i default).From) then 8 else 0
def Z2(e:Edit)(out:List Source):List Source :=
 out.set e.File.toNat ⟨(out.getD e.File.toNat default).Path,(out.getD e.File.toNat default).Text.take e.From.toNat++e.Text++(out.getD e.File.toNat default).Text.drop e.To.toNat⟩
def outV(l:List Source)(s:List Edit):List Source:=s.foldr Z2 l
def finV(l:List Source)(s:List Edit):List Source×Int :=
 if s.any (fun e=>decide (3000<e.Text.length))=true then([],4) else if(outV l s).any (fun f=>decide (3000<f.Text.length))=true then([],4) else(outV l s,0)
def VA(l:List Source)(s:List Edit):List Source×Int :=
 if(V7 l).Err≠0 then([],(V7 l).Err) else match (List.range s.length).find? (fun i=>decide (chk l s i≠0)) with | some i=>([],chk l s i) | none=>finV l s
theorem Z1(l:List Source):∀ s:List Edit,(outV l s).length=l.length
 | []=>rfl
 | e::s=>by
  show(Z2 e (outV l s)).length=_
  rw[Z2,List.length_set,Z1 l s]
theorem Jf3{A:Type}(l:List A)(i j:Nat)(x d:A)(h:i<l.length):(l.set i x).getD j d=if i=j then x else l.getD j d:=by
 rw[List.getD_eq_getElem?_getD,List.getElem?_set,List.getD_eq_getElem?_getD]
 by_cases hij:i=j
 ·subst hij; simp[h]
 ·simp[hij]
theorem Jgc(l:List Source)(f:Nat)(hf:f<l.length)(q:Nat)(hq:q≤(l.getD f default).Text.length):∀ s:List Edit,(∀ e∈s,0≤e.File∧e.File<(l.length:Int))→(∀ e∈s,e.File=(f:Int)→(q:Int)≤e.From) →
  ((outV l s).getD f default).Text.take q=(l.getD f default).Text.take q∧q≤((outV l s).getD f default).Text.length∧((outV l s).getD f default).Path=(l.getD f default).Path
 | [],_,_=>⟨rfl,hq,rfl⟩
 | e::s,h1,h2=>by
  obtain⟨i1,i2,i3⟩:=Jgc l f hf q hq s (fun x hx=>h1 x (by simp[hx])) (fun x hx=>h2 x (by simp[hx]))
  have hL:=Z1 l s
  obtain⟨e1,e2⟩:=h1 e (by simp)
  show((Z2 e (outV l s)).getD f default).Text.take q=_∧q≤((Z2 e (outV l s)).getD f default).Text.length∧((Z2 e (outV l s)).getD f default).Path=_
  rw[Z2,Jf3 _ _ _ _ _ (by omega)]
  by_cases he:e.File.toNat=f
  ·have h3:=h2 e (by simp) (by omega)
   subst he
   rw[if_pos rfl]
   refine⟨?_,?_,i3⟩
   ·rw[List.append_assoc,List.take_append_of_le_length (by rw[List.length_take]; omega),List.take_take,← i1]
    congr 1; omega
   ·rw[List.length_append,List.length_append,List.length_take]; omega
  ·rw[if_neg he]
   exact⟨i1,i2,i3⟩
theorem Jew(l:List Source)(f:Nat):∀ s:List Edit,(∀ e∈s,0≤e.File∧e.File<(l.length:Int)∧e.From≤e.To)→((outV l s).getD f default).Text.length≤(l.getD f default).Text.length+(s.map fun e=>e.Text.length).sum
 | [],_=>by simp[outV]
 | e::s,h=>by
  have ih:=Jew l f s (fun x hx=>h x (by simp[hx]))
  obtain⟨e1,e2,e3⟩:=h e (by simp)
  have hL:=Z1 l s
  show((Z2 e (outV l s)).getD f default).Text.length≤_
  rw[Z2,Jf3 _ _ _ _ _ (by omega),List.map_cons,List.sum_cons]
  by_cases he:e.File.toNat=f
  ·subst he
   rw[if_pos rfl]
   simp only[List.length_append,List.length_take,List.length_drop]
   omega
  ·rw[if_neg he]; omega
theorem JhK{l:List Source}{s:List Edit}(hS:s.Pairwise kle)(hc:∀ i,i<s.length→chk l s i=0):∀ i j,i<j→j<s.length→(s.getD i default).File=(s.getD j default).File→(s.getD i default).To≤(s.getD j default).From:=by
 have hle:∀ i j,i<j→j<s.length→kle (s.getD i default) (s.getD j default):=fun i j h1 h2=>by
  rw[List.getD_eq_getElem?_getD,List.getD_eq_getElem?_getD,List.getElem?_eq_getElem (by omega),List.getElem?_eq_getElem h2]
  exact List.pairwise_iff_getElem.1 hS i j (by omega) h2 h1
 have adj:∀ j,0<j→j<s.length→(s.getD (j-1) default).File=(s.getD j default).File→(s.getD (j-1) default).To≤(s.getD j default).From∧(s.getD j default).From≤(s.getD j default).To:=fun j h0 h1 h2=>by
  have:=hc j h1
  unfold chk at this
  split at this
  ·cases this
  ·split at this
   ·cases this
   ·split at this
    ·cases this
    ·rename_i a b c
     constructor
     ·rcases Int.lt_or_le (s.getD j default).From (s.getD (j-1) default).To with h | h
      ·exact absurd ⟨h0,h2,.inl h⟩ c
      ·exact h
     ·omega
 intro i j hij
 obtain⟨n,rfl⟩:∃ n,j=i+1+n:=⟨j-i-1,by omega⟩
 clear hij
 induction n with
 | zero =>
  intro hj he
  exact(adj (i+1) (by omega) hj (by simpa using he)).1
 | succ n ih =>
  intro hj he
  have h1:=hle i (i+1+n) (by omega) (by omega)
  have h2:=hle (i+1+n) (i+1+(n+1)) (by omega) hj
  have hm:(s.getD i default).File=(s.getD (i+1+n) default).File:=by
   unfold kle at h1 h2
   omega
  have h3:=ih (by omega) hm
  have h4:=adj (i+1+(n+1)) (by omega) hj (by rw[show i+1+(n+1)-1=i+1+n by omega]; omega)
  rw[show i+1+(n+1)-1=i+1+n by omega]at h4
  have h5:=hc (i+1+n) (by omega)
  unfold chk at h5
  split at h5
  ·cases h5
  ·split at h5
   ·cases h5
   ·rename_i a b
    omega
theorem JiB{l:List Source}{s:List Edit}{i:Nat}(h:chk l s i=0):0≤(s.getD i default).File∧(s.getD i default).File<(l.length:Int)∧0≤(s.getD i default).From∧(s.getD i default).From≤(s.getD i default).To∧(s.getD i default).To≤((l.getD (s.getD i default).File.toNat default).Text.length:Int):=by
 unfold chk at h
 split at h
 ·cases h
 ·split at h
  ·cases h
  ·rename_i a b
   omega
theorem JkI{s:List Edit}{e:Edit}(h:e∈s):∃ i,i<s.length∧s.getD i default=e:=by
 obtain⟨i,hi,rfl⟩:=List.getElem_of_mem h
 exact⟨i,hi,by rw[List.getD_eq_getElem?_getD,List.getElem?_eq_getElem hi]; rfl⟩
theorem Jg6{s:List Edit}{k:Nat}{e:Edit}(h:e∈s.drop k):∃ i,k≤i∧i<s.length∧s.getD i default=e:=by
 obtain⟨i,hi,rfl⟩:=List.getElem_of_mem h
 rw[List.length_drop]at hi
 exact⟨k+i,by omega,by omega,by rw[List.getD_eq_getElem?_getD,List.getElem?_eq_getElem (by omega),List.getElem_drop]; rfl⟩
theorem JkN(out:List Source)(h:out.length≤1099511627776):Ju (VV out) ((out.length:Int),0)=some (if out.any (fun f=>decide (3000<f.Text.length))=true then([],4) else(out,0)):=by
 rw[JhG out (fun f=>decide (3000<f.Text.length)) (fun _=>(([],4):List Source×Int)) (out,0)]
 intro j hj
 simp only[VV,ltI,decide_eq_true_eq,Int.toNat_natCast,inrO,Option.map_some]
 by_cases hjl:j<out.length
 ·rw[if_pos (by omega),if_pos ⟨by omega,hjl⟩,if_pos hjl,if_pos hjl,wN1 j (by omega)]
  by_cases h3:3000<(out.getD j default).Text.length
  ·rw[if_pos (by omega),if_pos h3]
  ·rw[if_neg (by omega),if_neg h3]
 ·rw[if_neg (by omega),if_neg hjl]
theorem JjC(l:List Source)(s:List Edit)(hS:s.Pairwise kle)(hc:∀ i,i<s.length→chk l s i=0)(hl:l.length≤1048576)(hn:s.length≤1048576)(ht:∀ f∈l,f.Text.length≤1048576)(hx:(s.map fun e=>e.Text.length).sum≤1048576):
  ∀ k:Nat,k≤s.length→Ju (Kt s) ((k:Int)-1,outV l (s.drop k))=some (if(s.take k).any (fun e=>decide (3000<e.Text.length))=true then([],4) else if(outV l s).any (fun f=>decide (3000<f.Text.length))=true then([],4) else(outV l s,0))
 | 0,_=>by
  refine lend (b:=Kt s) ?_
  simp only[Kt,leI,decide_eq_true_eq]
  rw[if_neg (by omega),JkN _ (by rw[Z1]; omega)]
  simp only[List.drop_zero,List.take_zero,List.any_nil,Bool.false_eq_true,if_false]
  rfl
 | k+1,hk=>by
  obtain⟨c1,c2,c3,c4,c5⟩:=JiB (hc k (by omega))
  have hd:∀ e∈s.drop (k+1),0≤e.File∧e.File<(l.length:Int)∧e.From≤e.To:=fun e he=>by
   obtain⟨i,_,h2,rfl⟩:=Jg6 he
   obtain⟨a1,a2,_,a4,_⟩:=JiB (hc i h2)
   exact⟨a1,a2,a4⟩
  have hL:=Z1 l (s.drop (k+1))
  have hfl:(s.getD k default).File.toNat<l.length:=by omega
  have hkeep:=Jgc l (s.getD k default).File.toNat hfl (s.getD k default).To.toNat (by omega) (s.drop (k+1)) (fun e he=>⟨(hd e he).1,(hd e he).2.1⟩) (fun e he hf=>by
   obtain⟨i,h1,h2,rfl⟩:=Jg6 he
   have:=JhK hS hc k i (by omega) h2 (by omega)
   omega)
  have hsm:=Jew l (s.getD k default).File.toNat (s.drop (k+1)) hd
  have hdl:((s.drop (k+1)).map fun e=>e.Text.length).sum+(s.getD k default).Text.length≤(s.map fun e=>e.Text.length).sum:=by
   have h1:s=s.take k++(s.getD k default::s.drop (k+1)):=by rw[← JbV s k default (by omega),List.take_append_drop]
   have h2:(s.map fun e=>e.Text.length).sum=((s.take k++(s.getD k default::s.drop (k+1))).map fun e=>e.Text.length).sum:=by rw[← h1]
   rw[h2,List.map_append,List.sum_append,List.map_cons,List.sum_cons]
   omega
  have hlt:=ht _ (JcT l (s.getD k default).File.toNat default hfl)
  have hge:=hkeep.2.1
  have hta:(s.take (k+1)).any (fun e=>decide (3000<e.Text.length))=((s.take k).any (fun e=>decide (3000<e.Text.length)) || decide (3000<(s.getD k default).Text.length)):=by
   rw[List.take_add_one,List.any_append]
   congr 1
   rw[List.getElem?_eq_getElem (by omega),List.getD_eq_getElem?_getD,List.getElem?_eq_getElem (by omega)]
   simp
  have hstep:(s.drop k)=s.getD k default::s.drop (k+1):=JbV s k default (by omega)
  rw[show(((k+1:Nat):Int)-1)=(k:Int) by omega]
  have hb:Kt s ((k:Int),outV l (s.drop (k+1)))=if 3000<(s.getD k default).Text.length then some (.inr ([],4)) else some (.inl ((k:Int)-1,outV l (s.drop k))):=by
   have hst:outV l (s.drop k)=Z2 (s.getD k default) (outV l (s.drop (k+1))):=by rw[hstep]; rfl
   rw[hst]
   clear hst
   generalize outV l (s.drop (k+1))=out at *
   simp only[Kt,leI,ltI,decide_eq_true_eq,Int.toNat_natCast]
   rw[if_pos (by omega),if_pos ⟨by omega,by omega⟩,if_pos (by omega),if_pos ⟨c1,by omega⟩,if_pos (by omega)]
   by_cases h3:3000<(s.getD k default).Text.length
   ·rw[if_pos (by omega),if_pos h3]
    rfl
   ·rw[if_neg (by omega),if_neg h3,if_pos ⟨by omega,c3,by omega⟩,if_pos (by rw[List.length_take]; omega),if_pos ⟨by omega,by omega,by omega⟩,if_pos (by rw[List.length_take,List.length_drop]; omega),if_pos ⟨c1,by omega⟩,if_pos (by omega),wr _ (by omega)]
    rfl
  by_cases h3:3000<(s.getD k default).Text.length
  ·rw[if_pos h3]at hb
   rw[lend hb,hta,decide_eq_true h3,Bool.or_true,if_pos rfl]
  ·rw[if_neg h3]at hb
   rw[Vp hb,JjC l s hS hc hl hn ht hx k (by omega),hta,decide_eq_false h3,Bool.or_false]
theorem JkU(l:List Source)(s:List Edit)(hl:l.length≤1048576)(hn:s.length≤1048576):Ju (VJ l s) ((s.length:Int),0)=match (List.range s.length).find? (fun i=>decide (chk l s i≠0)) with | some i=>some ([],chk l s i) | none=>Ju (Kt s) ((s.length:Int)-1,l):=by
 rw[Jc6 s.length (fun i=>decide (chk l s i≠0)) (fun i=>(([],chk l s i):List Source×Int)) (Ju (Kt s) ((s.length:Int)-1,l))]
 intro j hj
 simp only[VJ,ltI,leI,decide_eq_true_eq,Int.toNat_natCast]
 by_cases h:j<s.length
 ·rw[if_pos (by omega),if_pos ⟨by omega,h⟩,if_pos h,if_pos h]
  by_cases h6:(s.getD j default).File<0∨(l.length:Int)≤(s.getD j default).File
  ·have hc:chk l s j=6:=by unfold chk; rw[if_pos h6]
   rw[hc,if_pos (show(6:Int)≠0 by decide)]
   by_cases h7:(s.getD j default).File<0
   ·rw[if_pos h7]; rfl
   ·rw[if_neg h7]
    simp only[Vi]
    rw[if_pos (decide_eq_true (show(l.length:Int)≤(s.getD j default).File by omega))]
    rfl
  ·rw[if_neg (by omega)]
   simp only[Vi]
   rw[if_neg (show ¬ decide ((l.length:Int)≤(s.getD j default).File)=true by rw[decide_eq_true_eq]; omega)]
   have hF:0≤(s.getD j default).File∧(s.getD j default).File.toNat<l.length:=⟨by omega,by omega⟩
   by_cases h3:(s.getD j default).From<0∨(s.getD j default).To<(s.getD j default).From∨((l.getD (s.getD j default).File.toNat default).Text.length:Int)<(s.getD j default).To
   ·have hc:chk l s j=3:=by unfold chk; rw[if_neg h6,if_pos h3]
    rw[hc,if_pos (show(3:Int)≠0 by decide)]
    have hz:KM s (s.length:Int) (j:Int) (s.getD j default).File (s.getD j default).From true=some (.inr ([],3)):=by simp only[KM,if_true]; rfl
    by_cases a1:(s.getD j default).From<0
    ·rw[if_pos (by simpa [ltI] using a1),hz]
    ·rw[if_neg (by simpa [ltI] using a1)]
     by_cases a2:(s.getD j default).To<(s.getD j default).From
     ·rw[if_pos (by simpa [ltI] using a2),hz]
     ·rw[if_neg (by simpa [ltI] using a2),if_pos hF,show ltI (((l.getD (s.getD j default).File.toNat default).Text.length:Nat):Int) (s.getD j default).To=true by simp only[ltI,decide_eq_true_eq]; omega,hz]
   ·rw[if_neg (by simp only[ltI,decide_eq_true_eq]; omega),if_neg (by simp only[ltI,decide_eq_true_eq]; omega),if_pos hF,show ltI (((l.getD (s.getD j default).File.toNat default).Text.length:Nat):Int) (s.getD j default).To=false by simp only[ltI,decide_eq_false_iff_not]; omega]
    simp only[KM,Bool.false_eq_true,if_false]
    have hz0:Ku (s.length:Int) (j:Int) false=some (.inl ((s.length:Int),((j+1:Nat):Int))):=by simp only[Ku,Bool.false_eq_true,if_false,wN1 j (by omega)]
    have hz1:Ku (s.length:Int) (j:Int) true=some (.inr ([],8)):=by simp only[Ku,if_true]; rfl
    have hcc:chk l s j=if 0<j∧(s.getD (j-1) default).File=(s.getD j default).File∧((s.getD j default).From<(s.getD (j-1) default).To∨(s.getD (j-1) default).From=(s.getD j default).From) then 8 else 0:=by unfold chk; rw[if_neg h6,if_neg h3]
    by_cases b1:0<j
    ·rw[if_pos (by simp only[ltI,decide_eq_true_eq]; omega),wNm j (by omega)]
     have hj1:(0:Int)≤((j-1:Nat):Int)∧j-1<s.length:=⟨by omega,by omega⟩
     simp only[Int.toNat_natCast]
     rw[if_pos hj1,if_pos (show j-1<s.length by omega)]
     by_cases b2:(s.getD (j-1) default).File=(s.getD j default).File
     ·rw[if_pos (by simpa [eqI] using b2),if_pos hj1,if_pos (show j-1<s.length by omega)]
      by_cases b3:(s.getD j default).From<(s.getD (j-1) default).To
      ·rw[if_pos (by simpa [ltI] using b3),hz1,hcc.trans (if_pos ⟨b1,b2,.inl b3⟩),if_pos (show(8:Int)≠0 by decide)]
      ·rw[if_neg (by simpa [ltI] using b3),if_pos hj1,if_pos (show j-1<s.length by omega)]
       by_cases b4:(s.getD (j-1) default).From=(s.getD j default).From
       ·rw[show eqI (s.getD (j-1) default).From (s.getD j default).From=true by simpa [eqI] using b4,hz1,hcc.trans (if_pos ⟨b1,b2,.inr b4⟩),if_pos (show(8:Int)≠0 by decide)]
       ·rw[show eqI (s.getD (j-1) default).From (s.getD j default).From=false by simpa [eqI] using b4,hz0,hcc.trans (if_neg (by omega)),if_neg (show ¬ (0:Int)≠0 by decide)]
     ·rw[if_neg (by simpa [eqI] using b2),hz0,hcc.trans (if_neg (by omega)),if_neg (show ¬ (0:Int)≠0 by decide)]
    ·rw[if_neg (by simp only[ltI,decide_eq_true_eq]; omega),hz0,hcc.trans (if_neg (by omega)),if_neg (show ¬ (0:Int)≠0 by decide)]
 ·rw[if_neg (by omega),if_neg h,wr _ (by omega)]
theorem Jia(l:List Source)(es s:List Edit)(hs:Jv es=some s)(hS:s.Pairwise kle)(hlen:s.length=es.length)(hl:l.length≤1048576)(hn:s.length≤1048576)(hp:∀ f∈l,f.Path.length≤1048576)(ht:∀ f∈l,f.Text.length≤1048576)
  (hx:(s.map fun e=>e.Text.length).sum≤1048576):KT l es=some (VA l s):=by
 unfold KT VA
 rw[Jf0 l (by omega) (fun f hf=>Nat.le_trans (hp f hf) (by decide))]
 simp only[Option.bind_some]
 by_cases hw:(V7 l).Err=0
 ·rw[if_neg (Jar hw),if_neg (by simpa using hw)]
  unfold Kb Ke
  rw[if_pos (by omega),if_pos (by omega),hs]
  simp only[Option.bind_some]
  rw[if_pos hlen,← hlen,JkU l s hl hn]
  cases hf:(List.range s.length).find? (fun i=>decide (chk l s i≠0)) with
  | some i=>rfl
  | none =>
   have hc:∀ i,i<s.length→chk l s i=0:=fun i hi=>by
    have:=List.find?_eq_none.1 hf i (List.mem_range.2 hi)
    simpa using this
   have:=JjC l s hS hc hl hn ht hx s.length (Nat.le_refl _)
   rw[List.drop_length,List.take_length]at this
   exact this
 ·rw[if_pos (JaA hw),if_pos hw]
end Go.Proofs.YtfkhlbhjhdpkoaaDoor
namespace Go.Proofs.YtfkhlbhjhdpkoaaDoor
open Go.RowKit
theorem VQ{a b c:Edit}(h:kle a b)(k:kle b c):kle a c:=by unfold kle at *; omega
theorem Je8(a:Edit):kle a a:=by unfold kle; omega
def cmpV(x y:Int):Int:=if x<y then -1 else if y<x then 1 else 0
theorem Jbw(x y:Int):KN x y=some (cmpV x y):=by
 unfold KN VE cmpV
 have h:∀ z:Int,(!eqI z z)=false:=fun z=>by simp[eqI]
 simp only[h,Option.bind_some,Bool.false_eq_true,if_false,ltI,decide_eq_true_eq]
 by_cases h1:x<y
 ·rw[if_pos h1,if_pos h1]
 ·rw[if_neg h1,if_neg h1]
  by_cases h2:y<x
  ·rw[if_pos h2,if_pos h2]
  ·rw[if_neg h2,if_neg h2]
theorem JkS(a b c:Int):XN [a,b,c]=some (if a≠0 then a else if b≠0 then b else c):=by
 unfold XN
 have s0:K5 [a,b,c] (3,0)=if(!eqI a 0)=true then some (.inr a) else some (.inl (3,1)):=rfl
 have s1:K5 [a,b,c] (3,1)=if(!eqI b 0)=true then some (.inr b) else some (.inl (3,2)):=rfl
 have s2:K5 [a,b,c] (3,2)=if(!eqI c 0)=true then some (.inr c) else some (.inl (3,3)):=rfl
 have s3:K5 [a,b,c] (3,3)=some (.inr 0):=rfl
 show Ju (K5 [a,b,c]) (3,0)=_
 by_cases h1:a=0
 ·rw[if_neg (by simpa using h1)]
  rw[if_neg (Jar h1)]at s0
  rw[Vp s0]
  by_cases h2:b=0
  ·rw[if_neg (by simpa using h2)]
   rw[if_neg (Jar h2)]at s1
   rw[Vp s1]
   by_cases h3:c=0
   ·rw[if_neg (Jar h3)]at s2
    rw[Vp s2,lend s3,h3]
   ·rw[if_pos (JaA h3)]at s2
    rw[lend s2]
  ·rw[if_pos h2]
   rw[if_pos (JaA h2)]at s1
   rw[lend s1]
 ·rw[if_pos h1]
  rw[if_pos (JaA h1)]at s0
  rw[lend s0]
def kltB(a b:Edit):Bool:=decide (a.File<b.File∨a.File=b.File∧(a.From<b.From∨a.From=b.From∧a.To<b.To))
theorem Jak{a b:Edit}:kltB a b=false↔kle b a:=by
 unfold kltB kle
 rw[decide_eq_false_iff_not]
 omega
theorem JaR{a b:Edit}(h:kltB a b=true):kle a b:=by
 unfold kltB at h
 rw[decide_eq_true_eq]at h
 unfold kle
 omega
theorem Jbj(a b:Edit):∃ o,Vc a b=some o∧ltI o 0=kltB a b:=by
 unfold Vc
 rw[Jbw,Jbw,Jbw]
 simp only[Option.bind_some,JkS]
 refine⟨_,rfl,?_⟩
 unfold ltI kltB
 apply decide_eq_decide.2
 unfold cmpV
 split <;> (repeat' split) <;> omega
theorem swp{A:Type}(P M Q:List A)(x y:A):List.set (List.set (P++x::(M++y::Q)) P.length y) (P.length+1+M.length) x=P++y::(M++x::Q):=by
 rw[List.set_append_right _ _ (Nat.le_refl _),Nat.sub_self,List.set_cons_zero,List.set_append_right _ _ (by omega),show P.length+1+M.length-P.length=M.length+1 by omega,List.set_cons_succ,List.set_append_right _ _ (Nat.le_refl _),Nat.sub_self,List.set_cons_zero]
theorem getM{A:Type}(P Q:List A)(x d:A):(P++x::Q).getD P.length d=x:=by
 rw[List.getD_eq_getElem?_getD,List.getElem?_append_right (Nat.le_refl _),Nat.sub_self]; rfl
theorem Je5{A:Type}(P M Q:List A)(x y d:A):(P++x::(M++y::Q)).getD (P.length+1+M.length) d=y:=by
 have:=getM (P++x::M) Q y d
 rw[List.length_append,List.length_cons]at this
 rw[show P++x::(M++y::Q)=P++x::M++y::Q by simp,show P.length+1+M.length=P.length+(M.length+1) by omega]
 exact this
theorem Jjz(n:Nat)(p m q:List Edit)(hB:(p.length+n+m.length+n+q.length)≤1099511627776):∀ (x z zd xd:List Edit),x.length=z.length→zd.length=xd.length→zd.length+x.length=n →
  Ju (Jy (p.length:Int) ((p.length+n+m.length:Nat):Int) (n:Int)) ((zd.length:Int),p++zd++x++m++xd++z++q)=some (p++zd++z++m++xd++x++q)
 | [],z,zd,xd,hxz,h2,h3=>by
  obtain rfl:z=[]:=List.eq_nil_of_length_eq_zero (by simpa using hxz.symm)
  refine lend (b:=Jy (p.length:Int) ((p.length+n+m.length:Nat):Int) (n:Int)) ?_
  simp only[Jy,ltI,decide_eq_true_eq]
  rw[if_neg (by simp only[List.length_nil]at h3; omega)]
  rfl
 | x::xs,[],zd,xd,hxz,_,_=>by simp at hxz
 | x::xs,z::zs,zd,xd,hxz,h2,h3=>by
  simp only[List.length_cons,Nat.add_right_cancel_iff]at hxz h3
  have hl:p++zd++(x::xs)++m++xd++(z::zs)++q=(p++zd)++x::((xs++m++xd)++z::(zs++q)):=by simp
  have hlen:((p++zd)++x::((xs++m++xd)++z::(zs++q))).length=p.length+n+m.length+n+q.length:=by
   simp only[List.length_append,List.length_cons]; omega
  have hi:(p++zd).length=p.length+zd.length:=List.length_append
  have hj:(p++zd).length+1+(xs++m++xd).length=p.length+n+m.length+zd.length:=by simp only[List.length_append]; omega
  have g1:=getM (p++zd) ((xs++m++xd)++z::(zs++q)) x default
  have g2:=Je5 (p++zd) (xs++m++xd) (zs++q) x z default
  have g3:=swp (p++zd) (xs++m++xd) (zs++q) x z
  rw[hj]at g2 g3
  rw[hi]at g1 g3
  have hstep:Jy (p.length:Int) ((p.length+n+m.length:Nat):Int) (n:Int) ((zd.length:Int),p++zd++(x::xs)++m++xd++(z::zs)++q)=some (.inl (((zd.length+1:Nat):Int),(p++zd)++z::((xs++m++xd)++x::(zs++q)))):=by
   rw[hl]
   simp only[Jy,ltI,decide_eq_true_eq]
   rw[if_pos (by omega),wr ((((p.length+n+m.length:Nat):Int))+(zd.length:Int)) (by omega),wr ((p.length:Int)+(zd.length:Int)) (by omega),wN1 zd.length (by omega)]
   rw[show((((p.length+n+m.length:Nat):Int))+(zd.length:Int)).toNat=p.length+n+m.length+zd.length by omega,show((p.length:Int)+(zd.length:Int)).toNat=p.length+zd.length by omega]
   rw[hlen,List.length_set,hlen,g1,g2,g3]
   rw[if_pos (by omega),if_pos (by omega),if_pos (by omega),if_pos (by omega),if_pos (by omega),if_pos (by omega),if_pos (by omega),if_pos (by omega)]
  rw[Vp hstep]
  have ih:=Jjz n p m q hB xs zs (zd++[z]) (xd++[x]) hxz (by simp[h2]) (by simp only[List.length_append,List.length_cons,List.length_nil]; omega)
  rw[List.length_append,List.length_cons,List.length_nil]at ih
  rw[show(p++zd)++z::((xs++m++xd)++x::(zs++q))=p++(zd++[z])++xs++m++(xd++[x])++zs++q by simp]
  rw[ih]
  simp
theorem Jat(p x m z q:List Edit)(h:x.length=z.length)(hB:(p++x++m++z++q).length≤1099511627776):
  JC (p.length:Int) ((p.length+x.length+m.length:Nat):Int) (x.length:Int) (p++x++m++z++q)=some (p++z++m++x++q):=by
 have:=Jjz x.length p m q (by simp only[List.length_append]at hB; omega) x z [] [] h rfl (by simp)
 simpa [JC] using this
theorem rotR:∀ (n:Nat) (p u v q:List Edit),u.length+v.length≤n→0<u.length→0<v.length→(p++u++v++q).length≤1099511627776 →
  Ju (Jq ((p.length+u.length:Nat):Int)) ((u.length:Int),(v.length:Int),p++u++v++q)=some (p++v++u++q)
 | 0,p,u,v,q,hn,hu,hv,hB=>by omega
 | n+1,p,u,v,q,hn,hu,hv,hB=>by
  have hL:p.length+u.length+v.length+q.length≤1099511627776:=by simpa only[List.length_append] using hB
  rcases Nat.lt_trichotomy u.length v.length with h | h | h
  ·-- the second one is longer
   obtain⟨v1,v2,rfl,h2⟩:∃ v1 v2,v=v1++v2∧v2.length=u.length:=⟨v.take (v.length-u.length),v.drop (v.length-u.length),(List.take_append_drop _ _).symm,by rw[List.length_drop]; omega⟩
   rw[List.length_append]at h hn hL hv
   have hs:=Jat p u v1 v2 q h2.symm (by simp only[List.length_append]at hB ⊢; omega)
   have hstep:Jq ((p.length+u.length:Nat):Int) ((u.length:Int),((v1++v2).length:Int),p++u++(v1++v2)++q)=some (.inl ((u.length:Int),(v1.length:Int),p++v2++v1++u++q)):=by
    simp only[Jq]
    rw[if_pos (JaA (by rw[List.length_append]; omega)),if_neg (by simp only[ltI,decide_eq_true_eq,List.length_append]; omega)]
    rw[List.length_append,wr (((p.length+u.length:Nat):Int)-(u.length:Int)) (by omega),wr (((p.length+u.length:Nat):Int)+((v1.length+v2.length:Nat):Int)) (by omega)]
    rw[wr ((((p.length+u.length:Nat):Int)+((v1.length+v2.length:Nat):Int))-(u.length:Int)) (by omega),wr (((v1.length+v2.length:Nat):Int)-(u.length:Int)) (by omega)]
    rw[show((p.length+u.length:Nat):Int)-(u.length:Int)=(p.length:Int) by omega,show((p.length+u.length:Nat):Int)+((v1.length+v2.length:Nat):Int)-(u.length:Int)=((p.length+u.length+v1.length:Nat):Int) by omega]
    rw[show p++u++(v1++v2)++q=p++u++v1++v2++q by simp,hs]
    simp only[Option.bind_some]
    rw[if_pos (by simp only[List.length_append]; omega),show((v1.length+v2.length:Nat):Int)-(u.length:Int)=(v1.length:Int) by omega]
   rw[Vp hstep]
   have ih:=rotR n p v2 v1 (u++q) (by omega) (by omega) (by omega) (by simp only[List.length_append]; omega)
   rw[h2]at ih
   rw[show p++v2++v1++u++q=p++v2++v1++(u++q) by simp,ih]
   simp
  ·have hs:=Jat p u [] v q h (by simpa using hB)
   refine lend (b:=Jq ((p.length+u.length:Nat):Int)) ?_
   simp only[Jq]
   rw[if_neg (Jar (by omega)),wr (((p.length+u.length:Nat):Int)-(u.length:Int)) (by omega),show((p.length+u.length:Nat):Int)-(u.length:Int)=(p.length:Int) by omega]
   simp only[List.append_nil,List.length_nil,Nat.add_zero]at hs
   rw[hs]
   simp only[Option.bind_some]
   rw[if_pos (by simp only[List.length_append]; omega)]
   rfl
  ·obtain⟨u1,u2,rfl,h2⟩:∃ u1 u2,u=u1++u2∧u1.length=v.length:=⟨u.take v.length,u.drop v.length,(List.take_append_drop _ _).symm,by rw[List.length_take]; omega⟩
   rw[List.length_append]at h hn hL hu
   have hs:=Jat p u1 u2 v q h2 (by simp only[List.length_append]at hB ⊢; omega)
   have hstep:Jq ((p.length+(u1++u2).length:Nat):Int) (((u1++u2).length:Int),(v.length:Int),p++(u1++u2)++v++q)=some (.inl ((u2.length:Int),(v.length:Int),p++v++u2++u1++q)):=by
    simp only[Jq]
    rw[if_pos (JaA (by rw[List.length_append]; omega)),if_pos (by simp only[ltI,decide_eq_true_eq,List.length_append]; omega)]
    rw[List.length_append,wr (((p.length+(u1.length+u2.length):Nat):Int)-((u1.length+u2.length:Nat):Int)) (by omega),wr (((u1.length+u2.length:Nat):Int)-(v.length:Int)) (by omega)]
    rw[show((p.length+(u1.length+u2.length):Nat):Int)-((u1.length+u2.length:Nat):Int)=(p.length:Int) by omega,show((p.length+(u1.length+u2.length):Nat):Int)=((p.length+u1.length+u2.length:Nat):Int) by omega,← h2]
    rw[show p++(u1++u2)++v++q=p++u1++u2++v++q by simp,hs]
    simp only[Option.bind_some]
    rw[if_pos (by simp only[List.length_append]; omega),show((u1.length+u2.length:Nat):Int)-(u1.length:Int)=(u2.length:Int) by omega]
   rw[Vp hstep]
   have ih:=rotR n (p++v) u2 u1 q (by omega) (by omega) (by omega) (by simp only[List.length_append]; omega)
   rw[show((p++v).length+u2.length)=p.length+(u1++u2).length by simp only[List.length_append]; omega,h2]at ih
   rw[ih]
   simp
theorem Jiq(p u v q:List Edit)(hu:0<u.length)(hv:0<v.length)(hB:(p++u++v++q).length≤1099511627776):
  J6 (p.length:Int) ((p.length+u.length:Nat):Int) ((p.length+u.length+v.length:Nat):Int) (p++u++v++q)=some (p++v++u++q):=by
 have hL:p.length+u.length+v.length+q.length≤1099511627776:=by simpa only[List.length_append] using hB
 unfold J6
 rw[wr _ (by omega),wr _ (by omega),show((p.length+u.length:Nat):Int)-(p.length:Int)=(u.length:Int) by omega,show((p.length+u.length+v.length:Nat):Int)-((p.length+u.length:Nat):Int)=(v.length:Int) by omega]
 exact rotR _ p u v q (Nat.le_refl _) hu hv hB
end Go.Proofs.YtfkhlbhjhdpkoaaDoor
namespace Go.Proofs.YtfkhlbhjhdpkoaaDoor
open Go.RowKit
theorem swpD{A:Type}(P M Q:List A)(x y:A):List.set (List.set (P++x::(M++y::Q)) (P.length+1+M.length) x) P.length y=P++y::(M++x::Q):=by
 rw[List.set_comm _ _ (by omega),swp]
theorem insI(p r:List Edit)(y:Edit)(i:Nat)(hi:i≤1099511627776):∀ (n:Nat) (s1 s2:List Edit),s1.length=n→(s1++s2).Pairwise kle→(∀ e∈s2,kle y e)→p.length+n+s2.length+r.length+1≤1099511627776 →
  ∃ w,Ju (Jr (p.length:Int) (i:Int)) (((p.length+n:Nat):Int),p++s1++y::(s2++r))=some (.inl (((i+1:Nat):Int),p++w++r))∧w.Perm (y::(s1++s2))∧w.Pairwise kle
 | 0,s1,s2,h1,h2,h3,hB=>by
  obtain rfl:s1=[]:=List.eq_nil_of_length_eq_zero h1
  refine⟨y::s2,?_,.refl _,List.pairwise_cons.2 ⟨h3,h2⟩⟩
  refine lend (b:=Jr (p.length:Int) (i:Int)) ?_
  simp only[Jr,ltI,decide_eq_true_eq]
  rw[if_neg (by omega)]
  simp only[Jk,Bool.false_eq_true,if_false,wN1 i (by omega)]
  simp[inrO]
 | n+1,s1,s2,h1,h2,h3,hB=>by
  obtain⟨t,z,rfl⟩:∃ t z,s1=t++[z]:=by
   rcases List.eq_nil_or_concat s1 with rfl | ⟨t,z,rfl⟩
   ·simp at h1
   ·exact⟨t,z,by simp⟩
  have ht:t.length=n:=by simpa using h1
  have hl:p++(t++[z])++y::(s2++r)=(p++t)++z::([]++y::(s2++r)):=by simp
  have hpt:(p++t).length=p.length+n:=by rw[List.length_append,ht]
  have hlen:((p++t)++z::([]++y::(s2++r))).length=p.length+n+2+s2.length+r.length:=by simp only[List.length_append,List.length_cons,List.length_nil]; omega
  have g1:=getM (p++t) ([]++y::(s2++r)) z default
  have g2:=Je5 (p++t) [] (s2++r) z y default
  have g3:=swpD (p++t) [] (s2++r) z y
  simp only[List.length_nil,Nat.add_zero]at g2 g3
  rw[hpt]at g1 g2 g3
  obtain⟨o,ho,hk⟩:=Jbj y z
  have hW:IntKind.i64.wrap (((p.length+(n+1):Nat):Int)-1)=((p.length+n:Nat):Int):=by rw[wr _ (by omega)]; omega
  have hb:Jr (p.length:Int) (i:Int) (((p.length+(n+1):Nat):Int),p++(t++[z])++y::(s2++r))=Jk (i:Int) ((p.length+(n+1):Nat):Int) ((p++t)++z::([]++y::(s2++r))) (kltB y z):=by
   rw[hl]
   simp only[Jr,ltI,decide_eq_true_eq,hW,Int.toNat_natCast]
   rw[hlen,if_pos (by omega),if_pos (by omega),if_pos (by omega),if_pos (by omega),if_pos (by omega),show p.length+(n+1)=p.length+n+1 by omega,g1,g2,ho]
   simp only[Option.bind_some]
   rw[← hk]; rfl
  cases hz:kltB y z with
  | true =>
   have hj:Jk (i:Int) ((p.length+(n+1):Nat):Int) ((p++t)++z::([]++y::(s2++r))) true=some (.inl (((p.length+n:Nat):Int),(p++t)++y::([]++z::(s2++r)))):=by
    simp only[Jk,if_true,hW,Int.toNat_natCast]
    rw[List.length_set,hlen,show p.length+(n+1)=p.length+n+1 by omega,g1,g2,g3]
    rw[if_pos (by omega),if_pos (by omega),if_pos (by omega),if_pos (by omega),if_pos (by omega),if_pos (by omega),if_pos (by omega),if_pos (by omega)]
   rw[hz,hj]at hb
   rw[Vp hb]
   obtain⟨w,q1,q2,q3⟩:=insI p r y i hi n t (z::s2) ht (by simpa using h2) (fun e he=>by
    rcases List.mem_cons.1 he with rfl | he
    ·exact JaR hz
    ·exact h3 e he) (by simp only[List.length_cons]; omega)
   refine⟨w,?_,?_,q3⟩
   ·rw[← q1]; simp
   ·simpa using q2
  | false =>
   have hj:Jk (i:Int) ((p.length+(n+1):Nat):Int) ((p++t)++z::([]++y::(s2++r))) false=some (.inr (.inl (((i+1:Nat):Int),(p++t)++z::([]++y::(s2++r))))):=by
    simp only[Jk,Bool.false_eq_true,if_false,wN1 i (by omega)]
    rfl
   rw[hz,hj]at hb
   rw[lend hb]
   have hzy:=Jak.1 hz
   refine⟨t++[z]++y::s2,by simp,?_,?_⟩
   ·exact List.perm_middle
   ·obtain⟨a1,a2,a3⟩:=List.pairwise_append.1 h2
    refine List.pairwise_append.2 ⟨a1,List.pairwise_cons.2 ⟨h3,a2⟩,fun x hx e he=>?_⟩
    have hxz:kle x z:=by
     rcases List.mem_append.1 hx with hx | hx
     ·exact(List.pairwise_append.1 a1).2.2 x hx z (by simp)
     ·rw[List.mem_singleton]at hx; subst hx; exact Je8 _
    rcases List.mem_cons.1 he with rfl | he
    ·exact VQ hxz hzy
    ·exact a3 x hx e he
theorem insO(p q:List Edit)(N:Nat):∀ (t s:List Edit),s.Pairwise kle→p.length+s.length+t.length=N→(p++s++t++q).length≤1099511627776-1 →
  ∃ w,Ju (Jj (p.length:Int) (N:Int)) (((p.length+s.length:Nat):Int),p++s++t++q)=some (p++w++q)∧w.Perm (s++t)∧w.Pairwise kle
 | [],s,hs,hN,hB=>by
  refine⟨s,?_,by simp,hs⟩
  refine lend (b:=Jj (p.length:Int) (N:Int)) ?_
  simp only[Jj,ltI,decide_eq_true_eq]
  rw[if_neg (by simp only[List.length_nil]at hN; omega)]
  simp[inrO]
 | y::t,s,hs,hN,hB=>by
  simp only[List.length_append,List.length_cons]at hB hN
  obtain⟨w1,q1,q2,q3⟩:=insI p (t++q) y (p.length+s.length) (by omega) s.length s [] rfl (by simpa using hs) (by simp) (by simp only[List.length_nil,List.length_append]; omega)
  have hb:Jj (p.length:Int) (N:Int) (((p.length+s.length:Nat):Int),p++s++(y::t)++q)=some (.inl (((p.length+s.length+1:Nat):Int),p++w1++t++q)):=by
   simp only[Jj,ltI,decide_eq_true_eq]
   rw[if_pos (by omega),show p++s++(y::t)++q=p++s++y::([]++(t++q)) by simp,q1]
   simp
  have hw:w1.length=s.length+1:=by simpa using q2.length_eq
  rw[Vp hb]
  obtain⟨w,r1,r2,r3⟩:=insO p q N t w1 q3 (by omega) (by simp only[List.length_append]; omega)
  rw[hw]at r1
  refine⟨w,r1,r2.trans ?_,r3⟩
  have:=(q2.append_right t)
  simp only[List.append_nil]at this
  exact this.trans (by simpa using (List.perm_middle (l₁:=s) (a:=y) (l₂:=t)).symm)
theorem Jb5(p u q:List Edit)(hB:(p++u++q).length≤1099511627776-1):∃ w,JB (p.length:Int) ((p.length+u.length:Nat):Int) (p++u++q)=some (p++w++q)∧w.Perm u∧w.Pairwise kle:=by
 simp only[List.length_append]at hB
 unfold JB
 rw[wN1 _ (by omega)]
 cases u with
 | nil =>
  refine⟨[],?_,.refl _,by simp⟩
  refine lend (b:=Jj (p.length:Int) _) ?_
  simp only[Jj,ltI,decide_eq_true_eq]
  rw[if_neg (by simp only[List.length_nil]; omega)]
  rfl
 | cons x t =>
  have:=insO p q (p.length+(x::t).length) t [x] (by simp) (by simp only[List.length_cons,List.length_nil]; omega) (by simp only[List.length_append,List.length_cons,List.length_nil]at hB ⊢; omega)
  simpa using this
theorem Jcl(i j:Nat)(h:i+j≤1099511627776 * 4):IntKind.i64.wrap (Int.fdiv (IntKind.u64.wrap (IntKind.i64.wrap ((i:Int)+(j:Int)))) (2 ^ (min 1 IntKind.u64.bits)))=(((i+j) / 2:Nat):Int):=by
 rw[wr ((i:Int)+(j:Int)) (by omega)]
 have h1:IntKind.u64.wrap ((i:Int)+(j:Int))=((i+j:Nat):Int):=by
  rw[← Int.natCast_add]
  show((i+j:Nat):Int) % (2 ^ 64)=_
  exact Int.emod_eq_of_lt (by omega) (by omega)
 rw[h1]
 have h2:(2:Int) ^ (min 1 IntKind.u64.bits)=2:=rfl
 rw[h2]
 have h3:Int.fdiv ((i+j:Nat):Int) 2=(((i+j) / 2:Nat):Int):=by
  rw[Int.fdiv_eq_ediv_of_nonneg _ (by decide)]
  omega
 rw[h3,wr _ (by omega)]
theorem Ja9{S R:Type}{B:S→Option (S ⊕ R)}(mk:Nat→Nat→S)(P:Nat→Bool)(fin:Nat→Option R)(lo hi:Nat)
  (hB:∀ i j:Nat,lo≤i→j≤hi→i≤j→B (mk i j)=if i<j then(if P ((i+j) / 2)=true then some (.inl (mk ((i+j) / 2+1) j)) else some (.inl (mk i ((i+j) / 2)))) else inrO (fin i)) :
  ∀ (n i j:Nat),i≤j→j-i≤n→lo≤i→j≤hi→(i=lo∨P (i-1)=true)→(j=hi∨P j=false)→∃ c,i≤c∧c≤j∧Ju B (mk i j)=fin c∧(c=lo∨P (c-1)=true)∧(c=hi∨P c=false)
 | 0,i,j,h1,h2,h3,h4,h5,h6=>by
  obtain rfl:i=j:=by omega
  have hb:=hB i i h3 h4 (Nat.le_refl _)
  rw[if_neg (by omega)]at hb
  refine⟨i,by omega,by omega,?_,h5,h6⟩
  rw[Xj,hb]
  cases fin i <;> rfl
 | n+1,i,j,h1,h2,h3,h4,h5,h6=>by
  have hb:=hB i j h3 h4 h1
  by_cases hij:i<j
  ·rw[if_pos hij]at hb
   cases hP:P ((i+j) / 2) with
   | true =>
    rw[hP,if_pos rfl]at hb
    rw[Vp hb]
    obtain⟨c,c1,c2,c3⟩:=Ja9 mk P fin lo hi hB n ((i+j) / 2+1) j (by omega) (by omega) (by omega) h4 (.inr (by simpa using hP)) h6
    exact⟨c,by omega,c2,c3⟩
   | false =>
    rw[hP,if_neg (by simp)]at hb
    rw[Vp hb]
    obtain⟨c,c1,c2,c3⟩:=Ja9 mk P fin lo hi hB n i ((i+j) / 2) (by omega) (by omega) h3 (by omega) h5 (.inr hP)
    exact⟨c,c1,by omega,c3⟩
  ·rw[if_neg hij]at hb
   obtain rfl:i=j:=by omega
   refine⟨i,by omega,by omega,?_,h5,h6⟩
   rw[Xj,hb]
   cases fin i <;> rfl
end Go.Proofs.YtfkhlbhjhdpkoaaDoor
namespace Go.Proofs.YtfkhlbhjhdpkoaaDoor
open Go.RowKit
theorem mvR(x:Edit)(r:List Edit):∀ (v p:List Edit),p.length+v.length+r.length+1≤1099511627776 →
  Ju (Jt ((p.length+1+v.length:Nat):Int)) ((p.length:Int),p++x::(v++r))=some (p++v++x::r)
 | [],p,hB=>by
  refine lend (b:=Jt _) ?_
  simp only[Jt,ltI,decide_eq_true_eq]
  rw[wr _ (by omega),if_neg (by simp only[List.length_nil]; omega)]
  simp[inrO]
 | y::t,p,hB=>by
  simp only[List.length_cons]at hB
  have hlen:(p++x::([]++y::(t++r))).length=p.length+2+t.length+r.length:=by simp only[List.length_append,List.length_cons,List.length_nil]; omega
  have g1:=getM p ([]++y::(t++r)) x default
  have g2:=Je5 p [] (t++r) x y default
  have g3:=swp p [] (t++r) x y
  simp only[List.length_nil,Nat.add_zero]at g2 g3
  have hb:Jt ((p.length+1+(y::t).length:Nat):Int) ((p.length:Int),p++x::((y::t)++r))=some (.inl (((p.length+1:Nat):Int),p++y::([]++x::(t++r)))):=by
   rw[show p++x::((y::t)++r)=p++x::([]++y::(t++r)) by simp]
   simp only[Jt,ltI,decide_eq_true_eq]
   rw[wr (((p.length+1+(y::t).length:Nat):Int)-1) (by simp only[List.length_cons]; omega),wN1 p.length (by omega)]
   simp only[Int.toNat_natCast]
   rw[List.length_set,hlen,g1,g2,g3]
   rw[if_pos (by simp only[List.length_cons]; omega),if_pos (by omega),if_pos (by omega),if_pos (by omega),if_pos (by omega),if_pos (by omega),if_pos (by omega),if_pos (by omega),if_pos (by omega)]
  rw[Vp hb]
  have ih:=mvR x r t (p++[y]) (by simp only[List.length_append,List.length_cons,List.length_nil]; omega)
  rw[List.length_append,List.length_cons,List.length_nil]at ih
  rw[show p.length+1+(y::t).length=p.length+(0+1)+1+t.length by simp only[List.length_cons]; omega]
  have:=ih
  simp only[List.append_assoc,List.cons_append,List.nil_append,Nat.zero_add]at this ⊢
  exact this
theorem mvL(y:Edit)(p:List Edit):∀ (n:Nat) (u r:List Edit),u.length=n→p.length+n+r.length+1≤1099511627776 →
  Ju (Js (p.length:Int)) (((p.length+n:Nat):Int),p++u++y::r)=some (p++y::(u++r))
 | 0,u,r,hu,hB=>by
  obtain rfl:u=[]:=List.eq_nil_of_length_eq_zero hu
  refine lend (b:=Js _) ?_
  simp only[Js,ltI,decide_eq_true_eq]
  rw[if_neg (by omega)]
  simp[inrO]
 | n+1,u,r,hu,hB=>by
  obtain⟨t,z,rfl⟩:∃ t z,u=t++[z]:=by
   rcases List.eq_nil_or_concat u with rfl | ⟨t,z,rfl⟩
   ·simp at hu
   ·exact⟨t,z,by simp⟩
  have ht:t.length=n:=by simpa using hu
  have hpt:(p++t).length=p.length+n:=by rw[List.length_append,ht]
  have hlen:((p++t)++z::([]++y::r)).length=p.length+n+2+r.length:=by simp only[List.length_append,List.length_cons,List.length_nil]; omega
  have g1:=getM (p++t) ([]++y::r) z default
  have g2:=Je5 (p++t) [] r z y default
  have g3:=swpD (p++t) [] r z y
  simp only[List.length_nil,Nat.add_zero]at g2 g3
  rw[hpt]at g1 g2 g3
  have hb:Js (p.length:Int) (((p.length+(n+1):Nat):Int),p++(t++[z])++y::r)=some (.inl (((p.length+n:Nat):Int),(p++t)++y::([]++z::r))):=by
   rw[show p++(t++[z])++y::r=(p++t)++z::([]++y::r) by simp]
   simp only[Js,ltI,decide_eq_true_eq]
   rw[show IntKind.i64.wrap (((p.length+(n+1):Nat):Int)-1)=((p.length+n:Nat):Int) by rw[wr _ (by omega)]; omega]
   simp only[Int.toNat_natCast]
   rw[show p.length+(n+1)=p.length+n+1 by omega,List.length_set,hlen,g1,g2,g3]
   rw[if_pos (by omega),if_pos (by omega),if_pos (by omega),if_pos (by omega),if_pos (by omega),if_pos (by omega),if_pos (by omega),if_pos (by omega),if_pos (by omega)]
  rw[Vp hb]
  have ih:=mvL y p n t (z::r) ht (by simp only[List.length_cons]; omega)
  simp only[List.append_assoc,List.cons_append,List.nil_append]at ih ⊢
  exact ih
theorem Jc8{p u r:List Edit}{k:Nat}(h:k<u.length):(p++u++r).getD (p.length+k) default=u.getD k default:=by
 rw[List.getD_eq_getElem?_getD,List.getD_eq_getElem?_getD,List.append_assoc,List.getElem?_append_right (by omega),show p.length+k-p.length=k by omega,List.getElem?_append_left h]
theorem Jaw(u:List Edit)(k:Nat)(h:k≤u.length):∃ u1 u2,u=u1++u2∧u1.length=k:=⟨u.take k,u.drop k,(List.take_append_drop _ _).symm,by rw[List.length_take]; omega⟩
theorem JdL{u:List Edit}(h:u.Pairwise kle){i j:Nat}(hij:i≤j)(hj:j<u.length):kle (u.getD i default) (u.getD j default):=by
 rw[List.getD_eq_getElem?_getD,List.getD_eq_getElem?_getD,List.getElem?_eq_getElem (by omega),List.getElem?_eq_getElem hj]
 rcases Nat.lt_or_eq_of_le hij with h1 | rfl
 ·exact List.pairwise_iff_getElem.1 h i j (by omega) hj h1
 ·exact Je8 _
theorem Jbh{u1 u2:List Edit}(h:(u1++u2).Pairwise kle){e:Edit}(he:e∈u1):kle e ((u1++u2).getD (u1.length-1) default):=by
 obtain⟨i,hi,rfl⟩:=List.getElem_of_mem he
 have:=JdL h (show i≤u1.length-1 by omega) (by rw[List.length_append]; omega)
 have hg:(u1++u2).getD i default=u1[i]:=by rw[List.getD_eq_getElem?_getD,List.getElem?_append_left hi,List.getElem?_eq_getElem hi]; rfl
 rwa [hg]at this
theorem JaK{u1 u2:List Edit}(h:(u1++u2).Pairwise kle){e:Edit}(he:e∈u2):kle ((u1++u2).getD u1.length default) e:=by
 obtain⟨i,hi,rfl⟩:=List.getElem_of_mem he
 have:=JdL h (show u1.length≤u1.length+i by omega) (by rw[List.length_append]; omega)
 have hg:(u1++u2).getD (u1.length+i) default=u2[i]:=by rw[List.getD_eq_getElem?_getD,List.getElem?_append_right (by omega),show u1.length+i-u1.length=i by omega,List.getElem?_eq_getElem hi]; rfl
 rwa [hg]at this
theorem Jkv(x:Edit)(p v q:List Edit)(hv:v.Pairwise kle)(hB:p.length+1+v.length+q.length≤1099511627776):
  ∃ w,Ju (JR (p.length:Int) (p++[x]++v++q)) (((p.length+1:Nat):Int),((p.length+1+v.length:Nat):Int))=some (p++w++q)∧w.Perm ([x]++v)∧w.Pairwise kle:=by
 have hlen:(p++[x]++v++q).length=p.length+1+v.length+q.length:=by simp only[List.length_append,List.length_cons,List.length_nil]
 have gx:(p++[x]++v++q).getD p.length default=x:=by simp
 have gv:∀ k,k<v.length→(p++[x]++v++q).getD (p.length+1+k) default=v.getD k default:=fun k hk=>by
  have:=Jc8 (p:=p++[x]) (u:=v) (r:=q) hk
  rwa [List.length_append]at this
 obtain⟨c,c1,c2,c3,c4,c5⟩:=Ja9 (B:=JR (p.length:Int) (p++[x]++v++q)) (fun i j=>((i:Int),(j:Int))) (fun h=>kltB ((p++[x]++v++q).getD h default) x)
  (fun i=>Ju (Jt (i:Int)) ((p.length:Int),p++[x]++v++q)) (p.length+1) (p.length+1+v.length) (fun i j h1 h2 h3=>by
   simp only[JR,ltI,decide_eq_true_eq]
   by_cases hij:i<j
   ·obtain⟨o,ho,hk⟩:=Jbj ((p++[x]++v++q).getD ((i+j) / 2) default) x
    rw[if_pos (by omega),if_pos hij,if_pos (by omega),Jcl i j (by omega)]
    simp only[Int.toNat_natCast,gx,hlen]
    rw[if_pos (by omega),if_pos (by omega),if_pos (by omega),if_pos (by omega),ho]
    simp only[Option.bind_some,wN1 ((i+j) / 2) (by omega)]
    simp only[ltI]at hk
    rw[← hk]
    simp only[decide_eq_true_eq]
   ·rw[if_neg (by omega),if_neg hij]) _ (p.length+1) (p.length+1+v.length) (by omega) (Nat.le_refl _) (by omega) (Nat.le_refl _) (.inl rfl) (.inl rfl)
 obtain⟨v1,v2,rfl,hv1⟩:=Jaw v (c-(p.length+1)) (by omega)
 simp only[List.length_append]at hB c2 c5 gv
 refine⟨v1++x::v2,?_,?_,?_⟩
 ·rw[c3]
  have:=mvR x (v2++q) v1 p (by simp only[List.length_append]; omega)
  rw[show p.length+1+v1.length=c by omega]at this
  simpa using this
 ·exact List.perm_middle
 ·obtain⟨a1,a2,a3⟩:=List.pairwise_append.1 hv
  refine List.pairwise_append.2 ⟨a1,List.pairwise_cons.2 ⟨fun e he=>?_,a2⟩,fun e he f hf=>?_⟩
  ·have h0:=List.length_pos_of_mem he
   have h5:=c5.resolve_left (by omega)
   rw[show c=p.length+1+v1.length by omega,gv _ (by omega)]at h5
   exact VQ (Jak.1 h5) (JaK hv he)
  ·rcases List.mem_cons.1 hf with rfl | hf
   ·have h0:=List.length_pos_of_mem he
    have h4:=c4.resolve_left (by omega)
    rw[show c-1=p.length+1+(v1.length-1) by omega,gv _ (by omega)]at h4
    exact VQ (Jbh hv he) (JaR h4)
   ·exact a3 e he f hf
theorem Jkw(y:Edit)(p u q:List Edit)(hu:u.Pairwise kle)(hB:p.length+u.length+1+q.length≤1099511627776):
  ∃ w,Ju (JO ((p.length+u.length:Nat):Int) (p++u++[y]++q)) ((p.length:Int),((p.length+u.length:Nat):Int))=some (p++w++q)∧w.Perm (u++[y])∧w.Pairwise kle:=by
 have hlen:(p++u++[y]++q).length=p.length+u.length+1+q.length:=by simp only[List.length_append,List.length_cons,List.length_nil]
 have gy:(p++u++[y]++q).getD (p.length+u.length) default=y:=by simp
 have gu:∀ k,k<u.length→(p++u++[y]++q).getD (p.length+k) default=u.getD k default:=fun k hk=>by
  have:=Jc8 (p:=p) (u:=u) (r:=[y]++q) hk
  simpa using this
 obtain⟨c,c1,c2,c3,c4,c5⟩:=Ja9 (B:=JO ((p.length+u.length:Nat):Int) (p++u++[y]++q)) (fun i j=>((i:Int),(j:Int))) (fun h=>!kltB y ((p++u++[y]++q).getD h default))
  (fun i=>Ju (Js (i:Int)) (((p.length+u.length:Nat):Int),p++u++[y]++q)) p.length (p.length+u.length) (fun i j h1 h2 h3=>by
   simp only[JO]
   by_cases hij:i<j
   ·obtain⟨o,ho,hk⟩:=Jbj y ((p++u++[y]++q).getD ((i+j) / 2) default)
    rw[if_pos (by simp only[ltI,decide_eq_true_eq]; omega),if_pos hij,if_pos (by omega),Jcl i j (by omega)]
    simp only[Int.toNat_natCast,gy,hlen]
    rw[if_pos (by omega),if_pos (by omega),if_pos (by omega),if_pos (by omega),ho]
    simp only[Option.bind_some,wN1 ((i+j) / 2) (by omega),hk]
   ·rw[if_neg (by simp only[ltI,decide_eq_true_eq]; omega),if_neg hij]) _ p.length (p.length+u.length) (by omega) (Nat.le_refl _) (Nat.le_refl _) (Nat.le_refl _) (.inl rfl) (.inl rfl)
 obtain⟨u1,u2,rfl,hu1⟩:=Jaw u (c-p.length) (by omega)
 simp only[List.length_append]at hB c2 c5 gu
 refine⟨u1++y::u2,?_,?_,?_⟩
 ·rw[c3]
  have:=mvL y (p++u1) u2.length u2 q rfl (by simp only[List.length_append]; omega)
  rw[List.length_append,show p.length+u1.length=c by omega]at this
  rw[show p.length+(u1++u2).length=c+u2.length by simp only[List.length_append]; omega]
  simpa using this
 ·exact List.perm_middle.trans (List.perm_append_comm (l₁:=[y]) (l₂:=u1++u2))
 ·obtain⟨a1,a2,a3⟩:=List.pairwise_append.1 hu
  refine List.pairwise_append.2 ⟨a1,List.pairwise_cons.2 ⟨fun e he=>?_,a2⟩,fun e he f hf=>?_⟩
  ·have h0:=List.length_pos_of_mem he
   have h5:=c5.resolve_left (by omega)
   rw[show c=p.length+u1.length by omega,gu _ (by omega)]at h5
   exact VQ (JaR (by simpa using h5)) (JaK hu he)
  ·rcases List.mem_cons.1 hf with rfl | hf
   ·have h0:=List.length_pos_of_mem he
    have h4:=c4.resolve_left (by omega)
    rw[show c-1=p.length+(u1.length-1) by omega,gu _ (by omega)]at h4
    exact VQ (Jbh hu he) (Jak.1 (by simpa using h4))
   ·exact a3 e he f hf
end Go.Proofs.YtfkhlbhjhdpkoaaDoor
namespace Go.Proofs.YtfkhlbhjhdpkoaaDoor
open Go.RowKit
def Jcz(q1:Int→Int→Int→List Edit→Option (List Edit))(n:Nat):Prop:=∀ (p u v q:List Edit),u.length+v.length≤n→0<u.length→0<v.length→u.Pairwise kle→v.Pairwise kle→p.length+u.length+v.length+q.length≤1099511627776 →
 ∃ w,q1 (p.length:Int) ((p.length+u.length:Nat):Int) ((p.length+u.length+v.length:Nat):Int) (p++u++v++q)=some (p++w++q)∧w.Perm (u++v)∧w.Pairwise kle
theorem JiD{q1:Int→Int→Int→List Edit→Option (List Edit)}{n:Nat}(hq:Jcz q1 n)(p u v q:List Edit)(hn:u.length+v.length≤n)(hu:u.Pairwise kle)(hv:v.Pairwise kle)(hB:p.length+u.length+v.length+q.length≤1099511627776)(b e:Int):
  ∃ w,Jz q1 (p.length:Int) b ((p.length+u.length+v.length:Nat):Int) ((p.length+u.length:Nat):Int) (e,p++u++v++q)=JG q1 b ((p.length+u.length+v.length:Nat):Int) e (p++w++q)∧w.Perm (u++v)∧w.Pairwise kle:=by
 simp only[Jz,ltI,decide_eq_true_eq]
 rcases Nat.eq_zero_or_pos u.length with h1 | h1
 ·obtain rfl:=List.eq_nil_of_length_eq_zero h1
  refine⟨v,?_,by simp,hv⟩
  rw[if_neg (by simp only[List.length_nil]; omega)]
  simp only[JE,Bool.false_eq_true,if_false,List.append_nil]
 ·rw[if_pos (by omega)]
  rcases Nat.eq_zero_or_pos v.length with h2 | h2
  ·obtain rfl:=List.eq_nil_of_length_eq_zero h2
   refine⟨u,?_,by simp,hu⟩
   rw[decide_eq_false (by simp only[List.length_nil]; omega)]
   simp only[JE,Bool.false_eq_true,if_false,List.append_nil]
  ·obtain⟨w,h3,h4,h5⟩:=hq p u v q hn h1 h2 hu hv hB
   refine⟨w,?_,h4,h5⟩
   rw[decide_eq_true (by omega)]
   simp only[JE,if_true,h3,Option.bind_some]
   rw[if_pos (by have:=h4.length_eq; simp only[List.length_append]at this ⊢; omega)]
theorem JhF{q1:Int→Int→Int→List Edit→Option (List Edit)}{n:Nat}(hq:Jcz q1 n)(p u v q:List Edit)(hn:u.length+v.length≤n)(hu:u.Pairwise kle)(hv:v.Pairwise kle)(hB:p.length+u.length+v.length+q.length≤1099511627776):
  ∃ w,JG q1 ((p.length+u.length+v.length:Nat):Int) (p.length:Int) ((p.length+u.length:Nat):Int) (p++u++v++q)=some (p++w++q)∧w.Perm (u++v)∧w.Pairwise kle:=by
 simp only[JG,ltI,decide_eq_true_eq]
 rcases Nat.eq_zero_or_pos u.length with h1 | h1
 ·obtain rfl:=List.eq_nil_of_length_eq_zero h1
  refine⟨v,?_,by simp,hv⟩
  rw[if_neg (by simp only[List.length_nil]; omega)]
  simp only[JH,Bool.false_eq_true,if_false,List.append_nil]
 ·rw[if_pos (by omega)]
  rcases Nat.eq_zero_or_pos v.length with h2 | h2
  ·obtain rfl:=List.eq_nil_of_length_eq_zero h2
   refine⟨u,?_,by simp,hu⟩
   rw[decide_eq_false (by simp only[List.length_nil]; omega)]
   simp only[JH,Bool.false_eq_true,if_false,List.append_nil]
  ·obtain⟨w,h3,h4,h5⟩:=hq p u v q hn h1 h2 hu hv hB
   refine⟨w,?_,h4,h5⟩
   rw[decide_eq_true (by omega)]
   simp only[JH,if_true,h3,Option.bind_some]
   rw[if_pos (by have:=h4.length_eq; simp only[List.length_append]at this ⊢; omega)]
theorem Jjk(q1:Int→Int→Int→List Edit→Option (List Edit))(p u1 u2 v1 v2 q:List Edit)(b mid:Int)(hB:p.length+u1.length+u2.length+v1.length+v2.length+q.length≤1099511627776):
  (if ltI ((p.length+u1.length:Nat):Int) ((p.length+u1.length+u2.length:Nat):Int)=true then Jl q1 (p.length:Int) ((p.length+u1.length+u2.length:Nat):Int) b (p++u1++u2++v1++v2++q) mid ((p.length+u1.length:Nat):Int) (((p.length+u1.length+u2.length+v1.length:Nat):Int),ltI ((p.length+u1.length+u2.length:Nat):Int) ((p.length+u1.length+u2.length+v1.length:Nat):Int))
   else Jl q1 (p.length:Int) ((p.length+u1.length+u2.length:Nat):Int) b (p++u1++u2++v1++v2++q) mid ((p.length+u1.length:Nat):Int) (((p.length+u1.length+u2.length+v1.length:Nat):Int),false)) =
  Jz q1 (p.length:Int) b mid ((p.length+u1.length:Nat):Int) (((p.length+u1.length+u2.length+v1.length:Nat):Int),p++u1++v1++(u2++v2++q)):=by
 simp only[ltI,decide_eq_true_eq]
 rcases Nat.eq_zero_or_pos u2.length with h1 | h1
 ·obtain rfl:=List.eq_nil_of_length_eq_zero h1
  rw[if_neg (by simp only[List.length_nil]; omega)]
  simp only[Jl,Bool.false_eq_true,if_false,List.append_nil,List.nil_append,List.append_assoc]
 ·rw[if_pos (by omega)]
  rcases Nat.eq_zero_or_pos v1.length with h2 | h2
  ·obtain rfl:=List.eq_nil_of_length_eq_zero h2
   rw[decide_eq_false (by simp only[List.length_nil]; omega)]
   simp only[Jl,Bool.false_eq_true,if_false,List.append_nil,List.append_assoc]
  ·rw[decide_eq_true (by omega)]
   have:=Jiq (p++u1) u2 v1 (v2++q) h1 h2 (by simp only[List.length_append]; omega)
   rw[List.length_append]at this
   simp only[Jl,if_true]
   rw[show p++u1++u2++v1++v2++q=p++u1++u2++v1++(v2++q) by simp,this]
   simp only[Option.bind_some]
   rw[if_pos (by simp only[List.length_append]; omega)]
   simp
theorem Jh4{q1:Int→Int→Int→List Edit→Option (List Edit)}{n:Nat}(hq:Jcz q1 n)(p u1 u2 v1 v2 q:List Edit)(h1:u1.length+v1.length≤n)(h2:u2.length+v2.length≤n)(hu:(u1++u2).Pairwise kle)(hv:(v1++v2).Pairwise kle)
  (hB:p.length+u1.length+u2.length+v1.length+v2.length+q.length≤1099511627776) (c1:∀ x∈u1,∀ y∈v2,kle x y) (c2:∀ x∈v1,∀ y∈u2,kle x y) :
  ∃ w,Jz q1 (p.length:Int) ((p.length+u1.length+v1.length+u2.length+v2.length:Nat):Int) ((p.length+u1.length+v1.length:Nat):Int) ((p.length+u1.length:Nat):Int) (((p.length+u1.length+v1.length+u2.length:Nat):Int),p++u1++v1++(u2++v2++q))=some (p++w++q)∧w.Perm ((u1++u2)++(v1++v2))∧w.Pairwise kle:=by
 obtain⟨a1,a2,a3⟩:=List.pairwise_append.1 hu
 obtain⟨b1,b2,b3⟩:=List.pairwise_append.1 hv
 obtain⟨wl,l1,l2,l3⟩:=JiD hq p u1 v1 (u2++v2++q) h1 a1 b1 (by simp only[List.length_append]; omega) ((p.length+u1.length+v1.length+u2.length+v2.length:Nat):Int) ((p.length+u1.length+v1.length+u2.length:Nat):Int)
 have hwl:wl.length=u1.length+v1.length:=by simpa using l2.length_eq
 obtain⟨wr,r1,r2,r3⟩:=JhF hq (p++wl) u2 v2 q h2 a2 b2 (by simp only[List.length_append]; omega)
 rw[List.length_append,hwl]at r1
 refine⟨wl++wr,?_,?_,?_⟩
 ·rw[l1,show p++wl++(u2++v2++q)=p++wl++u2++v2++q by simp,show p.length+u1.length+v1.length=p.length+(u1.length+v1.length) by omega,r1]
  simp
 ·refine(l2.append r2).trans ?_
  have:(u1++v1++(u2++v2)).Perm (u1++u2++(v1++v2)):=by
   rw[List.append_assoc,List.append_assoc]
   refine List.Perm.append_left u1 ?_
   rw[← List.append_assoc,← List.append_assoc]
   exact List.Perm.append_right v2 List.perm_append_comm
  exact this
 ·refine List.pairwise_append.2 ⟨l3,r3,fun x hx y hy=>?_⟩
  have hx:=(l2.mem_iff).1 hx
  have hy:=(r2.mem_iff).1 hy
  rcases List.mem_append.1 hx with hx | hx <;> rcases List.mem_append.1 hy with hy | hy
  ·exact a3 x hx y hy
  ·exact c1 x hx y hy
  ·exact c2 x hx y hy
  ·exact b3 x hx y hy
theorem symR:∀ n:Nat,Jcz (JN n) n
 | 0=>fun p u v q h1 h2 _ _ _ _=>by omega
 | n+1=>fun p u v q h1 h2 h3 hu hv hB=>by
  have hq:=symR n
  show ∃ w,J8 (JN n) (p.length:Int) ((p.length+u.length:Nat):Int) ((p.length+u.length+v.length:Nat):Int) (p++u++v++q)=some (p++w++q)∧w.Perm (u++v)∧w.Pairwise kle
  generalize JN n=q1 at hq
  unfold J8
  rw[wr (((p.length+u.length:Nat):Int)-(p.length:Int)) (by omega),wr (((p.length+u.length+v.length:Nat):Int)-((p.length+u.length:Nat):Int)) (by omega)]
  simp only[eqI,decide_eq_true_eq]
  by_cases e1:u.length=1
  ·rw[if_pos (by omega)]
   obtain⟨x,rfl⟩:=List.length_eq_one_iff.1 e1
   have:=Jkv x p v q hv (by simp only[List.length_cons,List.length_nil]at hB; omega)
   simpa using this
  rw[if_neg (by omega)]
  by_cases e2:v.length=1
  ·rw[if_pos (by omega)]
   obtain⟨y,rfl⟩:=List.length_eq_one_iff.1 e2
   exact Jkw y p u q hu (by simp only[List.length_cons,List.length_nil]at hB; omega)
  rw[if_neg (by omega),if_pos (by omega),Jcl p.length (p.length+u.length+v.length) (by omega)]
  -- the middle,and what both places add up to
  obtain⟨mid,hmid⟩:∃ mid,mid=(p.length+(p.length+u.length+v.length)) / 2:=⟨_,rfl⟩
  rw[← hmid,wr ((mid:Int)+((p.length+u.length:Nat):Int)) (by omega)]
  have hlen:(p++u++v++q).length=p.length+u.length+v.length+q.length:=by simp only[List.length_append]
  -- the search
  have srch:∀ (lo hi:Nat),p.length≤lo→lo≤hi→hi≤p.length+u.length→hi≤mid→mid+(p.length+u.length)≤lo+(p.length+u.length+v.length)→(lo=p.length∨mid+(p.length+u.length)=lo+(p.length+u.length+v.length))→(hi=mid∨hi=p.length+u.length) →
    ∃ w,JQ q1 (p.length:Int) ((p.length+u.length:Nat):Int) ((p.length+u.length+v.length:Nat):Int) (p++u++v++q) ((mid:Int),(mid:Int)+((p.length+u.length:Nat):Int),(lo:Int),(hi:Int))=some (p++w++q)∧w.Perm (u++v)∧w.Pairwise kle:=by
   intro lo hi k1 k2 k3 k4 k5 k6 k7
   simp only[JQ]
   rw[wr ((mid:Int)+((p.length+u.length:Nat):Int)-1) (by omega)]
   obtain⟨c,c1,c2,c3,c4,c5⟩:=Ja9 (B:=J1 q1 (p.length:Int) ((p.length+u.length:Nat):Int) ((p.length+u.length+v.length:Nat):Int) (p++u++v++q) (mid:Int) ((mid:Int)+((p.length+u.length:Nat):Int)))
    (fun i j=>((i:Int),(j:Int),(mid:Int)+((p.length+u.length:Nat):Int)-1)) (fun h=>!kltB ((p++u++v++q).getD (mid+(p.length+u.length)-1-h) default) ((p++u++v++q).getD h default))
    (fun i=>if ltI (i:Int) ((p.length+u.length:Nat):Int)=true then Jl q1 (p.length:Int) ((p.length+u.length:Nat):Int) ((p.length+u.length+v.length:Nat):Int) (p++u++v++q) (mid:Int) (i:Int) (IntKind.i64.wrap ((mid:Int)+((p.length+u.length:Nat):Int)-(i:Int)),ltI ((p.length+u.length:Nat):Int) (IntKind.i64.wrap ((mid:Int)+((p.length+u.length:Nat):Int)-(i:Int))))
     else Jl q1 (p.length:Int) ((p.length+u.length:Nat):Int) ((p.length+u.length+v.length:Nat):Int) (p++u++v++q) (mid:Int) (i:Int) (IntKind.i64.wrap ((mid:Int)+((p.length+u.length:Nat):Int)-(i:Int)),false)) lo hi (fun i j g1 g2 g3=>by
     simp only[J1]
     by_cases hij:i<j
     ·obtain⟨o,ho,hk⟩:=Jbj ((p++u++v++q).getD (mid+(p.length+u.length)-1-(i+j) / 2) default) ((p++u++v++q).getD ((i+j) / 2) default)
      rw[if_pos (by simp only[ltI,decide_eq_true_eq]; omega),if_pos hij,if_pos (by omega),Jcl i j (by omega)]
      rw[show IntKind.i64.wrap ((mid:Int)+((p.length+u.length:Nat):Int)-1-(((i+j) / 2:Nat):Int))=((mid+(p.length+u.length)-1-(i+j) / 2:Nat):Int) by rw[wr _ (by omega)]; omega]
      simp only[Int.toNat_natCast,hlen]
      rw[if_pos (by omega),if_pos (by omega),if_pos (by omega),if_pos (by omega),ho]
      simp only[Option.bind_some,wN1 ((i+j) / 2) (by omega),hk]
     ·rw[if_neg (by simp only[ltI,decide_eq_true_eq]; omega),if_neg hij]) _ lo hi k2 (Nat.le_refl _) (Nat.le_refl _) (Nat.le_refl _) (.inl rfl) (.inl rfl)
   rw[c3]
   obtain⟨u1,u2,rfl,hu1⟩:=Jaw u (c-p.length) (by omega)
   obtain⟨v1,v2,rfl,hv1⟩:=Jaw v (mid-c) (by omega)
   simp only[List.length_append]at *
   have gu:∀ k,k<u1.length+u2.length→(p++(u1++u2)++(v1++v2)++q).getD (p.length+k) default=(u1++u2).getD k default:=fun k hk=>by
    have:=Jc8 (p:=p) (u:=u1++u2) (r:=(v1++v2)++q) (k:=k) (by rw[List.length_append]; exact hk)
    simpa using this
   have gv:∀ k,k<v1.length+v2.length→(p++(u1++u2)++(v1++v2)++q).getD (p.length+(u1.length+u2.length)+k) default=(v1++v2).getD k default:=fun k hk=>by
    have:=Jc8 (p:=p++(u1++u2)) (u:=v1++v2) (r:=q) (k:=k) (by rw[List.length_append]; exact hk)
    rw[List.length_append,List.length_append]at this
    exact this
   have fin:=Jh4 hq p u1 u2 v1 v2 q (by omega) (by omega) hu hv (by omega) (fun x hx y hy=>by
    have x0:=List.length_pos_of_mem hx
    have y0:=List.length_pos_of_mem hy
    have h4:=c4.resolve_left (by omega)
    rw[show c-1=p.length+(u1.length-1) by omega,gu _ (by omega),show mid+(p.length+(u1.length+u2.length))-1-(p.length+(u1.length-1))=p.length+(u1.length+u2.length)+v1.length by omega,gv _ (by omega)]at h4
    exact VQ (Jbh hu hx) (VQ (Jak.1 (by simpa using h4)) (JaK hv hy))) (fun x hx y hy=>by
    have x0:=List.length_pos_of_mem hx
    have y0:=List.length_pos_of_mem hy
    have h5:=c5.resolve_left (by omega)
    rw[show c=p.length+u1.length by omega,gu _ (by omega),show mid+(p.length+(u1.length+u2.length))-1-(p.length+u1.length)=p.length+(u1.length+u2.length)+(v1.length-1) by omega,gv _ (by omega)]at h5
    exact VQ (Jbh hv hx) (VQ (JaR (by simpa using h5)) (JaK hu hy)))
   have rot:=Jjk q1 p u1 u2 v1 v2 q ((p.length+(u1.length+u2.length)+(v1.length+v2.length):Nat):Int) (mid:Int) (by omega)
   rw[show(p.length+u1.length+u2.length:Nat)=p.length+(u1.length+u2.length) by omega]at rot
   rw[show IntKind.i64.wrap ((mid:Int)+((p.length+(u1.length+u2.length):Nat):Int)-(c:Int))=((p.length+(u1.length+u2.length)+v1.length:Nat):Int) by rw[wr _ (by omega)]; omega,show(c:Int)=((p.length+u1.length:Nat):Int) by omega,
    show p++(u1++u2)++(v1++v2)++q=p++u1++u2++v1++v2++q by simp,rot]
   rw[show(mid:Int)=((p.length+u1.length+v1.length:Nat):Int) by omega,show p.length+(u1.length+u2.length)+(v1.length+v2.length)=p.length+u1.length+v1.length+u2.length+v2.length by omega,show p.length+(u1.length+u2.length)+v1.length=p.length+u1.length+v1.length+u2.length by omega]
   exact fin
  by_cases hm:mid<p.length+u.length
  ·rw[if_pos (by simp only[ltI,decide_eq_true_eq]; omega),wr _ (by omega)]
   rw[show(mid:Int)+((p.length+u.length:Nat):Int)-((p.length+u.length+v.length:Nat):Int)=((mid+(p.length+u.length)-(p.length+u.length+v.length):Nat):Int) by omega]
   exact srch _ mid (by omega) (by omega) (by omega) (Nat.le_refl _) (by omega) (.inr (by omega)) (.inl rfl)
  ·rw[if_neg (by simp only[ltI,decide_eq_true_eq]; omega)]
   exact srch p.length (p.length+u.length) (Nat.le_refl _) (by omega) (Nat.le_refl _) (by omega) (by omega) (.inl rfl) (.inr rfl)
end Go.Proofs.YtfkhlbhjhdpkoaaDoor
namespace Go.Proofs.YtfkhlbhjhdpkoaaDoor
open Go.RowKit
theorem JhW(p u v q:List Edit)(h1:0<u.length)(h2:0<v.length)(hu:u.Pairwise kle)(hv:v.Pairwise kle)(hB:p.length+u.length+v.length+q.length≤1099511627776):
  ∃ w,JW (p.length:Int) ((p.length+u.length:Nat):Int) ((p.length+u.length+v.length:Nat):Int) (p++u++v++q)=some (p++w++q)∧w.Perm (u++v)∧w.Pairwise kle :=
 symR bigF p u v q (Nat.le_trans (by omega) Jj8) h1 h2 hu hv hB
inductive Runs (k:Nat):List Edit→Prop
 | last (u:List Edit):u.length≤k→u.Pairwise kle→Runs k u
 | cons (u r:List Edit):u.length=k→u.Pairwise kle→Runs k r→Runs k (u++r)
theorem Runs.small{k:Nat}{t:List Edit}(h:Runs k t)(ht:t.length≤k):t.Pairwise kle:=by
 cases h with
 | last _ _ h=>exact h
 | cons u r h1 h2 h3 =>
  rw[List.length_append]at ht
  obtain rfl:r=[]:=List.eq_nil_of_length_eq_zero (by omega)
  simpa using h2
theorem Runs.first{k:Nat}{t:List Edit}(h:Runs k t)(ht:k≤t.length):∃ u r,t=u++r∧u.length=k∧u.Pairwise kle∧Runs k r:=by
 cases h with
 | last _ h1 h=>exact⟨t,[],by simp,by omega,h,.last _ (Nat.zero_le _) (by simp)⟩
 | cons u r h1 h2 h3=>exact⟨u,r,rfl,h1,h2,h3⟩
theorem JkY(n:Nat)(hn:n≤549755813888):∀ (m:Nat) (p t:List Edit),t.length≤m→p.length+t.length=n →
  ∃ w,w.Perm t∧Runs 20 w∧Ju (Jo (n:Int)) ((p.length:Int),((p.length+20:Nat):Int),p++t)=Ju (Je (n:Int)) (20,p++w):=by
 intro m
 induction m with
 | zero =>
  intro p t ht hpt
  obtain rfl:t=[]:=List.eq_nil_of_length_eq_zero (by omega)
  refine⟨[],.refl _,.last _ (by simp) (by simp),?_⟩
  obtain⟨w,h1,h2,h3⟩:=Jb5 p [] [] (by simp only[List.length_append,List.length_nil]at hpt ⊢; omega)
  obtain rfl:=h2.eq_nil
  simp only[List.append_nil,List.length_nil,Nat.add_zero]at h1 hpt ⊢
  have hb:Jo (n:Int) ((p.length:Int),((p.length+20:Nat):Int),p)=inrO (Ju (Je (n:Int)) (20,p)):=by
   simp only[Jo,leI,decide_eq_true_eq]
   rw[if_neg (by omega),← hpt,h1]
   simp only[Option.bind_some,if_true]
  rw[Xj,hb]
  cases Ju (Je (n:Int)) (20,p) <;> rfl
 | succ m ih =>
  intro p t ht hpt
  by_cases h20:20≤t.length
  ·obtain⟨t1,t2,rfl,hl⟩:=Jaw t 20 h20
   rw[List.length_append]at ht hpt
   obtain⟨w1,h1,h2,h3⟩:=Jb5 p t1 t2 (by simp only[List.length_append]; omega)
   have hw1:w1.length=20:=by rw[h2.length_eq,hl]
   obtain⟨w2,k1,k2,k3⟩:=ih (p++w1) t2 (by omega) (by rw[List.length_append]; omega)
   refine⟨w1++w2,h2.append k1,.cons _ _ hw1 h3 k2,?_⟩
   rw[hl]at h1
   have hb:Jo (n:Int) ((p.length:Int),((p.length+20:Nat):Int),p++(t1++t2))=some (.inl (((p.length+20:Nat):Int),((p.length+20+20:Nat):Int),p++w1++t2)):=by
    simp only[Jo,leI,decide_eq_true_eq]
    rw[if_pos (by omega),← List.append_assoc,h1]
    simp only[Option.bind_some]
    rw[if_pos (by simp only[List.length_append]; omega),wr _ (by omega)]
    rfl
   rw[Vp hb]
   rw[List.length_append,hw1]at k3
   rw[k3]
   simp
  ·obtain⟨w,h1,h2,h3⟩:=Jb5 p t [] (by simp only[List.length_append,List.length_nil]; omega)
   simp only[List.append_nil]at h1
   refine⟨w,h2,.last _ (by rw[h2.length_eq]; omega) h3,?_⟩
   have hb:Jo (n:Int) ((p.length:Int),((p.length+20:Nat):Int),p++t)=inrO (Ju (Je (n:Int)) (20,p++w)):=by
    simp only[Jo,leI,decide_eq_true_eq]
    rw[if_neg (by omega),← hpt,h1]
    simp only[Option.bind_some]
    rw[if_pos (by have:=h2.length_eq; simp only[List.length_append]; omega)]
   rw[Xj,hb]
   cases Ju (Je (n:Int)) (20,p++w) <;> rfl
theorem JkQ(n k:Nat)(hn:n≤549755813888)(hk:0<k∧k<n):∀ (m:Nat) (p t:List Edit),t.length≤m→p.length+t.length=n→Runs k t →
  ∃ w,w.Perm t∧Runs (2 * k) w∧Ju (Jm (n:Int) (k:Int)) ((p.length:Int),((p.length+2 * k:Nat):Int),p++t)=some (.inl (((2 * k:Nat):Int),p++w)):=by
 intro m
 induction m with
 | zero =>
  intro p t ht hpt hr
  obtain rfl:t=[]:=List.eq_nil_of_length_eq_zero (by omega)
  refine⟨[],.refl _,.last _ (by simp) (by simp),lend (b:=Jm (n:Int) (k:Int)) ?_⟩
  simp only[List.length_nil,Nat.add_zero]at hpt
  simp only[Jm,leI,ltI,decide_eq_true_eq]
  rw[if_neg (by omega),wr ((p.length:Int)+(k:Int)) (by omega),if_neg (by omega)]
  simp only[JM]
  rw[wr _ (by omega),show(k:Int) * 2=((2 * k:Nat):Int) by omega]
  rfl
 | succ m ih =>
  intro p t ht hpt hr
  by_cases h2k:2 * k≤t.length
  ·obtain⟨u,r1,rfl,u1,u2,u3⟩:=hr.first (by omega)
   rw[List.length_append]at h2k ht hpt
   obtain⟨v,r,rfl,v1,v2,v3⟩:=u3.first (by omega)
   rw[List.length_append]at h2k ht hpt
   obtain⟨w1,h1,h2,h3⟩:=JhW p u v r (by omega) (by omega) u2 v2 (by omega)
   have hw1:w1.length=2 * k:=by have:=h2.length_eq; rw[List.length_append]at this; omega
   obtain⟨w2,k1,k2,k3⟩:=ih (p++w1) r (by omega) (by rw[List.length_append]; omega) v3
   refine⟨w1++w2,?_,.cons _ _ hw1 h3 k2,?_⟩
   ·rw[← List.append_assoc]
    exact h2.append k1
   ·rw[u1,v1]at h1
    have hb:Jm (n:Int) (k:Int) ((p.length:Int),((p.length+2 * k:Nat):Int),p++(u++(v++r)))=some (.inl (((p.length+2 * k:Nat):Int),((p.length+2 * k+2 * k:Nat):Int),p++w1++r)):=by
     simp only[Jm,leI,ltI,decide_eq_true_eq]
     rw[if_pos (by omega),wr ((p.length:Int)+(k:Int)) (by omega),wr (2 * (k:Int)) (by omega),show(p.length:Int)+(k:Int)=((p.length+k:Nat):Int) by omega,show p.length+2 * k=p.length+k+k by omega,show p++(u++(v++r))=p++u++v++r by simp,h1]
     simp only[Option.bind_some]
     rw[if_pos (by simp only[List.length_append]; omega),wr _ (by omega),show((p.length+k+k:Nat):Int)+2 * (k:Int)=((p.length+k+k+2 * k:Nat):Int) by omega]
    rw[Vp hb]
    rw[List.length_append,hw1]at k3
    rw[k3]
    simp
  ·by_cases hk1:k<t.length
   ·obtain⟨u,v,rfl,u1,u2,u3⟩:=hr.first (by omega)
    rw[List.length_append]at h2k ht hpt hk1
    have v2:=u3.small (by omega)
    obtain⟨w,h1,h2,h3⟩:=JhW p u v [] (by omega) (by omega) u2 v2 (by simp only[List.length_nil]; omega)
    have hw:w.length=u.length+v.length:=by have:=h2.length_eq; rwa [List.length_append]at this
    refine⟨w,h2,.last _ (by omega) h3,lend (b:=Jm (n:Int) (k:Int)) ?_⟩
    simp only[List.append_nil]at h1
    rw[show p.length+u.length+v.length=n by omega,u1]at h1
    simp only[Jm,leI,ltI,decide_eq_true_eq]
    rw[if_neg (by omega),wr ((p.length:Int)+(k:Int)) (by omega),if_pos (by omega),show(p.length:Int)+(k:Int)=((p.length+k:Nat):Int) by omega,← List.append_assoc,h1]
    simp only[Option.bind_some]
    rw[if_pos (by simp only[List.length_append]; omega)]
    simp only[JM]
    rw[wr _ (by omega),show(k:Int) * 2=((2 * k:Nat):Int) by omega]
    rfl
   ·refine⟨t,.refl _,.last _ (by omega) (hr.small (by omega)),lend (b:=Jm (n:Int) (k:Int)) ?_⟩
    simp only[Jm,leI,ltI,decide_eq_true_eq]
    rw[if_neg (by omega),wr ((p.length:Int)+(k:Int)) (by omega),if_neg (by omega)]
    simp only[JM]
    rw[wr _ (by omega),show(k:Int) * 2=((2 * k:Nat):Int) by omega]
    rfl
theorem JkW(n:Nat)(hn:n≤549755813888):∀ (m k:Nat) (l:List Edit),n-k≤m→0<k→k≤2 * 549755813888→l.length=n→Runs k l→∃ w,w.Perm l∧w.Pairwise kle∧Ju (Je (n:Int)) ((k:Int),l)=some w:=by
 intro m
 induction m with
 | zero =>
  intro k l hm hk _ hl hr
  refine⟨l,.refl _,hr.small (by omega),lend (b:=Je (n:Int)) ?_⟩
  simp only[Je,ltI,decide_eq_true_eq]
  rw[if_neg (by omega)]
  rfl
 | succ m ih =>
  intro k l hm hk hk2 hl hr
  by_cases hkn:k<n
  ·obtain⟨w1,h1,h2,h3⟩:=JkQ n k hn ⟨hk,hkn⟩ l.length [] l (Nat.le_refl _) (by simpa using hl) hr
   simp only[List.nil_append,List.length_nil,Nat.zero_add]at h3
   have hb:Je (n:Int) ((k:Int),l)=some (.inl (((2 * k:Nat):Int),w1)):=by
    simp only[Je,ltI,decide_eq_true_eq]
    rw[if_pos (by omega),wr _ (by omega),show 2 * (k:Int)=((2 * k:Nat):Int) by omega]
    exact h3
   obtain⟨w,k1,k2,k3⟩:=ih (2 * k) w1 (by omega) (by omega) (by omega) (by rw[h1.length_eq,hl]) h2
   exact⟨w,k1.trans h1,k2,by rw[Vp hb,k3]⟩
  ·refine⟨l,.refl _,hr.small (by omega),lend (b:=Je (n:Int)) ?_⟩
   simp only[Je,ltI,decide_eq_true_eq]
   rw[if_neg (by omega)]
   rfl
theorem JjL(l:List Edit)(hn:l.length≤549755813888):∃ s,Jv l=some s∧s.Perm l∧s.Pairwise kle:=by
 obtain⟨w,h1,h2,h3⟩:=JkY l.length hn l.length [] l (Nat.le_refl _) (by simp)
 obtain⟨s,k1,k2,k3⟩:=JkW l.length hn l.length 20 w (by omega) (by decide) (by decide) h1.length_eq h2
 simp only[List.nil_append,List.length_nil,Nat.zero_add]at h3
 have:J5 ((l.length:Nat):Int) l=some s:=by
  unfold J5
  exact h3.trans k3
 refine⟨s,?_,k1.trans h1,k2⟩
 unfold Jv
 rw[this]
 simp only[Option.bind_some]
 rw[if_pos (k1.trans h1).length_eq]
end Go.Proofs.YtfkhlbhjhdpkoaaDoor
namespace Go.Proofs.YtfkhlbhjhdpkoaaDoor
open Go.RowKit
theorem Jfn(a:List Source)(h:a.length≤1048576):KA a a=some true:=by
 unfold KA
 rw[if_neg (Jar rfl)]
 have:=JfV (b:=K3 a a) a.length (fun _=>true) false true (fun j hj=>by
  simp only[K3,ltI,decide_eq_true_eq,Int.toNat_natCast]
  by_cases h1:j<a.length
  ·rw[if_pos (by omega),if_pos ⟨by omega,h1⟩,if_pos ⟨by omega,h1⟩,if_pos h1,if_neg (by simp[eqS]),wN1 j (by omega)]
   rfl
  ·rw[if_neg (by omega),if_neg h1]; rfl)
 rw[this,if_pos (fun _ _=>rfl)]
theorem Ji3{A:Type}{l m:List A}(d:A)(h:l.length=m.length)(he:∀ i,i<l.length→l.getD i d=m.getD i d):l=m:=by
 refine List.ext_getElem h fun i h1 h2=>?_
 have:=he i h1
 simpa [List.getD_eq_getElem?_getD,List.getElem?_eq_getElem h1,List.getElem?_eq_getElem h2] using this
theorem Ji8{l:List Source}(h:(V7 l).Err=0):l.length≤8∧∀ i,i<l.length→badF l i=0:=by
 unfold V7 at h
 split at h
 ·cases h
 ·rename_i h8
  refine⟨by omega,fun i hi=>?_⟩
  cases hf:(List.range l.length).find? (fun i=>decide (badF l i≠0)) with
  | some j =>
   rw[hf]at h
   have:=List.find?_some hf
   simp only[decide_eq_true_eq]at this
   exact absurd h this
  | none =>
   have:=List.find?_eq_none.1 hf i (List.mem_range.2 hi)
   simpa using this
end Go.Proofs.YtfkhlbhjhdpkoaaDoor
namespace Go.Proofs.YtfkhlbhjhdpkoaaDoor
open Go.RowKit
def keyE(e:Edit):Int×Int×Int:=(e.File,e.From,e.To)
def kleK(a b:Int×Int×Int):Prop:=a.1<b.1∨a.1=b.1∧(a.2.1<b.2.1∨a.2.1=b.2.1∧a.2.2≤b.2.2)
theorem Jhn{s t:List Edit}(h:s.Perm t)(hs:s.Pairwise kle)(ht:t.Pairwise kle):s.map keyE=t.map keyE:=by
 refine List.Perm.eq_of_pairwise (le:=kleK) ?_ (List.pairwise_map.2 hs) (List.pairwise_map.2 ht) (h.map keyE)
 intro a b _ _ h1 h2
 obtain⟨a1,a2,a3⟩:=a
 obtain⟨b1,b2,b3⟩:=b
 unfold kleK at h1 h2
 simp only at h1 h2
 have:a1=b1∧a2=b2∧a3=b3:=by omega
 obtain⟨rfl,rfl,rfl⟩:=this
 rfl
theorem Jfc{s t:List Edit}(h:s.map keyE=t.map keyE)(i:Nat):(s.getD i default).File=(t.getD i default).File∧(s.getD i default).From=(t.getD i default).From∧(s.getD i default).To=(t.getD i default).To:=by
 have h1:(s.map keyE)[i]? = (t.map keyE)[i]? := by rw[h]
 rw[List.getElem?_map,List.getElem?_map]at h1
 rw[List.getD_eq_getElem?_getD,List.getD_eq_getElem?_getD]
 cases hs:s[i]? with
 | none =>
  rw[hs]at h1
  cases ht:t[i]? with
  | none=>exact⟨rfl,rfl,rfl⟩
  | some y=>rw[ht]at h1; cases h1
 | some x =>
  rw[hs]at h1
  cases ht:t[i]? with
  | none=>rw[ht]at h1; cases h1
  | some y =>
   rw[ht]at h1
   have:=Option.some.inj h1
   simp only[keyE,Prod.mk.injEq]at this
   exact this
theorem JdO{l:List Source}{s t:List Edit}(h:s.map keyE=t.map keyE)(i:Nat):chk l s i=chk l t i:=by
 obtain⟨h1,h2,h3⟩:=Jfc h i
 obtain⟨k1,k2,k3⟩:=Jfc h (i-1)
 unfold chk
 rw[h1,h2,h3,k1,k2,k3]
theorem JgV{s t:List Edit}(h:s.map keyE=t.map keyE):s.length=t.length:=by simpa using congrArg List.length h
theorem Jdq{l:List Source}{s:List Edit}(hS:s.Pairwise kle)(hc:∀ i,i<s.length→chk l s i=0){i j:Nat}(hij:i<j)(hj:j<s.length):keyE (s.getD i default)≠keyE (s.getD j default):=by
 intro h
 simp only[keyE,Prod.mk.injEq]at h
 obtain⟨h1,h2,h3⟩:=h
 have hle:∀ a b,a<b→b<s.length→kle (s.getD a default) (s.getD b default):=fun a b h1 h2=>JdL hS (Nat.le_of_lt h1) h2
 have hcj:=hc j hj
 -- the one ahead of j has j's key too
 have hk:(s.getD (j-1) default).File=(s.getD j default).File∧(s.getD (j-1) default).From=(s.getD j default).From:=by
  by_cases e:i=j-1
  ·rw[← e]; exact⟨h1,h2⟩
  ·have q1:=hle i (j-1) (by omega) (by omega)
   have q2:=hle (j-1) j (by omega) hj
   unfold kle at q1 q2
   omega
 unfold chk at hcj
 split at hcj
 ·cases hcj
 ·split at hcj
  ·cases hcj
  ·split at hcj
   ·cases hcj
   ·rename_i c
    exact c ⟨by omega,hk.1,.inr hk.2⟩
theorem Jgp{l:List Source}{s t:List Edit}(hp:s.Perm t)(hs:s.Pairwise kle)(ht:t.Pairwise kle)(hc:∀ i,i<s.length→chk l s i=0):s=t:=by
 have hk:=Jhn hp hs ht
 have hl:=JgV hk
 refine Ji3 default hl fun i hi=>?_
 have hm:t.getD i default∈s:=hp.mem_iff.2 (JcT t i default (by omega))
 obtain⟨j,hj,he⟩:=JkI hm
 have hkey:keyE (s.getD j default)=keyE (s.getD i default):=by
  rw[he]
  obtain⟨h1,h2,h3⟩:=Jfc hk i
  simp only[keyE,h1,h2,h3]
 rcases Nat.lt_trichotomy i j with h | h | h
 ·exact absurd hkey.symm (Jdq hs hc h hj)
 ·rw[h,he,← h]
 ·exact absurd hkey (Jdq hs hc h hi)
theorem JfI{l:List Source}{s t:List Edit}(hp:s.Perm t)(hs:s.Pairwise kle)(ht:t.Pairwise kle):VA l s=VA l t:=by
 have hk:=Jhn hp hs ht
 have hl:=JgV hk
 have hf:(fun i=>decide (chk l s i≠0))=fun i=>decide (chk l t i≠0):=by
  funext i; rw[JdO hk i]
 unfold VA
 rw[hl,hf]
 split
 ·rfl
 ·split
  ·rename_i i _
   rw[JdO hk i]
  ·rename_i hn
   have hc:∀ i,i<s.length→chk l s i=0:=fun i hi=>by
    have:=List.find?_eq_none.1 hn i (List.mem_range.2 (by omega))
    rw[JdO hk i]
    simpa using this
   rw[Jgp hp hs ht hc]
structure FilesOk (l:List Source):Prop where
 len:l.length≤1048576
 path:∀ f∈l,f.Path.length≤1048576
 text:∀ f∈l,f.Text.length≤1048576
theorem JjP{l:List Source}(hl:bkL VO l≤1048576):FilesOk l:=by
 have b1:l.length+1≤bkL VO l:=Jhk (fun a=>by simp only[VO,bkS]; omega) l
 have b2:∀ f∈l,f.Path.length+f.Text.length≤bkL VO l:=fun f hf=>by
  have:=Jg5 (b:=VO) hf
  simp only[VO,bkS]at this
  omega
 exact⟨by omega,fun f hf=>by have:=b2 f hf; omega,fun f hf=>by have:=b2 f hf; omega⟩
theorem Je9:∀ es:List Edit,es.length+(es.map fun e=>e.Text.length).sum≤bkL Ja1 es
 | []=>by simp[bkL]
 | e::es=>by
  have:=Je9 es
  simp only[bkL,List.map_cons,List.sum_cons,List.length_cons,Ja1,bkS,bk1]at this ⊢
  omega
theorem Jbe{l:List Source}{es:List Edit}(hl:FilesOk l)(hn:es.length≤1048576)(hx:(es.map fun e=>e.Text.length).sum≤1048576):∃ s,s.Perm es∧s.Pairwise kle∧KT l es=some (VA l s):=by
 obtain⟨s,h1,h2,h3⟩:=JjL es (by omega)
 refine⟨s,h2,h3,Jia l es s h1 h3 h2.length_eq hl.len (by rw[h2.length_eq]; exact hn) hl.path hl.text ?_⟩
 rw[(h2.map fun e=>e.Text.length).sum_nat]
 exact hx
theorem JhU(l:List Source)(es:List Edit)(hl:bkL VO l≤1048576)(he:bkL Ja1 es≤1048576):VL l es=some true:=by
 have hL:=JjP hl
 have hE:=Je9 es
 obtain⟨s,s1,s2,s3⟩:=Jbe (l:=l) (es:=es) hL (by omega) (by omega)
 obtain⟨t,t1,t2,t3⟩:=Jbe (l:=l) (es:=es.reverse) hL (by rw[List.length_reverse]; omega) (by rw[List.map_reverse,List.sum_reverse]; omega)
 have hst:VA l s=VA l t:=JfI (s1.trans ((List.reverse_perm es).symm.trans t1.symm)) s2 t2
 obtain⟨z,z1,z2,z3⟩:=Jbe (l:=l) (es:=[]) hL (by simp) (by simp)
 obtain rfl:=z1.eq_nil
 -- what comes of no edits
 have hz:VA l []=if(V7 l).Err≠0 then([],(V7 l).Err) else(l,0):=by
  unfold VA
  split
  ·rfl
  ·rename_i hw
   have hw:(V7 l).Err=0:=by simpa using hw
   obtain⟨h8,hbad⟩:=Ji8 hw
   show finV l []=_
   unfold finV
   rw[if_neg (by simp),show outV l []=l from rfl,if_neg]
   intro ha
   obtain⟨f,hf,h3⟩:=List.any_eq_true.1 ha
   obtain⟨i,hi,rfl⟩:=List.getElem_of_mem hf
   have:=hbad i hi
   unfold badF at this
   rw[List.getD_eq_getElem?_getD,List.getElem?_eq_getElem hi]at this
   split at this
   ·cases this
   ·split at this
    ·cases this
    ·rename_i hh
     exact hh (by simpa using h3)
 have hend:KC l false=some true:=by
  simp only[KC,Bool.false_eq_true,if_false]
  rw[z3,hz,Jf0 l (by have:=hL.len; omega) (fun f hf=>Nat.le_trans (hL.path f hf) (by decide))]
  simp only[Option.bind_some]
  by_cases hw:(V7 l).Err=0
  ·rw[if_neg (show ¬ (V7 l).Err≠0 by simpa using hw)]
   simp only
   rw[if_pos (by simp[eqI,hw]),if_neg (Jar rfl),Jfn l hL.len]
   rfl
  ·rw[if_pos (show(V7 l).Err≠0 from hw)]
   simp only
   rw[if_pos (by simp[eqI]),if_pos (JaA hw)]
   rfl
 have hsame:KA (VA l s).1 (VA l s).1=some true:=by
  refine Jfn _ ?_
  unfold VA
  split
  ·simp
  ·split
   ·simp
   ·unfold finV
    split
    ·simp
    ·split
     ·simp
     ·simp only[Z1]; exact hL.len
 unfold VL
 rw[JcV]
 simp only[Option.bind_some,Bool.not_true,Bool.false_eq_true,if_false]
 have key:∀ n j:Nat,j+n=es.length→Ju (Kf l es) ((es.length:Int),(j:Int),es.reverse.take j)=some true:=by
  intro n
  induction n with
  | zero =>
   intro j hj
   refine lend (b:=Kf l es) ?_
   simp only[Kf,ltI,decide_eq_true_eq]
   rw[if_neg (by omega),List.take_of_length_le (by rw[List.length_reverse]; omega),s3,t3,← hst]
   simp only[Option.bind_some]
   rw[if_neg (by simp[eqB]),hsame]
   simp only[Option.bind_some,Bool.not_true,hend]
   rfl
  | succ n ih =>
   intro j hj
   have hb:Kf l es ((es.length:Int),(j:Int),es.reverse.take j)=some (.inl ((es.length:Int),((j+1:Nat):Int),es.reverse.take (j+1))):=by
    simp only[Kf,ltI,decide_eq_true_eq]
    rw[if_pos (by omega),wr ((es.length:Int)-1) (by omega),wr ((es.length:Int)-1-(j:Int)) (by omega),wN1 j (by omega),show((es.length:Int)-1-(j:Int)).toNat=es.length-1-j by omega]
    rw[if_pos (by omega),if_pos (by simp only[List.length_cons,List.length_nil,List.length_take]; omega)]
    have:es.reverse.take (j+1)=es.reverse.take j++[es.getD (es.length-1-j) default]:=by
     rw[List.take_add_one,List.getElem?_reverse (by omega),List.getD_eq_getElem?_getD,List.getElem?_eq_getElem (by omega)]
     rfl
    rw[this]
   rw[Vp hb]
   exact ih (j+1) (by omega)
 exact key es.length 0 (by omega)
end Go.Proofs.YtfkhlbhjhdpkoaaDoor
