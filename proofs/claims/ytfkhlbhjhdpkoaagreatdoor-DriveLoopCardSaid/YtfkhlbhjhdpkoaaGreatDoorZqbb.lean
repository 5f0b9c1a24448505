/- Texts one behind the other: how they are joined. Plain. -/
import Derived.Test.YtfkhlbhjhdpkoaaGreatDoorZqax
set_option linter.unusedVariables false
set_option linter.unusedSimpArgs false
namespace Go.Proofs.YtfkhlbhjhdpkoaaGreatDoor
open Go.RowKit
def shut(l:List UInt8):Prop:=∀ a,l≠a++[92]∧l≠a++[92,13]
theorem shut.tail{c:UInt8}{l:List UInt8}(h:shut (c::l)):shut l:=fun a =>
 ⟨fun e=>(h (c::a)).1 (by rw[e]; rfl),fun e=>(h (c::a)).2 (by rw[e]; rfl)⟩
theorem JzA{c:UInt8}{l r:List UInt8}(h:shut (c::l))(hr:r.head? = some 10):KA ((c::l)++r)=KA (c::l):=by
 obtain⟨r',rfl⟩:∃ r',r=10::r':=by
  cases r with
  | nil=>cases hr
  | cons x r'=>simp only[List.head?_cons,Option.some.injEq]at hr; exact⟨r',by rw[hr]⟩
 unfold KA
 cases l with
 | nil =>
  have h1:c≠92:=fun e=>(h []).1 (by rw[e]; rfl)
  simp[h1]
 | cons d l =>
  cases l with
  | nil =>
   have h1:¬ (c=92∧d=13):=fun e=>(h []).2 (by rw[e.1,e.2]; rfl)
   have h2:List.take 3 ([c,d]++10::r')=[c,d,10]:=rfl
   have h3:List.take 2 ([c,d]++10::r')=[c,d]:=rfl
   rw[h2,h3]
   have h4:¬ [c,d,10]=([92,13,10]:List UInt8):=by simpa using fun a b=>h1 ⟨a,b⟩
   have h5:¬ [c,d]=([92,13,10]:List UInt8):=by simp
   rw[if_neg h4]
   show(if [c,d]=[92,10] then 2 else 0)=if [c,d]=[92,10] then 2 else if [c,d]=([92,13,10]:List UInt8) then 3 else 0
   rw[if_neg h5]
  | cons e l=>rfl
theorem JpG(r:List UInt8)(hr:r.head? = some 10):∀ (s:List UInt8) (k i:Nat),k≤s.length→shut s →
  ∃ P,sp k i (s++r)=P++sp 0 (i+s.length) r∧(sp k i s=P∨sp k i s=P++[(13,i+s.length-1)])
 | [],k,i,hk,_=>by
  obtain rfl:k=0:=by simpa using hk
  exact⟨[],rfl,.inl rfl⟩
 | c::s,k+1,i,hk,hs=>by
  obtain⟨P,h1,h2⟩:=JpG r hr s k (i+1) (by simpa using hk) hs.tail
  refine⟨P,?_,?_⟩
  ·show sp k (i+1) (s++r)=_
   rw[h1,List.length_cons,show i+1+s.length=i+(s.length+1) by omega]
  show sp k (i+1) s=P∨sp k (i+1) s=_
  rw[List.length_cons,show i+(s.length+1)-1=i+1+s.length-1 by omega]
  exact h2
 | c::s,0,i,_,hs=>by
  have hj:=JzA (r:=r) hs hr
  rw[List.cons_append]at hj ⊢
  have hle:=Jme (c::s)
  simp only[sp]
  rw[hj]
  by_cases h0:KA (c::s) > 0
  ·rw[if_pos h0,if_pos h0]
   obtain⟨P,h1,h2⟩:=JpG r hr s (KA (c::s)-1) (i+1) (by simp only[List.length_cons]at hle; omega) hs.tail
   refine⟨P,by rw[h1,List.length_cons,show i+1+s.length=i+(s.length+1) by omega],?_⟩
   rw[List.length_cons,show i+(s.length+1)-1=i+1+s.length-1 by omega]
   exact h2
  rw[if_neg h0,if_neg h0]
  obtain⟨P,h1,h2⟩:=JpG r hr s 0 (i+1) (by omega) hs.tail
  cases s with
  | nil =>
   simp only[List.nil_append,hr,List.head?_nil,and_true,reduceCtorEq,and_false,if_false,List.length_cons,List.length_nil]
   by_cases hc:c=13
   ·rw[if_pos hc,hc]
    exact⟨[],rfl,.inr rfl⟩
   rw[if_neg hc]
   exact⟨[(c,i)],rfl,.inl rfl⟩
  | cons d s =>
   rw[show(d::s++r).head? = (d::s).head? from rfl]
   by_cases hc:c=13∧(d::s).head? = some 10
   ·rw[if_pos hc,if_pos hc]
    refine⟨P,by rw[h1,List.length_cons (a:=c),show i+1+(d::s).length=i+((d::s).length+1) by omega],?_⟩
    rw[List.length_cons (a:=c),show i+((d::s).length+1)-1=i+1+(d::s).length-1 by omega]
    exact h2
   rw[if_neg hc,if_neg hc]
   refine⟨(c,i)::P,by rw[h1,List.length_cons (a:=c),show i+1+(d::s).length=i+((d::s).length+1) by omega]; rfl,?_⟩
   rw[List.length_cons (a:=c),show i+((d::s).length+1)-1=i+1+(d::s).length-1 by omega]
   rcases h2 with h2 | h2
   ·exact .inl (by rw[h2])
   exact .inr (by rw[h2]; rfl)
theorem Jy8(r:List UInt8):∀ (s:List UInt8) (i:Nat),(∀ c∈s,c≠92∧c≠13)→sp 0 i (s++r)=s.zipIdx i++sp 0 (i+s.length) r
 | [],i,_=>rfl
 | c::s,i,h=>by
  obtain⟨h1,h2⟩:=h c (by simp)
  have hj:KA (c::(s++r))=0:=by
   unfold KA
   rw[if_neg (by intro q; cases hx:(s++r) <;> simp[hx,h1]at q),if_neg (by intro q; simp[h1]at q)]
  rw[List.cons_append]
  simp only[sp,hj,gt_iff_lt,Nat.lt_irrefl,if_false,h2,false_and]
  rw[Jy8 r s (i+1) (fun d hd=>h d (by simp[hd])),List.zipIdx_cons,List.length_cons,show i+1+s.length=i+(s.length+1) by omega]
  rfl
end Go.Proofs.YtfkhlbhjhdpkoaaGreatDoor
