/- splice: what its functions of data answer. Plain. -/
import Derived.Test.YtaofbminodhcnaaZcay
import Derived.IntWalk
set_option linter.unusedVariables false
set_option linter.unusedSimpArgs false
set_option maxHeartbeats 4000000
namespace Go.Proofs.Ytaofbminodhcnaa
open Go.RowKit
theorem wr(x:Int)(h:-9223372036854775808≤x∧x≤9223372036854775807):IntKind.i64.wrap x=x:=IntWalk.i64_in _ h
theorem Jlq{α:Type}{n:Nat}{l m:List α}(h:l.take n=m):m.length≤l.length:=by
 rw[← h]; simp; omega
theorem u8i(c:UInt8)(n:Nat)(h:n<256):((c.toNat:Int)=(n:Int))↔c=UInt8.ofNat n:=by
 constructor
 ·intro h1
  have:c.toNat=n:=by omega
  rw[← this]; simp
 ·rintro rfl; simp; omega
def Nxt{S R:Type}(I:S→Prop)(μ:S→Nat)(post:R→Prop)(n:Nat)(o:S ⊕ R):Prop:=match o with | .inl s'=>I s'∧μ s'<n | .inr r=>post r
theorem Ju1{S R:Type}{b:S→Option (S ⊕ R)}(I:S→Prop)(μ:S→Nat)(post:R→Prop)
  (h:∀ s,I s→∃ o,b s=some o∧Nxt I μ post (μ s) o) (s:S) (hs:I s):∃ r,Jt b s=some r∧post r :=
 Jhx I μ post (fun s hs=>by
  obtain⟨o,h1,h2⟩:=h s hs
  refine⟨o,h1,?_⟩
  cases o <;> exact h2) s hs
def Jar(l:List UInt8):Nat:=if l.take 2=[92,10] then 2 else if l.take 3=[92,13,10] then 3 else 0
def sp:Nat→Nat→List UInt8→List (UInt8×Nat)
 | _,_,[]=>[]
 | k+1,i,_::r=>sp k (i+1) r
 | 0,i,c::r=>if Jar (c::r) > 0 then sp (Jar (c::r)-1) (i+1) r else if c=13∧r.head? = some 10 then sp 0 (i+1) r else(c,i)::sp 0 (i+1) r
def spAt(l:List UInt8)(i:Nat):List (UInt8×Nat):=sp 0 i (l.drop i)
theorem Jr8:∀ (k i:Nat) (l:List UInt8),k≤l.length→sp k i l=sp 0 (i+k) (l.drop k)
 | 0,i,l,_=>by simp
 | k+1,i,[],h=>by simp at h
 | k+1,i,_::r,h=>by
  simp only[sp,List.drop_succ_cons]
  rw[Jr8 k (i+1) r (by simpa using h)]
  congr 1; omega
theorem Js3(l:List UInt8):Jar l≤l.length:=by
 have a1:l.take 2=[92,10]→2≤l.length:=fun h=>Jlq h
 have a2:l.take 3=[92,13,10]→3≤l.length:=fun h=>Jlq h
 unfold Jar
 split
 ·exact a1 (by assumption)
 ·split
  ·exact a2 (by assumption)
  ·omega
theorem J5(l:List UInt8)(i:Nat)(h:i<l.length):l.drop i=l.getD i 0::l.drop (i+1):=by
 rw[List.drop_eq_getElem_cons h]; simp[List.getD_eq_getElem?_getD,List.getElem?_eq_getElem h]
theorem Jn9(l:List UInt8)(i:Nat)(h:0<Jar (l.drop i)):spAt l i=spAt l (i+Jar (l.drop i)):=by
 have hle:=Js3 (l.drop i)
 simp at hle
 have hi:i<l.length:=by omega
 unfold spAt
 generalize hj:Jar (l.drop i)=j at h hle ⊢
 rw[J5 l i hi]at hj ⊢
 simp only[sp,hj,gt_iff_lt,h,if_true]
 rw[Jr8 _ _ _ (by simp; omega),List.drop_drop]
 congr 1
 ·omega
 ·congr 1; omega
theorem Jxe(l:List UInt8)(i:Nat)(h:Jar (l.drop i)=0)(h1:l.getD i 0=13)(h2:i+1<l.length)(h3:l.getD (i+1) 0=10):spAt l i=spAt l (i+1):=by
 have hi:i<l.length:=by omega
 unfold spAt
 rw[J5 l i hi]at h ⊢
 have h4:(l.drop (i+1)).head? = some 10:=by rw[J5 l (i+1) h2,h3]; rfl
 rw[h1]at h ⊢
 simp only[sp,h,h4,and_self,if_true,gt_iff_lt,Nat.lt_irrefl,if_false]
theorem JtH(l:List UInt8)(i:Nat)(hi:i<l.length)(h:Jar (l.drop i)=0)(h1:¬ (l.getD i 0=13∧i+1<l.length∧l.getD (i+1) 0=10)):spAt l i=(l.getD i 0,i)::spAt l (i+1):=by
 unfold spAt
 rw[J5 l i hi]at h ⊢
 have h2:¬ (l.getD i 0=13∧(l.drop (i+1)).head? = some 10):=by
  rintro ⟨a,b⟩
  refine h1 ⟨a,?_⟩
  by_cases h3:i+1<l.length
  ·rw[J5 l (i+1) h3]at b
   simp at b
   exact⟨h3,by simpa [List.getD_eq_getElem?_getD] using b⟩
  ·rw[List.drop_of_length_le (by omega)]at b
   cases b
 simp only[sp,h,h2,gt_iff_lt,Nat.lt_irrefl,if_false]
theorem Jvk(l:List UInt8)(i:Nat)(h:l.length≤i):spAt l i=[]:=by
 unfold spAt; rw[List.drop_of_length_le h]; rfl
def JC(l:List UInt8):List UInt8:=(spAt l 0).map (·.1)
def Xu(l:List UInt8):List Nat:=(spAt l 0).map (·.2)++[l.length]
def ints(l:List Nat):List Int:=l.map fun(n:Nat)=>(n:Int)
theorem Jg6(l:List Nat):(ints l).length=l.length:=by simp[ints]
theorem Js1(l:List Nat)(n:Nat):ints l++[(n:Int)]=ints (l++[n]):=by simp[ints]
def spS(l:List UInt8):Spliced:=⟨JC l,ints (Xu l)⟩
end Go.Proofs.Ytaofbminodhcnaa
namespace Go.Proofs.Ytaofbminodhcnaa
open Go.RowKit
def JeG(l:List UInt8)(k:Nat):Nat:=1+((l.take k).filter (·=10)).length
theorem JsB(l:List UInt8)(k:Nat)(h:k<l.length):JeG l (k+1)=JeG l k+if l.getD k 0=10 then 1 else 0:=by
 unfold JeG
 rw[List.take_succ_eq_append_getElem h,List.filter_append]
 have:l.getD k 0=l[k]:=by simp[List.getD_eq_getElem?_getD,List.getElem?_eq_getElem h]
 rw[this]
 by_cases h10:l[k]=10 <;> simp[h10]; omega
theorem Jvc(l:List UInt8)(k:Nat):JeG l k≤1+k:=by
 unfold JeG
 have h1:=List.length_filter_le (fun c:UInt8=>decide (c=10)) (l.take k)
 have h2:=List.length_take_le k l
 omega
def kAt(l:List UInt8)(n:Int):Nat:=min n.toNat l.length
theorem Jwr(l:List UInt8)(n:Int)(hl:l.length≤1099511627776):JcA l n=some (JeG l (kAt l n):Int):=by
 unfold JcA
 obtain⟨r,h1,h2⟩:=Jhx (b:=JbY l n) (fun s=>∃ i:Nat,s=((JeG l i:Int),(i:Int))∧i≤kAt l n) (fun s=>kAt l n-s.2.toNat) (fun r=>r=(JeG l (kAt l n):Int)) (by
  rintro _ ⟨i,rfl,hi⟩
  have hk:kAt l n≤l.length∧(kAt l n:Int)≤max n 0:=by unfold kAt; omega
  have hk2:i<kAt l n↔(i:Int)<n∧(i:Int)<l.length:=by unfold kAt; omega
  generalize kAt l n=k at hk hk2 hi
  simp only[JbY,JbQ,ltI,decide_eq_true_eq,Int.toNat_natCast]
  have hn:=Jvc l i
  by_cases hik:i<k
  ·rw[if_pos (hk2.1 hik).1,if_pos (hk2.1 hik).2,if_pos (by omega)]
   have hs:=JsB l i (by omega)
   have c10:((l.getD i 0).toNat:Int)=10↔l.getD i 0=10:=u8i _ 10 (by decide)
   simp only[eqI,decide_eq_true_eq,JbV]
   rw[wr ((i:Int)+1) (by omega)]
   by_cases h10:l.getD i 0=10
   ·rw[if_pos (c10.2 h10),wr _ (by omega)]
    rw[if_pos h10]at hs
    exact⟨_,rfl,⟨i+1,by rw[hs]; simp,by omega⟩,by simp; omega⟩
   ·rw[if_neg (fun h=>h10 (c10.1 h))]
    rw[if_neg h10]at hs
    exact⟨_,rfl,⟨i+1,by rw[hs]; simp,by omega⟩,by simp; omega⟩
  ·have:i=k:=by omega
   subst this
   by_cases h3:(i:Int)<n
   ·rw[if_pos h3,if_neg (fun h=>hik (hk2.2 ⟨h3,h⟩))]
    exact⟨_,rfl,rfl⟩
   ·rw[if_neg h3]
    simp only[Bool.false_eq_true,if_false]
    exact⟨_,rfl,rfl⟩) (1,0) ⟨0,by simp[JeG],by omega⟩
 rw[h1,h2]
theorem Jus(A:List Nat)(k:Nat)(h:k<A.length)(d:Int):(ints A).getD k d=((A.getD k 0:Nat):Int):=by
 simp[ints,List.getD_eq_getElem?_getD,List.getElem?_eq_getElem h]
theorem JhT:∀ (l:List UInt8) (k i:Nat),(∀ p∈sp k i l,i≤p.2∧p.2<i+l.length)∧((sp k i l).map (·.2)).Pairwise (· < ·)∧(sp k i l).length≤l.length
 | [],k,i=>by
  cases k <;> simp[sp]
 | c::r,k,i=>by
  have ih:=fun k=>JhT r k (i+1)
  have up:∀ k,(∀ p∈sp k (i+1) r,i≤p.2∧p.2<i+(c::r).length)∧((sp k (i+1) r).map (·.2)).Pairwise (· < ·)∧(sp k (i+1) r).length≤(c::r).length:=fun k=>by
   obtain⟨h1,h2,h3⟩:=ih k
   refine⟨fun p hp=>?_,h2,by simp; omega⟩
   have:=h1 p hp
   simp; omega
  cases k with
  | succ k=>simp only[sp]; exact up k
  | zero =>
   simp only[sp]
   split
   ·exact up _
   ·split
    ·exact up _
    ·obtain⟨h1,h2,h3⟩:=ih 0
     refine⟨fun p hp=>?_,?_,by simp; omega⟩
     ·rcases List.mem_cons.1 hp with rfl | hp
      ·simp
      ·have:=h1 p hp
       simp; omega
     ·rw[List.map_cons,List.pairwise_cons]
      refine⟨fun q hq=>?_,h2⟩
      obtain⟨p,hp,rfl⟩:=List.mem_map.1 hq
      have:=h1 p hp
      show i<p.2
      omega
theorem JuU(l:List UInt8):∀ a∈Xu l,a≤l.length:=by
 obtain⟨h1,_,_⟩:=JhT l 0 0
 unfold Xu spAt
 rw[List.drop_zero]
 intro a ha
 rcases List.mem_append.1 ha with ha | ha
 ·obtain⟨p,hp,rfl⟩:=List.mem_map.1 ha
  have:=h1 p hp
  omega
 ·simp only[List.mem_singleton]at ha
  omega
theorem JoQ(l:List UInt8):(Xu l).length=(JC l).length+1:=by
 simp[Xu,JC]
theorem Joy(l:List UInt8):(JC l).length≤l.length:=by
 obtain⟨_,_,h3⟩:=JhT l 0 0
 simpa [JC,spAt] using h3
theorem Jsq(l:List UInt8)(i:Nat)(h:i+1<l.length):(l.drop i).take 2=[l.getD i 0,l.getD (i+1) 0]:=by
 rw[J5 l i (by omega),J5 l (i+1) h]; rfl
theorem JvJ(l:List UInt8)(i:Nat)(h:i+2<l.length):(l.drop i).take 3=[l.getD i 0,l.getD (i+1) 0,l.getD (i+2) 0]:=by
 rw[J5 l i (by omega),J5 l (i+1) (by omega),J5 l (i+2) h]; rfl
theorem Jyf(l:List UInt8)(i:Nat)(h:i<l.length):(l.drop i).take 1=[l.getD i 0]:=by
 rw[J5 l i h]; rfl
theorem JxH(l:List UInt8)(i:Nat)(h:i+1<l.length)(h0:l.getD i 0=92)(h1:l.getD (i+1) 0=10):Jar (l.drop i)=2:=by
 unfold Jar; rw[Jsq l i h,h0,h1]; rfl
theorem Jx6(l:List UInt8)(i:Nat)(h:i+2<l.length)(h0:l.getD i 0=92)(h1:l.getD (i+1) 0=13)(h2:l.getD (i+2) 0=10):Jar (l.drop i)=3:=by
 unfold Jar; rw[Jsq l i (by omega),JvJ l i h,h0,h1,h2]; rfl
theorem Jx7(l:List UInt8)(i:Nat)(h2:¬ (i+1<l.length∧l.getD i 0=92∧l.getD (i+1) 0=10))(h3:¬ (i+2<l.length∧l.getD i 0=92∧l.getD (i+1) 0=13∧l.getD (i+2) 0=10)):Jar (l.drop i)=0:=by
 unfold Jar
 split
 ·rename_i h
  have h1:i+1<l.length:=by
   have:=Jlq h
   simp at this; omega
  rw[Jsq l i h1]at h
  simp only[List.cons.injEq,and_true]at h
  exact(h2 ⟨h1,h⟩).elim
 ·split
  ·rename_i h
   have h1:i+2<l.length:=by
    have:=Jlq h
    simp at this; omega
   rw[JvJ l i h1]at h
   simp only[List.cons.injEq,and_true]at h
   exact(h3 ⟨h1,h⟩).elim
  ·rfl
theorem Jja(l:List UInt8)(i k:Nat):(l.drop i).getD k 0=l.getD (i+k) 0:=by
 simp[List.getD_eq_getElem?_getD]
def rsI(l:List UInt8)(s:Int×List UInt8×List UInt8×List Int):Prop :=
 ∃ (i:Nat) (T:List UInt8) (A:List Nat),s=((i:Int),[],T,ints A)∧i≤l.length∧spAt l 0=T.zip A++spAt l i∧T.length=A.length∧T.length≤i
theorem Jsb(l:List UInt8)(hl:l.length≤1099511627776):Jbg l=some (spS l):=by
 unfold Jbg
 obtain⟨r,h1,h2⟩:=Ju1 (b:=JaZ l) (rsI l) (fun s=>l.length-s.1.toNat) (fun r=>r=spS l) (by
  rintro _ ⟨i,T,A,rfl,hi,hsp,hTA,hTi⟩
  simp only[JaZ,ltI,decide_eq_true_eq,Int.toNat_natCast]
  by_cases hil:i<l.length
  ·rw[if_pos (by omega),if_pos (by omega)]
   have hd:(List.drop i l).length=l.length-i:=by simp
   have g0:(List.drop i l).getD 0 0=l.getD i 0:=Jja l i 0
   have g1:(List.drop i l).getD 1 0=l.getD (i+1) 0:=Jja l i 1
   have g2:(List.drop i l).getD 2 0=l.getD (i+2) 0:=Jja l i 2
   have c92:((l.getD i 0).toNat:Int)=92↔l.getD i 0=92:=u8i _ 92 (by decide)
   have c13:((l.getD i 0).toNat:Int)=13↔l.getD i 0=13:=u8i _ 13 (by decide)
   have d10:((l.getD (i+1) 0).toNat:Int)=10↔l.getD (i+1) 0=10:=u8i _ 10 (by decide)
   have d13:((l.getD (i+1) 0).toNat:Int)=13↔l.getD (i+1) 0=13:=u8i _ 13 (by decide)
   have e10:((l.getD (i+2) 0).toNat:Int)=10↔l.getD (i+2) 0=10:=u8i _ 10 (by decide)
   have skip:∀ k:Nat,0<k→i+k≤l.length→spAt l i=spAt l (i+k)→∃ o,Vy [] ((i:Int)+(k:Int)-1,T,ints A)=some o∧Nxt (rsI l) (fun s=>l.length-s.1.toNat) (fun r=>r=spS l) (l.length-i) o:=fun k h0 hk he=>by
    simp only[Vy]
    rw[wr _ (by omega)]
    refine⟨_,rfl,⟨i+k,T,A,?_,hk,by rw[hsp,he],hTA,by omega⟩,?_⟩
    ·simp <;> omega
    ·simp <;> omega
   have w1:IntKind.i64.wrap ((i:Int)+1)=(i:Int)+((2:Nat):Int)-1:=by rw[wr _ (by omega)]; omega
   have w2:IntKind.i64.wrap ((i:Int)+2)=(i:Int)+((3:Nat):Int)-1:=by rw[wr _ (by omega)]; omega
   have w0:(i:Int)=(i:Int)+((1:Nat):Int)-1:=by omega
   -- what is left behind the tests for joins
   have last:Jar (l.drop i)=0→∃ o,VA (i:Int) [] T (ints A) (List.drop i l) false=some o∧Nxt (rsI l) (fun s=>l.length-s.1.toNat) (fun r=>r=spS l) (l.length-i) o:=fun hj=>by
    have plain:(¬ (l.getD i 0=13∧i+1<l.length∧l.getD (i+1) 0=10))→∃ o,VZ (i:Int) [] T (ints A) (List.drop i l) false=some o∧Nxt (rsI l) (fun s=>l.length-s.1.toNat) (fun r=>r=spS l) (l.length-i) o:=fun hn=>by
     simp only[VZ,Bool.false_eq_true,if_false]
     have b2:((ints A).length + [(i:Int)].length) * 8≤140737488355328:=by simp[Jg6]; omega
     rw[if_pos (by omega),if_pos (by simp; omega),if_pos b2,Jyf l i hil,Js1]
     simp only[Vy]
     rw[wr _ (by omega)]
     refine⟨_,rfl,⟨i+1,T++[l.getD i 0],A++[i],by simp,by omega,by rw[hsp,JtH l i hil hj hn,List.zip_append hTA]; simp,by simp[hTA],by simp; omega⟩,by simp; omega⟩
    simp only[VA,Bool.false_eq_true,if_false,ltI,decide_eq_true_eq,eqI,g0,g1]
    by_cases hl1:i+1<l.length
    ·rw[if_pos (by omega),if_pos (by omega)]
     by_cases h13:l.getD i 0=13
     ·rw[if_pos (c13.2 h13),if_pos (by omega)]
      by_cases h10:l.getD (i+1) 0=10
      ·have:decide (((l.getD (i+1) 0).toNat:Int)=10)=true:=by simpa using d10.2 h10
       rw[this]
       simp only[VZ,if_true]
       rw[w0]
       exact skip 1 (by omega) (by omega) (Jxe l i hj h13 hl1 h10)
      ·have:decide (((l.getD (i+1) 0).toNat:Int)=10)=false:=by
        have:=fun h=>h10 (d10.1 h)
        simpa using this
       rw[this]
       exact plain (fun h=>h10 h.2.2)
     ·rw[if_neg (fun h=>h13 (c13.1 h))]
      exact plain (fun h=>h13 h.1)
    ·rw[if_neg (by omega)]
     exact plain (fun h=>hl1 h.2.1)
   -- the second test
   have second:¬ (i+1<l.length∧l.getD i 0=92∧l.getD (i+1) 0=10)→∃ o,V2 (i:Int) [] T (ints A) (List.drop i l,false)=some o∧Nxt (rsI l) (fun s=>l.length-s.1.toNat) (fun r=>r=spS l) (l.length-i) o:=fun hn=>by
    simp only[V2,Bool.false_eq_true,if_false,ltI,decide_eq_true_eq,eqI,g0,g1,g2]
    have no:¬ (i+2<l.length∧l.getD i 0=92∧l.getD (i+1) 0=13∧l.getD (i+2) 0=10)→Jar (l.drop i)=0:=Jx7 l i hn
    by_cases hl2:i+2<l.length
    ·rw[if_pos (by omega),if_pos (by omega)]
     by_cases h92:l.getD i 0=92
     ·rw[if_pos (c92.2 h92),if_pos (by omega)]
      by_cases h13:l.getD (i+1) 0=13
      ·rw[if_pos (d13.2 h13),if_pos (by omega)]
       by_cases h10:l.getD (i+2) 0=10
       ·have:decide (((l.getD (i+2) 0).toNat:Int)=10)=true:=by simpa using e10.2 h10
        rw[this]
        simp only[VA,if_true]
        rw[w2]
        have hj:=Jx6 l i hl2 h92 h13 h10
        have:=Jn9 l i (by omega)
        rw[hj]at this
        exact skip 3 (by omega) (by omega) this
       ·have:decide (((l.getD (i+2) 0).toNat:Int)=10)=false:=by
         have:=fun h=>h10 (e10.1 h)
         simpa using this
        rw[this]
        exact last (no fun h=>h10 h.2.2.2)
      ·rw[if_neg (fun h=>h13 (d13.1 h))]
       exact last (no fun h=>h13 h.2.2.1)
     ·rw[if_neg (fun h=>h92 (c92.1 h))]
      exact last (no fun h=>h92 h.2.1)
    ·rw[if_neg (by omega)]
     exact last (no fun h=>hl2 h.1)
   simp only[hd,g0,g1,eqI,decide_eq_true_eq]
   by_cases hl1:i+1<l.length
   ·rw[if_pos (by omega),if_pos (by omega)]
    by_cases h92:l.getD i 0=92
    ·rw[if_pos (c92.2 h92),if_pos (by omega)]
     by_cases h10:l.getD (i+1) 0=10
     ·have:decide (((l.getD (i+1) 0).toNat:Int)=10)=true:=by simpa using d10.2 h10
      rw[this]
      simp only[V2,if_true]
      rw[w1]
      have hj:=JxH l i hl1 h92 h10
      have:=Jn9 l i (by omega)
      rw[hj]at this
      exact skip 2 (by omega) (by omega) this
     ·have:decide (((l.getD (i+1) 0).toNat:Int)=10)=false:=by
       have:=fun h=>h10 (d10.1 h)
       simpa using this
      rw[this]
      exact second (fun h=>h10 h.2.2)
    ·rw[if_neg (fun h=>h92 (c92.1 h))]
     exact second (fun h=>h92 h.2.1)
   ·rw[if_neg (by omega)]
    exact second (fun h=>hl1 h.1)
  ·have hil:i=l.length:=by omega
   rw[Jvk l i (by omega),List.append_nil]at hsp
   rw[if_neg (by omega)]
   have e1:JC l=T:=by unfold JC; rw[hsp]; simp[List.map_fst_zip,hTA]
   have e2:Xu l=A++[l.length]:=by unfold Xu; rw[hsp]; simp[List.map_snd_zip,hTA]
   have b2:((ints A).length + [(l.length:Int)].length) * 8≤140737488355328:=by simp[Jg6]; omega
   rw[if_pos b2]
   refine⟨_,rfl,?_⟩
   show _=spS l
   simp[spS,e1,e2,ints]) (0,[],[],[]) ⟨0,[],[],by simp[ints],by omega,by simp,rfl,by simp⟩
 rw[h1,h2]
end Go.Proofs.Ytaofbminodhcnaa
namespace Go.Proofs.Ytaofbminodhcnaa
open Go.RowKit
def Jcp(c:UInt8):Bool:=(decide (97≤c.toNat) && decide (c.toNat≤122)) || ((decide (65≤c.toNat) && decide (c.toNat≤90)) || decide (c.toNat=95))
def JcP(c:UInt8):Bool:=decide (48≤c.toNat) && decide (c.toNat≤57)
def isWd(c:UInt8):Bool:=Jcp c || JcP c
def runN(p:UInt8→Bool)(l:List UInt8):Nat:=(l.takeWhile p).length
def Jhz(pr c:UInt8):Bool:=((decide (c=43) || decide (c=45)) && (decide (pr=101) || decide (pr=69))) || (decide (c=46) || isWd c)
def numN:UInt8→List UInt8→Nat
 | _,[]=>0
 | pr,c::r=>if Jhz pr c=true then numN c r+1 else 0
def quoN(q:UInt8):List UInt8→Option Nat
 | []=>none
 | c::r=>if c=10 then none else if c=q then some 1 else if c=92 then(match r with | []=>none | d::r'=>if d=10 then none else(quoN q r').map (· + 2)) else(quoN q r).map (· + 1)
def Jd7(l:List UInt8):Option Nat:=if(l.drop (runN (fun c=>decide (c≠62) && decide (c≠10)) l)).head? = some 62 then some (runN (fun c=>decide (c≠62) && decide (c≠10)) l+1) else none
def Jgj:List (List UInt8):=[[46,46,46],[60,60,61],[62,62,61]]
def Jfx:List (List UInt8):=[[45,62],[43,43],[45,45],[60,60],[62,62],[60,61],[62,61],[61,61],[33,61],[38,38],[124,124],[43,61],[45,61],[42,61],[47,61],[37,61],[38,61],[124,61],[94,61],[35,35]]
def JeS:List (List UInt8):=[[91],[93],[40],[41],[123],[125],[46],[38],[42],[43],[45],[126],[33],[47],[37],[60],[62],[94],[124],[63],[58],[59],[61],[44],[35]]
def Jce:List (List UInt8):=Jgj++Jfx++JeS
def ZP(l:List UInt8):Nat:=if Jgj.contains (l.take 3)=true then 3 else if Jfx.contains (l.take 2)=true then 2 else if JeS.contains (l.take 1)=true then 1 else 0
def JbB(l:List UInt8)(path:Bool):Int×Option Nat :=
 match l with
 | []=>(6,none)
 | c::r =>
  if Jcp c=true then(1,some (runN isWd (c::r)))
  else if(JcP c || (decide (c=46) && (r.head?.map JcP).getD false))=true then(2,some (numN 0 (c::r)))
  else if c=34 then(4,(quoN 34 r).map (· + 1))
  else if c=39 then(3,(quoN 39 r).map (· + 1))
  else if c=60∧path=true∧(Jd7 r).isSome=true then(7,(Jd7 r).map (· + 1))
  else if 0<ZP (c::r) then(5,some (ZP (c::r)))
  else(6,some 1)
def isBl(c:UInt8):Bool:=decide (c=32) || (decide (c=9) || (decide (c=10) || decide (c=13)))
def Jcb(l:List UInt8):Nat:=runN (fun c=>decide (c≠10)) l
def endC:List UInt8→Option Nat
 | []=>none
 | c::r=>if c=42∧r.head? = some 47 then some 0 else(endC r).map (· + 1)
def skF:Nat→List UInt8→Nat×Bool×Bool
 | 0,_=>(0,false,true)
 | _+1,[]=>(0,false,true)
 | n+1,c::r =>
  if isBl c=true then((skF n r).1+1,decide (c=10) || (skF n r).2.1,(skF n r).2.2)
  else if c=47∧r.head? = some 47 then((skF n ((c::r).drop (Jcb (c::r)))).1+Jcb (c::r),(skF n ((c::r).drop (Jcb (c::r)))).2)
  else if c=47∧r.head? = some 42 then
   match endC (r.drop 1) with
   | none=>(0,false,false)
   | some j=>((skF n (r.drop (j+3))).1+(j+4),(skF n (r.drop (j+3))).2)
  else(0,false,true)
def skip(l:List UInt8):Nat×Bool×Bool:=skF l.length l
theorem JjG:∀ {l:List UInt8} {j:Nat},endC l=some j→j+2≤l.length
 | [],j,h=>by cases h
 | c::r,j,h=>by
  simp only[endC]at h
  split at h
  ·rename_i hc
   cases r with
   | nil=>simp at hc
   | cons d r=>cases h; simp
  ·cases he:endC r with
   | none=>rw[he]at h; cases h
   | some k =>
    rw[he]at h
    simp only[Option.map_some,Option.some.injEq]at h
    have:=JjG he
    simp only[List.length_cons]; omega
theorem JgS{c:UInt8}{r:List UInt8}(h:c≠10):0<Jcb (c::r):=by simp[Jcb,runN,List.takeWhile_cons,h]
theorem JlH(p:UInt8→Bool)(l:List UInt8):runN p l≤l.length:=by
 unfold runN
 have:=(List.takeWhile_sublist p (l:=l)).length_le
 exact this
theorem JeY:∀ (n m:Nat) (l:List UInt8),l.length≤n→l.length≤m→skF n l=skF m l
 | n,m,[],_,_=>by cases n <;> cases m <;> rfl
 | 0,_,c::r,h,_=>by simp at h
 | _,0,c::r,_,h=>by simp at h
 | n+1,m+1,c::r,h1,h2=>by
  simp only[List.length_cons]at h1 h2
  have e1:skF n r=skF m r:=JeY n m r (by omega) (by omega)
  simp only[skF,e1]
  split
  ·rfl
  ·split
   ·rename_i hc
    have hp:=JgS (c:=c) (r:=r) (by rw[hc.1]; decide)
    have e2:skF n ((c::r).drop (Jcb (c::r)))=skF m ((c::r).drop (Jcb (c::r))):=JeY n m _ (by simp; omega) (by simp; omega)
    rw[e2]
   ·split
    ·split
     ·rfl
     ·rename_i j hj
      have e3:skF n (r.drop (j+3))=skF m (r.drop (j+3)):=JeY n m _ (by simp; omega) (by simp; omega)
      rw[e3]
    ·rfl
theorem Jpj:skip []=(0,false,true):=rfl
theorem Jro{c:UInt8}{r:List UInt8}(h:isBl c=true):skip (c::r)=((skip r).1+1,decide (c=10) || (skip r).2.1,(skip r).2.2):=by
 unfold skip
 simp only[List.length_cons,skF,h,if_true]
theorem Jnb{r:List UInt8}(h:r.head? = some 47):skip (47::r)=((skip ((47::r).drop (Jcb (47::r)))).1+Jcb (47::r),(skip ((47::r).drop (Jcb (47::r)))).2):=by
 have hp:=JgS (c:=47) (r:=r) (by decide)
 have e:skF r.length ((47::r).drop (Jcb (47::r)))=skip ((47::r).drop (Jcb (47::r))):=JeY _ _ _ (by simp; omega) (Nat.le_refl _)
 conv=>lhs; unfold skip
 simp only[List.length_cons,skF,h,and_self,if_true,e]
 rfl
theorem JnO{r:List UInt8}{j:Nat}(h:r.head? = some 42)(hj:endC (r.drop 1)=some j):skip (47::r)=((skip (r.drop (j+3))).1+(j+4),(skip (r.drop (j+3))).2):=by
 have e:skF r.length (r.drop (j+3))=skip (r.drop (j+3)):=JeY _ _ _ (by simp) (Nat.le_refl _)
 conv=>lhs; unfold skip
 simp only[List.length_cons,skF,h,hj,e]
 rfl
theorem Jmz{r:List UInt8}(h:r.head? = some 42)(hj:endC (r.drop 1)=none):skip (47::r)=(0,false,false):=by
 conv=>lhs; unfold skip
 simp only[List.length_cons,skF,h,hj]
 rfl
theorem Jn3{c:UInt8}{r:List UInt8}(h:isBl c=false)(h1:¬ (c=47∧r.head? = some 47))(h2:¬ (c=47∧r.head? = some 42)):skip (c::r)=(0,false,true):=by
 unfold skip
 simp only[List.length_cons,skF,h,h1,h2,if_false,Bool.false_eq_true]
theorem JjC:∀ (n:Nat) (l:List UInt8),l.length≤n→(skip l).1≤l.length
 | _,[],_=>by simp[Jpj]
 | 0,c::r,h=>by simp at h
 | n+1,c::r,h=>by
  simp only[List.length_cons]at h
  by_cases hb:isBl c=true
  ·rw[Jro hb]
   have:=JjC n r (by omega)
   simp only[List.length_cons]; omega
  ·by_cases h1:c=47∧r.head? = some 47
   ·obtain⟨rfl,h1⟩:=h1
    rw[Jnb h1]
    have hp:=JgS (c:=47) (r:=r) (by decide)
    have hl:=JlH (fun c=>decide (c≠10)) (47::r)
    have:=JjC n ((47::r).drop (Jcb (47::r))) (by simp; omega)
    simp only[List.length_drop,List.length_cons]at this hl ⊢
    unfold Jcb at *
    omega
   ·by_cases h2:c=47∧r.head? = some 42
    ·obtain⟨rfl,h2⟩:=h2
     cases hj:endC (r.drop 1) with
     | none=>rw[Jmz h2 hj]; simp
     | some j =>
      rw[JnO h2 hj]
      have hl:=JjG hj
      have:=JjC n (r.drop (j+3)) (by simp; omega)
      simp only[List.length_drop,List.length_cons]at this hl ⊢
      omega
    ·rw[Jn3 (by simpa using hb) h1 h2]; simp
structure Raw where
 kind:Int
 pos:Nat
 len:Nat
 sp:Bool
 fst:Bool
 txt:List UInt8
 deriving DecidableEq
def incT:List UInt8:=[105,110,99,108,117,100,101]
def Jli(st:Nat)(txt:List UInt8)(fst:Bool):Nat:=if fst=true∧txt=[35] then 1 else if st=1∧fst=false∧txt=incT then 2 else 0
def lxF:Nat→List UInt8→Nat→Nat→Bool→List Raw×Option Nat
 | 0,_,_,_,_=>([],none)
 | n+1,l,i,st,f0 =>
  if(skip l).2.2=false then([],some (i+(skip l).1)) else
  if l.drop (skip l).1=[] then([],none) else
  match JbB (l.drop (skip l).1) (!(f0 || (skip l).2.1) && decide (st=2)) with
  | (_,none)=>([],some (i+(skip l).1))
  | (kind,some m) =>
   let t:=(l.drop (skip l).1).take m
   let x:=lxF n ((l.drop (skip l).1).drop m) (i+(skip l).1+m) (Jli st t (f0 || (skip l).2.1)) false
   (⟨kind,i+(skip l).1,m,decide (0<(skip l).1),f0 || (skip l).2.1,t⟩::x.1,x.2)
theorem Jjf(l:List UInt8):ZP l≤l.length:=by
 have key:∀ (S:List (List UInt8)) (k:Nat),(∀ s∈S,s.length=k)→S.contains (l.take k)=true→k≤l.length:=fun S k hS hc=>by
  have hm:l.take k∈S:=by simpa using hc
  have:=hS _ hm
  simp at this; omega
 unfold ZP
 split
 ·exact key Jgj 3 (by decide) (by assumption)
 ·split
  ·exact key Jfx 2 (by decide) (by assumption)
  ·split
   ·exact key JeS 1 (by decide) (by assumption)
   ·omega
theorem JqY:∀ (pr:UInt8) (l:List UInt8),numN pr l≤l.length
 | _,[]=>by simp[numN]
 | pr,c::r=>by
  simp only[numN]
  split
  ·have:=JqY c r; simp; omega
  ·simp
theorem JjH(q:UInt8):∀ (n:Nat) (l:List UInt8),l.length≤n→∀ m,quoN q l=some m→0<m∧m≤l.length
 | _,[],_,m,h=>by simp[quoN]at h
 | 0,c::r,h,_,_=>by simp at h
 | n+1,c::r,hn,m,h=>by
  simp only[List.length_cons]at hn
  unfold quoN at h
  split at h
  ·cases h
  split at h
  ·cases h; simp
  split at h
  ·cases r with
   | nil=>cases h
   | cons d r' =>
    simp only at h
    split at h
    ·cases h
    ·cases hq:quoN q r' with
     | none=>rw[hq]at h; cases h
     | some k =>
      rw[hq]at h
      cases h
      simp only[List.length_cons]at hn
      have:=JjH q n r' (by omega) k hq
      simp; omega
  ·cases hq:quoN q r with
   | none=>rw[hq]at h; cases h
   | some k =>
    rw[hq]at h
    cases h
    have:=JjH q n r (by omega) k hq
    simp; omega
theorem JuR{l:List UInt8}{m:Nat}(h:Jd7 l=some m):0<m∧m≤l.length:=by
 unfold Jd7 at h
 split at h
 ·rename_i hh
  cases h
  refine⟨by omega,?_⟩
  have hlt:runN (fun c=>decide (c≠62) && decide (c≠10)) l<l.length:=by
   rcases Nat.lt_or_ge (runN (fun c=>decide (c≠62) && decide (c≠10)) l) l.length with h | h
   ·exact h
   ·rw[List.drop_of_length_le h]at hh; cases hh
  omega
 ·cases h
theorem Jpw{l:List UInt8}{path:Bool}{k:Int}{m:Nat}(h:JbB l path=(k,some m)):0<m∧m≤l.length:=by
 unfold JbB at h
 split at h
 ·cases h
 ·rename_i c r
  split at h
  ·rename_i hc
   cases h
   refine⟨?_,JlH _ _⟩
   simp[runN,List.takeWhile_cons,isWd,hc]
  split at h
  ·rename_i hc
   cases h
   refine⟨?_,JqY _ _⟩
   have:Jhz 0 c=true:=by
    simp only[Bool.or_eq_true,Bool.and_eq_true,decide_eq_true_eq]at hc
    unfold Jhz isWd
    rcases hc with hc | ⟨hc,_⟩ <;> simp[hc]
   simp[numN,this]
  split at h
  ·simp only[Prod.mk.injEq]at h
   cases hq:quoN 34 r with
   | none=>rw[hq]at h; cases h.2
   | some j =>
    rw[hq]at h
    have:=JjH 34 r.length r (Nat.le_refl _) j hq
    obtain⟨_,h⟩:=h
    cases h
    simp; omega
  split at h
  ·simp only[Prod.mk.injEq]at h
   cases hq:quoN 39 r with
   | none=>rw[hq]at h; cases h.2
   | some j =>
    rw[hq]at h
    have:=JjH 39 r.length r (Nat.le_refl _) j hq
    obtain⟨_,h⟩:=h
    cases h
    simp; omega
  split at h
  ·simp only[Prod.mk.injEq]at h
   cases hq:Jd7 r with
   | none=>rw[hq]at h; cases h.2
   | some j =>
    rw[hq]at h
    have:=JuR hq
    obtain⟨_,h⟩:=h
    cases h
    simp; omega
  split at h
  ·cases h
   exact⟨by assumption,Jjf _⟩
  ·cases h; simp
def tokOf(file:Int)(text:List UInt8)(r:Raw):Token :=
 ⟨r.kind,r.txt,r.sp,r.fst,file,(((Xu text).getD r.pos 0:Nat):Int),(((Xu text).getD (r.pos+r.len-1) 0+1:Nat):Int),((JeG text ((Xu text).getD r.pos 0):Nat):Int),[],[],0⟩
def raws(text:List UInt8):List Raw×Option Nat:=lxF ((JC text).length+1) (JC text) 0 0 true
def Jcf(file:Int)(text:List UInt8):List Token×Fault :=
 if 3000<text.length then([],⟨4,file,0⟩) else
 match raws text with
 | (ts,none)=>(ts.map (tokOf file text),⟨0,-1,0⟩)
 | (_,some p)=>([],⟨9,file,(((Xu text).getD p 0:Nat):Int)⟩)
end Go.Proofs.Ytaofbminodhcnaa
namespace Go.Proofs.Ytaofbminodhcnaa
open Go.RowKit
theorem chr(c m:UInt8)(n:Int)(h:(m.toNat:Int)=n):eqI (c.toNat:Int) n=decide (c=m):=by
 unfold eqI
 by_cases hc:c=m
 ·subst hc; simp[h]
 ·have:¬ (c.toNat:Int)=n:=fun h2=>hc (UInt8.toNat_inj.1 (by omega))
  simp[hc,this]
theorem chr2(c m:UInt8):eqI (c.toNat:Int) (m.toNat:Int)=decide (c=m):=chr c m _ rfl
theorem wN1(k:Nat)(h:k≤4611686018427387904):IntKind.i64.wrap ((k:Int)+1)=((k+1:Nat):Int):=by rw[wr _ (by omega)]; omega
theorem wN2(k:Nat)(h:k≤4611686018427387904):IntKind.i64.wrap ((k:Int)+2)=((k+2:Nat):Int):=by rw[wr _ (by omega)]; omega
theorem wNm(k:Nat)(h:0<k∧k≤4611686018427387904):IntKind.i64.wrap ((k:Int)-1)=((k-1:Nat):Int):=by rw[wr _ (by omega)]; omega
theorem JtM(c:UInt8):Xt c=some (Jcp c):=by
 unfold Xt Jcp
 simp only[K5,leI,eqI,decide_eq_true_eq]
 repeat' split
 all_goals (simp only[Option.some.injEq]; rw[Bool.eq_iff_iff]; simp; try omega)
theorem Ju5(c:UInt8):Xp c=some (JcP c):=by
 unfold Xp JcP
 simp only[Jbw,leI,decide_eq_true_eq]
 repeat' split
 all_goals (simp only[Option.some.injEq]; rw[Bool.eq_iff_iff]; simp; try omega)
theorem Jf4{R:Type}{b:Int→Option (Int ⊕ R)}(u:List UInt8)(p:UInt8→Bool)(f:Nat→R)
  (hb:∀ k:Nat,k≤u.length→b (k:Int)=if k<u.length∧p (u.getD k 0)=true then some (.inl ((k+1:Nat):Int)) else some (.inr (f k))) :
  ∀ (n k:Nat),k≤u.length→u.length-k≤n→Jt b (k:Int)=some (f (k+runN p (u.drop k)))
 | 0,k,hk,hn=>by
  have:k=u.length:=by omega
  subst this
  rw[Jcg,hb _ hk,if_neg (by simp)]
  simp[runN]
 | n+1,k,hk,hn=>by
  rw[Jcg,hb k hk]
  by_cases h:k<u.length
  ·rw[J5 u k h]
   by_cases hp:p (u.getD k 0)=true
   ·rw[if_pos ⟨h,hp⟩]
    simp only
    rw[Jf4 u p f hb n (k+1) (by omega) (by omega)]
    simp only[runN,List.takeWhile_cons,hp,if_true,List.length_cons]
    congr 2; omega
   ·rw[if_neg (fun h=>hp h.2)]
    simp only[runN,List.takeWhile_cons,hp,if_false,List.length_nil,Nat.add_zero,Bool.false_eq_true]
  ·rw[if_neg (fun h'=>h h'.1),List.drop_of_length_le (by omega)]
   simp[runN]
section
variable (x:Spliced) (txt:List UInt8) (file:Int) (out:List Token)
def Jh4(u:List UInt8)(i k:Nat):UInt8:=if i<k then u.getD (k-1) 0 else 0
theorem JoS{R:Type}{b:Int→Option (Int ⊕ R)}(u:List UInt8)(i:Nat)(f:Nat→R)
  (hb:∀ k:Nat,i≤k→k≤u.length→b (k:Int)=if k<u.length∧Jhz (Jh4 u i k) (u.getD k 0)=true then some (.inl ((k+1:Nat):Int)) else some (.inr (f k))) :
  ∀ (n k:Nat),i≤k→k≤u.length→u.length-k≤n→Jt b (k:Int)=some (f (k+numN (Jh4 u i k) (u.drop k)))
 | 0,k,hi,hk,hn=>by
  have:k=u.length:=by omega
  subst this
  rw[Jcg,hb _ hi hk,if_neg (by simp)]
  simp[numN]
 | n+1,k,hi,hk,hn=>by
  rw[Jcg,hb k hi hk]
  by_cases h:k<u.length
  ·rw[J5 u k h]
   by_cases hp:Jhz (Jh4 u i k) (u.getD k 0)=true
   ·rw[if_pos ⟨h,hp⟩]
    simp only
    rw[JoS u i f hb n (k+1) (by omega) (by omega) (by omega)]
    have e:Jh4 u i (k+1)=u.getD k 0:=by unfold Jh4; rw[if_pos (by omega)]; rfl
    simp only[numN,hp,if_true,e]
    congr 2; omega
   ·rw[if_neg (fun h=>hp h.2)]
    simp only[numN,hp,if_false,Nat.add_zero,Bool.false_eq_true]
  ·rw[if_neg (fun h'=>h h'.1),List.drop_of_length_le (by omega)]
   simp[numN]
end
end Go.Proofs.Ytaofbminodhcnaa
namespace Go.Proofs.Ytaofbminodhcnaa
open Go.RowKit
theorem JeA{u:List UInt8}{k:Nat}(h:k<u.length):(u.drop k).head? = some (u.getD k 0):=by rw[J5 u k h]; rfl
theorem drop_nil{u:List UInt8}{k:Nat}(h:¬ k<u.length):u.drop k=[]:=List.drop_of_length_le (by omega)
theorem Jop(q c:UInt8)(r:List UInt8):quoN q (c::r)=if c=10 then none else if c=q then some 1 else if c=92 then(match r with | []=>none | d::r'=>if d=10 then none else(quoN q r').map (· + 2)) else(quoN q r).map (· + 1):=by
 conv=>lhs; unfold quoN
 all_goals rfl
theorem JhJ{R:Type}{b:(UInt8×Int)→Option ((UInt8×Int) ⊕ R)}(u:List UInt8)(q:UInt8)(f:Option Nat→R)
  (hb:∀ k:Nat,k≤u.length→b (q,(k:Int))=if k<u.length∧u.getD k 0≠10 then(if u.getD k 0=q then some (.inr (f (some (k+1)))) else if u.getD k 0=92∧k+1<u.length∧u.getD (k+1) 0≠10 then some (.inl (q,((k+2:Nat):Int))) else some (.inl (q,((k+1:Nat):Int)))) else some (.inr (f none))) :
  ∀ (n k:Nat),k≤u.length→u.length-k≤n→Jt b (q,(k:Int))=some (f ((quoN q (u.drop k)).map (k + ·)))
 | n,k,hk,hn=>by
  rw[Jcg,hb k hk]
  by_cases h:k<u.length
  ·rw[J5 u k h,Jop]
   by_cases h10:u.getD k 0=10
   ·rw[if_neg (fun hh=>hh.2 h10),if_pos h10]
    rfl
   ·rw[if_pos ⟨h,h10⟩,if_neg h10]
    by_cases hq:u.getD k 0=q
    ·rw[if_pos hq,if_pos hq]
     rfl
    ·rw[if_neg hq,if_neg hq]
     cases n with
     | zero=>omega
     | succ n =>
      by_cases h92:u.getD k 0=92
      ·rw[if_pos h92]
       by_cases h2:k+1<u.length∧u.getD (k+1) 0≠10
       ·rw[if_pos ⟨h92,h2⟩]
        simp only
        rw[JhJ u q f hb n (k+2) (by omega) (by omega)]
        rw[J5 u (k+1) h2.1]
        simp only
        rw[if_neg h2.2]
        cases quoN q (u.drop (k+1+1)) with
        | none=>rfl
        | some a=>simp only[Option.map_some]; rw[show k+2+a=k+(a+2) by omega]
       ·rw[if_neg (fun hh=>h2 hh.2)]
        simp only
        rw[JhJ u q f hb n (k+1) (by omega) (by omega)]
        by_cases h3:k+1<u.length
        ·have h4:u.getD (k+1) 0=10:=by
          by_cases h5:u.getD (k+1) 0=10
          ·exact h5
          ·exact absurd ⟨h3,h5⟩ h2
         rw[J5 u (k+1) h3,Jop,if_pos h4]
         simp only
         rw[if_pos h4]
         rfl
        ·rw[drop_nil h3]; rfl
      ·rw[if_neg (fun hh=>h92 hh.1),if_neg h92]
       simp only
       rw[JhJ u q f hb n (k+1) (by omega) (by omega)]
       cases quoN q (u.drop (k+1)) with
       | none=>rfl
       | some a=>simp only[Option.map_some]; rw[show k+1+a=k+(a+1) by omega]
  ·rw[if_neg (fun hh=>h hh.1),drop_nil h]
   rfl
section
variable (x:Spliced) (txt:List UInt8) (file:Int) (out:List Token)
def Jgm(out:List Token):Bool :=
 match out.reverse with
 | b::a::_=>decide (b.Text=incT) && (!b.First && (a.First && decide (a.Text=[35])))
 | _=>false
theorem JuL(out:List Token)(h:2≤out.length):∃ l a b,out=l++[a,b]∧out.getD (out.length-1) default=b∧out.getD (out.length-2) default=a∧Jgm out=(decide (b.Text=incT) && (!b.First && (a.First && decide (a.Text=[35])))):=by
 rcases List.eq_nil_or_concat out with rfl | ⟨l1,b,rfl⟩
 ·simp at h
 ·rcases List.eq_nil_or_concat l1 with rfl | ⟨l,a,rfl⟩
  ·simp at h
  ·refine⟨l,a,b,by simp,?_,?_,?_⟩
   ·simp[List.getD_eq_getElem?_getD]
   ·simp[List.getD_eq_getElem?_getD]
   ·simp[Jgm]
theorem Jlm(c:UInt8)(r:List UInt8)(path:Bool):JbB (c::r) path=(if Jcp c=true then(1,some (runN isWd (c::r)))
  else if(JcP c || (decide (c=46) && (r.head?.map JcP).getD false))=true then(2,some (numN 0 (c::r)))
  else if c=34 then(4,(quoN 34 r).map (· + 1))
  else if c=39 then(3,(quoN 39 r).map (· + 1))
  else if c=60∧path=true∧(Jd7 r).isSome=true then(7,(Jd7 r).map (· + 1))
  else if 0<ZP (c::r) then(5,some (ZP (c::r)))
  else(6,some 1)):=rfl
end
end Go.Proofs.Ytaofbminodhcnaa
namespace Go.Proofs.Ytaofbminodhcnaa
open Go.RowKit
theorem Jnp{R:Type}{b:Int→Option (Int ⊕ R)}(u:List UInt8)(f:Option Nat→R)
  (hb:∀ k:Nat,k≤u.length→b (k:Int)=if k+1<u.length∧¬ (u.getD k 0=42∧u.getD (k+1) 0=47) then some (.inl ((k+1:Nat):Int)) else some (.inr (f (if k+1<u.length then some k else none)))) :
  ∀ (n k:Nat),k≤u.length→u.length-k≤n→Jt b (k:Int)=some (f ((endC (u.drop k)).map (k + ·)))
 | n,k,hk,hn=>by
  rw[Jcg,hb k hk]
  by_cases h:k+1<u.length
  ·have e:=J5 u k (by omega)
   have e2:=J5 u (k+1) h
   rw[e]
   by_cases h2:u.getD k 0=42∧u.getD (k+1) 0=47
   ·rw[if_neg (fun hh=>hh.2 h2),if_pos h]
    rw[e2]
    simp only[endC,List.head?_cons,h2,and_self,if_true,Option.map_some,Nat.add_zero]
   ·rw[if_pos ⟨h,h2⟩]
    cases n with
    | zero=>omega
    | succ n =>
     simp only
     rw[Jnp u f hb n (k+1) (by omega) (by omega)]
     have:¬ (u.getD k 0=42∧(u.drop (k+1)).head? = some 47):=by
      rw[JeA h]; simpa using h2
     rw[endC,if_neg this]
     cases endC (u.drop (k+1)) with
     | none=>rfl
     | some a=>simp only[Option.map_some]; rw[show k+1+a=k+(a+1) by omega]
  ·rw[if_neg (fun hh=>h hh.1),if_neg h]
   have:endC (u.drop k)=none:=by
    cases he:endC (u.drop k) with
    | none=>rfl
    | some j=>have:=JjG he; simp at this; omega
   rw[this]
   rfl
def Zh(u:List UInt8)(k:Nat)(feed:Bool):Nat×Bool×Bool:=(k+(skip (u.drop k)).1,feed || (skip (u.drop k)).2.1,(skip (u.drop k)).2.2)
theorem Ju2{u:List UInt8}{k:Nat}(h:k<u.length)(hb:isBl (u.getD k 0)=true)(feed:Bool):Zh u k feed=Zh u (k+1) (feed || decide (u.getD k 0=10)):=by
 unfold Zh
 rw[J5 u k h,Jro hb,Bool.or_assoc]
 simp only[Prod.mk.injEq,and_true]
 omega
theorem JsH{u:List UInt8}{k:Nat}(h:k+1<u.length)(h1:u.getD k 0=47)(h2:u.getD (k+1) 0=47)(feed:Bool):Zh u k feed=Zh u (k+Jcb (u.drop k)) feed:=by
 unfold Zh
 have e:=J5 u k (by omega)
 rw[e,h1,Jnb (by rw[JeA h,h2]),← h1,← e,List.drop_drop]
 simp only[Prod.mk.injEq,and_true]
 omega
theorem Jsw{u:List UInt8}{k j:Nat}(h:k+1<u.length)(h1:u.getD k 0=47)(h2:u.getD (k+1) 0=42)(hj:endC (u.drop (k+2))=some j)(feed:Bool):Zh u k feed=Zh u (k+2+j+2) feed:=by
 unfold Zh
 have e:=J5 u k (by omega)
 rw[e,h1,JnO (j:=j) (by rw[JeA h,h2]) (by rw[List.drop_drop]; exact hj),List.drop_drop]
 rw[show k+1+(j+3)=k+2+j+2 by omega]
 simp only[Prod.mk.injEq,and_true]
 omega
theorem JsP{u:List UInt8}{k:Nat}(h:k+1<u.length)(h1:u.getD k 0=47)(h2:u.getD (k+1) 0=42)(hj:endC (u.drop (k+2))=none)(feed:Bool):Zh u k feed=(k,feed,false):=by
 unfold Zh
 have e:=J5 u k (by omega)
 rw[e,h1,Jmz (by rw[JeA h,h2]) (by rw[List.drop_drop]; exact hj)]
 simp
theorem JkL{u:List UInt8}{k:Nat}(h:k<u.length)(hb:isBl (u.getD k 0)=false)(h1:¬ (u.getD k 0=47∧k+1<u.length∧u.getD (k+1) 0=47))(h2:¬ (u.getD k 0=47∧k+1<u.length∧u.getD (k+1) 0=42))(feed:Bool):Zh u k feed=(k,feed,true):=by
 unfold Zh
 have key:∀ d,(u.drop (k+1)).head? = some d→k+1<u.length∧u.getD (k+1) 0=d:=fun d hd=>by
  by_cases h3:k+1<u.length
  ·rw[JeA h3]at hd; exact⟨h3,by simpa using hd⟩
  ·rw[drop_nil h3]at hd; cases hd
 rw[J5 u k h,Jn3 hb (fun⟨a,b⟩=>h1 ⟨a,key _ b⟩) (fun⟨a,b⟩=>h2 ⟨a,key _ b⟩)]
 simp
theorem Jt0{u:List UInt8}{k:Nat}(h:¬ k<u.length)(feed:Bool):Zh u k feed=(k,feed,true):=by
 unfold Zh
 rw[drop_nil h]
 simp[Jpj]
noncomputable def Jbx{S R:Type}(b:S→Option (S ⊕ R)):Option (S ⊕ R)→Option R
 | none=>none
 | some (.inl s')=>Jt b s'
 | some (.inr r)=>some r
theorem Ja5{S R:Type}(b:S→Option (S ⊕ R))(s:S):Jt b s=Jbx b (b s):=by
 rw[Jcg]
 cases b s with
 | none=>rfl
 | some o=>cases o <;> rfl
section
variable (x:Spliced) (txt:List UInt8) (file:Int) (out:List Token)
end
end Go.Proofs.Ytaofbminodhcnaa
namespace Go.Proofs.Ytaofbminodhcnaa
open Go.RowKit
def XP(t:Token):Bool:=t.First && decide (t.Text=[35])
def stOf(out:List Token):Nat :=
 match out.reverse with
 | []=>0
 | b::rest=>if XP b=true then 1 else if((rest.head?.map XP).getD false && (!b.First && decide (b.Text=incT)))=true then 2 else 0
theorem JtZ(out:List Token):Jgm out=decide (stOf out=2):=by
 rw[Bool.eq_iff_iff,decide_eq_true_iff]
 unfold Jgm stOf
 cases out.reverse with
 | nil=>simp
 | cons b rest =>
  cases rest with
  | nil =>
   show(false:Bool)=true↔(if XP b=true then 1 else if(false && (!b.First && decide (b.Text=incT)))=true then 2 else 0)=2
   by_cases hb:XP b=true <;> simp[hb]
  | cons a rest =>
   show _↔(if XP b=true then 1 else if(XP a && (!b.First && decide (b.Text=incT)))=true then 2 else 0)=2
   by_cases h1:b.Text=incT
   ·have hb:XP b=false:=by unfold XP; rw[h1]; simp[incT]
    rw[hb]
    unfold XP
    cases hbf:b.First <;> cases haf:a.First <;> simp[h1,hbf,haf]
   ·by_cases hb:XP b=true <;> simp[h1,hb]
theorem JtB(out:List Token)(t:Token):stOf (out++[t])=Jli (stOf out) t.Text t.First:=by
 have e:stOf (out++[t])=if XP t=true then 1 else if((out.reverse.head?.map XP).getD false && (!t.First && decide (t.Text=incT)))=true then 2 else 0:=by
  unfold stOf
  rw[List.reverse_append]
  rfl
 have e1:(out.reverse.head?.map XP).getD false=true↔stOf out=1:=by
  unfold stOf
  cases out.reverse with
  | nil=>simp
  | cons a rest =>
   show XP a=true↔(if XP a=true then 1 else if((rest.head?.map XP).getD false && (!a.First && decide (a.Text=incT)))=true then 2 else 0)=1
   by_cases ha:XP a=true
   ·simp[ha]
   ·simp only[ha,if_false,Bool.false_eq_true,false_iff]
    split <;> simp
 rw[e]
 unfold Jli
 by_cases ht:t.First=true∧t.Text=[35]
 ·have:XP t=true:=by unfold XP; simp[ht]
  rw[if_pos this,if_pos ht]
 ·have:¬ XP t=true:=by
   unfold XP
   intro h
   simp only[Bool.and_eq_true,decide_eq_true_eq]at h
   exact ht h
  rw[if_neg this,if_neg ht]
  by_cases h:stOf out=1∧t.First=false∧t.Text=incT
  ·rw[if_pos h,if_pos (by rw[e1.2 h.1]; simp[h.2])]
  ·rw[if_neg h,if_neg]
   intro hh
   simp only[Bool.and_eq_true,Bool.not_eq_true',decide_eq_true_eq]at hh
   exact h ⟨e1.1 hh.1,hh.2⟩
def finV(file:Int)(text:List UInt8)(out:List Token):List Raw×Option Nat→List Token×Fault
 | (ts,none)=>(out++ts.map (tokOf file text),⟨0,-1,0⟩)
 | (_,some p)=>([],⟨9,file,(((Xu text).getD p 0:Nat):Int)⟩)
theorem JtV(file:Int)(text:List UInt8)(out:List Token)(t:Raw)(x:List Raw×Option Nat):finV file text (out++[tokOf file text t]) x=finV file text out (t::x.1,x.2):=by
 obtain⟨ts,_ | p⟩:=x <;> simp[finV]
theorem Jo4(text:List UInt8)(p:Nat)(h:p<(Xu text).length):(Xu text).getD p 0≤text.length:=by
 have:(Xu text).getD p 0∈Xu text:=by simp[List.getD_eq_getElem?_getD,List.getElem?_eq_getElem h]
 exact JuU text _ this
theorem JkP(text:List UInt8):(JC text).length≤text.length:=by
 have h:=(JhT text 0 0).2.2
 unfold JC spAt
 simpa using h
end Go.Proofs.Ytaofbminodhcnaa
namespace Go.Proofs.Ytaofbminodhcnaa
open Go.RowKit
theorem Jh0(c:UInt8):Xt c=some (Jcp c):=JtM c
theorem JiF(c:UInt8):Xp c=some (JcP c):=Ju5 c
theorem Jxz:JcW=some Jce:=rfl
theorem Jrf(u:List UInt8)(m:Nat)(h:m+1<u.length):List.take (m+2-m) (List.drop m u)=[u.getD m 0,u.getD (m+1) 0]:=by
 rw[show m+2-m=2 by omega,J5 u m (by omega),J5 u (m+1) h]
 rfl
def skI(r:Nat×Bool×Bool):Int×Bool:=(if r.2.2=true then((r.1:Nat):Int) else -1-((r.1:Nat):Int),r.2.1)
theorem Jlz(u:List UInt8)(hu:u.length≤1099511627776):∀ (n k:Nat) (feed:Bool),k≤u.length→u.length-k≤n→Jt (VF u) ((k:Int),feed)=some (skI (Zh u k feed))
 | n,k,feed,hk,hn=>by
  rw[Ja5]
  have next:∀ (k':Nat) (feed':Bool),k<k'→k'≤u.length→Zh u k feed=Zh u k' feed'→Jt (VF u) ((k':Int),feed')=some (skI (Zh u k feed)):=fun k' feed' h1 h2 h3=>by
   cases n with
   | zero=>omega
   | succ n=>rw[Jlz u hu n k' feed' h2 (by omega),h3]
  by_cases h:k<u.length
  ·-- whatever stands behind it
   have j2:∀ two:List UInt8,two=(if k+1<u.length then [u.getD k 0,u.getD (k+1) 0] else [])→Jbx (VF u) (Jay u (k:Int) feed (u.getD k 0,two))=some (skI (Zh u k feed)):=fun two htwo=>by
    have j3:isBl (u.getD k 0)=false→Jbx (VF u) (Vg u (k:Int) feed two (u.getD k 0,false))=some (skI (Zh u k feed)):=fun hb=>by
     have h10:¬ u.getD k 0=10:=fun h10=>by rw[h10]at hb; exact absurd hb (by decide)
     simp only[Vg,chr _ 10 10 rfl,eqS,decide_eq_true_eq]
     rw[if_neg (by decide),if_neg h10]
     by_cases h2:k+1<u.length
     ·rw[if_pos h2]at htwo
      subst htwo
      by_cases hl:u.getD k 0=47∧u.getD (k+1) 0=47
      ·rw[if_pos (by rw[hl.1,hl.2])]
       have:=Jf4 (b:=Jb7 u feed) u (fun c=>decide (c≠10)) (fun e=>(Sum.inl ((e:Int),feed):(Int×Bool) ⊕ (Int×Bool))) (fun m hm=>?_) _ k hk (Nat.le_refl _)
       ·rw[this]
        have hp2:0<Jcb (u.drop k):=by rw[J5 u k h]; exact JgS h10
        have hle:=JlH (fun c=>decide (c≠10)) (u.drop k)
        rw[List.length_drop]at hle
        exact next _ _ (by unfold Jcb at hp2; omega) (by omega) (JsH h2 hl.1 hl.2 feed)
       ·simp only[Jb7,JbO,ltI,decide_eq_true_eq,Int.toNat_natCast,inrO,chr _ 10 10 rfl]
        by_cases hm2:m<u.length
        ·rw[if_pos (show(m:Int)<u.length by omega),if_pos (show(0:Int)≤m∧m<u.length by omega),wN1 m (by omega)]
         generalize u.getD m 0=c
         by_cases hc:c=10
         ·simp[hc]
         ·simp[hc,hm2]
        ·rw[if_neg (show ¬ (m:Int)<u.length by omega)]; simp[hm2]
      ·have hl':¬ [u.getD k 0,u.getD (k+1) 0]=[47,47]:=fun hh=>hl (by simpa using hh)
       rw[if_neg hl']
       by_cases hc:u.getD k 0=47∧u.getD (k+1) 0=42
       ·rw[if_pos (by rw[hc.1,hc.2]),wN2 k (by omega)]
        have:=Jnp (b:=Jb5 u (k:Int) feed) u (fun o=>(match o with | none=>Sum.inr (-1-(k:Int),feed) | some e=>Sum.inl (((e+2:Nat):Int),feed):(Int×Bool) ⊕ (Int×Bool))) (fun m hm=>?_) _ (k+2) (by omega) (Nat.le_refl _)
        ·rw[this]
         cases hj:endC (u.drop (k+2)) with
         | none =>
          simp only[Option.map_none,Jbx]
          rw[JsP h2 hc.1 hc.2 hj]
          simp[skI]
         | some j =>
          simp only[Option.map_some,Jbx]
          have:=JjG hj
          rw[List.length_drop]at this
          exact next _ _ (by omega) (by omega) (Jsw h2 hc.1 hc.2 hj feed)
        ·simp only[Jb5,JbX,ltI,leI,eqS,decide_eq_true_eq,Int.toNat_natCast,wN1 m (by omega),wN2 m (by omega),inrO]
         by_cases hm2:m+1<u.length
         ·rw[if_pos (show((m+1:Nat):Int)<u.length by omega),if_pos (show(0:Int)≤(m:Int)∧(m:Int)≤((m+2:Nat):Int)∧((m+2:Nat):Int)≤u.length by omega),Jrf u m hm2]
          generalize u.getD m 0=c
          generalize u.getD (m+1) 0=d
          rw[if_neg (show ¬ (u.length:Int)≤((m+1:Nat):Int) by omega)]
          by_cases hcd:c=42∧d=47
          ·obtain⟨rfl,rfl⟩:=hcd
           simp[hm2]
          ·have:¬ [c,d]=[42,47]:=fun hh=>hcd (by simpa using hh)
           simp[this,hm2,hcd]
         ·rw[if_neg (show ¬ ((m+1:Nat):Int)<u.length by omega),if_neg (by decide),if_pos (show(u.length:Int)≤((m+1:Nat):Int) by omega),if_neg (fun hh=>hm2 hh.1),if_neg hm2]
          rw[show IntKind.i64.wrap (-1-(k:Int))=-1-(k:Int) from wr _ (by omega)]
          rfl
       ·have hc':¬ [u.getD k 0,u.getD (k+1) 0]=[47,42]:=fun hh=>hc (by simpa using hh)
        rw[if_neg hc']
        simp only[inrO,Option.map_some,Jbx]
        rw[JkL h hb (fun hh=>hl ⟨hh.1,hh.2.2⟩) (fun hh=>hc ⟨hh.1,hh.2.2⟩)]
        rfl
     ·rw[if_neg h2]at htwo
      subst htwo
      rw[if_neg (by decide),if_neg (by decide)]
      simp only[inrO,Option.map_some,Jbx]
      rw[JkL h hb (fun hh=>h2 hh.2.1) (fun hh=>h2 hh.2.1)]
      rfl
    have bl:isBl (u.getD k 0)=true→∀ f2,f2=(feed || decide (u.getD k 0=10))→Jbx (VF u) (some (.inl (IntKind.i64.wrap ((k:Int)+1),f2)))=some (skI (Zh u k feed)):=fun hb f2 hf2=>by
     rw[wN1 k (by omega)]
     exact next (k+1) f2 (by omega) (by omega) (by rw[hf2]; exact Ju2 h hb feed)
    simp only[Jay,chr _ 32 32 rfl,chr _ 9 9 rfl,chr _ 13 13 rfl,decide_eq_true_eq]
    have e3:∀ b,Vg u (k:Int) feed two (u.getD k 0,b)=if b=true then some (.inl (IntKind.i64.wrap ((k:Int)+1),feed)) else Vg u (k:Int) feed two (u.getD k 0,false):=fun b=>by cases b <;> simp[Vg]
    by_cases h32:u.getD k 0=32
    ·rw[if_pos h32,e3,if_pos rfl]; exact bl (by rw[h32]; rfl) _ (by rw[h32]; simp)
    ·rw[if_neg h32]
     by_cases h9:u.getD k 0=9
     ·rw[if_pos h9,e3,if_pos rfl]; exact bl (by rw[h9]; rfl) _ (by rw[h9]; simp)
     ·rw[if_neg h9]
      by_cases h13:u.getD k 0=13
      ·rw[e3,if_pos (decide_eq_true h13)]; exact bl (by rw[h13]; rfl) _ (by rw[h13]; simp)
      ·rw[e3,if_neg (show ¬ decide (u.getD k 0=13)=true by rw[decide_eq_true_eq]; exact h13)]
       by_cases h10:u.getD k 0=10
       ·have:=bl (by rw[h10]; rfl) true (by rw[h10]; simp)
        simp only[Vg,chr _ 10 10 rfl,decide_eq_true_eq]
        rw[if_neg (by decide),if_pos h10]
        exact this
       ·exact j3 (by unfold isBl; simp only[h32,h9,h10,h13]; rfl)
   simp only[VF,ltI,decide_eq_true_eq,Int.toNat_natCast,wN1 k (by omega),wN2 k (by omega)]
   rw[if_pos (show(k:Int)<u.length by omega),if_pos (show(0:Int)≤k∧k<u.length by omega)]
   by_cases h2:k+1<u.length
   ·rw[if_pos (show((k+1:Nat):Int)<u.length by omega),if_pos (show(0:Int)≤(k:Int)∧(k:Int)≤((k+2:Nat):Int)∧((k+2:Nat):Int)≤u.length by omega),Jrf u k h2]
    exact j2 _ (by rw[if_pos h2])
   ·rw[if_neg (show ¬ ((k+1:Nat):Int)<u.length by omega)]
    exact j2 _ (by rw[if_neg h2])
  ·simp only[VF,ltI,decide_eq_true_eq,inrO]
   rw[if_neg (show ¬ (k:Int)<u.length by omega),Jt0 h]
   rfl
theorem JuK(u:List UInt8)(hu:u.length≤1099511627776):JcB u=some (skI (skip u)):=by
 unfold JcB
 have:=Jlz u hu _ 0 false (Nat.zero_le _) (Nat.le_refl _)
 rw[show((0:Int),false)=(((0:Nat):Int),false) from rfl,this]
 unfold Zh
 simp
end Go.Proofs.Ytaofbminodhcnaa
namespace Go.Proofs.Ytaofbminodhcnaa
open Go.RowKit
theorem JsD(u:List UInt8)(hu:u.length≤1099511627776):Jbd u=some (u.take (numN 0 u)):=by
 unfold Jbd
 have:=JoS (b:=JaR u) u 0 (fun k=>u.take k) (fun k _ hk=>?_) _ 0 (Nat.le_refl _) (Nat.zero_le _) (Nat.le_refl _)
 ·rw[show(0:Int)=((0:Nat):Int) from rfl,this]; simp[Jh4]
 ·have hj1:Zy u (k:Int)=some (u.take k):=by
   simp only[Zy,Int.toNat_natCast]
   rw[if_pos (by omega)]
  simp only[JaR,K7,XA,ltI,decide_eq_true_eq,Int.toNat_natCast,inrO,Jh0,JiF,Option.bind_some,chr _ 43 43 rfl,chr _ 45 45 rfl,chr _ 46 46 rfl,hj1]
  by_cases h:k<u.length
  ·rw[if_pos (by omega),if_pos (by omega),wN1 k (by omega)]
   have hk1:0<k→(0:Int)≤((k-1:Nat):Int)∧k-1<u.length:=fun _=>by omega
   unfold Jh4
   generalize u.getD k 0=c
   by_cases hik2:0<k
   ·simp only[wNm k (by omega),Int.toNat_natCast,chr _ 101 101 rfl,chr _ 69 69 rfl,decide_eq_true_eq]
    rw[if_pos (show(0:Int)<(k:Int) by omega),if_pos (hk1 hik2),if_pos (hk1 hik2),if_pos hik2]
    unfold Jhz isWd
    generalize u.getD (k-1) 0=pr
    generalize Jcp c=e
    generalize JcP c=g
    generalize hd:decide (c=46)=d
    by_cases h43:c=43
    ·have:d=false:=by rw[← hd,h43]; rfl
     subst this
     by_cases h101:pr=101 <;> by_cases h69:pr=69 <;> cases e <;> cases g <;> simp[h,h43,h101,h69]
    ·by_cases h45:c=45
     ·have:d=false:=by rw[← hd,h45]; rfl
      subst this
      by_cases h101:pr=101 <;> by_cases h69:pr=69 <;> cases e <;> cases g <;> simp[h,h43,h45,h101,h69]
     ·clear hd
      cases d <;> cases e <;> cases g <;> simp[h,h43,h45]
   ·rw[if_neg (show ¬ (0:Int)<(k:Int) by omega),if_neg hik2]
    unfold Jhz isWd
    generalize Jcp c=e
    generalize JcP c=g
    generalize hd:decide (c=46)=d
    by_cases h43:c=43
    ·have:d=false:=by rw[← hd,h43]; rfl
     subst this
     cases e <;> cases g <;> simp[h,h43]
    ·by_cases h45:c=45
     ·have:d=false:=by rw[← hd,h45]; rfl
      subst this
      cases e <;> cases g <;> simp[h,h43,h45]
     ·clear hd
      cases d <;> cases e <;> cases g <;> simp[h,h43,h45]
  ·rw[if_neg (by omega)]; simp[h]
def JdA(u:List UInt8):Option Nat→List UInt8
 | none=>[]
 | some m=>u.take m
theorem Jtz{R:Type}{b:Int→Option (Int ⊕ R)}(u:List UInt8)(q:UInt8)(f:Option Nat→R)
  (hb:∀ k:Nat,k≤u.length→b (k:Int)=if k<u.length∧u.getD k 0≠10 then(if u.getD k 0=q then some (.inr (f (some (k+1)))) else if u.getD k 0=92∧k+1<u.length∧u.getD (k+1) 0≠10 then some (.inl ((k+2:Nat):Int)) else some (.inl ((k+1:Nat):Int))) else some (.inr (f none))) (k:Nat) (hk:k≤u.length) :
  Jt b (k:Int)=some (f ((quoN q (u.drop k)).map (k + ·))):=by
 have key:∀ (n k:Nat),k≤u.length→u.length-k≤n→Jt b (k:Int)=Jt (fun s:UInt8×Int=>(b s.2).map fun o=>match o with | .inl s'=>Sum.inl (s.1,s') | .inr r=>Sum.inr r) (q,(k:Int)):=fun n=>by
  induction n with
  | zero =>
   intro k hk hn
   rw[Ja5,Ja5 (b:=fun s:UInt8×Int=>_)]
   have:k=u.length:=by omega
   subst this
   simp only[hb _ hk]
   rw[if_neg (by simp)]
   rfl
  | succ n ih =>
   intro k hk hn
   rw[Ja5,Ja5 (b:=fun s:UInt8×Int=>_)]
   simp only[hb _ hk]
   split
   ·split
    ·rfl
    ·split
     ·rename_i h1 h2 h3
      simp only[Option.map_some,Jbx]
      exact ih (k+2) (by omega) (by omega)
     ·simp only[Option.map_some,Jbx]
      exact ih (k+1) (by omega) (by omega)
   ·rfl
 rw[key _ k hk (Nat.le_refl _)]
 refine JhJ u q f (fun k hk=>?_) _ k hk (Nat.le_refl _)
 simp only[hb k hk]
 split
 ·split
  ·rfl
  ·split <;> rfl
 ·rfl
theorem Jsy(c:UInt8)(r:List UInt8)(hu:r.length≤1099511627775):Jaa (c::r)=some (JdA (c::r) ((quoN c r).map (· + 1))):=by
 unfold Jaa
 have hl:(c::r).length=r.length+1:=rfl
 have:=Jtz (b:=JaQ (c::r)) (c::r) c (JdA (c::r)) (fun k hk=>?_) 1 (by omega)
 ·rw[show(1:Int)=((1:Nat):Int) from rfl,this]
  simp only[List.drop_succ_cons,List.drop_zero]
  cases quoN c r with
  | none=>rfl
  | some a=>simp only[Option.map_some]; rw[Nat.add_comm]
 ·have h0:(c::r).getD 0 0=c:=rfl
  generalize c::r=u at *
  simp only[JaQ,JaX,ZF,ltI,decide_eq_true_eq,Int.toNat_natCast,inrO,chr _ 10 10 rfl,chr _ 92 92 rfl,h0,chr2]
  by_cases h:k<u.length
  ·rw[if_pos (show(k:Int)<u.length by omega),if_pos (show(0:Int)≤k∧k<u.length by omega),if_pos (show(0:Int)≤k∧k<u.length by omega),if_pos (show 0<u.length by omega),if_pos (show(0:Int)≤k∧k<u.length by omega)]
   simp only[wN1 k (by omega),Int.toNat_natCast]
   rw[if_pos (show(0:Int)≤0∧(0:Int)≤((k+1:Nat):Int)∧((k+1:Nat):Int)≤u.length by omega)]
   generalize u.getD k 0=d
   by_cases h10:d=10
   ·simp[h10,JdA]
   ·rw[if_neg h10,if_pos (show k<u.length∧d≠10 from⟨h,h10⟩)]
    by_cases hq:d=c
    ·rw[if_pos hq,if_pos hq]; rfl
    ·rw[if_neg hq,if_neg hq]
     by_cases h92:d=92
     ·rw[if_pos h92]
      by_cases h3:k+1<u.length
      ·rw[if_pos (show((k+1:Nat):Int)<u.length by omega),if_pos (show(0:Int)≤((k+1:Nat):Int)∧k+1<u.length by omega)]
       generalize u.getD (k+1) 0=e
       by_cases he:e=10
       ·simp[h92,he]
       ·rw[if_pos (show(!decide (e=10))=true by simp[he]),if_pos (show d=92∧k+1<u.length∧e≠10 from⟨h92,h3,he⟩),wN1 (k+1) (by omega)]
      ·rw[if_neg (show ¬ ((k+1:Nat):Int)<u.length by omega),if_neg (show ¬ (d=92∧k+1<u.length∧u.getD (k+1) 0≠10) by omega)]
       simp
     ·simp[h92]
  ·rw[if_neg (show ¬ (k:Int)<u.length by omega)]
   simp[h,JdA]
def sgn(u:List UInt8):Nat→List UInt8
 | 0=>[]
 | n+1=>if n+1≤u.length∧Jce.contains (u.take (n+1))=true then u.take (n+1) else sgn u n
theorem Ji8{b:(List UInt8×Int×Int)→Option ((List UInt8×Int×Int) ⊕ ((List UInt8×Int) ⊕ List UInt8))}(S:List (List UInt8))(t:List UInt8)(f:List UInt8→((List UInt8×Int) ⊕ List UInt8))
  (hb:∀ (x:List UInt8) (j:Nat),j≤S.length→b (x,(S.length:Int),(j:Int))=if j<S.length then(if S.getD j default=t then some (.inl (S.getD j default,(S.length:Int),((j+1:Nat):Int))) else some (.inl (x,(S.length:Int),((j+1:Nat):Int)))) else some (.inr (f x))) :
  ∀ (n j:Nat) (x:List UInt8),j≤S.length→S.length-j≤n→Jt b (x,(S.length:Int),(j:Int))=some (f (if(S.drop j).contains t=true then t else x))
 | n,j,x,hj,hn=>by
  rw[Ja5,hb x j hj]
  by_cases h:j<S.length
  ·have e:S.drop j=S.getD j default::S.drop (j+1):=by rw[List.drop_eq_getElem_cons h]; simp[List.getD_eq_getElem?_getD,List.getElem?_eq_getElem h]
   rw[if_pos h,e]
   cases n with
   | zero=>omega
   | succ n =>
    by_cases ht:S.getD j default=t
    ·rw[if_pos ht]
     simp only[Jbx]
     rw[Ji8 S t f hb n (j+1) _ (by omega) (by omega),ht]
     simp
    ·rw[if_neg ht]
     simp only[Jbx]
     rw[Ji8 S t f hb n (j+1) _ (by omega) (by omega)]
     have ht':¬ t=S.getD j default:=fun e=>ht e.symm
     have:(S.getD j default::S.drop (j+1)).contains t=(S.drop (j+1)).contains t:=by
      rw[List.contains_cons]
      have:(t == S.getD j default)=false:=by simpa using ht'
      rw[this]; simp
     rw[this]
  ·rw[if_neg h,List.drop_of_length_le (by omega)]
   rfl
theorem Jum(u:List UInt8):sgn u 3=u.take (ZP u):=by
 have hS:∀ (n:Nat),n+1≤u.length→Jce.contains (u.take (n+1))=(if n+1=3 then Jgj.contains (u.take 3) else if n+1=2 then Jfx.contains (u.take 2) else if n+1=1 then JeS.contains (u.take 1) else false):=fun n hn=>by
  have hl:(u.take (n+1)).length=n+1:=by simp; omega
  have no:∀ (S:List (List UInt8)) (k:Nat),(∀ s∈S,s.length=k)→n+1≠k→S.contains (u.take (n+1))=false:=fun S k hS hne=>by
   rw[List.contains_eq_mem,decide_eq_false_iff_not]
   intro hm
   exact hne (by rw[← hl]; exact hS _ hm)
  unfold Jce
  rw[List.contains_append,List.contains_append]
  by_cases h3:n+1=3
  ·rw[no Jfx 2 (by decide) (by omega),no JeS 1 (by decide) (by omega),if_pos h3,h3]; simp
  ·rw[no Jgj 3 (by decide) h3,if_neg h3]
   by_cases h2:n+1=2
   ·rw[no JeS 1 (by decide) (by omega),if_pos h2,h2]; simp
   ·rw[no Jfx 2 (by decide) h2,if_neg h2]
    by_cases h1:n+1=1
    ·rw[if_pos h1,h1]; simp
    ·rw[no JeS 1 (by decide) h1,if_neg h1]; simp
 have len:∀ (S:List (List UInt8)) (k:Nat),(∀ s∈S,s.length=k)→S.contains (u.take k)=true→k≤u.length:=fun S k hS hc=>by
  have hm:u.take k∈S:=by simpa using hc
  have:=hS _ hm
  simp at this; omega
 have key:∀ (S:List (List UInt8)) (k:Nat),(∀ s∈S,s.length=k+1)→(k+1≤u.length→Jce.contains (u.take (k+1))=S.contains (u.take (k+1)))→((k+1≤u.length∧Jce.contains (u.take (k+1))=true)↔S.contains (u.take (k+1))=true):=fun S k h1 h2 =>
  ⟨fun⟨a,b⟩=>by rw[← h2 a]; exact b,fun h=>⟨len S _ h1 h,by rw[h2 (len S _ h1 h)]; exact h⟩⟩
 have k3:=key Jgj 2 (by decide) (fun h=>by rw[hS 2 h]; rfl)
 have k2:=key Jfx 1 (by decide) (fun h=>by rw[hS 1 h]; rfl)
 have k1:=key JeS 0 (by decide) (fun h=>by rw[hS 0 h]; rfl)
 simp only[sgn]
 unfold ZP
 by_cases c3:Jgj.contains (u.take 3)=true
 ·rw[if_pos (k3.2 c3),if_pos c3]
 ·rw[if_neg (fun h=>c3 (k3.1 h)),if_neg c3]
  by_cases c2:Jfx.contains (u.take 2)=true
  ·rw[if_pos (k2.2 c2),if_pos c2]
  ·rw[if_neg (fun h=>c2 (k2.1 h)),if_neg c2]
   by_cases c1:JeS.contains (u.take 1)=true
   ·rw[if_pos (k1.2 c1),if_pos c1]
   ·rw[if_neg (fun h=>c1 (k1.1 h)),if_neg c1]; rfl
theorem Jvn(u:List UInt8)(hu:u.length≤1099511627776):Jcz u=some (u.take (ZP u)):=by
 rw[← Jum]
 have inner:∀ (n:Nat) (x:List UInt8),n≤u.length→n≤3→Jt (Jaz u (n:Int) Jce) (x,(Jce.length:Int),0)=some (.inl (if Jce.contains (u.take n)=true then u.take n else x,((n+1:Nat):Int))):=fun n x hn h3=>by
  have:=Ji8 (b:=Jaz u (n:Int) Jce) Jce (u.take n) (fun x=>.inl (x,((n+1:Nat):Int))) (fun x j hj=>?_) _ 0 x (Nat.zero_le _) (Nat.le_refl _)
  ·rw[show(0:Int)=((0:Nat):Int) from rfl,this]; rfl
  ·have hs48:Jce.length=47+1:=rfl
   simp only[Jaz,JbS,ltI,eqS,decide_eq_true_eq,Int.toNat_natCast,inrO]
   by_cases h:j<Jce.length
   ·rw[if_pos (by omega),if_pos (by omega),if_pos (by omega),if_pos h,wN1 j (by omega)]
   ·rw[if_neg (by omega),if_neg h,wN1 n (by omega)]; rfl
 have outer:∀ (m n:Nat),n+m=4→1≤n→(∀ k,n≤k→k≤3→True)→Jt (JaA u) (sgn u (n-1),(n:Int))=some (sgn u 3):=fun m=>by
  induction m with
  | zero =>
   intro n hn h1 _
   have:n=4:=by omega
   subst this
   rw[Ja5]
   simp only[JaA,Jau,leI,decide_eq_true_eq]
   rw[if_neg (by omega),if_neg (by decide)]
   rfl
  | succ m ih =>
   intro n hn h1 _
   rw[Ja5]
   simp only[JaA,Jau,leI,decide_eq_true_eq]
   rw[if_pos (by omega)]
   by_cases hl:n≤u.length
   ·rw[if_pos (by omega),Jxz]
    simp only[Option.bind_some]
    rw[inner n _ hl (by omega)]
    simp only[Jbx]
    have:=ih (n+1) (by omega) (by omega) (fun _ _ _=>trivial)
    obtain⟨k,rfl⟩:∃ k,n=k+1:=⟨n-1,by omega⟩
    rw[show k+1+1-1=k+1 by omega]at this
    rw[← this]
    congr 2
    simp only[sgn,Nat.add_sub_cancel]
    by_cases hc:Jce.contains (u.take (k+1))=true
    ·rw[if_pos hc,if_pos ⟨hl,hc⟩]
    ·rw[if_neg hc,if_neg (fun h=>hc h.2)]
   ·rw[if_neg (by omega)]
    simp only[inrO,Option.map_some,Jbx]
    have hs:∀ k,n≤k+1→sgn u (k+1)=sgn u k:=fun k hk=>by simp only[sgn]; rw[if_neg (by omega)]
    have:n=1∨n=2∨n=3:=by omega
    rcases this with rfl | rfl | rfl
    ·rw[hs 2 (by omega),hs 1 (by omega),hs 0 (by omega)]
    ·rw[hs 2 (by omega),hs 1 (by omega)]
    ·rw[hs 2 (by omega)]
 unfold Jcz
 exact outer 3 1 rfl (Nat.le_refl _) (fun _ _ _=>trivial)
end Go.Proofs.Ytaofbminodhcnaa
namespace Go.Proofs.Ytaofbminodhcnaa
open Go.RowKit
theorem JtX(c:UInt8)(r:List UInt8)(hu:r.length≤1099511627775)(path:Bool):JaB (c::r) path=some ((JbB (c::r) path).1,JdA (c::r) (JbB (c::r) path).2):=by
 have hl:(c::r).length=r.length+1:=rfl
 have h0:(c::r).getD 0 0=c:=rfl
 have e1:ZU (c::r) ()=some (if 0<ZP (c::r) then(5,(c::r).take (ZP (c::r))) else(6,(c::r).take 1)):=by
  simp only[ZU,Jvn (c::r) (by omega),Option.bind_some]
  have hs:=Jjf (c::r)
  by_cases h:0<ZP (c::r)
  ·have:¬ (c::r).take (ZP (c::r))=[]:=fun e=>by have:=congrArg List.length e; rw[List.length_take]at this; simp at this; omega
   have h':eqS ((c::r).take (ZP (c::r))) []=false:=by rw[JgP]; exact this
   rw[h',if_pos h]
   rfl
  ·have:ZP (c::r)=0:=by omega
   have h':eqS ((c::r).take (ZP (c::r))) []=true:=by rw[Jkh,this]; rfl
   rw[h',if_neg h]
   have h3:(0:Int)≤0∧(0:Int)≤1∧(1:Int)≤((c::r).length:Int):=by omega
   simp only[h3]
   rfl
 have e2:Jt (ZZ (c::r)) 0=some (1,(c::r).take (runN isWd (c::r))):=by
  have:=Jf4 (b:=ZZ (c::r)) (c::r) isWd (fun k=>((1:Int),(c::r).take k)) (fun k hk=>?_) _ 0 (Nat.zero_le _) (Nat.le_refl _)
  ·rw[show(0:Int)=((0:Nat):Int) from rfl,this]; simp
  ·have j3:∀ b,XX (c::r) (k:Int) b=if b=true then some (.inl ((k+1:Nat):Int)) else some (.inr (1,(c::r).take k)):=fun b=>by
    simp only[XX,inrO,Int.toNat_natCast]
    rw[wN1 k (by omega),if_pos (show(0:Int)≤0∧(0:Int)≤(k:Int)∧(k:Int)≤((c::r).length:Int) by omega)]
    rfl
   simp only[ZZ,ltI,decide_eq_true_eq,Int.toNat_natCast,Jh0,JiF,Option.bind_some,j3]
   by_cases h:k<(c::r).length
   ·rw[if_pos (by omega),if_pos (by omega)]
    generalize (c::r).getD k 0=d
    unfold isWd
    have h':k<r.length+1:=h
    cases Jcp d <;> cases JcP d <;> simp[h']
   ·rw[if_neg (by omega),if_neg (by decide),if_neg (fun hh=>h hh.1)]
 have e3:c=60→Jt (Jac (c::r)) 1=some (if(Jd7 r).isSome=true then(7,JdA (c::r) ((Jd7 r).map (· + 1))) else if 0<ZP (c::r) then(5,(c::r).take (ZP (c::r))) else(6,(c::r).take 1)):=fun h60=>by
  have:=Jf4 (b:=Jac (c::r)) (c::r) (fun c=>decide (c≠62) && decide (c≠10)) (fun k=>if((c::r).drop k).head? = some 62 then((7:Int),(c::r).take (k+1)) else if 0<ZP (c::r) then(5,(c::r).take (ZP (c::r))) else(6,(c::r).take 1)) (fun k hk=>?_) _ 1 (by omega) (Nat.le_refl _)
  ·rw[show(1:Int)=((1:Nat):Int) from rfl,this]
   simp only[List.drop_succ_cons,List.drop_zero]
   unfold Jd7
   rw[Nat.add_comm 1,List.drop_succ_cons]
   by_cases h:(r.drop (runN (fun c=>decide (c≠62) && decide (c≠10)) r)).head? = some 62
   ·rw[if_pos h,if_pos h]; rfl
   ·rw[if_neg h,if_neg h]; rfl
  ·simp only[Jac,Jbn,ltI,decide_eq_true_eq,Int.toNat_natCast,inrO,chr _ 10 10 rfl,chr _ 62 62 rfl,e1]
   by_cases h:k<(c::r).length
   ·rw[if_pos (by omega),if_pos (by omega),JeA h,if_pos (show(0:Int)≤(k:Int)∧k<(c::r).length by omega),wN1 k (by omega),if_pos (show(0:Int)≤0∧(0:Int)≤((k+1:Nat):Int)∧((k+1:Nat):Int)≤((c::r).length:Int) by omega)]
    simp only[Int.toNat_natCast]
    generalize (c::r).getD k 0=d
    by_cases h10:d=10
    ·simp[h10]
    ·by_cases h62:d=62
     ·simp[h62]
     ·have h':k<r.length+1:=by omega
      simp[h10,h62,h']
   ·rw[if_neg (show ¬ (k:Int)<((c::r).length:Int) by omega),drop_nil h]
    have h':¬ k<r.length+1:=h
    simp[h']
 have e4:∀ p:Bool,p=path→VP (c::r) (decide (c=60) && p)=some (if c=60∧path=true∧(Jd7 r).isSome=true then(7,JdA (c::r) ((Jd7 r).map (· + 1))) else if 0<ZP (c::r) then(5,(c::r).take (ZP (c::r))) else(6,(c::r).take 1)):=fun p hp=>by
  subst hp
  simp only[VP]
  by_cases h60:c=60
  ·cases p
   ·rw[if_neg (by simp),e1]; simp
   ·rw[if_pos (by simp[h60]),e3 h60]; simp[h60]
  ·rw[if_neg (by simp[h60]),e1]; simp[h60]
 have fin:∀ q:Int×Option Nat,some (q.1,JdA (c::r) q.2)=some (q.1,JdA (c::r) q.2):=fun _=>rfl
 have j4:∀ p:Bool,p=(JcP c || (decide (c=46) && ((r.head?.map JcP).getD false)))→Jcp c=false→Xm (c::r) path (c,p)=some ((JbB (c::r) path).1,JdA (c::r) (JbB (c::r) path).2):=fun p hp h1=>by
  simp only[Xm,JsD (c::r) (by omega),Jsy c r hu,chr _ 34 34 rfl,chr _ 39 39 rfl,chr _ 60 60 rfl,decide_eq_true_eq,Option.bind_some]
  rw[Jlm,h1,← hp]
  simp only[Bool.false_eq_true,if_false]
  cases p
  ·simp only[Bool.false_eq_true,if_false]
   by_cases h34:c=34
   ·rw[if_pos h34,if_pos h34,h34]
   ·rw[if_neg h34,if_neg h34]
    by_cases h39:c=39
    ·rw[if_pos h39,if_pos h39,h39]
    ·rw[if_neg h39,if_neg h39]
     have e4':=e4 path rfl
     have:(if c=60 then VP (c::r) path else VP (c::r) false)=VP (c::r) (decide (c=60) && path):=by
      by_cases h60:c=60 <;> simp[h60]
     rw[this,e4']
     split
     ·rfl
     ·split <;> rfl
  ·rfl
 unfold JaB
 simp only[Jh0,JiF,Option.bind_some,h0,chr _ 46 46 rfl,ltI,decide_eq_true_eq,e2]
 rw[if_pos (show 0<(c::r).length by omega)]
 by_cases h1:Jcp c=true
 ·rw[if_pos h1,Jlm,if_pos h1]
  rfl
 ·have h1:Jcp c=false:=by simpa using h1
  rw[h1,if_neg (by decide)]
  by_cases h2:JcP c=true
  ·rw[if_pos h2]
   exact j4 true (by simp[h2]) h1
  ·have h2:JcP c=false:=by simpa using h2
   rw[h2,if_neg (by decide)]
   by_cases h46:c=46
   ·rw[if_pos h46]
    by_cases h3:0<r.length
    ·rw[if_pos (by omega),if_pos (by omega)]
     have e6:r.head? = some ((c::r).getD 1 0):=by
      cases r with
      | nil=>simp at h3
      | cons d r=>rfl
     exact j4 _ (by rw[h2,h46,e6]; simp) h1
    ·rw[if_neg (by omega)]
     have:r=[]:=by cases r with | nil=>rfl | cons _ _=>simp at h3
     exact j4 _ (by rw[h2,this]; simp) h1
   ·rw[if_neg h46]
    exact j4 _ (by rw[h2]; simp[h46]) h1
theorem Jn5(file:Int)(text:List UInt8)(ht:text.length≤3000):∀ (n i:Nat) (out:List Token),i≤(JC text).length→(JC text).length-i<n→out.length+((JC text).length-i)≤100000 →
  Jt (Xy file text (spS text)) (out,(i:Int))=some (finV file text out (lxF n ((JC text).drop i) i (stOf out) (out.isEmpty)))
 | 0,i,out,_,h,_=>by omega
 | n+1,i,out,hi,hn,ho=>by
  have hu:=JkP text
  have hA:=JoQ text
  have hsk:=JjC _ ((JC text).drop i) (Nat.le_refl _)
  rw[List.length_drop]at hsk
  have hxT:(spS text).Text=JC text:=rfl
  have hxA:(spS text).At=ints (Xu text):=rfl
  have hAl:((spS text).At).length=(Xu text).length:=by rw[hxA,Jg6]
  have hAt:∀ p:Nat,p<(Xu text).length→(spS text).At.getD p default=(((Xu text).getD p 0:Nat):Int):=fun p hp=>by rw[hxA,Jus _ _ hp]
  rw[Ja5]
  simp only[Xy,Int.toNat_natCast,hxT,JuK ((JC text).drop i) (by simp; omega),Option.bind_some,lxF]
  rw[if_pos (show(0:Int)≤(i:Int)∧(i:Int)≤((JC text).length:Int)∧((JC text).length:Int)≤((JC text).length:Int) by omega)]
  generalize hk:(skip ((JC text).drop i)).1=k at hsk
  generalize hf:(skip ((JC text).drop i)).2.1=feed
  generalize hok:(skip ((JC text).drop i)).2.2=ok
  have hskI:skI (skip ((JC text).drop i))=(if ok=true then(k:Int) else -1-(k:Int),feed):=by unfold skI; rw[hk,hf,hok]
  rw[hskI]
  cases ok
  ·simp only[Bool.false_eq_true,if_false,ltI,decide_eq_true_eq]
   rw[if_pos (show -1-(k:Int)<0 by omega)]
   rw[show IntKind.i64.wrap (IntKind.i64.wrap ((i:Int)-1)-(-1-(k:Int)))=((i+k:Nat):Int) by rw[wr ((i:Int)-1) (by omega),wr _ (by omega)]; omega]
   simp only[Int.toNat_natCast]
   rw[if_pos (by omega),hAt _ (by omega)]
   rfl
  ·simp only[if_true,ltI,leI,decide_eq_true_eq,Bool.true_eq_false,if_false]
   rw[if_neg (show ¬ (k:Int)<0 by omega),List.drop_drop]
   rw[show IntKind.i64.wrap ((i:Int)+(k:Int))=((i+k:Nat):Int) by rw[wr _ (by omega)]; omega]
   by_cases hend:i+k=(JC text).length
   ·rw[if_pos (by omega),if_pos (List.drop_of_length_le (by omega))]
    simp[inrO,Jbx,finV]
   ·have hlt:i+k<(JC text).length:=by omega
    rw[if_neg (by omega),if_neg (show ¬ (JC text).drop (i+k)=[] from fun h=>by have:=congrArg List.length h; simp at this; omega)]
    have hd:=J5 (JC text) (i+k) hlt
    have hpe:∀ path,JaB ((JC text).drop (i+k)) path=some ((JbB ((JC text).drop (i+k)) path).1,JdA ((JC text).drop (i+k)) (JbB ((JC text).drop (i+k)) path).2):=fun path=>by
     rw[hd]; exact JtX _ _ (by simp; omega) path
    have j3:∀ first path:Bool,first=(out.isEmpty || feed)→path=(!first && Jgm out)→Jbx (Xy file text (spS text)) (K6 file text (spS text) out ((k:Int),feed) ((i+k:Nat):Int) first path) =
      some (finV file text out (match JbB ((JC text).drop (i+k)) (!(out.isEmpty || feed) && decide (stOf out=2)) with
       | (_,none)=>([],some (i+k))
       | (kind,some m) =>
        let t:=((JC text).drop (i+k)).take m
        let x:=lxF n (((JC text).drop (i+k)).drop m) (i+k+m) (Jli (stOf out) t (out.isEmpty || feed)) false
        (⟨kind,i+k,m,decide (0<k),out.isEmpty || feed,t⟩::x.1,x.2))):=fun first path hfirst hpath=>by
     simp only[K6,Int.toNat_natCast,hxT,hpe,Option.bind_some,hAl]
     rw[if_pos (show(0:Int)≤((i+k:Nat):Int)∧((i+k:Nat):Int)≤((JC text).length:Int)∧((JC text).length:Int)≤((JC text).length:Int) by omega)]
     rw[hpath,hfirst,JtZ,hAt _ (by omega)]
     have hpos:(0:Int)≤((i+k:Nat):Int)∧i+k<(Xu text).length:=by omega
     generalize hp:JbB ((JC text).drop (i+k)) (!(out.isEmpty || feed) && decide (stOf out=2))=pc
     obtain⟨kind,m⟩:=pc
     cases m with
     | none =>
      simp only[JdA]
      have he:eqS ([]:List UInt8) []=true:=rfl
      simp only[he,if_true,hpos,and_self]
      rfl
     | some m =>
      obtain⟨m1,m2⟩:=Jpw hp
      rw[List.length_drop]at m2
      simp only[JdA]
      have hne:¬ ((JC text).drop (i+k)).take m=[]:=fun e=>by have:=congrArg List.length e; simp at this; omega
      have hlen:(((JC text).drop (i+k)).take m).length=m:=by simp; omega
      have he:eqS (((JC text).drop (i+k)).take m) []=false:=by rw[JgP]; exact hne
      simp only[he,Bool.false_eq_true,if_false,hlen]
      rw[if_pos hpos]
      rw[show IntKind.i64.wrap (((i+k:Nat):Int)+(m:Int))=((i+k+m:Nat):Int) by rw[wr _ (by omega)]; omega]
      rw[wNm (i+k+m) (by omega)]
      simp only[Int.toNat_natCast]
      rw[if_pos (show(0:Int)≤((i+k+m-1:Nat):Int)∧i+k+m-1<(Xu text).length by omega),if_pos hpos,hAt _ (by omega)]
      have hA1:=Jo4 text (i+k) (by omega)
      have hA2:=Jo4 text (i+k+m-1) (by omega)
      rw[Jwr text _ (by omega)]
      simp only[Option.bind_some]
      have hkAt:kAt text (((Xu text).getD (i+k) 0:Nat):Int)=(Xu text).getD (i+k) 0:=by unfold kAt; rw[Int.toNat_natCast]; omega
      rw[hkAt,if_pos (by simp; omega)]
      rw[wN1 _ (by omega)]
      simp only[Jbx]
      have hlt0:ltI 0 (k:Int)=decide (0<k):=by unfold ltI; congr 1; simp
      rw[hlt0]
      have htok:(⟨kind,List.take m (List.drop (i+k) (JC text)),decide (0<k),out.isEmpty || feed,file,(((Xu text).getD (i+k) 0:Nat):Int),(((Xu text).getD (i+k+m-1) 0+1:Nat):Int),((JeG text ((Xu text).getD (i+k) 0):Nat):Int),[],[],0⟩:Token)=tokOf file text ⟨kind,i+k,m,decide (0<k),out.isEmpty || feed,List.take m (List.drop (i+k) (JC text))⟩:=rfl
      rw[htok,Jn5 file text ht n (i+k+m) _ (by omega) (by omega) (by simp; omega),JtV,JtB,List.drop_drop]
      have hne:(out++[tokOf file text ⟨kind,i+k,m,decide (0<k),out.isEmpty || feed,List.take m (List.drop (i+k) (JC text))⟩]).isEmpty=false:=by simp
      rw[hne]
      rfl
    have j2:∀ first:Bool,first=(out.isEmpty || feed)→Jbx (Xy file text (spS text)) (ZB file text (spS text) out ((k:Int),feed) (((i+k:Nat):Int),first))=_:=fun first hfirst=>by
     refine Eq.trans ?_ (j3 first (!first && Jgm out) hfirst rfl)
     congr 1
     simp only[ZB,leI,decide_eq_true_eq]
     cases first
     ·rw[if_pos (by decide)]
      by_cases h2:2≤out.length
      ·obtain⟨l,a,b,ho2,hb,ha,hp⟩:=JuL out h2
       have q1:IntKind.i64.wrap ((out.length:Int)-1)=((out.length-1:Nat):Int):=wNm _ (by omega)
       have q2:IntKind.i64.wrap ((out.length:Int)-2)=((out.length-2:Nat):Int):=by rw[wr _ (by omega)]; omega
       have g1:(0:Int)≤((out.length-1:Nat):Int)∧out.length-1<out.length:=by omega
       have g2:(0:Int)≤((out.length-2:Nat):Int)∧out.length-2<out.length:=by omega
       rw[if_pos (by omega)]
       simp only[q1,q2,Int.toNat_natCast,hb,ha]
       rw[if_pos g1,if_pos g1,if_pos g2,if_pos g2,hp]
       simp only[eqS,incT]
       by_cases t1:b.Text=[105,110,99,108,117,100,101]
       ·cases hb1:b.First
        ·by_cases t2:a.Text=[35]
         ·simp[t1,t2]
         ·simp[t1,t2]
        ·simp[t1]
       ·simp[t1]
      ·rw[if_neg (by omega)]
       have:Jgm out=false:=by
        match out,h2 with
        | [],_=>rfl
        | [_],_=>rfl
        | _::_::_,h=>simp at h
       rw[this]; rfl
     ·rw[if_neg (by decide)]; rfl
    cases feed
    ·rw[if_neg (by decide)]
     refine j2 _ ?_
     unfold eqI
     cases out with
     | nil=>rfl
     | cons a l=>simp; omega
    ·rw[if_pos rfl]
     exact j2 true (by simp)
theorem JsG(file:Int)(text:List UInt8)(h:text.length≤1099511627776):Z7 file text=some (Jcf file text):=by
 unfold Z7 Jcf
 simp only[ltI,decide_eq_true_eq]
 by_cases ht:3000<text.length
 ·rw[if_pos (by omega),if_pos ht]
 ·rw[if_neg (by omega),if_neg ht,Jsb text h]
  have:=Jn5 file text (by omega) ((JC text).length+1) 0 [] (Nat.zero_le _) (by omega) (by have:=JkP text; simp; omega)
  simp only[Option.bind_some]
  rw[show(([]:List Token),(0:Int))=([],((0:Nat):Int)) from rfl,this]
  unfold raws
  simp only[List.drop_zero]
  rw[show stOf []=0 from rfl,show([]:List Token).isEmpty=true from rfl]
  generalize lxF ((JC text).length+1) (JC text) 0 0 true=z
  obtain⟨ts,_ | p⟩:=z <;> simp[finV]
end Go.Proofs.Ytaofbminodhcnaa
namespace Go.Proofs.Ytaofbminodhcnaa
open Go.RowKit
end Go.Proofs.Ytaofbminodhcnaa
