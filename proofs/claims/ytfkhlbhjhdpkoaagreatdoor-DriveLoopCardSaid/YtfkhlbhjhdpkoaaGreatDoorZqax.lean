/- splice: what its functions of data answer. Plain. -/
import Derived.Test.YtfkhlbhjhdpkoaaGreatDoorZqam
import Derived.Test.YtfkhlbhjhdpkoaaGreatDoorZqas
import Derived.IntWalk
set_option linter.unusedVariables false
set_option linter.unusedSimpArgs false
set_option maxHeartbeats 4000000
namespace Go.Proofs.YtfkhlbhjhdpkoaaGreatDoor
open Go.RowKit
theorem wr(x:Int)(h:-9223372036854775808≤x∧x≤9223372036854775807):IntKind.i64.wrap x=x:=IntWalk.i64_in _ h
theorem Jjj{α:Type}{n:Nat}{l m:List α}(h:l.take n=m):m.length≤l.length:=by
 rw[← h]; simp; omega
theorem JDU(a b:Int):eqI a b=decide (a=b):=rfl
theorem JDa(a b:Int):ltI a b=decide (a<b):=rfl
theorem u8i(c:UInt8)(n:Nat)(h:n<256):((c.toNat:Int)=(n:Int))↔c=UInt8.ofNat n:=by
 constructor
 ·intro h1
  have:c.toNat=n:=by omega
  rw[← this]; simp
 rintro rfl; simp; omega
def Nxt{S R:Type}(I:S→Prop)(μ:S→Nat)(post:R→Prop)(n:Nat)(o:S ⊕ R):Prop:=match o with | .inl s'=>I s'∧μ s'<n | .inr r=>post r
theorem JBV{S R:Type}{b:S→Option (S ⊕ R)}(I:S→Prop)(μ:S→Nat)(post:R→Prop)
  (h:∀ s,I s→∃ o,b s=some o∧Nxt I μ post (μ s) o) (s:S) (hs:I s):∃ r,Jv b s=some r∧post r :=
 JhM I μ post (fun s hs=>by
  obtain⟨o,h1,h2⟩:=h s hs
  refine⟨o,h1,?_⟩
  cases o <;> exact h2) s hs
def KA(l:List UInt8):Nat:=if l.take 2=[92,10] then 2 else if l.take 3=[92,13,10] then 3 else 0
theorem JAQ(l:List UInt8):JbJ l=some (KA l:Int):=by
 have a1:l.take 2=[92,10]→2≤l.length:=fun h=>Jjj h
 have a2:l.take 3=[92,13,10]→3≤l.length:=fun h=>Jjj h
 unfold JbJ KA
 simp only[Jci,Jca,leI,eqS,decide_eq_true_eq]
 by_cases h2:l.take 2=[92,10]
 ·have:(2:Int)≤(l.length:Int):=by have:=a1 h2; omega
  simp[h2,this]
 by_cases h3:l.take 3=[92,13,10]
 ·have h5:(3:Int)≤(l.length:Int):=by have:=a2 h3; omega
  have h4:(2:Int)≤(l.length:Int):=by omega
  simp[h2,h3,h5,h4]
 by_cases h4:(2:Int)≤(l.length:Int) <;> by_cases h5:(3:Int)≤(l.length:Int) <;> simp[h2,h3,h4,h5]
def sp:Nat→Nat→List UInt8→List (UInt8×Nat)
 | _,_,[]=>[]
 | k+1,i,_::r=>sp k (i+1) r
 | 0,i,c::r=>if KA (c::r) > 0 then sp (KA (c::r)-1) (i+1) r else if c=13∧r.head? = some 10 then sp 0 (i+1) r else(c,i)::sp 0 (i+1) r
def spAt(l:List UInt8)(i:Nat):List (UInt8×Nat):=sp 0 i (l.drop i)
theorem Jxt:∀ (k i:Nat) (l:List UInt8),k≤l.length→sp k i l=sp 0 (i+k) (l.drop k)
 | 0,i,l,_=>by simp
 | k+1,i,[],h=>by simp at h
 | k+1,i,_::r,h=>by
  simp only[sp,List.drop_succ_cons]
  rw[Jxt k (i+1) r (by simpa using h)]
  congr 1; omega
theorem Jme(l:List UInt8):KA l≤l.length:=by
 have a1:l.take 2=[92,10]→2≤l.length:=fun h=>Jjj h
 have a2:l.take 3=[92,13,10]→3≤l.length:=fun h=>Jjj h
 unfold KA
 split
 ·exact a1 (by assumption)
 split
 ·exact a2 (by assumption)
 omega
theorem JE(l:List UInt8)(i:Nat)(h:i<l.length):l.drop i=l.getD i 0::l.drop (i+1):=by
 rw[List.drop_eq_getElem_cons h]; simp[List.getD_eq_getElem?_getD,List.getElem?_eq_getElem h]
theorem JlG(l:List UInt8)(i:Nat)(h:0<KA (l.drop i)):spAt l i=spAt l (i+KA (l.drop i)):=by
 have hle:=Jme (l.drop i)
 simp at hle
 have hi:i<l.length:=by omega
 unfold spAt
 generalize hj:KA (l.drop i)=j at h hle ⊢
 rw[JE l i hi]at hj ⊢
 simp only[sp,hj,gt_iff_lt,h,if_true]
 rw[Jxt _ _ _ (by simp; omega),List.drop_drop]
 congr 1
 ·omega
 congr 1; omega
theorem Jxx(l:List UInt8)(i:Nat)(h:KA (l.drop i)=0)(h1:l.getD i 0=13)(h2:i+1<l.length)(h3:l.getD (i+1) 0=10):spAt l i=spAt l (i+1):=by
 have hi:i<l.length:=by omega
 unfold spAt
 rw[JE l i hi]at h ⊢
 have h4:(l.drop (i+1)).head? = some 10:=by rw[JE l (i+1) h2,h3]; rfl
 rw[h1]at h ⊢
 simp only[sp,h,h4,and_self,if_true,gt_iff_lt,Nat.lt_irrefl,if_false]
theorem Jrg(l:List UInt8)(i:Nat)(hi:i<l.length)(h:KA (l.drop i)=0)(h1:¬ (l.getD i 0=13∧i+1<l.length∧l.getD (i+1) 0=10)):spAt l i=(l.getD i 0,i)::spAt l (i+1):=by
 unfold spAt
 rw[JE l i hi]at h ⊢
 have h2:¬ (l.getD i 0=13∧(l.drop (i+1)).head? = some 10):=by
  rintro ⟨a,b⟩
  refine h1 ⟨a,?_⟩
  by_cases h3:i+1<l.length
  ·rw[JE l (i+1) h3]at b
   simp at b
   exact⟨h3,by simpa [List.getD_eq_getElem?_getD] using b⟩
  rw[List.drop_of_length_le (by omega)]at b
  cases b
 simp only[sp,h,h2,gt_iff_lt,Nat.lt_irrefl,if_false]
theorem JvS(l:List UInt8)(i:Nat)(h:l.length≤i):spAt l i=[]:=by
 unfold spAt; rw[List.drop_of_length_le h]; rfl
def Jr(l:List UInt8):List UInt8:=(spAt l 0).map (·.1)
def JX(l:List UInt8):List Nat:=(spAt l 0).map (·.2)++[l.length]
def ints(l:List Nat):List Int:=l.map fun(n:Nat)=>(n:Int)
theorem Jd1(l:List Nat):(ints l).length=l.length:=by simp[ints]
theorem Jr7(l:List Nat)(n:Nat):ints l++[(n:Int)]=ints (l++[n]):=by simp[ints]
def spS(l:List UInt8):Spliced:=⟨Jr l,ints (JX l)⟩
def JCB(l:List UInt8)(s:List UInt8×List Int×Int×List UInt8):Prop:=∃ (i:Nat) (T:List UInt8) (A:List Nat),s=(T,ints A,(i:Int),[])∧i≤l.length∧spAt l 0=T.zip A++spAt l i∧T.length=A.length∧T.length≤i
theorem JCX(l:List UInt8)(hl:l.length≤1099511627776):JdY l=some (spS l):=by
 unfold JdY
 obtain⟨r,h1,h2⟩:=JhM (b:=JcX l)
  (JCB l)
  (fun s=>l.length-s.2.2.1.toNat) (fun r=>r=spS l) (by
   rintro _ ⟨i,T,A,rfl,hi,hsp,hTA,hTi⟩
   have hj:=Jme (l.drop i)
   rw[List.length_drop]at hj
   simp only[JcX,ltI,decide_eq_true_eq,Int.toNat_natCast,JAQ,Option.bind_some]
   by_cases hil:i<l.length
   ·rw[if_pos (by omega),if_pos (by omega)]
    by_cases hj0:0<KA (l.drop i)
    ·rw[if_pos (by omega),if_pos (by omega),wr _ (by omega)]
     refine⟨_,rfl,⟨i+KA (l.drop i),T,A,?_,by omega,by rw[hsp,JlG l i hj0],hTA,by omega⟩,?_⟩
     ·simp
     simp; omega
    rw[if_neg (by omega),if_pos (by omega)]
    have hj0:KA (l.drop i)=0:=by omega
    have w1:IntKind.i64.wrap ((i:Int)+1)=((i+1:Nat):Int):=by rw[wr _ (by omega)]; simp
    have step:(¬ (l.getD i 0=13∧i+1<l.length∧l.getD (i+1) 0=10))→JCB l (T++[l.getD i 0],ints A++[(i:Int)],((i+1:Nat):Int),[]):=fun hn =>
     ⟨i+1,T++[l.getD i 0],A++[i],by rw[Jr7],by omega,by rw[hsp,Jrg l i hil hj0 hn,List.zip_append hTA]; simp,by simp[hTA],by simp; omega⟩
    simp only[Jbu,w1,Int.toNat_natCast,eqI,decide_eq_true_eq]
    clear w1
    have c13:((l.getD i 0).toNat:Int)=13↔l.getD i 0=13:=u8i _ 13 (by decide)
    have c10:((l.getD (i+1) 0).toNat:Int)=10↔l.getD (i+1) 0=10:=u8i _ 10 (by decide)
    have b1:(T.length + [l.getD i 0].length) * 1≤140737488355328:=by simp; omega
    have b2:((ints A).length + [(i:Int)].length) * 8≤140737488355328:=by simp[Jd1]; omega
    by_cases h13:l.getD i 0=13
    ·rw[if_pos (c13.2 h13)]
     by_cases hil1:i+1<l.length
     ·rw[if_pos (by omega),if_pos (by omega)]
      by_cases h10:l.getD (i+1) 0=10
      ·rw[if_pos (c10.2 h10)]
       exact⟨_,rfl,⟨i+1,T,A,rfl,by omega,by rw[hsp,Jxx l i hj0 h13 hil1 h10],hTA,by omega⟩,by simp; omega⟩
      rw[if_neg (fun h=>h10 (c10.1 h)),if_pos (by omega),if_pos b1,if_pos b2]
      exact⟨_,rfl,step (fun h=>h10 h.2.2),by simp; omega⟩
     rw[if_neg (by omega)]
     simp only[Bool.false_eq_true,if_false]
     rw[if_pos (by omega),if_pos b1,if_pos b2]
     exact⟨_,rfl,step (fun h=>hil1 h.2.1),by simp; omega⟩
    rw[if_neg (fun h=>h13 (c13.1 h))]
    simp only[Bool.false_eq_true,if_false]
    rw[if_pos (by omega),if_pos b1,if_pos b2]
    exact⟨_,rfl,step (fun h=>h13 h.1),by simp; omega⟩
   have hil:i=l.length:=by omega
   rw[JvS l i (by omega),List.append_nil]at hsp
   rw[if_neg (by omega)]
   have e1:Jr l=T:=by unfold Jr; rw[hsp]; simp[List.map_fst_zip,hTA]
   have e2:JX l=A++[l.length]:=by unfold JX; rw[hsp]; simp[List.map_snd_zip,hTA]
   have b2:((ints A).length + [(l.length:Int)].length) * 8≤140737488355328:=by simp[Jd1]; omega
   rw[if_pos b2]
   refine⟨_,rfl,?_⟩
   simp[spS,e1,e2,ints]) ([],[],0,[]) ⟨0,[],[],by simp[ints],by omega,by simp,rfl,by simp⟩
 rw[h1,h2]
end Go.Proofs.YtfkhlbhjhdpkoaaGreatDoor
namespace Go.Proofs.YtfkhlbhjhdpkoaaGreatDoor
open Go.RowKit
def Jbb(l:List UInt8)(k:Nat):Nat:=1+((l.take k).filter (·=10)).length
theorem Jpd(l:List UInt8)(k:Nat)(h:k<l.length):Jbb l (k+1)=Jbb l k+if l.getD k 0=10 then 1 else 0:=by
 unfold Jbb
 rw[List.take_succ_eq_append_getElem h,List.filter_append]
 have:l.getD k 0=l[k]:=by simp[List.getD_eq_getElem?_getD,List.getElem?_eq_getElem h]
 rw[this]
 by_cases h10:l[k]=10 <;> simp[h10]; omega
theorem Juo(l:List UInt8)(k:Nat):Jbb l k≤1+k:=by
 unfold Jbb
 have h1:=List.length_filter_le (fun c:UInt8=>decide (c=10)) (l.take k)
 have h2:=List.length_take_le k l
 omega
def kAt(l:List UInt8)(n:Int):Nat:=min n.toNat l.length
theorem JA7(l:List UInt8)(n:Int)(hl:l.length≤1099511627776):JcY l n=some (Jbb l (kAt l n):Int):=by
 unfold JcY
 have e0:(if(l.length:Int)<(if 0 > n then 0 else n) then(l.length:Int) else(if 0 > n then 0 else n))=(kAt l n:Int):=by
  unfold kAt
  split <;> split <;> omega
 rw[e0]
 have hk:kAt l n≤l.length:=by unfold kAt; omega
 generalize kAt l n=k at hk
 obtain⟨r,h1,h2⟩:=JhM (b:=JcB l) (fun s=>∃ i:Nat,s=((Jbb l i:Int),(k:Int),(i:Int))∧i≤k) (fun s=>k-s.2.2.toNat) (fun r=>r=(Jbb l k:Int)) (by
  rintro _ ⟨i,rfl,hi⟩
  simp only[JcB,ltI,decide_eq_true_eq,Int.toNat_natCast]
  have hn:=Juo l i
  by_cases hik:i<k
  ·rw[if_pos (by omega),if_pos (by omega)]
   have hs:=Jpd l i (by omega)
   have c10:((l.getD i 0).toNat:Int)=10↔l.getD i 0=10:=u8i _ 10 (by decide)
   simp only[eqI,decide_eq_true_eq,Jb9]
   rw[wr ((i:Int)+1) (by omega)]
   by_cases h10:l.getD i 0=10
   ·rw[if_pos (c10.2 h10),wr _ (by omega)]
    rw[if_pos h10]at hs
    exact⟨_,rfl,⟨i+1,by rw[hs]; simp,by omega⟩,by simp; omega⟩
   rw[if_neg (fun h=>h10 (c10.1 h))]
   rw[if_neg h10]at hs
   exact⟨_,rfl,⟨i+1,by rw[hs]; simp,by omega⟩,by simp; omega⟩
  rw[if_neg (by omega)]
  have:i=k:=by omega
  subst this
  exact⟨_,rfl,rfl⟩) (1,(k:Int),0) ⟨0,by simp[Jbb],by omega⟩
 rw[h1,h2]
theorem JD1(l:List UInt8)(n:Int)(hl:l.length≤1099511627776):Jdc l n=some (Jbb l (kAt l n):Int):=by
 unfold Jdc
 obtain⟨r,h1,h2⟩:=JhM (b:=Jcn l n) (fun s=>∃ i:Nat,s=((Jbb l i:Int),(i:Int))∧i≤kAt l n) (fun s=>kAt l n-s.2.toNat) (fun r=>r=(Jbb l (kAt l n):Int)) (by
  rintro _ ⟨i,rfl,hi⟩
  have hk:kAt l n≤l.length∧(kAt l n:Int)≤max n 0:=by unfold kAt; omega
  have hk2:i<kAt l n↔(i:Int)<n∧(i:Int)<l.length:=by unfold kAt; omega
  generalize kAt l n=k at hk hk2 hi
  simp only[Jcn,Jch,ltI,decide_eq_true_eq,Int.toNat_natCast]
  have hn:=Juo l i
  by_cases hik:i<k
  ·rw[if_pos (hk2.1 hik).1,if_pos (hk2.1 hik).2,if_pos (by omega)]
   have hs:=Jpd l i (by omega)
   have c10:((l.getD i 0).toNat:Int)=10↔l.getD i 0=10:=u8i _ 10 (by decide)
   simp only[eqI,decide_eq_true_eq,Jcu]
   rw[wr ((i:Int)+1) (by omega)]
   by_cases h10:l.getD i 0=10
   ·rw[if_pos (c10.2 h10),wr _ (by omega)]
    rw[if_pos h10]at hs
    exact⟨_,rfl,⟨i+1,by rw[hs]; simp,by omega⟩,by simp; omega⟩
   rw[if_neg (fun h=>h10 (c10.1 h))]
   rw[if_neg h10]at hs
   exact⟨_,rfl,⟨i+1,by rw[hs]; simp,by omega⟩,by simp; omega⟩
  have:i=k:=by omega
  subst this
  by_cases h3:(i:Int)<n
  ·rw[if_pos h3,if_neg (fun h=>hik (hk2.2 ⟨h3,h⟩))]
   exact⟨_,rfl,rfl⟩
  rw[if_neg h3]
  simp only[Bool.false_eq_true,if_false]
  exact⟨_,rfl,rfl⟩) (1,0) ⟨0,by simp[Jbb],by omega⟩
 rw[h1,h2]
theorem Jsh(A:List Nat)(k:Nat)(h:k<A.length)(d:Int):(ints A).getD k d=((A.getD k 0:Nat):Int):=by
 simp[ints,List.getD_eq_getElem?_getD,List.getElem?_eq_getElem h]
def Jn4(A:List Nat)(n:Int):Int:=if n<0∨(A.length:Int)≤n then -1 else((A.getD n.toNat 0:Nat):Int)
theorem JBI(T:List UInt8)(A:List Nat)(n:Int):XV ⟨T,ints A⟩ n=some (Jn4 A n):=by
 unfold XV Jn4
 simp only[JcC,ltI,leI,decide_eq_true_eq,Jd1]
 by_cases h1:n<0
 ·simp[h1]
 by_cases h2:(A.length:Int)≤n
 ·simp[h1,h2]
 rw[if_neg h1,if_neg h2,if_pos (by omega),if_neg (by omega),Jsh A _ (by omega)]
theorem Jkf:∀ (l:List UInt8) (k i:Nat),(∀ p∈sp k i l,i≤p.2∧p.2<i+l.length)∧((sp k i l).map (·.2)).Pairwise (· < ·)∧(sp k i l).length≤l.length
 | [],k,i=>by
  cases k <;> simp[sp]
 | c::r,k,i=>by
  have ih:=fun k=>Jkf r k (i+1)
  have up:∀ k,(∀ p∈sp k (i+1) r,i≤p.2∧p.2<i+(c::r).length)∧((sp k (i+1) r).map (·.2)).Pairwise (· < ·)∧(sp k (i+1) r).length≤(c::r).length:=fun k=>by
   obtain⟨h1,h2,h3⟩:=ih k
   refine⟨fun p hp=>?_,h2,by simp; omega⟩
   have:=h1 p hp
   simp; omega
  cases k with
  | succ k=>simp only[sp]; exact up k
  | zero =>
   simp only[sp]
   split
   ·exact up _
   split
   ·exact up _
   obtain⟨h1,h2,h3⟩:=ih 0
   refine⟨fun p hp=>?_,?_,by simp; omega⟩
   ·rcases List.mem_cons.1 hp with rfl | hp
    ·simp
    have:=h1 p hp
    simp; omega
   rw[List.map_cons,List.pairwise_cons]
   refine⟨fun q hq=>?_,h2⟩
   obtain⟨p,hp,rfl⟩:=List.mem_map.1 hq
   have:=h1 p hp
   show i<p.2
   omega
theorem JBD(l:List UInt8):∀ a∈JX l,a≤l.length:=by
 obtain⟨h1,_,_⟩:=Jkf l 0 0
 unfold JX spAt
 rw[List.drop_zero]
 intro a ha
 rcases List.mem_append.1 ha with ha | ha
 ·obtain⟨p,hp,rfl⟩:=List.mem_map.1 ha
  have:=h1 p hp
  omega
 simp only[List.mem_singleton]at ha
 omega
theorem Jmm(l:List UInt8):(JX l).length=(Jr l).length+1:=by
 simp[JX,Jr]
theorem JkL(l:List UInt8):(Jr l).length≤l.length:=by
 obtain⟨_,_,h3⟩:=Jkf l 0 0
 simpa [Jr,spAt] using h3
theorem Jyv(l:List UInt8)(i:Nat)(h:i+1<l.length):(l.drop i).take 2=[l.getD i 0,l.getD (i+1) 0]:=by
 rw[JE l i (by omega),JE l (i+1) h]; rfl
theorem JCz(l:List UInt8)(i:Nat)(h:i+2<l.length):(l.drop i).take 3=[l.getD i 0,l.getD (i+1) 0,l.getD (i+2) 0]:=by
 rw[JE l i (by omega),JE l (i+1) (by omega),JE l (i+2) h]; rfl
theorem JET(l:List UInt8)(i:Nat)(h:i<l.length):(l.drop i).take 1=[l.getD i 0]:=by
 rw[JE l i h]; rfl
theorem JEm(l:List UInt8)(i:Nat)(h:i+1<l.length)(h0:l.getD i 0=92)(h1:l.getD (i+1) 0=10):KA (l.drop i)=2:=by
 unfold KA; rw[Jyv l i h,h0,h1]; rfl
theorem JEP(l:List UInt8)(i:Nat)(h:i+2<l.length)(h0:l.getD i 0=92)(h1:l.getD (i+1) 0=13)(h2:l.getD (i+2) 0=10):KA (l.drop i)=3:=by
 unfold KA; rw[Jyv l i (by omega),JCz l i h,h0,h1,h2]; rfl
theorem JEE(l:List UInt8)(i:Nat)(h2:¬ (i+1<l.length∧l.getD i 0=92∧l.getD (i+1) 0=10))(h3:¬ (i+2<l.length∧l.getD i 0=92∧l.getD (i+1) 0=13∧l.getD (i+2) 0=10)):KA (l.drop i)=0:=by
 unfold KA
 split
 ·rename_i h
  have h1:i+1<l.length:=by
   have:=Jjj h
   simp at this; omega
  rw[Jyv l i h1]at h
  simp only[List.cons.injEq,and_true]at h
  exact(h2 ⟨h1,h⟩).elim
 split
 ·rename_i h
  have h1:i+2<l.length:=by
   have:=Jjj h
   simp at this; omega
  rw[JCz l i h1]at h
  simp only[List.cons.injEq,and_true]at h
  exact(h3 ⟨h1,h⟩).elim
 rfl
theorem Jmz(l:List UInt8)(i k:Nat):(l.drop i).getD k 0=l.getD (i+k) 0:=by
 simp[List.getD_eq_getElem?_getD]
def rsI(l:List UInt8)(s:Int×List UInt8×List UInt8×List Int):Prop :=
 ∃ (i:Nat) (T:List UInt8) (A:List Nat),s=((i:Int),[],T,ints A)∧i≤l.length∧spAt l 0=T.zip A++spAt l i∧T.length=A.length∧T.length≤i
theorem JyD(l:List UInt8)(hl:l.length≤1099511627776):Jbt l=some (spS l):=by
 unfold Jbt
 obtain⟨r,h1,h2⟩:=JBV (b:=JaZ l) (rsI l) (fun s=>l.length-s.1.toNat) (fun r=>r=spS l) (by
  rintro _ ⟨i,T,A,rfl,hi,hsp,hTA,hTi⟩
  simp only[JaZ,ltI,decide_eq_true_eq,Int.toNat_natCast]
  by_cases hil:i<l.length
  ·rw[if_pos (by omega),if_pos (by omega)]
   have hd:(List.drop i l).length=l.length-i:=by simp
   have g0:(List.drop i l).getD 0 0=l.getD i 0:=Jmz l i 0
   have g1:(List.drop i l).getD 1 0=l.getD (i+1) 0:=Jmz l i 1
   have g2:(List.drop i l).getD 2 0=l.getD (i+2) 0:=Jmz l i 2
   have c92:((l.getD i 0).toNat:Int)=92↔l.getD i 0=92:=u8i _ 92 (by decide)
   have c13:((l.getD i 0).toNat:Int)=13↔l.getD i 0=13:=u8i _ 13 (by decide)
   have d10:((l.getD (i+1) 0).toNat:Int)=10↔l.getD (i+1) 0=10:=u8i _ 10 (by decide)
   have d13:((l.getD (i+1) 0).toNat:Int)=13↔l.getD (i+1) 0=13:=u8i _ 13 (by decide)
   have e10:((l.getD (i+2) 0).toNat:Int)=10↔l.getD (i+2) 0=10:=u8i _ 10 (by decide)
   have skip:∀ k:Nat,0<k→i+k≤l.length→spAt l i=spAt l (i+k)→∃ o,KN [] ((i:Int)+(k:Int)-1,T,ints A)=some o∧Nxt (rsI l) (fun s=>l.length-s.1.toNat) (fun r=>r=spS l) (l.length-i) o:=fun k h0 hk he=>by
    simp only[KN]
    rw[wr _ (by omega)]
    refine⟨_,rfl,⟨i+k,T,A,?_,hk,by rw[hsp,he],hTA,by omega⟩,?_⟩
    ·simp <;> omega
    simp <;> omega
   have w1:IntKind.i64.wrap ((i:Int)+1)=(i:Int)+((2:Nat):Int)-1:=by rw[wr _ (by omega)]; omega
   have w2:IntKind.i64.wrap ((i:Int)+2)=(i:Int)+((3:Nat):Int)-1:=by rw[wr _ (by omega)]; omega
   have w0:(i:Int)=(i:Int)+((1:Nat):Int)-1:=by omega
   -- what is left behind the tests for joins
   have last:KA (l.drop i)=0→∃ o,KO (i:Int) [] T (ints A) (List.drop i l) false=some o∧Nxt (rsI l) (fun s=>l.length-s.1.toNat) (fun r=>r=spS l) (l.length-i) o:=fun hj=>by
    have plain:(¬ (l.getD i 0=13∧i+1<l.length∧l.getD (i+1) 0=10))→∃ o,Vk (i:Int) [] T (ints A) (List.drop i l) false=some o∧Nxt (rsI l) (fun s=>l.length-s.1.toNat) (fun r=>r=spS l) (l.length-i) o:=fun hn=>by
     simp only[Vk,Bool.false_eq_true,if_false]
     have b2:((ints A).length + [(i:Int)].length) * 8≤140737488355328:=by simp[Jd1]; omega
     rw[if_pos (by omega),if_pos (by simp; omega),if_pos b2,JET l i hil,Jr7]
     simp only[KN]
     rw[wr _ (by omega)]
     refine⟨_,rfl,⟨i+1,T++[l.getD i 0],A++[i],by simp,by omega,by rw[hsp,Jrg l i hil hj hn,List.zip_append hTA]; simp,by simp[hTA],by simp; omega⟩,by simp; omega⟩
    simp only[KO,Bool.false_eq_true,if_false,ltI,decide_eq_true_eq,eqI,g0,g1]
    by_cases hl1:i+1<l.length
    ·rw[if_pos (by omega),if_pos (by omega)]
     by_cases h13:l.getD i 0=13
     ·rw[if_pos (c13.2 h13),if_pos (by omega)]
      by_cases h10:l.getD (i+1) 0=10
      ·have:decide (((l.getD (i+1) 0).toNat:Int)=10)=true:=by simpa using d10.2 h10
       rw[this]
       simp only[Vk,if_true]
       rw[w0]
       exact skip 1 (by omega) (by omega) (Jxx l i hj h13 hl1 h10)
      have:decide (((l.getD (i+1) 0).toNat:Int)=10)=false:=by
       have:=fun h=>h10 (d10.1 h)
       simpa using this
      rw[this]
      exact plain (fun h=>h10 h.2.2)
     rw[if_neg (fun h=>h13 (c13.1 h))]
     exact plain (fun h=>h13 h.1)
    rw[if_neg (by omega)]
    exact plain (fun h=>hl1 h.2.1)
   -- the second test
   have second:¬ (i+1<l.length∧l.getD i 0=92∧l.getD (i+1) 0=10)→∃ o,Vj (i:Int) [] T (ints A) (List.drop i l,false)=some o∧Nxt (rsI l) (fun s=>l.length-s.1.toNat) (fun r=>r=spS l) (l.length-i) o:=fun hn=>by
    simp only[Vj,Bool.false_eq_true,if_false,ltI,decide_eq_true_eq,eqI,g0,g1,g2]
    have no:¬ (i+2<l.length∧l.getD i 0=92∧l.getD (i+1) 0=13∧l.getD (i+2) 0=10)→KA (l.drop i)=0:=JEE l i hn
    by_cases hl2:i+2<l.length
    ·rw[if_pos (by omega),if_pos (by omega)]
     by_cases h92:l.getD i 0=92
     ·rw[if_pos (c92.2 h92),if_pos (by omega)]
      by_cases h13:l.getD (i+1) 0=13
      ·rw[if_pos (d13.2 h13),if_pos (by omega)]
       by_cases h10:l.getD (i+2) 0=10
       ·have:decide (((l.getD (i+2) 0).toNat:Int)=10)=true:=by simpa using e10.2 h10
        rw[this]
        simp only[KO,if_true]
        rw[w2]
        have hj:=JEP l i hl2 h92 h13 h10
        have:=JlG l i (by omega)
        rw[hj]at this
        exact skip 3 (by omega) (by omega) this
       have:decide (((l.getD (i+2) 0).toNat:Int)=10)=false:=by
        have:=fun h=>h10 (e10.1 h)
        simpa using this
       rw[this]
       exact last (no fun h=>h10 h.2.2.2)
      rw[if_neg (fun h=>h13 (d13.1 h))]
      exact last (no fun h=>h13 h.2.2.1)
     rw[if_neg (fun h=>h92 (c92.1 h))]
     exact last (no fun h=>h92 h.2.1)
    rw[if_neg (by omega)]
    exact last (no fun h=>hl2 h.1)
   simp only[hd,g0,g1,eqI,decide_eq_true_eq]
   by_cases hl1:i+1<l.length
   ·rw[if_pos (by omega),if_pos (by omega)]
    by_cases h92:l.getD i 0=92
    ·rw[if_pos (c92.2 h92),if_pos (by omega)]
     by_cases h10:l.getD (i+1) 0=10
     ·have:decide (((l.getD (i+1) 0).toNat:Int)=10)=true:=by simpa using d10.2 h10
      rw[this]
      simp only[Vj,if_true]
      rw[w1]
      have hj:=JEm l i hl1 h92 h10
      have:=JlG l i (by omega)
      rw[hj]at this
      exact skip 2 (by omega) (by omega) this
     have:decide (((l.getD (i+1) 0).toNat:Int)=10)=false:=by
      have:=fun h=>h10 (d10.1 h)
      simpa using this
     rw[this]
     exact second (fun h=>h10 h.2.2)
    rw[if_neg (fun h=>h92 (c92.1 h))]
    exact second (fun h=>h92 h.2.1)
   rw[if_neg (by omega)]
   exact second (fun h=>hl1 h.1)
  have hil:i=l.length:=by omega
  rw[JvS l i (by omega),List.append_nil]at hsp
  rw[if_neg (by omega)]
  have e1:Jr l=T:=by unfold Jr; rw[hsp]; simp[List.map_fst_zip,hTA]
  have e2:JX l=A++[l.length]:=by unfold JX; rw[hsp]; simp[List.map_snd_zip,hTA]
  have b2:((ints A).length + [(l.length:Int)].length) * 8≤140737488355328:=by simp[Jd1]; omega
  rw[if_pos b2]
  refine⟨_,rfl,?_⟩
  show _=spS l
  simp[spS,e1,e2,ints]) (0,[],[],[]) ⟨0,[],[],by simp[ints],by omega,by simp,rfl,by simp⟩
 rw[h1,h2]
end Go.Proofs.YtfkhlbhjhdpkoaaGreatDoor
namespace Go.Proofs.YtfkhlbhjhdpkoaaGreatDoor
open Go.RowKit
def Jae(c:UInt8):Bool:=(decide (97≤c.toNat) && decide (c.toNat≤122)) || ((decide (65≤c.toNat) && decide (c.toNat≤90)) || decide (c.toNat=95))
def VL(c:UInt8):Bool:=decide (48≤c.toNat) && decide (c.toNat≤57)
def isWd(c:UInt8):Bool:=Jae c || VL c
def runN(p:UInt8→Bool)(l:List UInt8):Nat:=(l.takeWhile p).length
def Jf8(pr c:UInt8):Bool:=((decide (c=43) || decide (c=45)) && (decide (pr=101) || decide (pr=69))) || (decide (c=46) || isWd c)
def numN:UInt8→List UInt8→Nat
 | _,[]=>0
 | pr,c::r=>if Jf8 pr c=true then numN c r+1 else 0
def quoN(q:UInt8):List UInt8→Option Nat
 | []=>none
 | c::r=>if c=10 then none else if c=q then some 1 else if c=92 then(match r with | []=>none | d::r'=>if d=10 then none else(quoN q r').map (· + 2)) else(quoN q r).map (· + 1)
def Vc(l:List UInt8):Option Nat:=if(l.drop (runN (fun c=>decide (c≠62) && decide (c≠10)) l)).head? = some 62 then some (runN (fun c=>decide (c≠62) && decide (c≠10)) l+1) else none
def Jhj:List (List UInt8):=[[46,46,46],[60,60,61],[62,62,61]]
def Jf2:List (List UInt8):=[[45,62],[43,43],[45,45],[60,60],[62,62],[60,61],[62,61],[61,61],[33,61],[38,38],[124,124],[43,61],[45,61],[42,61],[47,61],[37,61],[38,61],[124,61],[94,61],[35,35]]
def Jfg:List (List UInt8):=[[91],[93],[40],[41],[123],[125],[46],[38],[42],[43],[45],[126],[33],[47],[37],[60],[62],[94],[124],[63],[58],[59],[61],[44],[35]]
def Vn:List (List UInt8):=Jhj++Jf2++Jfg
def KH(l:List UInt8):Nat:=if Jhj.contains (l.take 3)=true then 3 else if Jf2.contains (l.take 2)=true then 2 else if Jfg.contains (l.take 1)=true then 1 else 0
def Xa(l:List UInt8)(path:Bool):Int×Option Nat :=
 match l with
 | []=>(6,none)
 | c::r =>
  if Jae c=true then(1,some (runN isWd (c::r)))
  else if(VL c || (decide (c=46) && (r.head?.map VL).getD false))=true then(2,some (numN 0 (c::r)))
  else if c=34 then(4,(quoN 34 r).map (· + 1))
  else if c=39 then(3,(quoN 39 r).map (· + 1))
  else if c=60∧path=true∧(Vc r).isSome=true then(7,(Vc r).map (· + 1))
  else if 0<KH (c::r) then(5,some (KH (c::r)))
  else(6,some 1)
def isBl(c:UInt8):Bool:=decide (c=32) || (decide (c=9) || (decide (c=10) || decide (c=13)))
def KU(l:List UInt8):Nat:=runN (fun c=>decide (c≠10)) l
def endC:List UInt8→Option Nat
 | []=>none
 | c::r=>if c=42∧r.head? = some 47 then some 0 else(endC r).map (· + 1)
def skF:Nat→List UInt8→Nat×Bool×Bool
 | 0,_=>(0,false,true)
 | _+1,[]=>(0,false,true)
 | n+1,c::r =>
  if isBl c=true then((skF n r).1+1,decide (c=10) || (skF n r).2.1,(skF n r).2.2)
  else if c=47∧r.head? = some 47 then((skF n ((c::r).drop (KU (c::r)))).1+KU (c::r),(skF n ((c::r).drop (KU (c::r)))).2)
  else if c=47∧r.head? = some 42 then
   match endC (r.drop 1) with
   | none=>(0,false,false)
   | some j=>((skF n (r.drop (j+3))).1+(j+4),(skF n (r.drop (j+3))).2)
  else(0,false,true)
def skip(l:List UInt8):Nat×Bool×Bool:=skF l.length l
theorem Jjq:∀ {l:List UInt8} {j:Nat},endC l=some j→j+2≤l.length
 | [],j,h=>by cases h
 | c::r,j,h=>by
  simp only[endC]at h
  split at h
  ·rename_i hc
   cases r with
   | nil=>simp at hc
   | cons d r=>cases h; simp
  cases he:endC r with
  | none=>rw[he]at h; cases h
  | some k =>
   rw[he]at h
   simp only[Option.map_some,Option.some.injEq]at h
   have:=Jjq he
   simp only[List.length_cons]; omega
theorem JfV{c:UInt8}{r:List UInt8}(h:c≠10):0<KU (c::r):=by simp[KU,runN,List.takeWhile_cons,h]
theorem Jg2(p:UInt8→Bool)(l:List UInt8):runN p l≤l.length:=by
 unfold runN
 have:=(List.takeWhile_sublist p (l:=l)).length_le
 exact this
theorem Jgr:∀ (n m:Nat) (l:List UInt8),l.length≤n→l.length≤m→skF n l=skF m l
 | n,m,[],_,_=>by cases n <;> cases m <;> rfl
 | 0,_,c::r,h,_=>by simp at h
 | _,0,c::r,_,h=>by simp at h
 | n+1,m+1,c::r,h1,h2=>by
  simp only[List.length_cons]at h1 h2
  have e1:skF n r=skF m r:=Jgr n m r (by omega) (by omega)
  simp only[skF,e1]
  split
  ·rfl
  split
  ·rename_i hc
   have hp:=JfV (c:=c) (r:=r) (by rw[hc.1]; decide)
   have e2:skF n ((c::r).drop (KU (c::r)))=skF m ((c::r).drop (KU (c::r))):=Jgr n m _ (by simp; omega) (by simp; omega)
   rw[e2]
  split
  ·split
   ·rfl
   rename_i j hj
   have e3:skF n (r.drop (j+3))=skF m (r.drop (j+3)):=Jgr n m _ (by simp; omega) (by simp; omega)
   rw[e3]
  rfl
theorem JnV:skip []=(0,false,true):=rfl
theorem JfU{c:UInt8}{r:List UInt8}(h:isBl c=true):skip (c::r)=((skip r).1+1,decide (c=10) || (skip r).2.1,(skip r).2.2):=by
 unfold skip
 simp only[List.length_cons,skF,h,if_true]
theorem JiT{r:List UInt8}(h:r.head? = some 47):skip (47::r)=((skip ((47::r).drop (KU (47::r)))).1+KU (47::r),(skip ((47::r).drop (KU (47::r)))).2):=by
 have hp:=JfV (c:=47) (r:=r) (by decide)
 have e:skF r.length ((47::r).drop (KU (47::r)))=skip ((47::r).drop (KU (47::r))):=Jgr _ _ _ (by simp; omega) (Nat.le_refl _)
 conv=>lhs; unfold skip
 simp only[List.length_cons,skF,h,and_self,if_true,e]
 rfl
theorem JiL{r:List UInt8}{j:Nat}(h:r.head? = some 42)(hj:endC (r.drop 1)=some j):skip (47::r)=((skip (r.drop (j+3))).1+(j+4),(skip (r.drop (j+3))).2):=by
 have e:skF r.length (r.drop (j+3))=skip (r.drop (j+3)):=Jgr _ _ _ (by simp) (Nat.le_refl _)
 conv=>lhs; unfold skip
 simp only[List.length_cons,skF,h,hj,e]
 rfl
theorem JmG{r:List UInt8}(h:r.head? = some 42)(hj:endC (r.drop 1)=none):skip (47::r)=(0,false,false):=by
 conv=>lhs; unfold skip
 simp only[List.length_cons,skF,h,hj]
 rfl
theorem JiQ{c:UInt8}{r:List UInt8}(h:isBl c=false)(h1:¬ (c=47∧r.head? = some 47))(h2:¬ (c=47∧r.head? = some 42)):skip (c::r)=(0,false,true):=by
 unfold skip
 simp only[List.length_cons,skF,h,h1,h2,if_false,Bool.false_eq_true]
theorem Jjz:∀ (n:Nat) (l:List UInt8),l.length≤n→(skip l).1≤l.length
 | _,[],_=>by simp[JnV]
 | 0,c::r,h=>by simp at h
 | n+1,c::r,h=>by
  simp only[List.length_cons]at h
  by_cases hb:isBl c=true
  ·rw[JfU hb]
   have:=Jjz n r (by omega)
   simp only[List.length_cons]; omega
  by_cases h1:c=47∧r.head? = some 47
  ·obtain⟨rfl,h1⟩:=h1
   rw[JiT h1]
   have hp:=JfV (c:=47) (r:=r) (by decide)
   have hl:=Jg2 (fun c=>decide (c≠10)) (47::r)
   have:=Jjz n ((47::r).drop (KU (47::r))) (by simp; omega)
   simp only[List.length_drop,List.length_cons]at this hl ⊢
   unfold KU at *
   omega
  by_cases h2:c=47∧r.head? = some 42
  ·obtain⟨rfl,h2⟩:=h2
   cases hj:endC (r.drop 1) with
   | none=>rw[JmG h2 hj]; simp
   | some j =>
    rw[JiL h2 hj]
    have hl:=Jjq hj
    have:=Jjz n (r.drop (j+3)) (by simp; omega)
    simp only[List.length_drop,List.length_cons]at this hl ⊢
    omega
  rw[JiQ (by simpa using hb) h1 h2]; simp
structure Raw where
 kind:Int
 pos:Nat
 len:Nat
 sp:Bool
 fst:Bool
 txt:List UInt8
 deriving DecidableEq
def incT:List UInt8:=[105,110,99,108,117,100,101]
def Jee(st:Nat)(txt:List UInt8)(fst:Bool):Nat:=if fst=true∧txt=[35] then 1 else if st=1∧fst=false∧txt=incT then 2 else 0
def lxF:Nat→List UInt8→Nat→Nat→Bool→List Raw×Option Nat
 | 0,_,_,_,_=>([],none)
 | n+1,l,i,st,f0 =>
  if(skip l).2.2=false then([],some (i+(skip l).1)) else
  if l.drop (skip l).1=[] then([],none) else
  match Xa (l.drop (skip l).1) (!(f0 || (skip l).2.1) && decide (st=2)) with
  | (_,none)=>([],some (i+(skip l).1))
  | (kind,some m) =>
   let t:=(l.drop (skip l).1).take m
   let x:=lxF n ((l.drop (skip l).1).drop m) (i+(skip l).1+m) (Jee st t (f0 || (skip l).2.1)) false
   (⟨kind,i+(skip l).1,m,decide (0<(skip l).1),f0 || (skip l).2.1,t⟩::x.1,x.2)
theorem Jge(l:List UInt8):KH l≤l.length:=by
 have key:∀ (S:List (List UInt8)) (k:Nat),(∀ s∈S,s.length=k)→S.contains (l.take k)=true→k≤l.length:=fun S k hS hc=>by
  have hm:l.take k∈S:=by simpa using hc
  have:=hS _ hm
  simp at this; omega
 unfold KH
 split
 ·exact key Jhj 3 (by decide) (by assumption)
 split
 ·exact key Jf2 2 (by decide) (by assumption)
 split
 ·exact key Jfg 1 (by decide) (by assumption)
 omega
theorem Jp4:∀ (pr:UInt8) (l:List UInt8),numN pr l≤l.length
 | _,[]=>by simp[numN]
 | pr,c::r=>by
  simp only[numN]
  split
  ·have:=Jp4 c r; simp; omega
  simp
theorem Jm1(q:UInt8):∀ (n:Nat) (l:List UInt8),l.length≤n→∀ m,quoN q l=some m→0<m∧m≤l.length
 | _,[],_,m,h=>by simp[quoN]at h
 | 0,c::r,h,_,_=>by simp at h
 | n+1,c::r,hn,m,h=>by
  simp only[List.length_cons]at hn
  unfold quoN at h
  split at h
  ·cases h
  split at h
  ·cases h; simp
  split at h
  ·cases r with
   | nil=>cases h
   | cons d r' =>
    simp only at h
    split at h
    ·cases h
    cases hq:quoN q r' with
    | none=>rw[hq]at h; cases h
    | some k =>
     rw[hq]at h
     cases h
     simp only[List.length_cons]at hn
     have:=Jm1 q n r' (by omega) k hq
     simp; omega
  cases hq:quoN q r with
  | none=>rw[hq]at h; cases h
  | some k =>
   rw[hq]at h
   cases h
   have:=Jm1 q n r (by omega) k hq
   simp; omega
theorem JBi{l:List UInt8}{m:Nat}(h:Vc l=some m):0<m∧m≤l.length:=by
 unfold Vc at h
 split at h
 ·rename_i hh
  cases h
  refine⟨by omega,?_⟩
  have hlt:runN (fun c=>decide (c≠62) && decide (c≠10)) l<l.length:=by
   rcases Nat.lt_or_ge (runN (fun c=>decide (c≠62) && decide (c≠10)) l) l.length with h | h
   ·exact h
   rw[List.drop_of_length_le h]at hh; cases hh
  omega
 cases h
theorem Jib{l:List UInt8}{path:Bool}{k:Int}{m:Nat}(h:Xa l path=(k,some m)):0<m∧m≤l.length:=by
 unfold Xa at h
 split at h
 ·cases h
 rename_i c r
 split at h
 ·rename_i hc
  cases h
  refine⟨?_,Jg2 _ _⟩
  simp[runN,List.takeWhile_cons,isWd,hc]
 split at h
 ·rename_i hc
  cases h
  refine⟨?_,Jp4 _ _⟩
  have:Jf8 0 c=true:=by
   simp only[Bool.or_eq_true,Bool.and_eq_true,decide_eq_true_eq]at hc
   unfold Jf8 isWd
   rcases hc with hc | ⟨hc,_⟩ <;> simp[hc]
  simp[numN,this]
 split at h
 ·simp only[Prod.mk.injEq]at h
  cases hq:quoN 34 r with
  | none=>rw[hq]at h; cases h.2
  | some j =>
   rw[hq]at h
   have:=Jm1 34 r.length r (Nat.le_refl _) j hq
   obtain⟨_,h⟩:=h
   cases h
   simp; omega
 split at h
 ·simp only[Prod.mk.injEq]at h
  cases hq:quoN 39 r with
  | none=>rw[hq]at h; cases h.2
  | some j =>
   rw[hq]at h
   have:=Jm1 39 r.length r (Nat.le_refl _) j hq
   obtain⟨_,h⟩:=h
   cases h
   simp; omega
 split at h
 ·simp only[Prod.mk.injEq]at h
  cases hq:Vc r with
  | none=>rw[hq]at h; cases h.2
  | some j =>
   rw[hq]at h
   have:=JBi hq
   obtain⟨_,h⟩:=h
   cases h
   simp; omega
 split at h
 ·cases h
  exact⟨by assumption,Jge _⟩
 cases h; simp
def tokOf(file:Int)(text:List UInt8)(r:Raw):Token :=
 ⟨r.kind,r.txt,r.sp,r.fst,file,(((JX text).getD r.pos 0:Nat):Int),(((JX text).getD (r.pos+r.len-1) 0+1:Nat):Int),((Jbb text ((JX text).getD r.pos 0):Nat):Int),[],[],0⟩
def raws(text:List UInt8):List Raw×Option Nat:=lxF ((Jr text).length+1) (Jr text) 0 0 true
def Kt(file:Int)(text:List UInt8):List Token×Fault :=
 if 3000<text.length then([],⟨4,file,0⟩) else
 match raws text with
 | (ts,none)=>(ts.map (tokOf file text),⟨0,-1,0⟩)
 | (_,some p)=>([],⟨9,file,(((JX text).getD p 0:Nat):Int)⟩)
end Go.Proofs.YtfkhlbhjhdpkoaaGreatDoor
namespace Go.Proofs.YtfkhlbhjhdpkoaaGreatDoor
open Go.RowKit
theorem chr(c m:UInt8)(n:Int)(h:(m.toNat:Int)=n):eqI (c.toNat:Int) n=decide (c=m):=by
 unfold eqI
 by_cases hc:c=m
 ·subst hc; simp[h]
 have:¬ (c.toNat:Int)=n:=fun h2=>hc (UInt8.toNat_inj.1 (by omega))
 simp[hc,this]
theorem chr2(c m:UInt8):eqI (c.toNat:Int) (m.toNat:Int)=decide (c=m):=chr c m _ rfl
theorem wN1(k:Nat)(h:k≤4611686018427387904):IntKind.i64.wrap ((k:Int)+1)=((k+1:Nat):Int):=by rw[wr _ (by omega)]; omega
theorem wN2(k:Nat)(h:k≤4611686018427387904):IntKind.i64.wrap ((k:Int)+2)=((k+2:Nat):Int):=by rw[wr _ (by omega)]; omega
theorem wNm(k:Nat)(h:0<k∧k≤4611686018427387904):IntKind.i64.wrap ((k:Int)-1)=((k-1:Nat):Int):=by rw[wr _ (by omega)]; omega
theorem JiK(c:UInt8):Jcq c=some (Jae c):=by
 unfold Jcq Jae
 simp only[VK,leI,eqI,decide_eq_true_eq]
 repeat' split
 all_goals (simp only[Option.some.injEq]; rw[Bool.eq_iff_iff]; simp; try omega)
theorem JjP(c:UInt8):Jcx c=some (VL c):=by
 unfold Jcx VL
 simp only[Jei,leI,decide_eq_true_eq]
 repeat' split
 all_goals (simp only[Option.some.injEq]; rw[Bool.eq_iff_iff]; simp; try omega)
theorem JEW(c:UInt8):Jat c=some (isWd c):=by
 unfold Jat isWd
 simp only[JiK,JjP,Option.bind_some,Z6]
 by_cases h:Jae c=true <;> simp[h]
theorem Jdn{R:Type}{b:Int→Option (Int ⊕ R)}(u:List UInt8)(p:UInt8→Bool)(f:Nat→R)
  (hb:∀ k:Nat,k≤u.length→b (k:Int)=if k<u.length∧p (u.getD k 0)=true then some (.inl ((k+1:Nat):Int)) else some (.inr (f k))) :
  ∀ (n k:Nat),k≤u.length→u.length-k≤n→Jv b (k:Int)=some (f (k+runN p (u.drop k)))
 | 0,k,hk,hn=>by
  have:k=u.length:=by omega
  subst this
  rw[J4,hb _ hk,if_neg (by simp)]
  simp[runN]
 | n+1,k,hk,hn=>by
  rw[J4,hb k hk]
  by_cases h:k<u.length
  ·rw[JE u k h]
   by_cases hp:p (u.getD k 0)=true
   ·rw[if_pos ⟨h,hp⟩]
    simp only
    rw[Jdn u p f hb n (k+1) (by omega) (by omega)]
    simp only[runN,List.takeWhile_cons,hp,if_true,List.length_cons]
    congr 2; omega
   rw[if_neg (fun h=>hp h.2)]
   simp only[runN,List.takeWhile_cons,hp,if_false,List.length_nil,Nat.add_zero,Bool.false_eq_true]
  rw[if_neg (fun h'=>h h'.1),List.drop_of_length_le (by omega)]
  simp[runN]
theorem Jrz{A R:Type} [Inhabited A] {b:Int×Int→Option ((Int×Int) ⊕ R)} (l:List A) (p:A→Bool) (f:A→R) (d:R)
  (hb:∀ j:Nat,j≤l.length→b ((l.length:Int),(j:Int))=if j<l.length then(if p (l.getD j default)=true then some (.inr (f (l.getD j default))) else some (.inl ((l.length:Int),((j+1:Nat):Int)))) else some (.inr d)) :
  ∀ (n j:Nat),j≤l.length→l.length-j≤n→Jv b ((l.length:Int),(j:Int))=some (((l.drop j).find? p).elim d f)
 | 0,j,hj,hn=>by
  have:j=l.length:=by omega
  subst this
  rw[J4,hb _ hj,if_neg (by simp)]
  simp
 | n+1,j,hj,hn=>by
  rw[J4,hb j hj]
  by_cases h:j<l.length
  ·have e:l.drop j=l.getD j default::l.drop (j+1):=by rw[List.drop_eq_getElem_cons h]; simp[List.getD_eq_getElem?_getD,List.getElem?_eq_getElem h]
   rw[if_pos h,e,List.find?_cons]
   by_cases hp:p (l.getD j default)=true
   ·rw[if_pos hp,hp]; rfl
   rw[if_neg hp]
   simp only
   rw[Jrz l p f d hb n (j+1) (by omega) (by omega)]
   have hp:p (l.getD j default)=false:=by simpa using hp
   rw[hp]
  rw[if_neg h,List.drop_of_length_le (by omega)]
  rfl
section
variable (x:Spliced) (txt:List UInt8) (file:Int) (out:List Token)
theorem Jy1(a:Int)(hx:x.Text.length≤1099511627776)(k:Nat)(hk:k≤x.Text.length):Z0 (k:Int) x.Text x.At txt file a out=some ((k+runN isWd (x.Text.drop k):Nat):Int):=by
 unfold Z0
 refine Jdn x.Text isWd (fun k=>((k:Nat):Int)) (fun k hk=>?_) _ k hk (Nat.le_refl _)
 simp only[Jap,Xy,ltI,decide_eq_true_eq,Int.toNat_natCast,JEW,Option.bind_some,inrO]
 by_cases h:k<x.Text.length
 ·rw[if_pos (by omega),if_pos (by omega),wN1 k (by omega)]
  by_cases hp:isWd (x.Text.getD k 0)=true <;> simp[h,hp]
 rw[if_neg (by omega)]; simp[h]
theorem JyN(a:Int)(hx:x.Text.length≤1099511627776)(k:Nat)(hk:k≤x.Text.length):Jcz (k:Int) x.Text x.At txt file a out=some ((k+KU (x.Text.drop k):Nat):Int):=by
 unfold Jcz
 refine Jdn x.Text (fun c=>decide (c≠10)) (fun k=>((k:Nat):Int)) (fun k hk=>?_) _ k hk (Nat.le_refl _)
 simp only[Jcm,Jad,JaQ,ltI,decide_eq_true_eq,Int.toNat_natCast,Option.bind_some,inrO,chr _ 10 10 rfl]
 by_cases h:k<x.Text.length
 ·rw[if_pos (by omega),if_pos (by omega),wN1 k (by omega)]
  generalize x.Text.getD k 0=c
  by_cases hp:c=10
  ·rw[hp]; simp
  simp[hp,h]
 rw[if_neg (by omega)]; simp[h]
theorem JwT(a:Int)(hx:x.Text.length≤1099511627776)(k:Nat)(hk:k≤x.Text.length):Jac (k:Int) x.Text x.At txt file a out=some ((k+runN (fun c=>decide (c≠62) && decide (c≠10)) (x.Text.drop k):Nat):Int):=by
 unfold Jac
 refine Jdn x.Text (fun c=>decide (c≠62) && decide (c≠10)) (fun k=>((k:Nat):Int)) (fun k hk=>?_) _ k hk (Nat.le_refl _)
 simp only[Jao,Xw,JbM,Zr,ltI,decide_eq_true_eq,Int.toNat_natCast,inrO,chr _ 10 10 rfl,chr _ 62 62 rfl]
 by_cases h:k<x.Text.length
 ·rw[if_pos (by omega),if_pos (by omega),wN1 k (by omega)]
  generalize x.Text.getD k 0=c
  by_cases hp:c=10
  ·rw[hp]; simp
  by_cases hq:c=62
  ·rw[hq]; simp
  simp[hp,hq,h]
 rw[if_neg (by omega)]; simp[h]
def optI(k:Nat):Option Nat→Int
 | none=>-1
 | some m=>((k+m:Nat):Int)
def JhH(u:List UInt8)(i k:Nat):UInt8:=if i<k then u.getD (k-1) 0 else 0
theorem JnH{R:Type}{b:Int→Option (Int ⊕ R)}(u:List UInt8)(i:Nat)(f:Nat→R)
  (hb:∀ k:Nat,i≤k→k≤u.length→b (k:Int)=if k<u.length∧Jf8 (JhH u i k) (u.getD k 0)=true then some (.inl ((k+1:Nat):Int)) else some (.inr (f k))) :
  ∀ (n k:Nat),i≤k→k≤u.length→u.length-k≤n→Jv b (k:Int)=some (f (k+numN (JhH u i k) (u.drop k)))
 | 0,k,hi,hk,hn=>by
  have:k=u.length:=by omega
  subst this
  rw[J4,hb _ hi hk,if_neg (by simp)]
  simp[numN]
 | n+1,k,hi,hk,hn=>by
  rw[J4,hb k hi hk]
  by_cases h:k<u.length
  ·rw[JE u k h]
   by_cases hp:Jf8 (JhH u i k) (u.getD k 0)=true
   ·rw[if_pos ⟨h,hp⟩]
    simp only
    rw[JnH u i f hb n (k+1) (by omega) (by omega) (by omega)]
    have e:JhH u i (k+1)=u.getD k 0:=by unfold JhH; rw[if_pos (by omega)]; rfl
    simp only[numN,hp,if_true,e]
    congr 2; omega
   rw[if_neg (fun h=>hp h.2)]
   simp only[numN,hp,if_false,Nat.add_zero,Bool.false_eq_true]
  rw[if_neg (fun h'=>h h'.1),List.drop_of_length_le (by omega)]
  simp[numN]
theorem JAG(hx:x.Text.length≤1099511627776)(i:Nat)(hi:i≤x.Text.length):JbO x.Text x.At txt file (i:Int) out=some ((i+numN 0 (x.Text.drop i):Nat):Int):=by
 unfold JbO
 have:=JnH (b:=Zu x.Text (i:Int)) x.Text i (fun k=>((k:Nat):Int)) (fun k hik hk=>?_) _ i (Nat.le_refl _) hi (Nat.le_refl _)
 ·rw[this]; simp[JhH]
 simp only[Zu,Zs,J2,V2,ltI,decide_eq_true_eq,Int.toNat_natCast,inrO,JiK,JjP,Option.bind_some,chr _ 43 43 rfl,chr _ 45 45 rfl,chr _ 46 46 rfl]
 by_cases h:k<x.Text.length
 ·rw[if_pos (by omega),if_pos (by omega),wN1 k (by omega)]
  have hk1:i<k→(0:Int)≤((k-1:Nat):Int)∧k-1<x.Text.length:=fun _=>by omega
  unfold JhH
  generalize x.Text.getD k 0=c
  by_cases hik2:i<k
  ·simp only[wNm k (by omega),Int.toNat_natCast,chr _ 101 101 rfl,chr _ 69 69 rfl,decide_eq_true_eq]
   rw[if_pos (show(i:Int)<(k:Int) by omega),if_pos (hk1 hik2),if_pos (hk1 hik2),if_pos hik2]
   unfold Jf8 isWd
   generalize x.Text.getD (k-1) 0=pr
   generalize Jae c=e
   generalize VL c=g
   generalize hd:decide (c=46)=d
   by_cases h43:c=43
   ·have:d=false:=by rw[← hd,h43]; rfl
    subst this
    by_cases h101:pr=101 <;> by_cases h69:pr=69 <;> cases e <;> cases g <;> simp[h,h43,h101,h69]
   by_cases h45:c=45
   ·have:d=false:=by rw[← hd,h45]; rfl
    subst this
    by_cases h101:pr=101 <;> by_cases h69:pr=69 <;> cases e <;> cases g <;> simp[h,h43,h45,h101,h69]
   clear hd
   cases d <;> cases e <;> cases g <;> simp[h,h43,h45]
  rw[if_neg (show ¬ (i:Int)<(k:Int) by omega),if_neg hik2]
  unfold Jf8 isWd
  generalize Jae c=e
  generalize VL c=g
  generalize hd:decide (c=46)=d
  by_cases h43:c=43
  ·have:d=false:=by rw[← hd,h43]; rfl
   subst this
   cases e <;> cases g <;> simp[h,h43]
  by_cases h45:c=45
  ·have:d=false:=by rw[← hd,h45]; rfl
   subst this
   cases e <;> cases g <;> simp[h,h43,h45]
  clear hd
  cases d <;> cases e <;> cases g <;> simp[h,h43,h45]
 rw[if_neg (by omega)]; simp[h]
end
end Go.Proofs.YtfkhlbhjhdpkoaaGreatDoor
namespace Go.Proofs.YtfkhlbhjhdpkoaaGreatDoor
open Go.RowKit
theorem Jdj{u:List UInt8}{k:Nat}(h:k<u.length):(u.drop k).head? = some (u.getD k 0):=by rw[JE u k h]; rfl
theorem drop_nil{u:List UInt8}{k:Nat}(h:¬ k<u.length):u.drop k=[]:=List.drop_of_length_le (by omega)
theorem JiO(q c:UInt8)(r:List UInt8):quoN q (c::r)=if c=10 then none else if c=q then some 1 else if c=92 then(match r with | []=>none | d::r'=>if d=10 then none else(quoN q r').map (· + 2)) else(quoN q r).map (· + 1):=by
 conv=>lhs; unfold quoN
 all_goals rfl
theorem Jir{R:Type}{b:(UInt8×Int)→Option ((UInt8×Int) ⊕ R)}(u:List UInt8)(q:UInt8)(f:Option Nat→R)
  (hb:∀ k:Nat,k≤u.length→b (q,(k:Int))=if k<u.length∧u.getD k 0≠10 then(if u.getD k 0=q then some (.inr (f (some (k+1)))) else if u.getD k 0=92∧k+1<u.length∧u.getD (k+1) 0≠10 then some (.inl (q,((k+2:Nat):Int))) else some (.inl (q,((k+1:Nat):Int)))) else some (.inr (f none))) :
  ∀ (n k:Nat),k≤u.length→u.length-k≤n→Jv b (q,(k:Int))=some (f ((quoN q (u.drop k)).map (k + ·)))
 | n,k,hk,hn=>by
  rw[J4,hb k hk]
  by_cases h:k<u.length
  ·rw[JE u k h,JiO]
   by_cases h10:u.getD k 0=10
   ·rw[if_neg (fun hh=>hh.2 h10),if_pos h10]
    rfl
   rw[if_pos ⟨h,h10⟩,if_neg h10]
   by_cases hq:u.getD k 0=q
   ·rw[if_pos hq,if_pos hq]
    rfl
   rw[if_neg hq,if_neg hq]
   cases n with
   | zero=>omega
   | succ n =>
    by_cases h92:u.getD k 0=92
    ·rw[if_pos h92]
     by_cases h2:k+1<u.length∧u.getD (k+1) 0≠10
     ·rw[if_pos ⟨h92,h2⟩]
      simp only
      rw[Jir u q f hb n (k+2) (by omega) (by omega)]
      rw[JE u (k+1) h2.1]
      simp only
      rw[if_neg h2.2]
      cases quoN q (u.drop (k+1+1)) with
      | none=>rfl
      | some a=>simp only[Option.map_some]; rw[show k+2+a=k+(a+2) by omega]
     rw[if_neg (fun hh=>h2 hh.2)]
     simp only
     rw[Jir u q f hb n (k+1) (by omega) (by omega)]
     by_cases h3:k+1<u.length
     ·have h4:u.getD (k+1) 0=10:=by
       by_cases h5:u.getD (k+1) 0=10
       ·exact h5
       exact absurd ⟨h3,h5⟩ h2
      rw[JE u (k+1) h3,JiO,if_pos h4]
      simp only
      rw[if_pos h4]
      rfl
     rw[drop_nil h3]; rfl
    rw[if_neg (fun hh=>h92 hh.1),if_neg h92]
    simp only
    rw[Jir u q f hb n (k+1) (by omega) (by omega)]
    cases quoN q (u.drop (k+1)) with
    | none=>rfl
    | some a=>simp only[Option.map_some]; rw[show k+1+a=k+(a+1) by omega]
  rw[if_neg (fun hh=>h hh.1),drop_nil h]
  rfl
section
variable (x:Spliced) (txt:List UInt8) (file:Int) (out:List Token)
theorem JCi(i j:Nat)(o:Option Nat):optI i (o.map (j + ·))=optI (i+j) o:=by
 cases o <;> simp[optI]; omega
theorem JzK(hx:x.Text.length≤1099511627776)(i:Nat)(hi:i<x.Text.length)(q:UInt8):ZF q x.Text x.At txt file (i:Int) out=some (optI i ((quoN q (x.Text.drop (i+1))).map (· + 1))):=by
 unfold ZF
 rw[wN1 i (by omega)]
 have:=Jir (b:=Zt x.Text) x.Text q (optI 0) (fun k hk=>?_) _ (i+1) (by omega) (Nat.le_refl _)
 ·rw[this,JCi]
  cases quoN q (x.Text.drop (i+1)) <;> simp[optI]
  omega
 simp only[Zt,Zz,V3,Zv,ltI,decide_eq_true_eq,Int.toNat_natCast,inrO,chr _ 10 10 rfl,chr _ 92 92 rfl,chr2]
 by_cases h:k<x.Text.length
 ·rw[if_pos (show(k:Int)<x.Text.length by omega),if_pos (show(0:Int)≤k∧k<x.Text.length by omega)]
  simp only[wN1 k (by omega),Int.toNat_natCast]
  generalize x.Text.getD k 0=c
  by_cases h10:c=10
  ·simp[h10,optI]
  rw[if_pos (show(!decide (c=10))=true by simp[h10]),if_pos (show(0:Int)≤k∧k<x.Text.length by omega),if_pos (show k<x.Text.length∧c≠10 from⟨h,h10⟩)]
  by_cases hq:c=q
  ·simp[hq,optI]
  rw[if_neg hq,if_neg hq]
  by_cases h92:c=92
  ·by_cases h3:k+1<x.Text.length
   ·rw[if_pos h92,if_pos (show((k+1:Nat):Int)<x.Text.length by omega),if_pos (show(0:Int)≤((k+1:Nat):Int)∧k+1<x.Text.length by omega)]
    generalize x.Text.getD (k+1) 0=d
    by_cases hd:d=10
    ·simp[h92,hd]
    rw[if_pos (show(!decide (d=10))=true by simp[hd]),if_pos (show c=92∧k+1<x.Text.length∧d≠10 from⟨h92,h3,hd⟩),wN1 (k+1) (by omega)]
   rw[if_pos h92,if_neg (show ¬ ((k+1:Nat):Int)<x.Text.length by omega),if_neg (show ¬ (c=92∧k+1<x.Text.length∧x.Text.getD (k+1) 0≠10) by omega)]
   simp
  simp[h92]
 rw[if_neg (show ¬ (k:Int)<x.Text.length by omega)]
 simp[h,optI]
def VV(out:List Token):Bool :=
 match out.reverse with
 | b::a::_=>decide (b.Text=incT) && (!b.First && (a.First && decide (a.Text=[35])))
 | _=>false
theorem Jvy(out:List Token)(h:2≤out.length):∃ l a b,out=l++[a,b]∧out.getD (out.length-1) default=b∧out.getD (out.length-2) default=a∧VV out=(decide (b.Text=incT) && (!b.First && (a.First && decide (a.Text=[35])))):=by
 rcases List.eq_nil_or_concat out with rfl | ⟨l1,b,rfl⟩
 ·simp at h
 rcases List.eq_nil_or_concat l1 with rfl | ⟨l,a,rfl⟩
 ·simp at h
 refine⟨l,a,b,by simp,?_,?_,?_⟩
 ·simp[List.getD_eq_getElem?_getD]
 ·simp[List.getD_eq_getElem?_getD]
 simp[VV]
theorem JDn(hx:x.Text.length≤1099511627776)(ho:out.length≤1099511627776)(i:Nat)(hi:i<x.Text.length):Jbr x.Text x.At txt file (i:Int) out=some (if VV out=true then optI i ((Vc (x.Text.drop (i+1))).map (· + 1)) else -1):=by
 have key:JY x.Text x.At txt file (i:Int) out false=some (optI i ((Vc (x.Text.drop (i+1))).map (· + 1))):=by
  simp only[JY,Bool.false_eq_true,if_false]
  rw[wN1 i (by omega),JwT x txt file out _ hx (i+1) (by omega)]
  simp only[Option.bind_some,Vc]
  have hr:=Jg2 (fun c=>decide (c≠62) && decide (c≠10)) (x.Text.drop (i+1))
  generalize runN (fun c=>decide (c≠62) && decide (c≠10)) (x.Text.drop (i+1))=r at hr
  rw[List.length_drop]at hr
  rw[List.drop_drop]
  simp only[ltI,decide_eq_true_eq,Int.toNat_natCast,JaM,chr _ 62 62 rfl]
  by_cases h:i+1+r<x.Text.length
  ·rw[if_pos (by omega),if_pos (by omega),Jdj h,wN1 (i+1+r) (by omega)]
   simp only[Option.some.injEq]
   by_cases h62:x.Text.getD (i+1+r) 0=62
   ·rw[if_pos h62,if_pos h62]
    simp[optI]; omega
   rw[if_neg h62,if_neg h62]; rfl
  rw[if_neg (by omega),drop_nil h]
  simp[optI]
 unfold Jbr
 simp only[ltI,decide_eq_true_eq]
 by_cases h2:out.length<2
 ·rw[if_pos (by omega)]
  have:VV out=false:=by
   match out,h2 with
   | [],_=>rfl
   | [_],_=>rfl
   | _::_::_,h=>simp at h; omega
  simp[JY,this]
 obtain⟨l,a,b,ho2,hb,ha,hp⟩:=Jvy out (by omega)
 have e1:IntKind.i64.wrap ((out.length:Int)-1)=((out.length-1:Nat):Int):=wNm _ (by omega)
 have e2:IntKind.i64.wrap ((out.length:Int)-2)=((out.length-2:Nat):Int):=by rw[wr _ (by omega)]; omega
 rw[if_neg (by omega)]
 simp only[e1,e2,Int.toNat_natCast,hb,ha]
 have g1:(0:Int)≤((out.length-1:Nat):Int)∧out.length-1<out.length:=by omega
 have g2:(0:Int)≤((out.length-2:Nat):Int)∧out.length-2<out.length:=by omega
 rw[if_pos g1,if_pos g1,if_pos g2,if_pos g2,hp]
 simp only[eqS,incT]
 have kt:JY x.Text x.At txt file (i:Int) out true=some (-1):=by simp[JY]
 by_cases q1:b.Text=[105,110,99,108,117,100,101]
 ·cases hb1:b.First
  ·cases ha1:a.First
   ·simp[q1,kt]
   by_cases q2:a.Text=[35]
   ·simp[q1,q2,key]
   simp[q1,q2,kt]
  simp[q1,kt]
 simp[q1,kt]
theorem JnS(S:List (List UInt8))(k:Nat)(hS:∀ s∈S,s.length=k)(l:List UInt8):S.find? (fun s=>decide (l.take s.length=s))=if S.contains (l.take k)=true then some (l.take k) else none:=by
 induction S with
 | nil=>simp
 | cons s S ih =>
  have h1:=hS s (by simp)
  rw[List.find?_cons,ih (fun s hs=>hS s (by simp[hs])),h1]
  by_cases h:l.take k=s
  ·simp[h]
  have h':¬ s=l.take k:=fun e=>h e.symm
  simp[h,h']
theorem JyU(l:List UInt8):Vn.find? (fun s=>decide (l.take s.length=s))=if 0<KH l then some (l.take (KH l)) else none:=by
 unfold Vn
 rw[List.find?_append,List.find?_append,JnS Jhj 3 (by decide),JnS Jf2 2 (by decide),JnS Jfg 1 (by decide)]
 unfold KH
 split
 ·simp
 split
 ·simp
 split <;> simp
theorem JEd:Jhs=some Vn:=rfl
theorem JDJ(hx:x.Text.length≤1099511627776)(i:Nat)(hi:i<x.Text.length):Jbs x.Text x.At txt file (i:Int) out=some (if 0<KH (x.Text.drop i) then((i+KH (x.Text.drop i):Nat):Int) else -1):=by
 unfold Jbs
 rw[JEd]
 simp only[Option.bind_some]
 have hlen:∀ s∈Vn,s.length≤3:=by decide
 have:=Jrz (b:=JaP x.Text (i:Int) Vn) Vn (fun s=>decide ((x.Text.drop i).take s.length=s)) (fun s=>((i+s.length:Nat):Int)) (-1) (fun j hj=>?_) _ 0 (Nat.zero_le _) (Nat.le_refl _)
 ·rw[show((0:Nat):Int)=0 from rfl]at this
  rw[this,List.drop_zero,JyU]
  have hl:=Jge (x.Text.drop i)
  by_cases h:0<KH (x.Text.drop i)
  ·rw[if_pos h,if_pos h]
   simp only[Option.elim_some,List.length_take]
   rw[Nat.min_eq_left hl]
  rw[if_neg h,if_neg h]
  rfl
 have hs48:Vn.length=47+1:=rfl
 simp only[JaP,JaR,ltI,leI,eqS,decide_eq_true_eq,Int.toNat_natCast,inrO]
 by_cases h:j<Vn.length
 ·rw[if_pos (by omega),if_pos (by omega),if_pos h,wN1 j (by omega)]
  have h3:(Vn.getD j default).length≤3:=hlen _ (by simp[List.getD_eq_getElem?_getD,List.getElem?_eq_getElem h])
  generalize Vn.getD j default=s at h3
  rw[show IntKind.i64.wrap ((x.Text.length:Int)-(i:Int))=((x.Text.length-i:Nat):Int) by rw[wr _ (by omega)]; omega,
   show IntKind.i64.wrap ((i:Int)+(s.length:Int))=((i+s.length:Nat):Int) by rw[wr _ (by omega)]; omega]
  by_cases hl:s.length≤x.Text.length-i
  ·rw[if_pos (by omega),if_pos (by omega)]
   simp only[Int.toNat_natCast,show i+s.length-i=s.length by omega]
   by_cases ht:(x.Text.drop i).take s.length=s
   ·simp[ht]
   simp[ht]
  rw[if_neg (by omega)]
  have ht:¬ (x.Text.drop i).take s.length=s:=fun e=>by
   have:=congrArg List.length e
   simp at this; omega
  simp[ht]
 rw[if_neg (by omega),if_neg h]; simp
theorem Jba(c:UInt8)(r:List UInt8)(path:Bool):Xa (c::r) path=(if Jae c=true then(1,some (runN isWd (c::r)))
  else if(VL c || (decide (c=46) && (r.head?.map VL).getD false))=true then(2,some (numN 0 (c::r)))
  else if c=34 then(4,(quoN 34 r).map (· + 1))
  else if c=39 then(3,(quoN 39 r).map (· + 1))
  else if c=60∧path=true∧(Vc r).isSome=true then(7,(Vc r).map (· + 1))
  else if 0<KH (c::r) then(5,some (KH (c::r)))
  else(6,some 1)):=rfl
theorem JEK(hx:x.Text.length≤1099511627776)(ho:out.length≤1099511627776)(i:Nat)(hi:i<x.Text.length)(first:Bool):
  Jb5 first x.Text x.At txt file (i:Int) out=some ((Xa (x.Text.drop i) (!first && VV out)).1,optI i (Xa (x.Text.drop i) (!first && VV out)).2):=by
 have hd:=JE x.Text i hi
 have e1:=Jy1 x txt file out (i:Int) hx i (by omega)
 have e2:=JAG x txt file out hx i (by omega)
 have e3:=JzK x txt file out hx i hi
 have e4:=JDn x txt file out hx ho i hi
 have e5:=JDJ x txt file out hx i hi
 have e6:(x.Text.drop (i+1)).head? = if i+1<x.Text.length then some (x.Text.getD (i+1) 0) else none:=by
  by_cases h:i+1<x.Text.length
  ·rw[if_pos h,Jdj h]
  rw[if_neg h,drop_nil h]; rfl
 unfold Jb5
 simp only[Int.toNat_natCast,JiK,JjP,Option.bind_some]
 rw[if_pos (show(0:Int)≤(i:Int)∧i<x.Text.length by omega),e1,wN1 i (by omega)]
 simp only[Option.bind_some,Int.toNat_natCast,ltI,decide_eq_true_eq,chr _ 46 46 rfl]
 rw[hd]at e1 e2 e5 ⊢
 generalize x.Text.getD i 0=c at *
 generalize x.Text.drop (i+1)=r at *
 -- behind what is no letter
 have j2:∀ p:Bool,p=(decide (c=60) && (!first && VV out) && (Vc r).isSome)→Jae c=false→(VL c || (decide (c=46) && ((r.head?.map VL).getD false)))=false→c≠34→c≠39 →
   Xi x.Text x.At txt file (i:Int) out p=some ((Xa (c::r) (!first && VV out)).1,optI i (Xa (c::r) (!first && VV out)).2):=fun p hp h1 h2 h3 h4=>by
  simp only[Xi,e4,e5,Option.bind_some]
  have hpc:Xa (c::r) (!first && VV out)=(if c=60∧(!first && VV out)=true∧(Vc r).isSome=true then(7,(Vc r).map (· + 1)) else if 0<KH (c::r) then(5,some (KH (c::r))) else(6,some 1)):=by
   rw[Jba,h1,h2,if_neg (by decide),if_neg (by decide),if_neg h3,if_neg h4]
  rw[hpc]
  cases hpp:p
  ·rw[hpp]at hp
   have hn:¬ (c=60∧(!first && VV out)=true∧(Vc r).isSome=true):=fun⟨a,b,d⟩=>by rw[a,b,d]at hp; exact absurd hp (by decide)
   rw[if_neg hn,if_neg (by decide)]
   simp only[ltI,decide_eq_true_eq]
   by_cases hs:0<KH (c::r)
   ·rw[if_pos hs,if_pos hs,if_pos (by omega)]; rfl
   rw[if_neg hs,if_neg hs,if_neg (by omega)]; rw[wN1 i (by omega)]; rfl
  rw[hpp]at hp
  have hp:=hp.symm
  simp only[Bool.and_eq_true,decide_eq_true_eq]at hp
  rw[if_pos rfl,if_pos (show c=60∧(!first && VV out)=true∧(Vc r).isSome=true from⟨hp.1.1,by simp[hp.1.2],hp.2⟩),if_pos hp.1.2.2]
 have j1:∀ p:Bool,p=(VL c || (decide (c=46) && ((r.head?.map VL).getD false)))→Jae c=false →
   VG first x.Text x.At txt file (i:Int) out (c,p)=some ((Xa (c::r) (!first && VV out)).1,optI i (Xa (c::r) (!first && VV out)).2):=fun p hp h1=>by
  simp only[VG,e2,e3,chr _ 34 34 rfl,chr _ 39 39 rfl,chr _ 60 60 rfl,decide_eq_true_eq,Option.bind_some]
  cases hpp:p
  ·rw[hpp]at hp
   have hp:=hp.symm
   rw[if_neg (by decide)]
   by_cases h34:c=34
   ·rw[if_pos h34,Jba,h1,hp,if_neg (by decide),if_neg (by decide),if_pos h34,h34]
   rw[if_neg h34]
   by_cases h39:c=39
   ·rw[if_pos h39,Jba,h1,hp,if_neg (by decide),if_neg (by decide),if_neg h34,if_pos h39,h39]
   rw[if_neg h39]
   by_cases h60:c=60
   ·rw[if_pos h60]
    cases hf:first
    ·rw[if_pos (by decide)]
     simp only[e4,Option.bind_some]
     have:=j2 (ltI 0 (if VV out=true then optI i ((Vc r).map (· + 1)) else -1)) (by
      rw[hf]
      cases hpo:VV out
      ·simp[ltI]
      cases hpn:Vc r <;> simp[ltI,optI,h60]
      omega) h1 hp h34 h39
     rw[hf]at this
     exact this
    have:=j2 false (by rw[hf]; simp) h1 hp h34 h39
    rw[hf]at this
    rw[if_neg (by decide)]
    exact this
   rw[if_neg h60]
   exact j2 false (by simp[h60]) h1 hp h34 h39
  rw[hpp]at hp
  have hp:=hp.symm
  rw[if_pos rfl,Jba,h1,hp,if_neg (by decide),if_pos rfl]
  rfl
 by_cases h1:Jae c=true
 ·rw[if_pos h1,Jba,if_pos h1]
  rfl
 have h1:Jae c=false:=by simpa using h1
 rw[h1,if_neg (by decide)]
 by_cases h2:VL c=true
 ·rw[if_pos h2]
  exact j1 true (by simp[h2]) h1
 have h2:VL c=false:=by simpa using h2
 rw[h2,if_neg (by decide)]
 by_cases h46:c=46
 ·rw[if_pos h46]
  by_cases h3:i+1<x.Text.length
  ·rw[if_pos (by omega),if_pos (by omega)]
   exact j1 _ (by rw[h2,h46,e6,if_pos h3]; simp) h1
  rw[if_neg (by omega)]
  exact j1 _ (by rw[h2,e6,if_neg h3]; simp) h1
 rw[if_neg h46]
 exact j1 _ (by rw[h2]; simp[h46]) h1
end
end Go.Proofs.YtfkhlbhjhdpkoaaGreatDoor
namespace Go.Proofs.YtfkhlbhjhdpkoaaGreatDoor
open Go.RowKit
theorem Jma{R:Type}{b:Int→Option (Int ⊕ R)}(u:List UInt8)(f:Option Nat→R)
  (hb:∀ k:Nat,k≤u.length→b (k:Int)=if k+1<u.length∧¬ (u.getD k 0=42∧u.getD (k+1) 0=47) then some (.inl ((k+1:Nat):Int)) else some (.inr (f (if k+1<u.length then some k else none)))) :
  ∀ (n k:Nat),k≤u.length→u.length-k≤n→Jv b (k:Int)=some (f ((endC (u.drop k)).map (k + ·)))
 | n,k,hk,hn=>by
  rw[J4,hb k hk]
  by_cases h:k+1<u.length
  ·have e:=JE u k (by omega)
   have e2:=JE u (k+1) h
   rw[e]
   by_cases h2:u.getD k 0=42∧u.getD (k+1) 0=47
   ·rw[if_neg (fun hh=>hh.2 h2),if_pos h]
    rw[e2]
    simp only[endC,List.head?_cons,h2,and_self,if_true,Option.map_some,Nat.add_zero]
   rw[if_pos ⟨h,h2⟩]
   cases n with
   | zero=>omega
   | succ n =>
    simp only
    rw[Jma u f hb n (k+1) (by omega) (by omega)]
    have:¬ (u.getD k 0=42∧(u.drop (k+1)).head? = some 47):=by
     rw[Jdj h]; simpa using h2
    rw[endC,if_neg this]
    cases endC (u.drop (k+1)) with
    | none=>rfl
    | some a=>simp only[Option.map_some]; rw[show k+1+a=k+(a+1) by omega]
  rw[if_neg (fun hh=>h hh.1),if_neg h]
  have:endC (u.drop k)=none:=by
   cases he:endC (u.drop k) with
   | none=>rfl
   | some j=>have:=Jjq he; simp at this; omega
  rw[this]
  rfl
def JR(u:List UInt8)(k:Nat)(feed:Bool):Nat×Bool×Bool:=(k+(skip (u.drop k)).1,feed || (skip (u.drop k)).2.1,(skip (u.drop k)).2.2)
theorem Jwi{u:List UInt8}{k:Nat}(h:k<u.length)(hb:isBl (u.getD k 0)=true)(feed:Bool):JR u k feed=JR u (k+1) (feed || decide (u.getD k 0=10)):=by
 unfold JR
 rw[JE u k h,JfU hb,Bool.or_assoc]
 simp only[Prod.mk.injEq,and_true]
 omega
theorem JpN{u:List UInt8}{k:Nat}(h:k+1<u.length)(h1:u.getD k 0=47)(h2:u.getD (k+1) 0=47)(feed:Bool):JR u k feed=JR u (k+KU (u.drop k)) feed:=by
 unfold JR
 have e:=JE u k (by omega)
 rw[e,h1,JiT (by rw[Jdj h,h2]),← h1,← e,List.drop_drop]
 simp only[Prod.mk.injEq,and_true]
 omega
theorem Jo8{u:List UInt8}{k j:Nat}(h:k+1<u.length)(h1:u.getD k 0=47)(h2:u.getD (k+1) 0=42)(hj:endC (u.drop (k+2))=some j)(feed:Bool):JR u k feed=JR u (k+2+j+2) feed:=by
 unfold JR
 have e:=JE u k (by omega)
 rw[e,h1,JiL (j:=j) (by rw[Jdj h,h2]) (by rw[List.drop_drop]; exact hj),List.drop_drop]
 rw[show k+1+(j+3)=k+2+j+2 by omega]
 simp only[Prod.mk.injEq,and_true]
 omega
theorem Jn6{u:List UInt8}{k:Nat}(h:k+1<u.length)(h1:u.getD k 0=47)(h2:u.getD (k+1) 0=42)(hj:endC (u.drop (k+2))=none)(feed:Bool):JR u k feed=(k,feed,false):=by
 unfold JR
 have e:=JE u k (by omega)
 rw[e,h1,JmG (by rw[Jdj h,h2]) (by rw[List.drop_drop]; exact hj)]
 simp
theorem Jkt{u:List UInt8}{k:Nat}(h:k<u.length)(hb:isBl (u.getD k 0)=false)(h1:¬ (u.getD k 0=47∧k+1<u.length∧u.getD (k+1) 0=47))(h2:¬ (u.getD k 0=47∧k+1<u.length∧u.getD (k+1) 0=42))(feed:Bool):JR u k feed=(k,feed,true):=by
 unfold JR
 have key:∀ d,(u.drop (k+1)).head? = some d→k+1<u.length∧u.getD (k+1) 0=d:=fun d hd=>by
  by_cases h3:k+1<u.length
  ·rw[Jdj h3]at hd; exact⟨h3,by simpa using hd⟩
  rw[drop_nil h3]at hd; cases hd
 rw[JE u k h,JiQ hb (fun⟨a,b⟩=>h1 ⟨a,key _ b⟩) (fun⟨a,b⟩=>h2 ⟨a,key _ b⟩)]
 simp
theorem Jrd{u:List UInt8}{k:Nat}(h:¬ k<u.length)(feed:Bool):JR u k feed=(k,feed,true):=by
 unfold JR
 rw[drop_nil h]
 simp[JnV]
noncomputable def KV{S R:Type}(b:S→Option (S ⊕ R)):Option (S ⊕ R)→Option R
 | none=>none
 | some (.inl s')=>Jv b s'
 | some (.inr r)=>some r
theorem VN{S R:Type}(b:S→Option (S ⊕ R))(s:S):Jv b s=KV b (b s):=by
 rw[J4]
 cases b s with
 | none=>rfl
 | some o=>cases o <;> rfl
section
variable (x:Spliced) (txt:List UInt8) (file:Int) (out:List Token)
theorem Jv3(hx:x.Text.length≤1099511627776)(a i:Nat)(hi:i≤x.Text.length):
  ∀ (n k:Nat) (some0 feed:Bool),k≤x.Text.length→x.Text.length-k≤n→Jv (K3 x.Text x.At txt file out) (some0,feed,(k:Int)) =
   some (some0 || decide (k<(JR x.Text k feed).1),(JR x.Text k feed).2.1,(JR x.Text k feed).2.2,((JR x.Text k feed).1:Int))
 | n,k,some0,feed,hk,hn=>by
  rw[VN]
  have next:∀ (k':Nat) (feed':Bool),k<k'→k'≤x.Text.length→JR x.Text k feed=JR x.Text k' feed'→Jv (K3 x.Text x.At txt file out) (true,feed',(k':Int)) =
    some (some0 || decide (k<(JR x.Text k feed).1),(JR x.Text k feed).2.1,(JR x.Text k feed).2.2,((JR x.Text k feed).1:Int)):=fun k' feed' h1 h2 h3=>by
   cases n with
   | zero=>omega
   | succ n =>
    rw[Jv3 hx a i hi n k' true feed' h2 (by omega),h3]
    have:k'≤(JR x.Text k' feed').1:=by unfold JR; simp
    have h4:decide (k<(JR x.Text k' feed').1)=true:=by simp; omega
    rw[h4]
    simp
  by_cases h:k<x.Text.length
  ·simp only[K3,ltI,decide_eq_true_eq,Int.toNat_natCast,chr _ 32 32 rfl,chr _ 9 9 rfl,chr _ 10 10 rfl,chr _ 13 13 rfl]
   rw[if_pos (show(k:Int)<x.Text.length by omega),if_pos (show(0:Int)≤k∧k<x.Text.length by omega)]
   -- blank,or not
   have j3:∀ p:Bool,p=isBl (x.Text.getD k 0)→KV (K3 x.Text x.At txt file out) (KY x.Text x.At txt file out some0 feed (k:Int) (x.Text.getD k 0,p)) =
     some (some0 || decide (k<(JR x.Text k feed).1),(JR x.Text k feed).2.1,(JR x.Text k feed).2.2,((JR x.Text k feed).1:Int)):=fun p hp=>by
    simp only[KY,Jaa,Xp,Xr,Vu,ltI,decide_eq_true_eq,Int.toNat_natCast,chr _ 10 10 rfl,chr _ 47 47 rfl,chr _ 42 42 rfl,wN1 k (by omega),wN2 k (by omega),inrO]
    cases hpp:p
    ·rw[hpp]at hp
     have hp:=hp.symm
     rw[if_neg (by decide)]
     have stop:¬ (x.Text.getD k 0=47∧k+1<x.Text.length∧x.Text.getD (k+1) 0=47)→¬ (x.Text.getD k 0=47∧k+1<x.Text.length∧x.Text.getD (k+1) 0=42) →
       some (some0,feed,true,(k:Int))=some (some0 || decide (k<(JR x.Text k feed).1),(JR x.Text k feed).2.1,(JR x.Text k feed).2.2,((JR x.Text k feed).1:Int)):=fun h1 h2=>by
      rw[Jkt h hp h1 h2]; simp
     by_cases h47:x.Text.getD k 0=47
     ·by_cases h2:k+1<x.Text.length
      ·by_cases h3:x.Text.getD (k+1) 0=47
       ·rw[if_pos h47,if_pos (show((k+1:Nat):Int)<x.Text.length by omega),if_pos (show(0:Int)≤((k+1:Nat):Int)∧k+1<x.Text.length by omega),if_pos h3,JyN x txt file out _ hx k (by omega)]
        simp only[Option.bind_some,KV]
        have hl:=Jg2 (fun c=>decide (c≠10)) (x.Text.drop k)
        have hp2:0<KU (x.Text.drop k):=by rw[JE x.Text k h]; exact JfV (by rw[h47]; decide)
        rw[List.length_drop]at hl
        exact next _ _ (by omega) (by unfold KU; omega) (JpN h2 h47 h3 feed)
       by_cases h4:x.Text.getD (k+1) 0=42
       ·rw[if_pos h47,if_pos (show((k+1:Nat):Int)<x.Text.length by omega),if_pos (show(0:Int)≤((k+1:Nat):Int)∧k+1<x.Text.length by omega),if_neg h3,if_pos (show((k+1:Nat):Int)<x.Text.length by omega),if_pos (show(0:Int)≤((k+1:Nat):Int)∧k+1<x.Text.length by omega),if_pos h47,if_pos h4]
        have:=Jma (b:=Z9 x.Text some0 feed (k:Int)) x.Text (fun o=>match o with | none=>Sum.inr (some0,feed,false,(k:Int)) | some e=>Sum.inl (true,feed,((e+2:Nat):Int))) (fun m hm=>?_) _ (k+2) (by omega) (Nat.le_refl _)
        ·rw[this]
         cases hj:endC (x.Text.drop (k+2)) with
         | none =>
          simp only[Option.map_none,KV]
          rw[Jn6 h2 h47 h4 hj]
          simp
         | some j =>
          simp only[Option.map_some,KV]
          have:=Jjq hj
          rw[List.length_drop]at this
          exact next _ _ (by omega) (by omega) (Jo8 h2 h47 h4 hj feed)
        simp only[Z9,ZW,Vu,ltI,leI,eqS,decide_eq_true_eq,Int.toNat_natCast,wN1 m (by omega),wN2 m (by omega),inrO]
        by_cases hm2:m+1<x.Text.length
        ·rw[if_pos (show((m+1:Nat):Int)<x.Text.length by omega),if_pos (show(0:Int)≤(m:Int)∧(m:Int)≤((m+2:Nat):Int)∧((m+2:Nat):Int)≤x.Text.length by omega)]
         rw[show m+2-m=2 by omega,JE x.Text m (by omega),JE x.Text (m+1) hm2]
         simp only[List.take_succ_cons,List.take_zero]
         generalize x.Text.getD m 0=c
         generalize x.Text.getD (m+1) 0=d
         rw[if_neg (show ¬ (x.Text.length:Int)≤((m+1:Nat):Int) by omega)]
         by_cases hcd:c=42∧d=47
         ·obtain⟨rfl,rfl⟩:=hcd
          simp[hm2]
         have:¬ [c,d]=[42,47]:=fun hh=>hcd (by simpa using hh)
         simp[this,hm2,hcd]
        rw[if_neg (show ¬ ((m+1:Nat):Int)<x.Text.length by omega),if_neg (by decide),if_pos (show(x.Text.length:Int)≤((m+1:Nat):Int) by omega),if_neg (fun hh=>hm2 hh.1),if_neg hm2]
        rfl
       rw[if_pos h47,if_pos (show((k+1:Nat):Int)<x.Text.length by omega),if_pos (show(0:Int)≤((k+1:Nat):Int)∧k+1<x.Text.length by omega),if_neg h3,if_pos (show((k+1:Nat):Int)<x.Text.length by omega),if_pos (show(0:Int)≤((k+1:Nat):Int)∧k+1<x.Text.length by omega),if_pos h47,if_neg h4]
       simp only[Option.map_some,KV]
       exact stop (fun hh=>h3 hh.2.2) (fun hh=>h4 hh.2.2)
      rw[if_pos h47,if_neg (show ¬ ((k+1:Nat):Int)<x.Text.length by omega),if_neg (by decide),if_pos h47,if_neg (show ¬ ((k+1:Nat):Int)<x.Text.length by omega),if_neg (by decide)]
      simp only[Option.map_some,KV]
      exact stop (fun hh=>h2 hh.2.1) (fun hh=>h2 hh.2.1)
     rw[if_neg h47,if_neg (by decide),if_neg h47,if_neg (by decide)]
     simp only[Option.map_some,KV]
     exact stop (fun hh=>h47 hh.1) (fun hh=>h47 hh.1)
    rw[hpp]at hp
    have hp:=hp.symm
    rw[if_pos rfl]
    have e:=Jwi h hp feed
    cases feed
    ·rw[if_neg (by decide)]
     exact next (k+1) _ (by omega) (by omega) (by simpa using e)
    rw[if_pos rfl]
    exact next (k+1) _ (by omega) (by omega) (by simpa using e)
   unfold isBl at j3
   generalize x.Text.getD k 0=c at j3 ⊢
   by_cases h32:c=32
   ·rw[if_pos h32]; exact j3 true (by simp[h32])
   rw[if_neg h32]
   by_cases h9:c=9
   ·rw[if_pos h9]; exact j3 true (by simp[h9])
   rw[if_neg h9]
   by_cases h10:c=10
   ·rw[if_pos h10]; exact j3 true (by simp[h10])
   rw[if_neg h10]; exact j3 _ (by simp[h32,h9,h10])
  rw[Jrd h]
  simp only[K3,ltI,decide_eq_true_eq,inrO]
  rw[if_neg (show ¬ (k:Int)<x.Text.length by omega)]
  simp[KV]
end
end Go.Proofs.YtfkhlbhjhdpkoaaGreatDoor
namespace Go.Proofs.YtfkhlbhjhdpkoaaGreatDoor
open Go.RowKit
def V6(t:Token):Bool:=t.First && decide (t.Text=[35])
def stOf(out:List Token):Nat :=
 match out.reverse with
 | []=>0
 | b::rest=>if V6 b=true then 1 else if((rest.head?.map V6).getD false && (!b.First && decide (b.Text=incT)))=true then 2 else 0
theorem JrK(out:List Token):VV out=decide (stOf out=2):=by
 rw[Bool.eq_iff_iff,decide_eq_true_iff]
 unfold VV stOf
 cases out.reverse with
 | nil=>simp
 | cons b rest =>
  cases rest with
  | nil =>
   show(false:Bool)=true↔(if V6 b=true then 1 else if(false && (!b.First && decide (b.Text=incT)))=true then 2 else 0)=2
   by_cases hb:V6 b=true <;> simp[hb]
  | cons a rest =>
   show _↔(if V6 b=true then 1 else if(V6 a && (!b.First && decide (b.Text=incT)))=true then 2 else 0)=2
   by_cases h1:b.Text=incT
   ·have hb:V6 b=false:=by unfold V6; rw[h1]; simp[incT]
    rw[hb]
    unfold V6
    cases hbf:b.First <;> cases haf:a.First <;> simp[h1,hbf,haf]
   by_cases hb:V6 b=true <;> simp[h1,hb]
theorem Js1(out:List Token)(t:Token):stOf (out++[t])=Jee (stOf out) t.Text t.First:=by
 have e:stOf (out++[t])=if V6 t=true then 1 else if((out.reverse.head?.map V6).getD false && (!t.First && decide (t.Text=incT)))=true then 2 else 0:=by
  unfold stOf
  rw[List.reverse_append]
  rfl
 have e1:(out.reverse.head?.map V6).getD false=true↔stOf out=1:=by
  unfold stOf
  cases out.reverse with
  | nil=>simp
  | cons a rest =>
   show V6 a=true↔(if V6 a=true then 1 else if((rest.head?.map V6).getD false && (!a.First && decide (a.Text=incT)))=true then 2 else 0)=1
   by_cases ha:V6 a=true
   ·simp[ha]
   simp only[ha,if_false,Bool.false_eq_true,false_iff]
   split <;> simp
 rw[e]
 unfold Jee
 by_cases ht:t.First=true∧t.Text=[35]
 ·have:V6 t=true:=by unfold V6; simp[ht]
  rw[if_pos this,if_pos ht]
 have:¬ V6 t=true:=by
  unfold V6
  intro h
  simp only[Bool.and_eq_true,decide_eq_true_eq]at h
  exact ht h
 rw[if_neg this,if_neg ht]
 by_cases h:stOf out=1∧t.First=false∧t.Text=incT
 ·rw[if_pos h,if_pos (by rw[e1.2 h.1]; simp[h.2])]
 rw[if_neg h,if_neg]
 intro hh
 simp only[Bool.and_eq_true,Bool.not_eq_true',decide_eq_true_eq]at hh
 exact h ⟨e1.1 hh.1,hh.2⟩
def finV(file:Int)(text:List UInt8)(out:List Token):List Raw×Option Nat→List Token×Fault
 | (ts,none)=>(out++ts.map (tokOf file text),⟨0,-1,0⟩)
 | (_,some p)=>([],⟨9,file,(((JX text).getD p 0:Nat):Int)⟩)
theorem JtR(file:Int)(text:List UInt8)(out:List Token)(t:Raw)(x:List Raw×Option Nat):finV file text (out++[tokOf file text t]) x=finV file text out (t::x.1,x.2):=by
 obtain⟨ts,_ | p⟩:=x <;> simp[finV]
theorem JAE(A:List Nat)(p:Nat)(h:p<A.length):Jn4 A (p:Int)=((A.getD p 0:Nat):Int):=by
 unfold Jn4
 rw[if_neg (by omega)]; simp
theorem Jkr(text:List UInt8)(p:Nat)(h:p<(JX text).length):(JX text).getD p 0≤text.length:=by
 have:(JX text).getD p 0∈JX text:=by simp[List.getD_eq_getElem?_getD,List.getElem?_eq_getElem h]
 exact JBD text _ this
theorem JhK(text:List UInt8):(Jr text).length≤text.length:=by
 have h:=(Jkf text 0 0).2.2
 unfold Jr spAt
 simpa using h
theorem Jv1(file:Int)(text:List UInt8)(ht:text.length≤3000):∀ (n i:Nat) (out:List Token),i≤(Jr text).length→(Jr text).length-i<n→out.length+((Jr text).length-i)≤100000 →
  Jv (Jb2 file text (spS text)) ((i:Int),out)=some (finV file text out (lxF n ((Jr text).drop i) i (stOf out) (out.isEmpty)))
 | 0,i,out,_,h,_=>by omega
 | n+1,i,out,hi,hn,ho=>by
  have hu:=JhK text
  have hA:=Jmm text
  have e1:=Jv3 (spS text) text file out (by show(Jr text).length≤_; omega) i i hi _ i false false hi (Nat.le_refl _)
  have hsk:=Jjz _ ((Jr text).drop i) (Nat.le_refl _)
  rw[List.length_drop]at hsk
  have hxT:(spS text).Text=Jr text:=rfl
  have hxA:(spS text).At=ints (JX text):=rfl
  have hres:JR (Jr text) i false=(i+(skip ((Jr text).drop i)).1,(skip ((Jr text).drop i)).2.1,(skip ((Jr text).drop i)).2.2):=by unfold JR; simp
  rw[hxT,hres]at e1
  simp only[Bool.false_or]at e1
  have e2:Jef (spS text).Text (spS text).At text file (i:Int) out=_:=e1
  rw[VN]
  simp only[Jb2,e2,Option.bind_some,lxF]
  have hdk:decide (i<i+(skip ((Jr text).drop i)).1)=decide (0<(skip ((Jr text).drop i)).1):=by congr 1; simp
  rw[hdk]
  generalize hk:(skip ((Jr text).drop i)).1=k at hsk
  generalize hf:(skip ((Jr text).drop i)).2.1=feed
  generalize hok:(skip ((Jr text).drop i)).2.2=ok
  have hwh:∀ p:Nat,p<(JX text).length→XV (spS text) (p:Int)=some (((JX text).getD p 0:Nat):Int):=fun p hp=>by
   have:=JBI (Jr text) (JX text) (p:Int)
   rw[JAE _ _ hp]at this
   exact this
  cases ok
  ·simp only[Bool.not_false,if_true,inrO]
   rw[hwh _ (by omega)]
   rfl
  simp only[Bool.not_true,Bool.false_eq_true,if_false,eqI,decide_eq_true_eq,Bool.true_eq_false]
  rw[hxT,List.drop_drop]
  by_cases hend:i+k=(Jr text).length
  ·rw[if_pos (by omega),if_pos (List.drop_of_length_le (by omega))]
   simp[inrO,KV,finV]
  have hlt:i+k<(Jr text).length:=by omega
  rw[if_neg (show ¬ ((i+k:Nat):Int)=((Jr text).length:Int) by omega),if_neg (show ¬ (Jr text).drop (i+k)=[] from fun h=>by have:=congrArg List.length h; simp at this; omega)]
  have hone:=JEK (spS text) text file out (by rw[hxT]; omega) (by omega) (i+k) (by rw[hxT]; exact hlt)
  rw[hxT]at hone
  have j2:∀ first:Bool,first=(out.isEmpty || feed)→KV (Jb2 file text (spS text)) (Jb6 file text (spS text) out (decide (0<k),feed,true,((i+k:Nat):Int)) first) =
    some (finV file text out (match Xa ((Jr text).drop (i+k)) (!(out.isEmpty || feed) && decide (stOf out=2)) with
     | (_,none)=>([],some (i+k))
     | (kind,some m) =>
      let t:=((Jr text).drop (i+k)).take m
      let x:=lxF n (((Jr text).drop (i+k)).drop m) (i+k+m) (Jee (stOf out) t (out.isEmpty || feed)) false
      (⟨kind,i+k,m,decide (0<k),out.isEmpty || feed,t⟩::x.1,x.2))):=fun first hfirst=>by
   simp only[Jb6]
   rw[hwh _ (by omega)]
   simp only[Option.bind_some]
   rw[show Jb5 first (spS text).Text (spS text).At text file ((i+k:Nat):Int) out=_ from hone first]
   simp only[Option.bind_some]
   rw[hfirst,JrK]
   generalize hp:Xa ((Jr text).drop (i+k)) (!(out.isEmpty || feed) && decide (stOf out=2))=pc
   obtain⟨kind,m⟩:=pc
   cases m with
   | none=>simp[optI,ltI,inrO,KV,finV]
   | some m =>
    obtain⟨m1,m2⟩:=Jib hp
    rw[List.length_drop]at m2
    have hlt0:ltI (optI (i+k) (some m)) 0=false:=decide_eq_false (show ¬ (((i+k+m:Nat):Int)<0) by omega)
    have hoI:optI (i+k) (some m)=((i+k+m:Nat):Int):=rfl
    simp only[hlt0,Bool.false_eq_true,if_false]
    rw[hoI]
    rw[hxT]
    rw[if_pos (show(0:Int)≤((i+k:Nat):Int)∧((i+k:Nat):Int)≤((i+k+m:Nat):Int)∧((i+k+m:Nat):Int)≤(Jr text).length by omega)]
    rw[wNm (i+k+m) (by omega),hwh _ (by omega)]
    simp only[Option.bind_some]
    have hA1:=Jkr text (i+k) (by omega)
    have hA2:=Jkr text (i+k+m-1) (by omega)
    rw[JA7 text _ (by omega)]
    simp only[Option.bind_some]
    have hkAt:kAt text (((JX text).getD (i+k) 0:Nat):Int)=(JX text).getD (i+k) 0:=by unfold kAt; rw[Int.toNat_natCast]; omega
    rw[hkAt,if_pos (by simp; omega)]
    rw[wN1 _ (by omega)]
    simp only[Int.toNat_natCast,show i+k+m-(i+k)=m by omega,KV]
    have htok:(⟨kind,List.take m (List.drop (i+k) (Jr text)),decide (0<k),out.isEmpty || feed,file,(((JX text).getD (i+k) 0:Nat):Int),(((JX text).getD (i+k+m-1) 0+1:Nat):Int),((Jbb text ((JX text).getD (i+k) 0):Nat):Int),[],[],0⟩:Token)=tokOf file text ⟨kind,i+k,m,decide (0<k),out.isEmpty || feed,List.take m (List.drop (i+k) (Jr text))⟩:=rfl
    rw[htok,Jv1 file text ht n (i+k+m) _ (by omega) (by omega) (by simp; omega),JtR,Js1,List.drop_drop]
    have hne:(out++[tokOf file text ⟨kind,i+k,m,decide (0<k),out.isEmpty || feed,List.take m (List.drop (i+k) (Jr text))⟩]).isEmpty=false:=by simp
    rw[hne]
    rfl
  by_cases ho0:out=[]
  ·subst ho0
   rw[if_pos (show((([]:List Token).length:Nat):Int)=0 from rfl)]
   exact j2 true (by simp)
  have hol:¬ ((out.length:Nat):Int)=0:=fun h=>ho0 (List.length_eq_zero_iff.1 (by omega))
  rw[if_neg hol]
  exact j2 feed (by cases out with | nil=>exact absurd rfl ho0 | cons _ _=>rfl)
theorem Jy2(file:Int)(text:List UInt8)(h:text.length≤1099511627776):JeQ file text=some (Kt file text):=by
 unfold JeQ Kt
 simp only[ltI,decide_eq_true_eq]
 by_cases ht:3000<text.length
 ·rw[if_pos (by omega),if_pos ht]
 rw[if_neg (by omega),if_neg ht,JCX text h]
 have:=Jv1 file text (by omega) ((Jr text).length+1) 0 [] (Nat.zero_le _) (by omega) (by have:=JhK text; simp; omega)
 simp only[Option.bind_some]
 rw[show((0:Int),([]:List Token))=(((0:Nat):Int),[]) from rfl,this]
 unfold raws
 simp only[List.drop_zero]
 rw[show stOf []=0 from rfl,show([]:List Token).isEmpty=true from rfl]
 generalize lxF ((Jr text).length+1) (Jr text) 0 0 true=z
 obtain⟨ts,_ | p⟩:=z <;> simp[finV]
end Go.Proofs.YtfkhlbhjhdpkoaaGreatDoor
namespace Go.Proofs.YtfkhlbhjhdpkoaaGreatDoor
open Go.RowKit
theorem JjL(c:UInt8):ZC c=some (Jae c):=JiK c
theorem JlS(c:UInt8):X8 c=some (VL c):=JjP c
theorem JEn:JdJ=some Vn:=rfl
theorem Jxc(u:List UInt8)(m:Nat)(h:m+1<u.length):List.take (m+2-m) (List.drop m u)=[u.getD m 0,u.getD (m+1) 0]:=by
 rw[show m+2-m=2 by omega,JE u m (by omega),JE u (m+1) h]
 rfl
def skI(r:Nat×Bool×Bool):Int×Bool:=(if r.2.2=true then((r.1:Nat):Int) else -1-((r.1:Nat):Int),r.2.1)
theorem JpK(u:List UInt8)(hu:u.length≤1099511627776):∀ (n k:Nat) (feed:Bool),k≤u.length→u.length-k≤n→Jv (KW u) ((k:Int),feed)=some (skI (JR u k feed))
 | n,k,feed,hk,hn=>by
  rw[VN]
  have next:∀ (k':Nat) (feed':Bool),k<k'→k'≤u.length→JR u k feed=JR u k' feed'→Jv (KW u) ((k':Int),feed')=some (skI (JR u k feed)):=fun k' feed' h1 h2 h3=>by
   cases n with
   | zero=>omega
   | succ n=>rw[JpK u hu n k' feed' h2 (by omega),h3]
  by_cases h:k<u.length
  ·-- whatever stands behind it
   have j2:∀ two:List UInt8,two=(if k+1<u.length then [u.getD k 0,u.getD (k+1) 0] else [])→KV (KW u) (Jaf u (k:Int) feed (u.getD k 0,two))=some (skI (JR u k feed)):=fun two htwo=>by
    have j3:isBl (u.getD k 0)=false→KV (KW u) (Ky u (k:Int) feed two (u.getD k 0,false))=some (skI (JR u k feed)):=fun hb=>by
     have h10:¬ u.getD k 0=10:=fun h10=>by rw[h10]at hb; exact absurd hb (by decide)
     simp only[Ky,chr _ 10 10 rfl,eqS,decide_eq_true_eq]
     rw[if_neg (by decide),if_neg h10]
     by_cases h2:k+1<u.length
     ·rw[if_pos h2]at htwo
      subst htwo
      by_cases hl:u.getD k 0=47∧u.getD (k+1) 0=47
      ·rw[if_pos (by rw[hl.1,hl.2])]
       have:=Jdn (b:=JcA u feed) u (fun c=>decide (c≠10)) (fun e=>(Sum.inl ((e:Int),feed):(Int×Bool) ⊕ (Int×Bool))) (fun m hm=>?_) _ k hk (Nat.le_refl _)
       ·rw[this]
        have hp2:0<KU (u.drop k):=by rw[JE u k h]; exact JfV h10
        have hle:=Jg2 (fun c=>decide (c≠10)) (u.drop k)
        rw[List.length_drop]at hle
        exact next _ _ (by unfold KU at hp2; omega) (by omega) (JpN h2 hl.1 hl.2 feed)
       simp only[JcA,Jcv,ltI,decide_eq_true_eq,Int.toNat_natCast,inrO,chr _ 10 10 rfl]
       by_cases hm2:m<u.length
       ·rw[if_pos (show(m:Int)<u.length by omega),if_pos (show(0:Int)≤m∧m<u.length by omega),wN1 m (by omega)]
        generalize u.getD m 0=c
        by_cases hc:c=10
        ·simp[hc]
        simp[hc,hm2]
       rw[if_neg (show ¬ (m:Int)<u.length by omega)]; simp[hm2]
      have hl':¬ [u.getD k 0,u.getD (k+1) 0]=[47,47]:=fun hh=>hl (by simpa using hh)
      rw[if_neg hl']
      by_cases hc:u.getD k 0=47∧u.getD (k+1) 0=42
      ·rw[if_pos (by rw[hc.1,hc.2]),wN2 k (by omega)]
       have:=Jma (b:=Jco u (k:Int) feed) u (fun o=>(match o with | none=>Sum.inr (-1-(k:Int),feed) | some e=>Sum.inl (((e+2:Nat):Int),feed):(Int×Bool) ⊕ (Int×Bool))) (fun m hm=>?_) _ (k+2) (by omega) (Nat.le_refl _)
       ·rw[this]
        cases hj:endC (u.drop (k+2)) with
        | none =>
         simp only[Option.map_none,KV]
         rw[Jn6 h2 hc.1 hc.2 hj]
         simp[skI]
        | some j =>
         simp only[Option.map_some,KV]
         have:=Jjq hj
         rw[List.length_drop]at this
         exact next _ _ (by omega) (by omega) (Jo8 h2 hc.1 hc.2 hj feed)
       simp only[Jco,Jcy,ltI,leI,eqS,decide_eq_true_eq,Int.toNat_natCast,wN1 m (by omega),wN2 m (by omega),inrO]
       by_cases hm2:m+1<u.length
       ·rw[if_pos (show((m+1:Nat):Int)<u.length by omega),if_pos (show(0:Int)≤(m:Int)∧(m:Int)≤((m+2:Nat):Int)∧((m+2:Nat):Int)≤u.length by omega),Jxc u m hm2]
        generalize u.getD m 0=c
        generalize u.getD (m+1) 0=d
        rw[if_neg (show ¬ (u.length:Int)≤((m+1:Nat):Int) by omega)]
        by_cases hcd:c=42∧d=47
        ·obtain⟨rfl,rfl⟩:=hcd
         simp[hm2]
        have:¬ [c,d]=[42,47]:=fun hh=>hcd (by simpa using hh)
        simp[this,hm2,hcd]
       rw[if_neg (show ¬ ((m+1:Nat):Int)<u.length by omega),if_neg (by decide),if_pos (show(u.length:Int)≤((m+1:Nat):Int) by omega),if_neg (fun hh=>hm2 hh.1),if_neg hm2]
       rw[show IntKind.i64.wrap (-1-(k:Int))=-1-(k:Int) from wr _ (by omega)]
       rfl
      have hc':¬ [u.getD k 0,u.getD (k+1) 0]=[47,42]:=fun hh=>hc (by simpa using hh)
      rw[if_neg hc']
      simp only[inrO,Option.map_some,KV]
      rw[Jkt h hb (fun hh=>hl ⟨hh.1,hh.2.2⟩) (fun hh=>hc ⟨hh.1,hh.2.2⟩)]
      rfl
     rw[if_neg h2]at htwo
     subst htwo
     rw[if_neg (by decide),if_neg (by decide)]
     simp only[inrO,Option.map_some,KV]
     rw[Jkt h hb (fun hh=>h2 hh.2.1) (fun hh=>h2 hh.2.1)]
     rfl
    have bl:isBl (u.getD k 0)=true→∀ f2,f2=(feed || decide (u.getD k 0=10))→KV (KW u) (some (.inl (IntKind.i64.wrap ((k:Int)+1),f2)))=some (skI (JR u k feed)):=fun hb f2 hf2=>by
     rw[wN1 k (by omega)]
     exact next (k+1) f2 (by omega) (by omega) (by rw[hf2]; exact Jwi h hb feed)
    simp only[Jaf,chr _ 32 32 rfl,chr _ 9 9 rfl,chr _ 13 13 rfl,decide_eq_true_eq]
    have e3:∀ b,Ky u (k:Int) feed two (u.getD k 0,b)=if b=true then some (.inl (IntKind.i64.wrap ((k:Int)+1),feed)) else Ky u (k:Int) feed two (u.getD k 0,false):=fun b=>by cases b <;> simp[Ky]
    by_cases h32:u.getD k 0=32
    ·rw[if_pos h32,e3,if_pos rfl]; exact bl (by rw[h32]; rfl) _ (by rw[h32]; simp)
    rw[if_neg h32]
    by_cases h9:u.getD k 0=9
    ·rw[if_pos h9,e3,if_pos rfl]; exact bl (by rw[h9]; rfl) _ (by rw[h9]; simp)
    rw[if_neg h9]
    by_cases h13:u.getD k 0=13
    ·rw[e3,if_pos (decide_eq_true h13)]; exact bl (by rw[h13]; rfl) _ (by rw[h13]; simp)
    rw[e3,if_neg (show ¬ decide (u.getD k 0=13)=true by rw[decide_eq_true_eq]; exact h13)]
    by_cases h10:u.getD k 0=10
    ·have:=bl (by rw[h10]; rfl) true (by rw[h10]; simp)
     simp only[Ky,chr _ 10 10 rfl,decide_eq_true_eq]
     rw[if_neg (by decide),if_pos h10]
     exact this
    exact j3 (by unfold isBl; simp only[h32,h9,h10,h13]; rfl)
   simp only[KW,ltI,decide_eq_true_eq,Int.toNat_natCast,wN1 k (by omega),wN2 k (by omega)]
   rw[if_pos (show(k:Int)<u.length by omega),if_pos (show(0:Int)≤k∧k<u.length by omega)]
   by_cases h2:k+1<u.length
   ·rw[if_pos (show((k+1:Nat):Int)<u.length by omega),if_pos (show(0:Int)≤(k:Int)∧(k:Int)≤((k+2:Nat):Int)∧((k+2:Nat):Int)≤u.length by omega),Jxc u k h2]
    exact j2 _ (by rw[if_pos h2])
   rw[if_neg (show ¬ ((k+1:Nat):Int)<u.length by omega)]
   exact j2 _ (by rw[if_neg h2])
  simp only[KW,ltI,decide_eq_true_eq,inrO]
  rw[if_neg (show ¬ (k:Int)<u.length by omega),Jrd h]
  rfl
theorem JBp(u:List UInt8)(hu:u.length≤1099511627776):JcU u=some (skI (skip u)):=by
 unfold JcU
 have:=JpK u hu _ 0 false (Nat.zero_le _) (Nat.le_refl _)
 rw[show((0:Int),false)=(((0:Nat):Int),false) from rfl,this]
 unfold JR
 simp
end Go.Proofs.YtfkhlbhjhdpkoaaGreatDoor
namespace Go.Proofs.YtfkhlbhjhdpkoaaGreatDoor
open Go.RowKit
theorem JyS(u:List UInt8)(hu:u.length≤1099511627776):Jbx u=some (u.take (numN 0 u)):=by
 unfold Jbx
 have:=JnH (b:=JaS u) u 0 (fun k=>u.take k) (fun k _ hk=>?_) _ 0 (Nat.le_refl _) (Nat.zero_le _) (Nat.le_refl _)
 ·rw[show(0:Int)=((0:Nat):Int) from rfl,this]; simp[JhH]
 have hj1:X5 u (k:Int)=some (u.take k):=by
  simp only[X5,Int.toNat_natCast]
  rw[if_pos (by omega)]
 simp only[JaS,Km,VX,ltI,decide_eq_true_eq,Int.toNat_natCast,inrO,JjL,JlS,Option.bind_some,chr _ 43 43 rfl,chr _ 45 45 rfl,chr _ 46 46 rfl,hj1]
 by_cases h:k<u.length
 ·rw[if_pos (by omega),if_pos (by omega),wN1 k (by omega)]
  have hk1:0<k→(0:Int)≤((k-1:Nat):Int)∧k-1<u.length:=fun _=>by omega
  unfold JhH
  generalize u.getD k 0=c
  by_cases hik2:0<k
  ·simp only[wNm k (by omega),Int.toNat_natCast,chr _ 101 101 rfl,chr _ 69 69 rfl,decide_eq_true_eq]
   rw[if_pos (show(0:Int)<(k:Int) by omega),if_pos (hk1 hik2),if_pos (hk1 hik2),if_pos hik2]
   unfold Jf8 isWd
   generalize u.getD (k-1) 0=pr
   generalize Jae c=e
   generalize VL c=g
   generalize hd:decide (c=46)=d
   by_cases h43:c=43
   ·have:d=false:=by rw[← hd,h43]; rfl
    subst this
    by_cases h101:pr=101 <;> by_cases h69:pr=69 <;> cases e <;> cases g <;> simp[h,h43,h101,h69]
   by_cases h45:c=45
   ·have:d=false:=by rw[← hd,h45]; rfl
    subst this
    by_cases h101:pr=101 <;> by_cases h69:pr=69 <;> cases e <;> cases g <;> simp[h,h43,h45,h101,h69]
   clear hd
   cases d <;> cases e <;> cases g <;> simp[h,h43,h45]
  rw[if_neg (show ¬ (0:Int)<(k:Int) by omega),if_neg hik2]
  unfold Jf8 isWd
  generalize Jae c=e
  generalize VL c=g
  generalize hd:decide (c=46)=d
  by_cases h43:c=43
  ·have:d=false:=by rw[← hd,h43]; rfl
   subst this
   cases e <;> cases g <;> simp[h,h43]
  by_cases h45:c=45
  ·have:d=false:=by rw[← hd,h45]; rfl
   subst this
   cases e <;> cases g <;> simp[h,h43,h45]
  clear hd
  cases d <;> cases e <;> cases g <;> simp[h,h43,h45]
 rw[if_neg (by omega)]; simp[h]
def JeP(u:List UInt8):Option Nat→List UInt8
 | none=>[]
 | some m=>u.take m
theorem Jza{R:Type}{b:Int→Option (Int ⊕ R)}(u:List UInt8)(q:UInt8)(f:Option Nat→R)
  (hb:∀ k:Nat,k≤u.length→b (k:Int)=if k<u.length∧u.getD k 0≠10 then(if u.getD k 0=q then some (.inr (f (some (k+1)))) else if u.getD k 0=92∧k+1<u.length∧u.getD (k+1) 0≠10 then some (.inl ((k+2:Nat):Int)) else some (.inl ((k+1:Nat):Int))) else some (.inr (f none))) (k:Nat) (hk:k≤u.length) :
  Jv b (k:Int)=some (f ((quoN q (u.drop k)).map (k + ·))):=by
 have key:∀ (n k:Nat),k≤u.length→u.length-k≤n→Jv b (k:Int)=Jv (fun s:UInt8×Int=>(b s.2).map fun o=>match o with | .inl s'=>Sum.inl (s.1,s') | .inr r=>Sum.inr r) (q,(k:Int)):=fun n=>by
  induction n with
  | zero =>
   intro k hk hn
   rw[VN,VN (b:=fun s:UInt8×Int=>_)]
   have:k=u.length:=by omega
   subst this
   simp only[hb _ hk]
   rw[if_neg (by simp)]
   rfl
  | succ n ih =>
   intro k hk hn
   rw[VN,VN (b:=fun s:UInt8×Int=>_)]
   simp only[hb _ hk]
   split
   ·split
    ·rfl
    split
    ·rename_i h1 h2 h3
     simp only[Option.map_some,KV]
     exact ih (k+2) (by omega) (by omega)
    simp only[Option.map_some,KV]
    exact ih (k+1) (by omega) (by omega)
   rfl
 rw[key _ k hk (Nat.le_refl _)]
 refine Jir u q f (fun k hk=>?_) _ k hk (Nat.le_refl _)
 simp only[hb k hk]
 split
 ·split
  ·rfl
  split <;> rfl
 rfl
theorem JyA(c:UInt8)(r:List UInt8)(hu:r.length≤1099511627775):ZL (c::r)=some (JeP (c::r) ((quoN c r).map (· + 1))):=by
 unfold ZL
 have hl:(c::r).length=r.length+1:=rfl
 have:=Jza (b:=JaN (c::r)) (c::r) c (JeP (c::r)) (fun k hk=>?_) 1 (by omega)
 ·rw[show(1:Int)=((1:Nat):Int) from rfl,this]
  simp only[List.drop_succ_cons,List.drop_zero]
  cases quoN c r with
  | none=>rfl
  | some a=>simp only[Option.map_some]; rw[Nat.add_comm]
 have h0:(c::r).getD 0 0=c:=rfl
 generalize c::r=u at *
 simp only[JaN,JaV,X6,ltI,decide_eq_true_eq,Int.toNat_natCast,inrO,chr _ 10 10 rfl,chr _ 92 92 rfl,h0,chr2]
 by_cases h:k<u.length
 ·rw[if_pos (show(k:Int)<u.length by omega),if_pos (show(0:Int)≤k∧k<u.length by omega),if_pos (show(0:Int)≤k∧k<u.length by omega),if_pos (show 0<u.length by omega),if_pos (show(0:Int)≤k∧k<u.length by omega)]
  simp only[wN1 k (by omega),Int.toNat_natCast]
  rw[if_pos (show(0:Int)≤0∧(0:Int)≤((k+1:Nat):Int)∧((k+1:Nat):Int)≤u.length by omega)]
  generalize u.getD k 0=d
  by_cases h10:d=10
  ·simp[h10,JeP]
  rw[if_neg h10,if_pos (show k<u.length∧d≠10 from⟨h,h10⟩)]
  by_cases hq:d=c
  ·rw[if_pos hq,if_pos hq]; rfl
  rw[if_neg hq,if_neg hq]
  by_cases h92:d=92
  ·rw[if_pos h92]
   by_cases h3:k+1<u.length
   ·rw[if_pos (show((k+1:Nat):Int)<u.length by omega),if_pos (show(0:Int)≤((k+1:Nat):Int)∧k+1<u.length by omega)]
    generalize u.getD (k+1) 0=e
    by_cases he:e=10
    ·simp[h92,he]
    rw[if_pos (show(!decide (e=10))=true by simp[he]),if_pos (show d=92∧k+1<u.length∧e≠10 from⟨h92,h3,he⟩),wN1 (k+1) (by omega)]
   rw[if_neg (show ¬ ((k+1:Nat):Int)<u.length by omega),if_neg (show ¬ (d=92∧k+1<u.length∧u.getD (k+1) 0≠10) by omega)]
   simp
  simp[h92]
 rw[if_neg (show ¬ (k:Int)<u.length by omega)]
 simp[h,JeP]
def sgn(u:List UInt8):Nat→List UInt8
 | 0=>[]
 | n+1=>if n+1≤u.length∧Vn.contains (u.take (n+1))=true then u.take (n+1) else sgn u n
theorem Jlv{b:(List UInt8×Int×Int)→Option ((List UInt8×Int×Int) ⊕ YD)}(S:List (List UInt8))(t:List UInt8)(f:List UInt8→YD)
  (hb:∀ (x:List UInt8) (j:Nat),j≤S.length→b (x,(S.length:Int),(j:Int))=if j<S.length then(if S.getD j default=t then some (.inl (S.getD j default,(S.length:Int),((j+1:Nat):Int))) else some (.inl (x,(S.length:Int),((j+1:Nat):Int)))) else some (.inr (f x))) :
  ∀ (n j:Nat) (x:List UInt8),j≤S.length→S.length-j≤n→Jv b (x,(S.length:Int),(j:Int))=some (f (if(S.drop j).contains t=true then t else x))
 | n,j,x,hj,hn=>by
  rw[VN,hb x j hj]
  by_cases h:j<S.length
  ·have e:S.drop j=S.getD j default::S.drop (j+1):=by rw[List.drop_eq_getElem_cons h]; simp[List.getD_eq_getElem?_getD,List.getElem?_eq_getElem h]
   rw[if_pos h,e]
   cases n with
   | zero=>omega
   | succ n =>
    by_cases ht:S.getD j default=t
    ·rw[if_pos ht]
     simp only[KV]
     rw[Jlv S t f hb n (j+1) _ (by omega) (by omega),ht]
     simp
    rw[if_neg ht]
    simp only[KV]
    rw[Jlv S t f hb n (j+1) _ (by omega) (by omega)]
    have ht':¬ t=S.getD j default:=fun e=>ht e.symm
    have:(S.getD j default::S.drop (j+1)).contains t=(S.drop (j+1)).contains t:=by
     rw[List.contains_cons]
     have:(t == S.getD j default)=false:=by simpa using ht'
     rw[this]; simp
    rw[this]
  rw[if_neg h,List.drop_of_length_le (by omega)]
  rfl
theorem JAl(u:List UInt8):sgn u 3=u.take (KH u):=by
 have hS:∀ (n:Nat),n+1≤u.length→Vn.contains (u.take (n+1))=(if n+1=3 then Jhj.contains (u.take 3) else if n+1=2 then Jf2.contains (u.take 2) else if n+1=1 then Jfg.contains (u.take 1) else false):=fun n hn=>by
  have hl:(u.take (n+1)).length=n+1:=by simp; omega
  have no:∀ (S:List (List UInt8)) (k:Nat),(∀ s∈S,s.length=k)→n+1≠k→S.contains (u.take (n+1))=false:=fun S k hS hne=>by
   rw[List.contains_eq_mem,decide_eq_false_iff_not]
   intro hm
   exact hne (by rw[← hl]; exact hS _ hm)
  unfold Vn
  rw[List.contains_append,List.contains_append]
  by_cases h3:n+1=3
  ·rw[no Jf2 2 (by decide) (by omega),no Jfg 1 (by decide) (by omega),if_pos h3,h3]; simp
  rw[no Jhj 3 (by decide) h3,if_neg h3]
  by_cases h2:n+1=2
  ·rw[no Jfg 1 (by decide) (by omega),if_pos h2,h2]; simp
  rw[no Jf2 2 (by decide) h2,if_neg h2]
  by_cases h1:n+1=1
  ·rw[if_pos h1,h1]; simp
  rw[no Jfg 1 (by decide) h1,if_neg h1]; simp
 have len:∀ (S:List (List UInt8)) (k:Nat),(∀ s∈S,s.length=k)→S.contains (u.take k)=true→k≤u.length:=fun S k hS hc=>by
  have hm:u.take k∈S:=by simpa using hc
  have:=hS _ hm
  simp at this; omega
 have key:∀ (S:List (List UInt8)) (k:Nat),(∀ s∈S,s.length=k+1)→(k+1≤u.length→Vn.contains (u.take (k+1))=S.contains (u.take (k+1)))→((k+1≤u.length∧Vn.contains (u.take (k+1))=true)↔S.contains (u.take (k+1))=true):=fun S k h1 h2 =>
  ⟨fun⟨a,b⟩=>by rw[← h2 a]; exact b,fun h=>⟨len S _ h1 h,by rw[h2 (len S _ h1 h)]; exact h⟩⟩
 have k3:=key Jhj 2 (by decide) (fun h=>by rw[hS 2 h]; rfl)
 have k2:=key Jf2 1 (by decide) (fun h=>by rw[hS 1 h]; rfl)
 have k1:=key Jfg 0 (by decide) (fun h=>by rw[hS 0 h]; rfl)
 simp only[sgn]
 unfold KH
 by_cases c3:Jhj.contains (u.take 3)=true
 ·rw[if_pos (k3.2 c3),if_pos c3]
 rw[if_neg (fun h=>c3 (k3.1 h)),if_neg c3]
 by_cases c2:Jf2.contains (u.take 2)=true
 ·rw[if_pos (k2.2 c2),if_pos c2]
 rw[if_neg (fun h=>c2 (k2.1 h)),if_neg c2]
 by_cases c1:Jfg.contains (u.take 1)=true
 ·rw[if_pos (k1.2 c1),if_pos c1]
 rw[if_neg (fun h=>c1 (k1.1 h)),if_neg c1]; rfl
theorem JA6(u:List UInt8)(hu:u.length≤1099511627776):Jc2 u=some (u.take (KH u)):=by
 rw[← JAl]
 have inner:∀ (n:Nat) (x:List UInt8),n≤u.length→n≤3→Jv (Jai u (n:Int) Vn) (x,(Vn.length:Int),0)=some (.inl (if Vn.contains (u.take n)=true then u.take n else x,((n+1:Nat):Int))):=fun n x hn h3=>by
  have:=Jlv (b:=Jai u (n:Int) Vn) Vn (u.take n) (fun x=>.inl (x,((n+1:Nat):Int))) (fun x j hj=>?_) _ 0 x (Nat.zero_le _) (Nat.le_refl _)
  ·rw[show(0:Int)=((0:Nat):Int) from rfl,this]; rfl
  have hs48:Vn.length=47+1:=rfl
  simp only[Jai,Jcf,ltI,eqS,decide_eq_true_eq,Int.toNat_natCast,inrO]
  by_cases h:j<Vn.length
  ·rw[if_pos (by omega),if_pos (by omega),if_pos (by omega),if_pos h,wN1 j (by omega)]
  rw[if_neg (by omega),if_neg h,wN1 n (by omega)]; rfl
 have outer:∀ (m n:Nat),n+m=4→1≤n→(∀ k,n≤k→k≤3→True)→Jv (Jaw u) (sgn u (n-1),(n:Int))=some (sgn u 3):=fun m=>by
  induction m with
  | zero =>
   intro n hn h1 _
   have:n=4:=by omega
   subst this
   rw[VN]
   simp only[Jaw,Jal,leI,decide_eq_true_eq]
   rw[if_neg (by omega),if_neg (by decide)]
   rfl
  | succ m ih =>
   intro n hn h1 _
   rw[VN]
   simp only[Jaw,Jal,leI,decide_eq_true_eq]
   rw[if_pos (by omega)]
   by_cases hl:n≤u.length
   ·rw[if_pos (by omega),JEn]
    simp only[Option.bind_some]
    rw[inner n _ hl (by omega)]
    simp only[KV]
    have:=ih (n+1) (by omega) (by omega) (fun _ _ _=>trivial)
    obtain⟨k,rfl⟩:∃ k,n=k+1:=⟨n-1,by omega⟩
    rw[show k+1+1-1=k+1 by omega]at this
    rw[← this]
    congr 2
    simp only[sgn,Nat.add_sub_cancel]
    by_cases hc:Vn.contains (u.take (k+1))=true
    ·rw[if_pos hc,if_pos ⟨hl,hc⟩]
    rw[if_neg hc,if_neg (fun h=>hc h.2)]
   rw[if_neg (by omega)]
   simp only[inrO,Option.map_some,KV]
   have hs:∀ k,n≤k+1→sgn u (k+1)=sgn u k:=fun k hk=>by simp only[sgn]; rw[if_neg (by omega)]
   have:n=1∨n=2∨n=3:=by omega
   rcases this with rfl | rfl | rfl
   ·rw[hs 2 (by omega),hs 1 (by omega),hs 0 (by omega)]
   ·rw[hs 2 (by omega),hs 1 (by omega)]
   rw[hs 2 (by omega)]
 unfold Jc2
 exact outer 3 1 rfl (Nat.le_refl _) (fun _ _ _=>trivial)
end Go.Proofs.YtfkhlbhjhdpkoaaGreatDoor
namespace Go.Proofs.YtfkhlbhjhdpkoaaGreatDoor
open Go.RowKit
theorem Jzg(c:UInt8)(r:List UInt8)(hu:r.length≤1099511627775)(path:Bool):JaI (c::r) path=some ((Xa (c::r) path).1,JeP (c::r) (Xa (c::r) path).2):=by
 have hl:(c::r).length=r.length+1:=rfl
 have h0:(c::r).getD 0 0=c:=rfl
 have e1:ZI (c::r) ()=some (if 0<KH (c::r) then(5,(c::r).take (KH (c::r))) else(6,(c::r).take 1)):=by
  simp only[ZI,JA6 (c::r) (by omega),Option.bind_some]
  have hs:=Jge (c::r)
  by_cases h:0<KH (c::r)
  ·have:¬ (c::r).take (KH (c::r))=[]:=fun e=>by have:=congrArg List.length e; rw[List.length_take]at this; simp at this; omega
   have h':eqS ((c::r).take (KH (c::r))) []=false:=by rw[JiI]; exact this
   rw[h',if_pos h]
   rfl
  have:KH (c::r)=0:=by omega
  have h':eqS ((c::r).take (KH (c::r))) []=true:=by rw[Jnz,this]; rfl
  rw[h',if_neg h]
  have h3:(0:Int)≤0∧(0:Int)≤1∧(1:Int)≤((c::r).length:Int):=by omega
  simp only[h3]
  rfl
 have e2:Jv (ZD (c::r)) 0=some (1,(c::r).take (runN isWd (c::r))):=by
  have:=Jdn (b:=ZD (c::r)) (c::r) isWd (fun k=>((1:Int),(c::r).take k)) (fun k hk=>?_) _ 0 (Nat.zero_le _) (Nat.le_refl _)
  ·rw[show(0:Int)=((0:Nat):Int) from rfl,this]; simp
  have j3:∀ b,Xm (c::r) (k:Int) b=if b=true then some (.inl ((k+1:Nat):Int)) else some (.inr (1,(c::r).take k)):=fun b=>by
   simp only[Xm,inrO,Int.toNat_natCast]
   rw[wN1 k (by omega),if_pos (show(0:Int)≤0∧(0:Int)≤(k:Int)∧(k:Int)≤((c::r).length:Int) by omega)]
   rfl
  simp only[ZD,ltI,decide_eq_true_eq,Int.toNat_natCast,JjL,JlS,Option.bind_some,j3]
  by_cases h:k<(c::r).length
  ·rw[if_pos (by omega),if_pos (by omega)]
   generalize (c::r).getD k 0=d
   unfold isWd
   have h':k<r.length+1:=h
   cases Jae d <;> cases VL d <;> simp[h']
  rw[if_neg (by omega),if_neg (by decide),if_neg (fun hh=>h hh.1)]
 have e3:c=60→Jv (ZJ (c::r)) 1=some (if(Vc r).isSome=true then(7,JeP (c::r) ((Vc r).map (· + 1))) else if 0<KH (c::r) then(5,(c::r).take (KH (c::r))) else(6,(c::r).take 1)):=fun h60=>by
  have:=Jdn (b:=ZJ (c::r)) (c::r) (fun c=>decide (c≠62) && decide (c≠10)) (fun k=>if((c::r).drop k).head? = some 62 then((7:Int),(c::r).take (k+1)) else if 0<KH (c::r) then(5,(c::r).take (KH (c::r))) else(6,(c::r).take 1)) (fun k hk=>?_) _ 1 (by omega) (Nat.le_refl _)
  ·rw[show(1:Int)=((1:Nat):Int) from rfl,this]
   simp only[List.drop_succ_cons,List.drop_zero]
   unfold Vc
   rw[Nat.add_comm 1,List.drop_succ_cons]
   by_cases h:(r.drop (runN (fun c=>decide (c≠62) && decide (c≠10)) r)).head? = some 62
   ·rw[if_pos h,if_pos h]; rfl
   rw[if_neg h,if_neg h]; rfl
  simp only[ZJ,JbD,ltI,decide_eq_true_eq,Int.toNat_natCast,inrO,chr _ 10 10 rfl,chr _ 62 62 rfl,e1]
  by_cases h:k<(c::r).length
  ·rw[if_pos (by omega),if_pos (by omega),Jdj h,if_pos (show(0:Int)≤(k:Int)∧k<(c::r).length by omega),wN1 k (by omega),if_pos (show(0:Int)≤0∧(0:Int)≤((k+1:Nat):Int)∧((k+1:Nat):Int)≤((c::r).length:Int) by omega)]
   simp only[Int.toNat_natCast]
   generalize (c::r).getD k 0=d
   by_cases h10:d=10
   ·simp[h10]
   by_cases h62:d=62
   ·simp[h62]
   have h':k<r.length+1:=by omega
   simp[h10,h62,h']
  rw[if_neg (show ¬ (k:Int)<((c::r).length:Int) by omega),drop_nil h]
  have h':¬ k<r.length+1:=h
  simp[h']
 have e4:∀ p:Bool,p=path→K8 (c::r) (decide (c=60) && p)=some (if c=60∧path=true∧(Vc r).isSome=true then(7,JeP (c::r) ((Vc r).map (· + 1))) else if 0<KH (c::r) then(5,(c::r).take (KH (c::r))) else(6,(c::r).take 1)):=fun p hp=>by
  subst hp
  simp only[K8]
  by_cases h60:c=60
  ·cases p
   ·rw[if_neg (by simp),e1]; simp
   rw[if_pos (by simp[h60]),e3 h60]; simp[h60]
  rw[if_neg (by simp[h60]),e1]; simp[h60]
 have fin:∀ q:Int×Option Nat,some (q.1,JeP (c::r) q.2)=some (q.1,JeP (c::r) q.2):=fun _=>rfl
 have j4:∀ p:Bool,p=(VL c || (decide (c=46) && ((r.head?.map VL).getD false)))→Jae c=false→VC (c::r) path (c,p)=some ((Xa (c::r) path).1,JeP (c::r) (Xa (c::r) path).2):=fun p hp h1=>by
  simp only[VC,JyS (c::r) (by omega),JyA c r hu,chr _ 34 34 rfl,chr _ 39 39 rfl,chr _ 60 60 rfl,decide_eq_true_eq,Option.bind_some]
  rw[Jba,h1,← hp]
  simp only[Bool.false_eq_true,if_false]
  cases p
  ·simp only[Bool.false_eq_true,if_false]
   by_cases h34:c=34
   ·rw[if_pos h34,if_pos h34,h34]
   rw[if_neg h34,if_neg h34]
   by_cases h39:c=39
   ·rw[if_pos h39,if_pos h39,h39]
   rw[if_neg h39,if_neg h39]
   have e4':=e4 path rfl
   have:(if c=60 then K8 (c::r) path else K8 (c::r) false)=K8 (c::r) (decide (c=60) && path):=by
    by_cases h60:c=60 <;> simp[h60]
   rw[this,e4']
   split
   ·rfl
   split <;> rfl
  rfl
 unfold JaI
 simp only[JjL,JlS,Option.bind_some,h0,chr _ 46 46 rfl,ltI,decide_eq_true_eq,e2]
 rw[if_pos (show 0<(c::r).length by omega)]
 by_cases h1:Jae c=true
 ·rw[if_pos h1,Jba,if_pos h1]
  rfl
 have h1:Jae c=false:=by simpa using h1
 rw[h1,if_neg (by decide)]
 by_cases h2:VL c=true
 ·rw[if_pos h2]
  exact j4 true (by simp[h2]) h1
 have h2:VL c=false:=by simpa using h2
 rw[h2,if_neg (by decide)]
 by_cases h46:c=46
 ·rw[if_pos h46]
  by_cases h3:0<r.length
  ·rw[if_pos (by omega),if_pos (by omega)]
   have e6:r.head? = some ((c::r).getD 1 0):=by
    cases r with
    | nil=>simp at h3
    | cons d r=>rfl
   exact j4 _ (by rw[h2,h46,e6]; simp) h1
  rw[if_neg (by omega)]
  have:r=[]:=by cases r with | nil=>rfl | cons _ _=>simp at h3
  exact j4 _ (by rw[h2,this]; simp) h1
 rw[if_neg h46]
 exact j4 _ (by rw[h2]; simp[h46]) h1
theorem Jrt(file:Int)(text:List UInt8)(ht:text.length≤3000):∀ (n i:Nat) (out:List Token),i≤(Jr text).length→(Jr text).length-i<n→out.length+((Jr text).length-i)≤100000 →
  Jv (VZ file text (spS text)) ((i:Int),out)=some (finV file text out (lxF n ((Jr text).drop i) i (stOf out) (out.isEmpty)))
 | 0,i,out,_,h,_=>by omega
 | n+1,i,out,hi,hn,ho=>by
  have hu:=JhK text
  have hA:=Jmm text
  have hsk:=Jjz _ ((Jr text).drop i) (Nat.le_refl _)
  rw[List.length_drop]at hsk
  have hxT:(spS text).Text=Jr text:=rfl
  have hxA:(spS text).At=ints (JX text):=rfl
  have hAl:((spS text).At).length=(JX text).length:=by rw[hxA,Jd1]
  have hAt:∀ p:Nat,p<(JX text).length→(spS text).At.getD p default=(((JX text).getD p 0:Nat):Int):=fun p hp=>by rw[hxA,Jsh _ _ hp]
  rw[VN]
  simp only[VZ,Int.toNat_natCast,hxT,JBp ((Jr text).drop i) (by simp; omega),Option.bind_some,lxF]
  rw[if_pos (show(0:Int)≤(i:Int)∧(i:Int)≤((Jr text).length:Int)∧((Jr text).length:Int)≤((Jr text).length:Int) by omega)]
  generalize hk:(skip ((Jr text).drop i)).1=k at hsk
  generalize hf:(skip ((Jr text).drop i)).2.1=feed
  generalize hok:(skip ((Jr text).drop i)).2.2=ok
  have hskI:skI (skip ((Jr text).drop i))=(if ok=true then(k:Int) else -1-(k:Int),feed):=by unfold skI; rw[hk,hf,hok]
  rw[hskI]
  cases ok
  ·simp only[Bool.false_eq_true,if_false,ltI,decide_eq_true_eq]
   rw[if_pos (show -1-(k:Int)<0 by omega)]
   rw[show IntKind.i64.wrap (IntKind.i64.wrap ((i:Int)-1)-(-1-(k:Int)))=((i+k:Nat):Int) by rw[wr ((i:Int)-1) (by omega),wr _ (by omega)]; omega]
   simp only[Int.toNat_natCast]
   rw[if_pos (by omega),hAt _ (by omega)]
   rfl
  simp only[if_true,ltI,leI,decide_eq_true_eq,Bool.true_eq_false,if_false]
  rw[if_neg (show ¬ (k:Int)<0 by omega),List.drop_drop]
  rw[show IntKind.i64.wrap ((i:Int)+(k:Int))=((i+k:Nat):Int) by rw[wr _ (by omega)]; omega]
  by_cases hend:i+k=(Jr text).length
  ·rw[if_pos (by omega),if_pos (List.drop_of_length_le (by omega))]
   simp[inrO,KV,finV]
  have hlt:i+k<(Jr text).length:=by omega
  rw[if_neg (by omega),if_neg (show ¬ (Jr text).drop (i+k)=[] from fun h=>by have:=congrArg List.length h; simp at this; omega)]
  have hd:=JE (Jr text) (i+k) hlt
  have hpe:∀ path,JaI ((Jr text).drop (i+k)) path=some ((Xa ((Jr text).drop (i+k)) path).1,JeP ((Jr text).drop (i+k)) (Xa ((Jr text).drop (i+k)) path).2):=fun path=>by
   rw[hd]; exact Jzg _ _ (by simp; omega) path
  have j3:∀ first path:Bool,first=(out.isEmpty || feed)→path=(!first && VV out)→KV (VZ file text (spS text)) (Kl file text (spS text) out ((k:Int),feed) ((i+k:Nat):Int) first path) =
    some (finV file text out (match Xa ((Jr text).drop (i+k)) (!(out.isEmpty || feed) && decide (stOf out=2)) with
     | (_,none)=>([],some (i+k))
     | (kind,some m) =>
      let t:=((Jr text).drop (i+k)).take m
      let x:=lxF n (((Jr text).drop (i+k)).drop m) (i+k+m) (Jee (stOf out) t (out.isEmpty || feed)) false
      (⟨kind,i+k,m,decide (0<k),out.isEmpty || feed,t⟩::x.1,x.2))):=fun first path hfirst hpath=>by
   simp only[Kl,Int.toNat_natCast,hxT,hpe,Option.bind_some,hAl]
   rw[if_pos (show(0:Int)≤((i+k:Nat):Int)∧((i+k:Nat):Int)≤((Jr text).length:Int)∧((Jr text).length:Int)≤((Jr text).length:Int) by omega)]
   rw[hpath,hfirst,JrK,hAt _ (by omega)]
   have hpos:(0:Int)≤((i+k:Nat):Int)∧i+k<(JX text).length:=by omega
   generalize hp:Xa ((Jr text).drop (i+k)) (!(out.isEmpty || feed) && decide (stOf out=2))=pc
   obtain⟨kind,m⟩:=pc
   cases m with
   | none =>
    simp only[JeP]
    have he:eqS ([]:List UInt8) []=true:=rfl
    simp only[he,if_true,hpos,and_self]
    rfl
   | some m =>
    obtain⟨m1,m2⟩:=Jib hp
    rw[List.length_drop]at m2
    simp only[JeP]
    have hne:¬ ((Jr text).drop (i+k)).take m=[]:=fun e=>by have:=congrArg List.length e; simp at this; omega
    have hlen:(((Jr text).drop (i+k)).take m).length=m:=by simp; omega
    have he:eqS (((Jr text).drop (i+k)).take m) []=false:=by rw[JiI]; exact hne
    simp only[he,Bool.false_eq_true,if_false,hlen]
    rw[if_pos hpos]
    rw[show IntKind.i64.wrap (((i+k:Nat):Int)+(m:Int))=((i+k+m:Nat):Int) by rw[wr _ (by omega)]; omega]
    rw[wNm (i+k+m) (by omega)]
    simp only[Int.toNat_natCast]
    rw[if_pos (show(0:Int)≤((i+k+m-1:Nat):Int)∧i+k+m-1<(JX text).length by omega),if_pos hpos,hAt _ (by omega)]
    have hA1:=Jkr text (i+k) (by omega)
    have hA2:=Jkr text (i+k+m-1) (by omega)
    rw[JD1 text _ (by omega)]
    simp only[Option.bind_some]
    have hkAt:kAt text (((JX text).getD (i+k) 0:Nat):Int)=(JX text).getD (i+k) 0:=by unfold kAt; rw[Int.toNat_natCast]; omega
    rw[hkAt,if_pos (by simp; omega)]
    rw[wN1 _ (by omega)]
    simp only[KV]
    have hlt0:ltI 0 (k:Int)=decide (0<k):=by unfold ltI; congr 1; simp
    rw[hlt0]
    have htok:(⟨kind,List.take m (List.drop (i+k) (Jr text)),decide (0<k),out.isEmpty || feed,file,(((JX text).getD (i+k) 0:Nat):Int),(((JX text).getD (i+k+m-1) 0+1:Nat):Int),((Jbb text ((JX text).getD (i+k) 0):Nat):Int),[],[],0⟩:Token)=tokOf file text ⟨kind,i+k,m,decide (0<k),out.isEmpty || feed,List.take m (List.drop (i+k) (Jr text))⟩:=rfl
    rw[htok,Jrt file text ht n (i+k+m) _ (by omega) (by omega) (by simp; omega),JtR,Js1,List.drop_drop]
    have hne:(out++[tokOf file text ⟨kind,i+k,m,decide (0<k),out.isEmpty || feed,List.take m (List.drop (i+k) (Jr text))⟩]).isEmpty=false:=by simp
    rw[hne]
    rfl
  have j2:∀ first:Bool,first=(out.isEmpty || feed)→KV (VZ file text (spS text)) (X4 file text (spS text) out ((k:Int),feed) (((i+k:Nat):Int),first))=_:=fun first hfirst=>by
   refine Eq.trans ?_ (j3 first (!first && VV out) hfirst rfl)
   congr 1
   simp only[X4,leI,decide_eq_true_eq]
   cases first
   ·rw[if_pos (by decide)]
    by_cases h2:2≤out.length
    ·obtain⟨l,a,b,ho2,hb,ha,hp⟩:=Jvy out h2
     have q1:IntKind.i64.wrap ((out.length:Int)-1)=((out.length-1:Nat):Int):=wNm _ (by omega)
     have q2:IntKind.i64.wrap ((out.length:Int)-2)=((out.length-2:Nat):Int):=by rw[wr _ (by omega)]; omega
     have g1:(0:Int)≤((out.length-1:Nat):Int)∧out.length-1<out.length:=by omega
     have g2:(0:Int)≤((out.length-2:Nat):Int)∧out.length-2<out.length:=by omega
     rw[if_pos (by omega)]
     simp only[q1,q2,Int.toNat_natCast,hb,ha]
     simp only[if_pos g1,if_pos g1.2,if_pos g2,if_pos g2.2,hp]
     simp only[eqS,incT]
     by_cases t1:b.Text=[105,110,99,108,117,100,101]
     ·cases hb1:b.First
      ·by_cases t2:a.Text=[35]
       ·simp[t1,t2]
       simp[t1,t2]
      simp[t1]
     simp[t1]
    rw[if_neg (by omega)]
    have:VV out=false:=by
     match out,h2 with
     | [],_=>rfl
     | [_],_=>rfl
     | _::_::_,h=>simp at h
    rw[this]; rfl
   rw[if_neg (by decide)]; rfl
  cases feed
  ·rw[if_neg (by decide)]
   refine j2 _ ?_
   unfold eqI
   cases out with
   | nil=>rfl
   | cons a l=>simp; omega
  rw[if_pos rfl]
  exact j2 true (by simp)
theorem Jyx(file:Int)(text:List UInt8)(h:text.length≤1099511627776):XC file text=some (Kt file text):=by
 unfold XC Kt
 simp only[ltI,decide_eq_true_eq]
 by_cases ht:3000<text.length
 ·rw[if_pos (by omega),if_pos ht]
 rw[if_neg (by omega),if_neg ht,JyD text h]
 have:=Jrt file text (by omega) ((Jr text).length+1) 0 [] (Nat.zero_le _) (by omega) (by have:=JhK text; simp; omega)
 simp only[Option.bind_some]
 rw[show((0:Int),([]:List Token))=(((0:Nat):Int),[]) from rfl,this]
 unfold raws
 simp only[List.drop_zero]
 rw[show stOf []=0 from rfl,show([]:List Token).isEmpty=true from rfl]
 generalize lxF ((Jr text).length+1) (Jr text) 0 0 true=z
 obtain⟨ts,_ | p⟩:=z <;> simp[finV]
end Go.Proofs.YtfkhlbhjhdpkoaaGreatDoor
namespace Go.Proofs.YtfkhlbhjhdpkoaaGreatDoor
open Go.RowKit
theorem Jtj{A:Type}(l:List A)(k:Nat)(d:A)(h:k<l.length):l.drop k=l.getD k d::l.drop (k+1):=by
 rw[List.drop_eq_getElem_cons h]; simp[List.getD_eq_getElem?_getD,List.getElem?_eq_getElem h]
theorem JBd{A:Type}(l:List A)(k:Nat)(d:A)(h:k<l.length):l.getD k d∈l:=by
 rw[List.getD_eq_getElem?_getD,List.getElem?_eq_getElem h]; exact List.getElem_mem h
theorem JEF{p:Prop} [Decidable p] (h:¬ p):(!decide p)=true:=by simp[h]
theorem JEu{p:Prop} [Decidable p] (h:p):¬ (!decide p)=true:=by simp[h]
theorem JEb{a b:Int}(h:a=b):¬ (!eqI a b)=true:=by simp[eqI,h]
theorem JEw{a b:Int}(h:¬ a=b):(!eqI a b)=true:=by simp[eqI,h]
theorem Joj{A R:Type} [Inhabited A] {b:Int×Int→Option ((Int×Int) ⊕ R)} (l:List A) (p:A→Bool) (f:Nat→R) (d:R)
  (hb:∀ j:Nat,j≤l.length→b ((l.length:Int),(j:Int))=if j<l.length then(if p (l.getD j default)=true then some (.inr (f j)) else some (.inl ((l.length:Int),((j+1:Nat):Int)))) else some (.inr d)) :
  Jv b ((l.length:Int),0)=some (if l.any p=true then f (l.findIdx p) else d):=by
 have key:∀ (n j:Nat),j≤l.length→l.length-j≤n→Jv b ((l.length:Int),(j:Int))=some (if(l.drop j).any p=true then f (j+(l.drop j).findIdx p) else d):=by
  intro n
  induction n with
  | zero =>
   intro j hj hn
   have:j=l.length:=by omega
   subst this
   rw[J4,hb _ hj,if_neg (by simp)]
   simp
  | succ n ih =>
   intro j hj hn
   rw[J4,hb j hj]
   by_cases h:j<l.length
   ·rw[if_pos h,Jtj l j default h]
    by_cases hp:p (l.getD j default)=true
    ·rw[if_pos hp]
     simp only[List.any_cons,hp,Bool.true_or,if_true,List.findIdx_cons,cond_true,Nat.add_zero]
    rw[if_neg hp]
    simp only
    rw[ih (j+1) (by omega) (by omega)]
    have hp:p (l.getD j default)=false:=by simpa using hp
    simp only[List.any_cons,hp,Bool.false_or,List.findIdx_cons,cond_false]
    congr 2
    congr 1
    omega
   rw[if_neg h,List.drop_of_length_le (by omega)]
   rfl
 have:=key l.length 0 (Nat.zero_le _) (Nat.le_refl _)
 simpa using this
end Go.Proofs.YtfkhlbhjhdpkoaaGreatDoor
