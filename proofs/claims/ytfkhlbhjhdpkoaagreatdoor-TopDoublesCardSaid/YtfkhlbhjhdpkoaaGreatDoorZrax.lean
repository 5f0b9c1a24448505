/- splice: what its functions of data answer. Plain. -/
import Derived.Test.YtfkhlbhjhdpkoaaGreatDoorZram
import Derived.Test.YtfkhlbhjhdpkoaaGreatDoorZras
import Derived.IntWalk
set_option linter.unusedVariables false
set_option linter.unusedSimpArgs false
namespace Go.Proofs.YtfkhlbhjhdpkoaaGreatDoor
open Go.RowKit
theorem wr(x:Int)(h:-9223372036854775808≤x∧x≤9223372036854775807):IntKind.i64.wrap x=x:=IntWalk.i64_in _ h
theorem Joc{α:Type}{n:Nat}{l m:List α}(h:l.take n=m):m.length≤l.length:=by
 rw[← h]; simp; omega
theorem JBK(a b:Int):eqI a b=decide (a=b):=rfl
theorem JB3(a b:Int):ltI a b=decide (a<b):=rfl
theorem u8i(c:UInt8)(n:Nat)(h:n<256):((c.toNat:Int)=(n:Int))↔c=UInt8.ofNat n:=by
 constructor
 ·intro h1
  have:c.toNat=n:=by omega
  rw[← this]; simp
 rintro rfl; simp; omega
def JbS(l:List UInt8):Nat:=if l.take 2=[92,10] then 2 else if l.take 3=[92,13,10] then 3 else 0
theorem Jzs(l:List UInt8):Ja4 l=some (JbS l:Int):=by
 have a1:l.take 2=[92,10]→2≤l.length:=fun h=>Joc h
 have a2:l.take 3=[92,13,10]→3≤l.length:=fun h=>Joc h
 unfold Ja4 JbS
 simp only[JbL,JbA,leI,eqS,decide_eq_true_eq]
 by_cases h2:l.take 2=[92,10]
 ·have:(2:Int)≤(l.length:Int):=by have:=a1 h2; omega
  simp[h2,this]
 by_cases h3:l.take 3=[92,13,10]
 ·have h5:(3:Int)≤(l.length:Int):=by have:=a2 h3; omega
  have h4:(2:Int)≤(l.length:Int):=by omega
  simp[h2,h3,h5,h4]
 by_cases h4:(2:Int)≤(l.length:Int) <;> by_cases h5:(3:Int)≤(l.length:Int) <;> simp[h2,h3,h4,h5]
def sp:Nat→Nat→List UInt8→List (UInt8×Nat)
 | _,_,[]=>[]
 | k+1,i,_::r=>sp k (i+1) r
 | 0,i,c::r=>if JbS (c::r) > 0 then sp (JbS (c::r)-1) (i+1) r else if c=13∧r.head? = some 10 then sp 0 (i+1) r else(c,i)::sp 0 (i+1) r
def spAt(l:List UInt8)(i:Nat):List (UInt8×Nat):=sp 0 i (l.drop i)
theorem Jwu:∀ (k i:Nat) (l:List UInt8),k≤l.length→sp k i l=sp 0 (i+k) (l.drop k)
 | 0,i,l,_=>by simp
 | k+1,i,[],h=>by simp at h
 | k+1,i,_::r,h=>by
  simp only[sp,List.drop_succ_cons]
  rw[Jwu k (i+1) r (by simpa using h)]
  congr 1; omega
theorem Jo5(l:List UInt8):JbS l≤l.length:=by
 have a1:l.take 2=[92,10]→2≤l.length:=fun h=>Joc h
 have a2:l.take 3=[92,13,10]→3≤l.length:=fun h=>Joc h
 unfold JbS
 split
 ·exact a1 (by assumption)
 split
 ·exact a2 (by assumption)
 omega
theorem Kc(l:List UInt8)(i:Nat)(h:i<l.length):l.drop i=l.getD i 0::l.drop (i+1):=by
 rw[List.drop_eq_getElem_cons h]; simp[List.getD_eq_getElem?_getD,List.getElem?_eq_getElem h]
theorem JxV(l:List UInt8)(i:Nat)(h:0<JbS (l.drop i)):spAt l i=spAt l (i+JbS (l.drop i)):=by
 have hle:=Jo5 (l.drop i)
 simp at hle
 have hi:i<l.length:=by omega
 unfold spAt
 generalize hj:JbS (l.drop i)=j at h hle ⊢
 rw[Kc l i hi]at hj ⊢
 simp only[sp,hj,gt_iff_lt,h,if_true]
 rw[Jwu _ _ _ (by simp; omega),List.drop_drop]
 congr 1
 ·omega
 congr 1; omega
theorem JBF(l:List UInt8)(i:Nat)(h:JbS (l.drop i)=0)(h1:l.getD i 0=13)(h2:i+1<l.length)(h3:l.getD (i+1) 0=10):spAt l i=spAt l (i+1):=by
 have hi:i<l.length:=by omega
 unfold spAt
 rw[Kc l i hi]at h ⊢
 have h4:(l.drop (i+1)).head? = some 10:=by rw[Kc l (i+1) h2,h3]; rfl
 rw[h1]at h ⊢
 simp only[sp,h,h4,and_self,if_true,gt_iff_lt,Nat.lt_irrefl,if_false]
theorem JyB(l:List UInt8)(i:Nat)(hi:i<l.length)(h:JbS (l.drop i)=0)(h1:¬ (l.getD i 0=13∧i+1<l.length∧l.getD (i+1) 0=10)):spAt l i=(l.getD i 0,i)::spAt l (i+1):=by
 unfold spAt
 rw[Kc l i hi]at h ⊢
 have h2:¬ (l.getD i 0=13∧(l.drop (i+1)).head? = some 10):=by
  rintro ⟨a,b⟩
  refine h1 ⟨a,?_⟩
  by_cases h3:i+1<l.length
  ·rw[Kc l (i+1) h3]at b
   simp at b
   exact⟨h3,by simpa [List.getD_eq_getElem?_getD] using b⟩
  rw[List.drop_of_length_le (by omega)]at b
  cases b
 simp only[sp,h,h2,gt_iff_lt,Nat.lt_irrefl,if_false]
theorem JzZ(l:List UInt8)(i:Nat)(h:l.length≤i):spAt l i=[]:=by
 unfold spAt; rw[List.drop_of_length_le h]; rfl
def JJ(l:List UInt8):List UInt8:=(spAt l 0).map (·.1)
def VZ(l:List UInt8):List Nat:=(spAt l 0).map (·.2)++[l.length]
def ints(l:List Nat):List Int:=l.map fun(n:Nat)=>(n:Int)
theorem JhQ(l:List Nat):(ints l).length=l.length:=by simp[ints]
theorem JxJ(l:List Nat)(n:Nat):ints l++[(n:Int)]=ints (l++[n]):=by simp[ints]
def spS(l:List UInt8):Spliced:=⟨JJ l,ints (VZ l)⟩
def JA8(l:List UInt8)(s:List UInt8×List Int×Int×List UInt8):Prop:=∃ (i:Nat) (T:List UInt8) (A:List Nat),s=(T,ints A,(i:Int),[])∧i≤l.length∧spAt l 0=T.zip A++spAt l i∧T.length=A.length∧T.length≤i
theorem JCi(l:List UInt8)(hl:l.length≤1099511627776):Jc9 l=some (spS l):=by
 unfold Jc9
 obtain⟨r,h1,h2⟩:=JnZ (b:=Jcr l)
  (JA8 l)
  (fun s=>l.length-s.2.2.1.toNat) (fun r=>r=spS l) (by
   rintro _ ⟨i,T,A,rfl,hi,hsp,hTA,hTi⟩
   have hj:=Jo5 (l.drop i)
   rw[List.length_drop]at hj
   simp only[Jcr,ltI,decide_eq_true_eq,Int.toNat_natCast,Jzs,Option.bind_some]
   by_cases hil:i<l.length
   ·rw[if_pos (by omega),if_pos (by omega)]
    by_cases hj0:0<JbS (l.drop i)
    ·rw[if_pos (by omega),if_pos (by omega),wr _ (by omega)]
     refine⟨_,rfl,⟨i+JbS (l.drop i),T,A,?_,by omega,by rw[hsp,JxV l i hj0],hTA,by omega⟩,?_⟩
     ·simp
     simp; omega
    rw[if_neg (by omega),if_pos (by omega)]
    have hj0:JbS (l.drop i)=0:=by omega
    have w1:IntKind.i64.wrap ((i:Int)+1)=((i+1:Nat):Int):=by rw[wr _ (by omega)]; simp
    have step:(¬ (l.getD i 0=13∧i+1<l.length∧l.getD (i+1) 0=10))→JA8 l (T++[l.getD i 0],ints A++[(i:Int)],((i+1:Nat):Int),[]):=fun hn =>
     ⟨i+1,T++[l.getD i 0],A++[i],by rw[JxJ],by omega,by rw[hsp,JyB l i hil hj0 hn,List.zip_append hTA]; simp,by simp[hTA],by simp; omega⟩
    simp only[JaQ,w1,Int.toNat_natCast,eqI,decide_eq_true_eq]
    clear w1
    have c13:((l.getD i 0).toNat:Int)=13↔l.getD i 0=13:=u8i _ 13 (by decide)
    have c10:((l.getD (i+1) 0).toNat:Int)=10↔l.getD (i+1) 0=10:=u8i _ 10 (by decide)
    have b1:(T.length + [l.getD i 0].length) * 1≤140737488355328:=by simp; omega
    have b2:((ints A).length + [(i:Int)].length) * 8≤140737488355328:=by simp[JhQ]; omega
    by_cases h13:l.getD i 0=13
    ·rw[if_pos (c13.2 h13)]
     by_cases hil1:i+1<l.length
     ·rw[if_pos (by omega),if_pos (by omega)]
      by_cases h10:l.getD (i+1) 0=10
      ·rw[if_pos (c10.2 h10)]
       exact⟨_,rfl,⟨i+1,T,A,rfl,by omega,by rw[hsp,JBF l i hj0 h13 hil1 h10],hTA,by omega⟩,by simp; omega⟩
      rw[if_neg (fun h=>h10 (c10.1 h)),if_pos (by omega),if_pos b1,if_pos b2]
      exact⟨_,rfl,step (fun h=>h10 h.2.2),by simp; omega⟩
     rw[if_neg (by omega)]
     simp only[Bool.false_eq_true,if_false]
     rw[if_pos (by omega),if_pos b1,if_pos b2]
     exact⟨_,rfl,step (fun h=>hil1 h.2.1),by simp; omega⟩
    rw[if_neg (fun h=>h13 (c13.1 h))]
    simp only[Bool.false_eq_true,if_false]
    rw[if_pos (by omega),if_pos b1,if_pos b2]
    exact⟨_,rfl,step (fun h=>h13 h.1),by simp; omega⟩
   have hil:i=l.length:=by omega
   rw[JzZ l i (by omega),List.append_nil]at hsp
   rw[if_neg (by omega)]
   have e1:JJ l=T:=by unfold JJ; rw[hsp]; simp[List.map_fst_zip,hTA]
   have e2:VZ l=A++[l.length]:=by unfold VZ; rw[hsp]; simp[List.map_snd_zip,hTA]
   have b2:((ints A).length + [(l.length:Int)].length) * 8≤140737488355328:=by simp[JhQ]; omega
   rw[if_pos b2]
   refine⟨_,rfl,?_⟩
   simp[spS,e1,e2,ints]) ([],[],0,[]) ⟨0,[],[],by simp[ints],by omega,by simp,rfl,by simp⟩
 rw[h1,h2]
end Go.Proofs.YtfkhlbhjhdpkoaaGreatDoor
namespace Go.Proofs.YtfkhlbhjhdpkoaaGreatDoor
open Go.RowKit
def JfD(l:List UInt8)(k:Nat):Nat:=1+((l.take k).filter (·=10)).length
theorem Jw0(l:List UInt8)(k:Nat)(h:k<l.length):JfD l (k+1)=JfD l k+if l.getD k 0=10 then 1 else 0:=by
 unfold JfD
 rw[List.take_succ_eq_append_getElem h,List.filter_append]
 have:l.getD k 0=l[k]:=by simp[List.getD_eq_getElem?_getD,List.getElem?_eq_getElem h]
 rw[this]
 by_cases h10:l[k]=10 <;> simp[h10]; omega
theorem JzI(l:List UInt8)(k:Nat):JfD l k≤1+k:=by
 unfold JfD
 have h1:=List.length_filter_le (fun c:UInt8=>decide (c=10)) (l.take k)
 have h2:=List.length_take_le k l
 omega
def kAt(l:List UInt8)(n:Int):Nat:=min n.toNat l.length
theorem JAn(l:List UInt8)(n:Int)(hl:l.length≤1099511627776):Jco l n=some (JfD l (kAt l n):Int):=by
 unfold Jco
 have e0:(if(l.length:Int)<(if 0 > n then 0 else n) then(l.length:Int) else(if 0 > n then 0 else n))=(kAt l n:Int):=by
  unfold kAt
  split <;> split <;> omega
 rw[e0]
 have hk:kAt l n≤l.length:=by unfold kAt; omega
 generalize kAt l n=k at hk
 obtain⟨r,h1,h2⟩:=JnZ (b:=JbG l) (fun s=>∃ i:Nat,s=((JfD l i:Int),(k:Int),(i:Int))∧i≤k) (fun s=>k-s.2.2.toNat) (fun r=>r=(JfD l k:Int)) (by
  rintro _ ⟨i,rfl,hi⟩
  simp only[JbG,ltI,decide_eq_true_eq,Int.toNat_natCast]
  have hn:=JzI l i
  by_cases hik:i<k
  ·rw[if_pos (by omega),if_pos (by omega)]
   have hs:=Jw0 l i (by omega)
   have c10:((l.getD i 0).toNat:Int)=10↔l.getD i 0=10:=u8i _ 10 (by decide)
   simp only[eqI,decide_eq_true_eq,JbJ]
   rw[wr ((i:Int)+1) (by omega)]
   by_cases h10:l.getD i 0=10
   ·rw[if_pos (c10.2 h10),wr _ (by omega)]
    rw[if_pos h10]at hs
    exact⟨_,rfl,⟨i+1,by rw[hs]; simp,by omega⟩,by simp; omega⟩
   rw[if_neg (fun h=>h10 (c10.1 h))]
   rw[if_neg h10]at hs
   exact⟨_,rfl,⟨i+1,by rw[hs]; simp,by omega⟩,by simp; omega⟩
  rw[if_neg (by omega)]
  have:i=k:=by omega
  subst this
  exact⟨_,rfl,rfl⟩) (1,(k:Int),0) ⟨0,by simp[JfD],by omega⟩
 rw[h1,h2]
theorem Jyd(A:List Nat)(k:Nat)(h:k<A.length)(d:Int):(ints A).getD k d=((A.getD k 0:Nat):Int):=by
 simp[ints,List.getD_eq_getElem?_getD,List.getElem?_eq_getElem h]
def JmE(A:List Nat)(n:Int):Int:=if n<0∨(A.length:Int)≤n then -1 else((A.getD n.toNat 0:Nat):Int)
theorem JAe(T:List UInt8)(A:List Nat)(n:Int):Xt ⟨T,ints A⟩ n=some (JmE A n):=by
 unfold Xt JmE
 simp only[JbE,ltI,leI,decide_eq_true_eq,JhQ]
 by_cases h1:n<0
 ·simp[h1]
 by_cases h2:(A.length:Int)≤n
 ·simp[h1,h2]
 rw[if_neg h1,if_neg h2,if_pos (by omega),if_neg (by omega),Jyd A _ (by omega)]
theorem JiT:∀ (l:List UInt8) (k i:Nat),(∀ p∈sp k i l,i≤p.2∧p.2<i+l.length)∧((sp k i l).map (·.2)).Pairwise (· < ·)∧(sp k i l).length≤l.length
 | [],k,i=>by
  cases k <;> simp[sp]
 | c::r,k,i=>by
  have ih:=fun k=>JiT r k (i+1)
  have up:∀ k,(∀ p∈sp k (i+1) r,i≤p.2∧p.2<i+(c::r).length)∧((sp k (i+1) r).map (·.2)).Pairwise (· < ·)∧(sp k (i+1) r).length≤(c::r).length:=fun k=>by
   obtain⟨h1,h2,h3⟩:=ih k
   refine⟨fun p hp=>?_,h2,by simp; omega⟩
   have:=h1 p hp
   simp; omega
  cases k with
  | succ k=>simp only[sp]; exact up k
  | zero =>
   simp only[sp]
   split
   ·exact up _
   split
   ·exact up _
   obtain⟨h1,h2,h3⟩:=ih 0
   refine⟨fun p hp=>?_,?_,by simp; omega⟩
   ·rcases List.mem_cons.1 hp with rfl | hp
    ·simp
    have:=h1 p hp
    simp; omega
   rw[List.map_cons,List.pairwise_cons]
   refine⟨fun q hq=>?_,h2⟩
   obtain⟨p,hp,rfl⟩:=List.mem_map.1 hq
   have:=h1 p hp
   show i<p.2
   omega
theorem Jzl(l:List UInt8):∀ a∈VZ l,a≤l.length:=by
 obtain⟨h1,_,_⟩:=JiT l 0 0
 unfold VZ spAt
 rw[List.drop_zero]
 intro a ha
 rcases List.mem_append.1 ha with ha | ha
 ·obtain⟨p,hp,rfl⟩:=List.mem_map.1 ha
  have:=h1 p hp
  omega
 simp only[List.mem_singleton]at ha
 omega
theorem JtS(l:List UInt8):(VZ l).length=(JJ l).length+1:=by
 simp[VZ,JJ]
theorem Jsk(l:List UInt8):(JJ l).length≤l.length:=by
 obtain⟨_,_,h3⟩:=JiT l 0 0
 simpa [JJ,spAt] using h3
end Go.Proofs.YtfkhlbhjhdpkoaaGreatDoor
namespace Go.Proofs.YtfkhlbhjhdpkoaaGreatDoor
open Go.RowKit
def JeD(c:UInt8):Bool:=(decide (97≤c.toNat) && decide (c.toNat≤122)) || ((decide (65≤c.toNat) && decide (c.toNat≤90)) || decide (c.toNat=95))
def Jcy(c:UInt8):Bool:=decide (48≤c.toNat) && decide (c.toNat≤57)
def isWd(c:UInt8):Bool:=JeD c || Jcy c
def runN(p:UInt8→Bool)(l:List UInt8):Nat:=(l.takeWhile p).length
def JiW(pr c:UInt8):Bool:=((decide (c=43) || decide (c=45)) && (decide (pr=101) || decide (pr=69))) || (decide (c=46) || isWd c)
def numN:UInt8→List UInt8→Nat
 | _,[]=>0
 | pr,c::r=>if JiW pr c=true then numN c r+1 else 0
def quoN(q:UInt8):List UInt8→Option Nat
 | []=>none
 | c::r=>if c=10 then none else if c=q then some 1 else if c=92 then(match r with | []=>none | d::r'=>if d=10 then none else(quoN q r').map (· + 2)) else(quoN q r).map (· + 1)
def JbI(l:List UInt8):Option Nat:=if(l.drop (runN (fun c=>decide (c≠62) && decide (c≠10)) l)).head? = some 62 then some (runN (fun c=>decide (c≠62) && decide (c≠10)) l+1) else none
def JnY:List (List UInt8):=[[46,46,46],[60,60,61],[62,62,61]]
def JnE:List (List UInt8):=[[45,62],[43,43],[45,45],[60,60],[62,62],[60,61],[62,61],[61,61],[33,61],[38,38],[124,124],[43,61],[45,61],[42,61],[47,61],[37,61],[38,61],[124,61],[94,61],[35,35]]
def Joa:List (List UInt8):=[[91],[93],[40],[41],[123],[125],[46],[38],[42],[43],[45],[126],[33],[47],[37],[60],[62],[94],[124],[63],[58],[59],[61],[44],[35]]
def Jeu:List (List UInt8):=JnY++JnE++Joa
def JcP(l:List UInt8):Nat:=if JnY.contains (l.take 3)=true then 3 else if JnE.contains (l.take 2)=true then 2 else if Joa.contains (l.take 1)=true then 1 else 0
def JdW(l:List UInt8)(path:Bool):Int×Option Nat :=
 match l with
 | []=>(6,none)
 | c::r =>
  if JeD c=true then(1,some (runN isWd (c::r)))
  else if(Jcy c || (decide (c=46) && (r.head?.map Jcy).getD false))=true then(2,some (numN 0 (c::r)))
  else if c=34 then(4,(quoN 34 r).map (· + 1))
  else if c=39 then(3,(quoN 39 r).map (· + 1))
  else if c=60∧path=true∧(JbI r).isSome=true then(7,(JbI r).map (· + 1))
  else if 0<JcP (c::r) then(5,some (JcP (c::r)))
  else(6,some 1)
def isBl(c:UInt8):Bool:=decide (c=32) || (decide (c=9) || (decide (c=10) || decide (c=13)))
def Jbj(l:List UInt8):Nat:=runN (fun c=>decide (c≠10)) l
def endC:List UInt8→Option Nat
 | []=>none
 | c::r=>if c=42∧r.head? = some 47 then some 0 else(endC r).map (· + 1)
def skF:Nat→List UInt8→Nat×Bool×Bool
 | 0,_=>(0,false,true)
 | _+1,[]=>(0,false,true)
 | n+1,c::r =>
  if isBl c=true then((skF n r).1+1,decide (c=10) || (skF n r).2.1,(skF n r).2.2)
  else if c=47∧r.head? = some 47 then((skF n ((c::r).drop (Jbj (c::r)))).1+Jbj (c::r),(skF n ((c::r).drop (Jbj (c::r)))).2)
  else if c=47∧r.head? = some 42 then
   match endC (r.drop 1) with
   | none=>(0,false,false)
   | some j=>((skF n (r.drop (j+3))).1+(j+4),(skF n (r.drop (j+3))).2)
  else(0,false,true)
def skip(l:List UInt8):Nat×Bool×Bool:=skF l.length l
theorem Jlz:∀ {l:List UInt8} {j:Nat},endC l=some j→j+2≤l.length
 | [],j,h=>by cases h
 | c::r,j,h=>by
  simp only[endC]at h
  split at h
  ·rename_i hc
   cases r with
   | nil=>simp at hc
   | cons d r=>cases h; simp
  cases he:endC r with
  | none=>rw[he]at h; cases h
  | some k =>
   rw[he]at h
   simp only[Option.map_some,Option.some.injEq]at h
   have:=Jlz he
   simp only[List.length_cons]; omega
theorem JhA{c:UInt8}{r:List UInt8}(h:c≠10):0<Jbj (c::r):=by simp[Jbj,runN,List.takeWhile_cons,h]
theorem JlC(p:UInt8→Bool)(l:List UInt8):runN p l≤l.length:=by
 unfold runN
 have:=(List.takeWhile_sublist p (l:=l)).length_le
 exact this
theorem Jfe:∀ (n m:Nat) (l:List UInt8),l.length≤n→l.length≤m→skF n l=skF m l
 | n,m,[],_,_=>by cases n <;> cases m <;> rfl
 | 0,_,c::r,h,_=>by simp at h
 | _,0,c::r,_,h=>by simp at h
 | n+1,m+1,c::r,h1,h2=>by
  simp only[List.length_cons]at h1 h2
  have e1:skF n r=skF m r:=Jfe n m r (by omega) (by omega)
  simp only[skF,e1]
  split
  ·rfl
  split
  ·rename_i hc
   have hp:=JhA (c:=c) (r:=r) (by rw[hc.1]; decide)
   have e2:skF n ((c::r).drop (Jbj (c::r)))=skF m ((c::r).drop (Jbj (c::r))):=Jfe n m _ (by simp; omega) (by simp; omega)
   rw[e2]
  split
  ·split
   ·rfl
   rename_i j hj
   have e3:skF n (r.drop (j+3))=skF m (r.drop (j+3)):=Jfe n m _ (by simp; omega) (by simp; omega)
   rw[e3]
  rfl
theorem JsI:skip []=(0,false,true):=rfl
theorem Jwp{c:UInt8}{r:List UInt8}(h:isBl c=true):skip (c::r)=((skip r).1+1,decide (c=10) || (skip r).2.1,(skip r).2.2):=by
 unfold skip
 simp only[List.length_cons,skF,h,if_true]
theorem Jr0{r:List UInt8}(h:r.head? = some 47):skip (47::r)=((skip ((47::r).drop (Jbj (47::r)))).1+Jbj (47::r),(skip ((47::r).drop (Jbj (47::r)))).2):=by
 have hp:=JhA (c:=47) (r:=r) (by decide)
 have e:skF r.length ((47::r).drop (Jbj (47::r)))=skip ((47::r).drop (Jbj (47::r))):=Jfe _ _ _ (by simp; omega) (Nat.le_refl _)
 conv=>lhs; unfold skip
 simp only[List.length_cons,skF,h,and_self,if_true,e]
 rfl
theorem JqE{r:List UInt8}{j:Nat}(h:r.head? = some 42)(hj:endC (r.drop 1)=some j):skip (47::r)=((skip (r.drop (j+3))).1+(j+4),(skip (r.drop (j+3))).2):=by
 have e:skF r.length (r.drop (j+3))=skip (r.drop (j+3)):=Jfe _ _ _ (by simp) (Nat.le_refl _)
 conv=>lhs; unfold skip
 simp only[List.length_cons,skF,h,hj,e]
 rfl
theorem Jp0{r:List UInt8}(h:r.head? = some 42)(hj:endC (r.drop 1)=none):skip (47::r)=(0,false,false):=by
 conv=>lhs; unfold skip
 simp only[List.length_cons,skF,h,hj]
 rfl
theorem Jqn{c:UInt8}{r:List UInt8}(h:isBl c=false)(h1:¬ (c=47∧r.head? = some 47))(h2:¬ (c=47∧r.head? = some 42)):skip (c::r)=(0,false,true):=by
 unfold skip
 simp only[List.length_cons,skF,h,h1,h2,if_false,Bool.false_eq_true]
theorem JlL:∀ (n:Nat) (l:List UInt8),l.length≤n→(skip l).1≤l.length
 | _,[],_=>by simp[JsI]
 | 0,c::r,h=>by simp at h
 | n+1,c::r,h=>by
  simp only[List.length_cons]at h
  by_cases hb:isBl c=true
  ·rw[Jwp hb]
   have:=JlL n r (by omega)
   simp only[List.length_cons]; omega
  by_cases h1:c=47∧r.head? = some 47
  ·obtain⟨rfl,h1⟩:=h1
   rw[Jr0 h1]
   have hp:=JhA (c:=47) (r:=r) (by decide)
   have hl:=JlC (fun c=>decide (c≠10)) (47::r)
   have:=JlL n ((47::r).drop (Jbj (47::r))) (by simp; omega)
   simp only[List.length_drop,List.length_cons]at this hl ⊢
   unfold Jbj at *
   omega
  by_cases h2:c=47∧r.head? = some 42
  ·obtain⟨rfl,h2⟩:=h2
   cases hj:endC (r.drop 1) with
   | none=>rw[Jp0 h2 hj]; simp
   | some j =>
    rw[JqE h2 hj]
    have hl:=Jlz hj
    have:=JlL n (r.drop (j+3)) (by simp; omega)
    simp only[List.length_drop,List.length_cons]at this hl ⊢
    omega
  rw[Jqn (by simpa using hb) h1 h2]; simp
structure Raw where
 kind:Int
 pos:Nat
 len:Nat
 sp:Bool
 fst:Bool
 txt:List UInt8
 deriving DecidableEq
def incT:List UInt8:=[105,110,99,108,117,100,101]
def Jnt(st:Nat)(txt:List UInt8)(fst:Bool):Nat:=if fst=true∧txt=[35] then 1 else if st=1∧fst=false∧txt=incT then 2 else 0
def lxF:Nat→List UInt8→Nat→Nat→Bool→List Raw×Option Nat
 | 0,_,_,_,_=>([],none)
 | n+1,l,i,st,f0 =>
  if(skip l).2.2=false then([],some (i+(skip l).1)) else
  if l.drop (skip l).1=[] then([],none) else
  match JdW (l.drop (skip l).1) (!(f0 || (skip l).2.1) && decide (st=2)) with
  | (_,none)=>([],some (i+(skip l).1))
  | (kind,some m) =>
   let t:=(l.drop (skip l).1).take m
   let x:=lxF n ((l.drop (skip l).1).drop m) (i+(skip l).1+m) (Jnt st t (f0 || (skip l).2.1)) false
   (⟨kind,i+(skip l).1,m,decide (0<(skip l).1),f0 || (skip l).2.1,t⟩::x.1,x.2)
theorem Jlk(l:List UInt8):JcP l≤l.length:=by
 have key:∀ (S:List (List UInt8)) (k:Nat),(∀ s∈S,s.length=k)→S.contains (l.take k)=true→k≤l.length:=fun S k hS hc=>by
  have hm:l.take k∈S:=by simpa using hc
  have:=hS _ hm
  simp at this; omega
 unfold JcP
 split
 ·exact key JnY 3 (by decide) (by assumption)
 split
 ·exact key JnE 2 (by decide) (by assumption)
 split
 ·exact key Joa 1 (by decide) (by assumption)
 omega
theorem Jws:∀ (pr:UInt8) (l:List UInt8),numN pr l≤l.length
 | _,[]=>by simp[numN]
 | pr,c::r=>by
  simp only[numN]
  split
  ·have:=Jws c r; simp; omega
  simp
theorem JlG(q:UInt8):∀ (n:Nat) (l:List UInt8),l.length≤n→∀ m,quoN q l=some m→0<m∧m≤l.length
 | _,[],_,m,h=>by simp[quoN]at h
 | 0,c::r,h,_,_=>by simp at h
 | n+1,c::r,hn,m,h=>by
  simp only[List.length_cons]at hn
  unfold quoN at h
  split at h
  ·cases h
  split at h
  ·cases h; simp
  split at h
  ·cases r with
   | nil=>cases h
   | cons d r' =>
    simp only at h
    split at h
    ·cases h
    cases hq:quoN q r' with
    | none=>rw[hq]at h; cases h
    | some k =>
     rw[hq]at h
     cases h
     simp only[List.length_cons]at hn
     have:=JlG q n r' (by omega) k hq
     simp; omega
  cases hq:quoN q r with
  | none=>rw[hq]at h; cases h
  | some k =>
   rw[hq]at h
   cases h
   have:=JlG q n r (by omega) k hq
   simp; omega
theorem Jzm{l:List UInt8}{m:Nat}(h:JbI l=some m):0<m∧m≤l.length:=by
 unfold JbI at h
 split at h
 ·rename_i hh
  cases h
  refine⟨by omega,?_⟩
  have hlt:runN (fun c=>decide (c≠62) && decide (c≠10)) l<l.length:=by
   rcases Nat.lt_or_ge (runN (fun c=>decide (c≠62) && decide (c≠10)) l) l.length with h | h
   ·exact h
   rw[List.drop_of_length_le h]at hh; cases hh
  omega
 cases h
theorem Js0{l:List UInt8}{path:Bool}{k:Int}{m:Nat}(h:JdW l path=(k,some m)):0<m∧m≤l.length:=by
 unfold JdW at h
 split at h
 ·cases h
 rename_i c r
 split at h
 ·rename_i hc
  cases h
  refine⟨?_,JlC _ _⟩
  simp[runN,List.takeWhile_cons,isWd,hc]
 split at h
 ·rename_i hc
  cases h
  refine⟨?_,Jws _ _⟩
  have:JiW 0 c=true:=by
   simp only[Bool.or_eq_true,Bool.and_eq_true,decide_eq_true_eq]at hc
   unfold JiW isWd
   rcases hc with hc | ⟨hc,_⟩ <;> simp[hc]
  simp[numN,this]
 split at h
 ·simp only[Prod.mk.injEq]at h
  cases hq:quoN 34 r with
  | none=>rw[hq]at h; cases h.2
  | some j =>
   rw[hq]at h
   have:=JlG 34 r.length r (Nat.le_refl _) j hq
   obtain⟨_,h⟩:=h
   cases h
   simp; omega
 split at h
 ·simp only[Prod.mk.injEq]at h
  cases hq:quoN 39 r with
  | none=>rw[hq]at h; cases h.2
  | some j =>
   rw[hq]at h
   have:=JlG 39 r.length r (Nat.le_refl _) j hq
   obtain⟨_,h⟩:=h
   cases h
   simp; omega
 split at h
 ·simp only[Prod.mk.injEq]at h
  cases hq:JbI r with
  | none=>rw[hq]at h; cases h.2
  | some j =>
   rw[hq]at h
   have:=Jzm hq
   obtain⟨_,h⟩:=h
   cases h
   simp; omega
 split at h
 ·cases h
  exact⟨by assumption,Jlk _⟩
 cases h; simp
def tokOf(file:Int)(text:List UInt8)(r:Raw):Token :=
 ⟨r.kind,r.txt,r.sp,r.fst,file,(((VZ text).getD r.pos 0:Nat):Int),(((VZ text).getD (r.pos+r.len-1) 0+1:Nat):Int),((JfD text ((VZ text).getD r.pos 0):Nat):Int),[],[],0⟩
def raws(text:List UInt8):List Raw×Option Nat:=lxF ((JJ text).length+1) (JJ text) 0 0 true
def Jcb(file:Int)(text:List UInt8):List Token×Fault :=
 if 3000<text.length then([],⟨4,file,0⟩) else
 match raws text with
 | (ts,none)=>(ts.map (tokOf file text),⟨0,-1,0⟩)
 | (_,some p)=>([],⟨9,file,(((VZ text).getD p 0:Nat):Int)⟩)
end Go.Proofs.YtfkhlbhjhdpkoaaGreatDoor
namespace Go.Proofs.YtfkhlbhjhdpkoaaGreatDoor
open Go.RowKit
theorem chr(c m:UInt8)(n:Int)(h:(m.toNat:Int)=n):eqI (c.toNat:Int) n=decide (c=m):=by
 unfold eqI
 by_cases hc:c=m
 ·subst hc; simp[h]
 have:¬ (c.toNat:Int)=n:=fun h2=>hc (UInt8.toNat_inj.1 (by omega))
 simp[hc,this]
theorem chr2(c m:UInt8):eqI (c.toNat:Int) (m.toNat:Int)=decide (c=m):=chr c m _ rfl
theorem wN1(k:Nat)(h:k≤4611686018427387904):IntKind.i64.wrap ((k:Int)+1)=((k+1:Nat):Int):=by rw[wr _ (by omega)]; omega
theorem wN2(k:Nat)(h:k≤4611686018427387904):IntKind.i64.wrap ((k:Int)+2)=((k+2:Nat):Int):=by rw[wr _ (by omega)]; omega
theorem wNm(k:Nat)(h:0<k∧k≤4611686018427387904):IntKind.i64.wrap ((k:Int)-1)=((k-1:Nat):Int):=by rw[wr _ (by omega)]; omega
theorem Jkm(c:UInt8):Jbw c=some (JeD c):=by
 unfold Jbw JeD
 simp only[Vx,leI,eqI,decide_eq_true_eq]
 repeat' split
 all_goals (simp only[Option.some.injEq]; rw[Bool.eq_iff_iff]; simp; try omega)
theorem Jmi(c:UInt8):JbC c=some (Jcy c):=by
 unfold JbC Jcy
 simp only[JdH,leI,decide_eq_true_eq]
 repeat' split
 all_goals (simp only[Option.some.injEq]; rw[Bool.eq_iff_iff]; simp; try omega)
theorem JC0(c:UInt8):Z7 c=some (isWd c):=by
 unfold Z7 isWd
 simp only[Jkm,Jmi,Option.bind_some,ZL]
 by_cases h:JeD c=true <;> simp[h]
theorem JgU{R:Type}{b:Int→Option (Int ⊕ R)}(u:List UInt8)(p:UInt8→Bool)(f:Nat→R)
  (hb:∀ k:Nat,k≤u.length→b (k:Int)=if k<u.length∧p (u.getD k 0)=true then some (.inl ((k+1:Nat):Int)) else some (.inr (f k))) :
  ∀ (n k:Nat),k≤u.length→u.length-k≤n→Jt b (k:Int)=some (f (k+runN p (u.drop k)))
 | 0,k,hk,hn=>by
  have:k=u.length:=by omega
  subst this
  rw[Kv,hb _ hk,if_neg (by simp)]
  simp[runN]
 | n+1,k,hk,hn=>by
  rw[Kv,hb k hk]
  by_cases h:k<u.length
  ·rw[Kc u k h]
   by_cases hp:p (u.getD k 0)=true
   ·rw[if_pos ⟨h,hp⟩]
    simp only
    rw[JgU u p f hb n (k+1) (by omega) (by omega)]
    simp only[runN,List.takeWhile_cons,hp,if_true,List.length_cons]
    congr 2; omega
   rw[if_neg (fun h=>hp h.2)]
   simp only[runN,List.takeWhile_cons,hp,if_false,List.length_nil,Nat.add_zero,Bool.false_eq_true]
  rw[if_neg (fun h'=>h h'.1),List.drop_of_length_le (by omega)]
  simp[runN]
theorem Jqu{A R:Type} [Inhabited A] {b:Int×Int→Option ((Int×Int) ⊕ R)} (l:List A) (p:A→Bool) (f:A→R) (d:R)
  (hb:∀ j:Nat,j≤l.length→b ((l.length:Int),(j:Int))=if j<l.length then(if p (l.getD j default)=true then some (.inr (f (l.getD j default))) else some (.inl ((l.length:Int),((j+1:Nat):Int)))) else some (.inr d)) :
  ∀ (n j:Nat),j≤l.length→l.length-j≤n→Jt b ((l.length:Int),(j:Int))=some (((l.drop j).find? p).elim d f)
 | 0,j,hj,hn=>by
  have:j=l.length:=by omega
  subst this
  rw[Kv,hb _ hj,if_neg (by simp)]
  simp
 | n+1,j,hj,hn=>by
  rw[Kv,hb j hj]
  by_cases h:j<l.length
  ·have e:l.drop j=l.getD j default::l.drop (j+1):=by rw[List.drop_eq_getElem_cons h]; simp[List.getD_eq_getElem?_getD,List.getElem?_eq_getElem h]
   rw[if_pos h,e,List.find?_cons]
   by_cases hp:p (l.getD j default)=true
   ·rw[if_pos hp,hp]; rfl
   rw[if_neg hp]
   simp only
   rw[Jqu l p f d hb n (j+1) (by omega) (by omega)]
   have hp:p (l.getD j default)=false:=by simpa using hp
   rw[hp]
  rw[if_neg h,List.drop_of_length_le (by omega)]
  rfl
section
variable (x:Spliced) (txt:List UInt8) (file:Int) (out:List Token)
theorem Jxd(a:Int)(hx:x.Text.length≤1099511627776)(k:Nat)(hk:k≤x.Text.length):ZJ (k:Int) x.Text x.At txt file a out=some ((k+runN isWd (x.Text.drop k):Nat):Int):=by
 unfold ZJ
 refine JgU x.Text isWd (fun k=>((k:Nat):Int)) (fun k hk=>?_) _ k hk (Nat.le_refl _)
 simp only[ZW,V6,ltI,decide_eq_true_eq,Int.toNat_natCast,JC0,Option.bind_some,inrO]
 by_cases h:k<x.Text.length
 ·rw[if_pos (by omega),if_pos (by omega),wN1 k (by omega)]
  by_cases hp:isWd (x.Text.getD k 0)=true <;> simp[h,hp]
 rw[if_neg (by omega)]; simp[h]
theorem Jxa(a:Int)(hx:x.Text.length≤1099511627776)(k:Nat)(hk:k≤x.Text.length):Jbv (k:Int) x.Text x.At txt file a out=some ((k+Jbj (x.Text.drop k):Nat):Int):=by
 unfold Jbv
 refine JgU x.Text (fun c=>decide (c≠10)) (fun k=>((k:Nat):Int)) (fun k hk=>?_) _ k hk (Nat.le_refl _)
 simp only[JbK,ZK,Jag,ltI,decide_eq_true_eq,Int.toNat_natCast,Option.bind_some,inrO,chr _ 10 10 rfl]
 by_cases h:k<x.Text.length
 ·rw[if_pos (by omega),if_pos (by omega),wN1 k (by omega)]
  generalize x.Text.getD k 0=c
  by_cases hp:c=10
  ·rw[hp]; simp
  simp[hp,h]
 rw[if_neg (by omega)]; simp[h]
theorem Ju5(a:Int)(hx:x.Text.length≤1099511627776)(k:Nat)(hk:k≤x.Text.length):ZA (k:Int) x.Text x.At txt file a out=some ((k+runN (fun c=>decide (c≠62) && decide (c≠10)) (x.Text.drop k):Nat):Int):=by
 unfold ZA
 refine JgU x.Text (fun c=>decide (c≠62) && decide (c≠10)) (fun k=>((k:Nat):Int)) (fun k hk=>?_) _ k hk (Nat.le_refl _)
 simp only[ZS,V9,Ja8,X3,ltI,decide_eq_true_eq,Int.toNat_natCast,inrO,chr _ 10 10 rfl,chr _ 62 62 rfl]
 by_cases h:k<x.Text.length
 ·rw[if_pos (by omega),if_pos (by omega),wN1 k (by omega)]
  generalize x.Text.getD k 0=c
  by_cases hp:c=10
  ·rw[hp]; simp
  by_cases hq:c=62
  ·rw[hq]; simp
  simp[hp,hq,h]
 rw[if_neg (by omega)]; simp[h]
def optI(k:Nat):Option Nat→Int
 | none=>-1
 | some m=>((k+m:Nat):Int)
def JiU(u:List UInt8)(i k:Nat):UInt8:=if i<k then u.getD (k-1) 0 else 0
theorem Jtu{R:Type}{b:Int→Option (Int ⊕ R)}(u:List UInt8)(i:Nat)(f:Nat→R)
  (hb:∀ k:Nat,i≤k→k≤u.length→b (k:Int)=if k<u.length∧JiW (JiU u i k) (u.getD k 0)=true then some (.inl ((k+1:Nat):Int)) else some (.inr (f k))) :
  ∀ (n k:Nat),i≤k→k≤u.length→u.length-k≤n→Jt b (k:Int)=some (f (k+numN (JiU u i k) (u.drop k)))
 | 0,k,hi,hk,hn=>by
  have:k=u.length:=by omega
  subst this
  rw[Kv,hb _ hi hk,if_neg (by simp)]
  simp[numN]
 | n+1,k,hi,hk,hn=>by
  rw[Kv,hb k hi hk]
  by_cases h:k<u.length
  ·rw[Kc u k h]
   by_cases hp:JiW (JiU u i k) (u.getD k 0)=true
   ·rw[if_pos ⟨h,hp⟩]
    simp only
    rw[Jtu u i f hb n (k+1) (by omega) (by omega) (by omega)]
    have e:JiU u i (k+1)=u.getD k 0:=by unfold JiU; rw[if_pos (by omega)]; rfl
    simp only[numN,hp,if_true,e]
    congr 2; omega
   rw[if_neg (fun h=>hp h.2)]
   simp only[numN,hp,if_false,Nat.add_zero,Bool.false_eq_true]
  rw[if_neg (fun h'=>h h'.1),List.drop_of_length_le (by omega)]
  simp[numN]
theorem JyA(hx:x.Text.length≤1099511627776)(i:Nat)(hi:i≤x.Text.length):JaZ x.Text x.At txt file (i:Int) out=some ((i+numN 0 (x.Text.drop i):Nat):Int):=by
 unfold JaZ
 have:=Jtu (b:=Zb x.Text (i:Int)) x.Text i (fun k=>((k:Nat):Int)) (fun k hik hk=>?_) _ i (Nat.le_refl _) hi (Nat.le_refl _)
 ·rw[this]; simp[JiU]
 simp only[Zb,X6,Ka,VO,ltI,decide_eq_true_eq,Int.toNat_natCast,inrO,Jkm,Jmi,Option.bind_some,chr _ 43 43 rfl,chr _ 45 45 rfl,chr _ 46 46 rfl]
 by_cases h:k<x.Text.length
 ·rw[if_pos (by omega),if_pos (by omega),wN1 k (by omega)]
  have hk1:i<k→(0:Int)≤((k-1:Nat):Int)∧k-1<x.Text.length:=fun _=>by omega
  unfold JiU
  generalize x.Text.getD k 0=c
  by_cases hik2:i<k
  ·simp only[wNm k (by omega),Int.toNat_natCast,chr _ 101 101 rfl,chr _ 69 69 rfl,decide_eq_true_eq]
   rw[if_pos (show(i:Int)<(k:Int) by omega),if_pos (hk1 hik2),if_pos (hk1 hik2),if_pos hik2]
   unfold JiW isWd
   generalize x.Text.getD (k-1) 0=pr
   generalize JeD c=e
   generalize Jcy c=g
   generalize hd:decide (c=46)=d
   by_cases h43:c=43
   ·have:d=false:=by rw[← hd,h43]; rfl
    subst this
    by_cases h101:pr=101 <;> by_cases h69:pr=69 <;> cases e <;> cases g <;> simp[h,h43,h101,h69]
   by_cases h45:c=45
   ·have:d=false:=by rw[← hd,h45]; rfl
    subst this
    by_cases h101:pr=101 <;> by_cases h69:pr=69 <;> cases e <;> cases g <;> simp[h,h43,h45,h101,h69]
   clear hd
   cases d <;> cases e <;> cases g <;> simp[h,h43,h45]
  rw[if_neg (show ¬ (i:Int)<(k:Int) by omega),if_neg hik2]
  unfold JiW isWd
  generalize JeD c=e
  generalize Jcy c=g
  generalize hd:decide (c=46)=d
  by_cases h43:c=43
  ·have:d=false:=by rw[← hd,h43]; rfl
   subst this
   cases e <;> cases g <;> simp[h,h43]
  by_cases h45:c=45
  ·have:d=false:=by rw[← hd,h45]; rfl
   subst this
   cases e <;> cases g <;> simp[h,h43,h45]
  clear hd
  cases d <;> cases e <;> cases g <;> simp[h,h43,h45]
 rw[if_neg (by omega)]; simp[h]
end
end Go.Proofs.YtfkhlbhjhdpkoaaGreatDoor
namespace Go.Proofs.YtfkhlbhjhdpkoaaGreatDoor
open Go.RowKit
theorem Jdt{u:List UInt8}{k:Nat}(h:k<u.length):(u.drop k).head? = some (u.getD k 0):=by rw[Kc u k h]; rfl
theorem drop_nil{u:List UInt8}{k:Nat}(h:¬ k<u.length):u.drop k=[]:=List.drop_of_length_le (by omega)
theorem JpE(q c:UInt8)(r:List UInt8):quoN q (c::r)=if c=10 then none else if c=q then some 1 else if c=92 then(match r with | []=>none | d::r'=>if d=10 then none else(quoN q r').map (· + 2)) else(quoN q r).map (· + 1):=by
 conv=>lhs; unfold quoN
 all_goals rfl
theorem JiY{R:Type}{b:(UInt8×Int)→Option ((UInt8×Int) ⊕ R)}(u:List UInt8)(q:UInt8)(f:Option Nat→R)
  (hb:∀ k:Nat,k≤u.length→b (q,(k:Int))=if k<u.length∧u.getD k 0≠10 then(if u.getD k 0=q then some (.inr (f (some (k+1)))) else if u.getD k 0=92∧k+1<u.length∧u.getD (k+1) 0≠10 then some (.inl (q,((k+2:Nat):Int))) else some (.inl (q,((k+1:Nat):Int)))) else some (.inr (f none))) :
  ∀ (n k:Nat),k≤u.length→u.length-k≤n→Jt b (q,(k:Int))=some (f ((quoN q (u.drop k)).map (k + ·)))
 | n,k,hk,hn=>by
  rw[Kv,hb k hk]
  by_cases h:k<u.length
  ·rw[Kc u k h,JpE]
   by_cases h10:u.getD k 0=10
   ·rw[if_neg (fun hh=>hh.2 h10),if_pos h10]
    rfl
   rw[if_pos ⟨h,h10⟩,if_neg h10]
   by_cases hq:u.getD k 0=q
   ·rw[if_pos hq,if_pos hq]
    rfl
   rw[if_neg hq,if_neg hq]
   cases n with
   | zero=>omega
   | succ n =>
    by_cases h92:u.getD k 0=92
    ·rw[if_pos h92]
     by_cases h2:k+1<u.length∧u.getD (k+1) 0≠10
     ·rw[if_pos ⟨h92,h2⟩]
      simp only
      rw[JiY u q f hb n (k+2) (by omega) (by omega)]
      rw[Kc u (k+1) h2.1]
      simp only
      rw[if_neg h2.2]
      cases quoN q (u.drop (k+1+1)) with
      | none=>rfl
      | some a=>simp only[Option.map_some]; rw[show k+2+a=k+(a+2) by omega]
     rw[if_neg (fun hh=>h2 hh.2)]
     simp only
     rw[JiY u q f hb n (k+1) (by omega) (by omega)]
     by_cases h3:k+1<u.length
     ·have h4:u.getD (k+1) 0=10:=by
       by_cases h5:u.getD (k+1) 0=10
       ·exact h5
       exact absurd ⟨h3,h5⟩ h2
      rw[Kc u (k+1) h3,JpE,if_pos h4]
      simp only
      rw[if_pos h4]
      rfl
     rw[drop_nil h3]; rfl
    rw[if_neg (fun hh=>h92 hh.1),if_neg h92]
    simp only
    rw[JiY u q f hb n (k+1) (by omega) (by omega)]
    cases quoN q (u.drop (k+1)) with
    | none=>rfl
    | some a=>simp only[Option.map_some]; rw[show k+1+a=k+(a+1) by omega]
  rw[if_neg (fun hh=>h hh.1),drop_nil h]
  rfl
section
variable (x:Spliced) (txt:List UInt8) (file:Int) (out:List Token)
theorem JAj(i j:Nat)(o:Option Nat):optI i (o.map (j + ·))=optI (i+j) o:=by
 cases o <;> simp[optI]; omega
theorem JxS(hx:x.Text.length≤1099511627776)(i:Nat)(hi:i<x.Text.length)(q:UInt8):Zd q x.Text x.At txt file (i:Int) out=some (optI i ((quoN q (x.Text.drop (i+1))).map (· + 1))):=by
 unfold Zd
 rw[wN1 i (by omega)]
 have:=JiY (b:=Zc x.Text) x.Text q (optI 0) (fun k hk=>?_) _ (i+1) (by omega) (Nat.le_refl _)
 ·rw[this,JAj]
  cases quoN q (x.Text.drop (i+1)) <;> simp[optI]
  omega
 simp only[Zc,X7,VN,X9,ltI,decide_eq_true_eq,Int.toNat_natCast,inrO,chr _ 10 10 rfl,chr _ 92 92 rfl,chr2]
 by_cases h:k<x.Text.length
 ·rw[if_pos (show(k:Int)<x.Text.length by omega),if_pos (show(0:Int)≤k∧k<x.Text.length by omega)]
  simp only[wN1 k (by omega),Int.toNat_natCast]
  generalize x.Text.getD k 0=c
  by_cases h10:c=10
  ·simp[h10,optI]
  rw[if_pos (show(!decide (c=10))=true by simp[h10]),if_pos (show(0:Int)≤k∧k<x.Text.length by omega),if_pos (show k<x.Text.length∧c≠10 from⟨h,h10⟩)]
  by_cases hq:c=q
  ·simp[hq,optI]
  rw[if_neg hq,if_neg hq]
  by_cases h92:c=92
  ·by_cases h3:k+1<x.Text.length
   ·rw[if_pos h92,if_pos (show((k+1:Nat):Int)<x.Text.length by omega),if_pos (show(0:Int)≤((k+1:Nat):Int)∧k+1<x.Text.length by omega)]
    generalize x.Text.getD (k+1) 0=d
    by_cases hd:d=10
    ·simp[h92,hd]
    rw[if_pos (show(!decide (d=10))=true by simp[hd]),if_pos (show c=92∧k+1<x.Text.length∧d≠10 from⟨h92,h3,hd⟩),wN1 (k+1) (by omega)]
   rw[if_pos h92,if_neg (show ¬ ((k+1:Nat):Int)<x.Text.length by omega),if_neg (show ¬ (c=92∧k+1<x.Text.length∧x.Text.getD (k+1) 0≠10) by omega)]
   simp
  simp[h92]
 rw[if_neg (show ¬ (k:Int)<x.Text.length by omega)]
 simp[h,optI]
def Xx(out:List Token):Bool :=
 match out.reverse with
 | b::a::_=>decide (b.Text=incT) && (!b.First && (a.First && decide (a.Text=[35])))
 | _=>false
theorem Jzr(out:List Token)(h:2≤out.length):∃ l a b,out=l++[a,b]∧out.getD (out.length-1) default=b∧out.getD (out.length-2) default=a∧Xx out=(decide (b.Text=incT) && (!b.First && (a.First && decide (a.Text=[35])))):=by
 rcases List.eq_nil_or_concat out with rfl | ⟨l1,b,rfl⟩
 ·simp at h
 rcases List.eq_nil_or_concat l1 with rfl | ⟨l,a,rfl⟩
 ·simp at h
 refine⟨l,a,b,by simp,?_,?_,?_⟩
 ·simp[List.getD_eq_getElem?_getD]
 ·simp[List.getD_eq_getElem?_getD]
 simp[Xx]
theorem JB7(hx:x.Text.length≤1099511627776)(ho:out.length≤1099511627776)(i:Nat)(hi:i<x.Text.length):JaP x.Text x.At txt file (i:Int) out=some (if Xx out=true then optI i ((JbI (x.Text.drop (i+1))).map (· + 1)) else -1):=by
 have key:J3 x.Text x.At txt file (i:Int) out false=some (optI i ((JbI (x.Text.drop (i+1))).map (· + 1))):=by
  simp only[J3,Bool.false_eq_true,if_false]
  rw[wN1 i (by omega),Ju5 x txt file out _ hx (i+1) (by omega)]
  simp only[Option.bind_some,JbI]
  have hr:=JlC (fun c=>decide (c≠62) && decide (c≠10)) (x.Text.drop (i+1))
  generalize runN (fun c=>decide (c≠62) && decide (c≠10)) (x.Text.drop (i+1))=r at hr
  rw[List.length_drop]at hr
  rw[List.drop_drop]
  simp only[ltI,decide_eq_true_eq,Int.toNat_natCast,Jah,chr _ 62 62 rfl]
  by_cases h:i+1+r<x.Text.length
  ·rw[if_pos (by omega),if_pos (by omega),Jdt h,wN1 (i+1+r) (by omega)]
   simp only[Option.some.injEq]
   by_cases h62:x.Text.getD (i+1+r) 0=62
   ·rw[if_pos h62,if_pos h62]
    simp[optI]; omega
   rw[if_neg h62,if_neg h62]; rfl
  rw[if_neg (by omega),drop_nil h]
  simp[optI]
 unfold JaP
 simp only[ltI,decide_eq_true_eq]
 by_cases h2:out.length<2
 ·rw[if_pos (by omega)]
  have:Xx out=false:=by
   match out,h2 with
   | [],_=>rfl
   | [_],_=>rfl
   | _::_::_,h=>simp at h; omega
  simp[J3,this]
 obtain⟨l,a,b,ho2,hb,ha,hp⟩:=Jzr out (by omega)
 have e1:IntKind.i64.wrap ((out.length:Int)-1)=((out.length-1:Nat):Int):=wNm _ (by omega)
 have e2:IntKind.i64.wrap ((out.length:Int)-2)=((out.length-2:Nat):Int):=by rw[wr _ (by omega)]; omega
 rw[if_neg (by omega)]
 simp only[e1,e2,Int.toNat_natCast,hb,ha]
 have g1:(0:Int)≤((out.length-1:Nat):Int)∧out.length-1<out.length:=by omega
 have g2:(0:Int)≤((out.length-2:Nat):Int)∧out.length-2<out.length:=by omega
 rw[if_pos g1,if_pos g1,if_pos g2,if_pos g2,hp]
 simp only[eqS,incT]
 have kt:J3 x.Text x.At txt file (i:Int) out true=some (-1):=by simp[J3]
 by_cases q1:b.Text=[105,110,99,108,117,100,101]
 ·cases hb1:b.First
  ·cases ha1:a.First
   ·simp[q1,kt]
   by_cases q2:a.Text=[35]
   ·simp[q1,q2,key]
   simp[q1,q2,kt]
  simp[q1,kt]
 simp[q1,kt]
theorem Jmb(S:List (List UInt8))(k:Nat)(hS:∀ s∈S,s.length=k)(l:List UInt8):S.find? (fun s=>decide (l.take s.length=s))=if S.contains (l.take k)=true then some (l.take k) else none:=by
 induction S with
 | nil=>simp
 | cons s S ih =>
  have h1:=hS s (by simp)
  rw[List.find?_cons,ih (fun s hs=>hS s (by simp[hs])),h1]
  by_cases h:l.take k=s
  ·simp[h]
  have h':¬ s=l.take k:=fun e=>h e.symm
  simp[h,h']
theorem Jxr(l:List UInt8):Jeu.find? (fun s=>decide (l.take s.length=s))=if 0<JcP l then some (l.take (JcP l)) else none:=by
 unfold Jeu
 rw[List.find?_append,List.find?_append,Jmb JnY 3 (by decide),Jmb JnE 2 (by decide),Jmb Joa 1 (by decide)]
 unfold JcP
 split
 ·simp
 split
 ·simp
 split <;> simp
theorem JCs:Jgo=some Jeu:=rfl
theorem JCc(hx:x.Text.length≤1099511627776)(i:Nat)(hi:i<x.Text.length):JaV x.Text x.At txt file (i:Int) out=some (if 0<JcP (x.Text.drop i) then((i+JcP (x.Text.drop i):Nat):Int) else -1):=by
 unfold JaV
 rw[JCs]
 simp only[Option.bind_some]
 have hlen:∀ s∈Jeu,s.length≤3:=by decide
 have:=Jqu (b:=Jam x.Text (i:Int) Jeu) Jeu (fun s=>decide ((x.Text.drop i).take s.length=s)) (fun s=>((i+s.length:Nat):Int)) (-1) (fun j hj=>?_) _ 0 (Nat.zero_le _) (Nat.le_refl _)
 ·rw[show((0:Nat):Int)=0 from rfl]at this
  rw[this,List.drop_zero,Jxr]
  have hl:=Jlk (x.Text.drop i)
  by_cases h:0<JcP (x.Text.drop i)
  ·rw[if_pos h,if_pos h]
   simp only[Option.elim_some,List.length_take]
   rw[Nat.min_eq_left hl]
  rw[if_neg h,if_neg h]
  rfl
 have hs48:Jeu.length=47+1:=rfl
 simp only[Jam,Jai,ltI,leI,eqS,decide_eq_true_eq,Int.toNat_natCast,inrO]
 by_cases h:j<Jeu.length
 ·rw[if_pos (by omega),if_pos (by omega),if_pos h,wN1 j (by omega)]
  have h3:(Jeu.getD j default).length≤3:=hlen _ (by simp[List.getD_eq_getElem?_getD,List.getElem?_eq_getElem h])
  generalize Jeu.getD j default=s at h3
  rw[show IntKind.i64.wrap ((x.Text.length:Int)-(i:Int))=((x.Text.length-i:Nat):Int) by rw[wr _ (by omega)]; omega,
   show IntKind.i64.wrap ((i:Int)+(s.length:Int))=((i+s.length:Nat):Int) by rw[wr _ (by omega)]; omega]
  by_cases hl:s.length≤x.Text.length-i
  ·rw[if_pos (by omega),if_pos (by omega)]
   simp only[Int.toNat_natCast,show i+s.length-i=s.length by omega]
   by_cases ht:(x.Text.drop i).take s.length=s
   ·simp[ht]
   simp[ht]
  rw[if_neg (by omega)]
  have ht:¬ (x.Text.drop i).take s.length=s:=fun e=>by
   have:=congrArg List.length e
   simp at this; omega
  simp[ht]
 rw[if_neg (by omega),if_neg h]; simp
theorem Jfh(c:UInt8)(r:List UInt8)(path:Bool):JdW (c::r) path=(if JeD c=true then(1,some (runN isWd (c::r)))
  else if(Jcy c || (decide (c=46) && (r.head?.map Jcy).getD false))=true then(2,some (numN 0 (c::r)))
  else if c=34 then(4,(quoN 34 r).map (· + 1))
  else if c=39 then(3,(quoN 39 r).map (· + 1))
  else if c=60∧path=true∧(JbI r).isSome=true then(7,(JbI r).map (· + 1))
  else if 0<JcP (c::r) then(5,some (JcP (c::r)))
  else(6,some 1)):=rfl
theorem JCQ(hx:x.Text.length≤1099511627776)(ho:out.length≤1099511627776)(i:Nat)(hi:i<x.Text.length)(first:Bool):
  Jbr first x.Text x.At txt file (i:Int) out=some ((JdW (x.Text.drop i) (!first && Xx out)).1,optI i (JdW (x.Text.drop i) (!first && Xx out)).2):=by
 have hd:=Kc x.Text i hi
 have e1:=Jxd x txt file out (i:Int) hx i (by omega)
 have e2:=JyA x txt file out hx i (by omega)
 have e3:=JxS x txt file out hx i hi
 have e4:=JB7 x txt file out hx ho i hi
 have e5:=JCc x txt file out hx i hi
 have e6:(x.Text.drop (i+1)).head? = if i+1<x.Text.length then some (x.Text.getD (i+1) 0) else none:=by
  by_cases h:i+1<x.Text.length
  ·rw[if_pos h,Jdt h]
  rw[if_neg h,drop_nil h]; rfl
 unfold Jbr
 simp only[Int.toNat_natCast,Jkm,Jmi,Option.bind_some]
 rw[if_pos (show(0:Int)≤(i:Int)∧i<x.Text.length by omega),e1,wN1 i (by omega)]
 simp only[Option.bind_some,Int.toNat_natCast,ltI,decide_eq_true_eq,chr _ 46 46 rfl]
 rw[hd]at e1 e2 e5 ⊢
 generalize x.Text.getD i 0=c at *
 generalize x.Text.drop (i+1)=r at *
 -- behind what is no letter
 have j2:∀ p:Bool,p=(decide (c=60) && (!first && Xx out) && (JbI r).isSome)→JeD c=false→(Jcy c || (decide (c=46) && ((r.head?.map Jcy).getD false)))=false→c≠34→c≠39 →
   V3 x.Text x.At txt file (i:Int) out p=some ((JdW (c::r) (!first && Xx out)).1,optI i (JdW (c::r) (!first && Xx out)).2):=fun p hp h1 h2 h3 h4=>by
  simp only[V3,e4,e5,Option.bind_some]
  have hpc:JdW (c::r) (!first && Xx out)=(if c=60∧(!first && Xx out)=true∧(JbI r).isSome=true then(7,(JbI r).map (· + 1)) else if 0<JcP (c::r) then(5,some (JcP (c::r))) else(6,some 1)):=by
   rw[Jfh,h1,h2,if_neg (by decide),if_neg (by decide),if_neg h3,if_neg h4]
  rw[hpc]
  cases hpp:p
  ·rw[hpp]at hp
   have hn:¬ (c=60∧(!first && Xx out)=true∧(JbI r).isSome=true):=fun⟨a,b,d⟩=>by rw[a,b,d]at hp; exact absurd hp (by decide)
   rw[if_neg hn,if_neg (by decide)]
   simp only[ltI,decide_eq_true_eq]
   by_cases hs:0<JcP (c::r)
   ·rw[if_pos hs,if_pos hs,if_pos (by omega)]; rfl
   rw[if_neg hs,if_neg hs,if_neg (by omega)]; rw[wN1 i (by omega)]; rfl
  rw[hpp]at hp
  have hp:=hp.symm
  simp only[Bool.and_eq_true,decide_eq_true_eq]at hp
  rw[if_pos rfl,if_pos (show c=60∧(!first && Xx out)=true∧(JbI r).isSome=true from⟨hp.1.1,by simp[hp.1.2],hp.2⟩),if_pos hp.1.2.2]
 have j1:∀ p:Bool,p=(Jcy c || (decide (c=46) && ((r.head?.map Jcy).getD false)))→JeD c=false →
   Vv first x.Text x.At txt file (i:Int) out (c,p)=some ((JdW (c::r) (!first && Xx out)).1,optI i (JdW (c::r) (!first && Xx out)).2):=fun p hp h1=>by
  simp only[Vv,e2,e3,chr _ 34 34 rfl,chr _ 39 39 rfl,chr _ 60 60 rfl,decide_eq_true_eq,Option.bind_some]
  cases hpp:p
  ·rw[hpp]at hp
   have hp:=hp.symm
   rw[if_neg (by decide)]
   by_cases h34:c=34
   ·rw[if_pos h34,Jfh,h1,hp,if_neg (by decide),if_neg (by decide),if_pos h34,h34]
   rw[if_neg h34]
   by_cases h39:c=39
   ·rw[if_pos h39,Jfh,h1,hp,if_neg (by decide),if_neg (by decide),if_neg h34,if_pos h39,h39]
   rw[if_neg h39]
   by_cases h60:c=60
   ·rw[if_pos h60]
    cases hf:first
    ·rw[if_pos (by decide)]
     simp only[e4,Option.bind_some]
     have:=j2 (ltI 0 (if Xx out=true then optI i ((JbI r).map (· + 1)) else -1)) (by
      rw[hf]
      cases hpo:Xx out
      ·simp[ltI]
      cases hpn:JbI r <;> simp[ltI,optI,h60]
      omega) h1 hp h34 h39
     rw[hf]at this
     exact this
    have:=j2 false (by rw[hf]; simp) h1 hp h34 h39
    rw[hf]at this
    rw[if_neg (by decide)]
    exact this
   rw[if_neg h60]
   exact j2 false (by simp[h60]) h1 hp h34 h39
  rw[hpp]at hp
  have hp:=hp.symm
  rw[if_pos rfl,Jfh,h1,hp,if_neg (by decide),if_pos rfl]
  rfl
 by_cases h1:JeD c=true
 ·rw[if_pos h1,Jfh,if_pos h1]
  rfl
 have h1:JeD c=false:=by simpa using h1
 rw[h1,if_neg (by decide)]
 by_cases h2:Jcy c=true
 ·rw[if_pos h2]
  exact j1 true (by simp[h2]) h1
 have h2:Jcy c=false:=by simpa using h2
 rw[h2,if_neg (by decide)]
 by_cases h46:c=46
 ·rw[if_pos h46]
  by_cases h3:i+1<x.Text.length
  ·rw[if_pos (by omega),if_pos (by omega)]
   exact j1 _ (by rw[h2,h46,e6,if_pos h3]; simp) h1
  rw[if_neg (by omega)]
  exact j1 _ (by rw[h2,e6,if_neg h3]; simp) h1
 rw[if_neg h46]
 exact j1 _ (by rw[h2]; simp[h46]) h1
end
end Go.Proofs.YtfkhlbhjhdpkoaaGreatDoor
namespace Go.Proofs.YtfkhlbhjhdpkoaaGreatDoor
open Go.RowKit
theorem JrU{R:Type}{b:Int→Option (Int ⊕ R)}(u:List UInt8)(f:Option Nat→R)
  (hb:∀ k:Nat,k≤u.length→b (k:Int)=if k+1<u.length∧¬ (u.getD k 0=42∧u.getD (k+1) 0=47) then some (.inl ((k+1:Nat):Int)) else some (.inr (f (if k+1<u.length then some k else none)))) :
  ∀ (n k:Nat),k≤u.length→u.length-k≤n→Jt b (k:Int)=some (f ((endC (u.drop k)).map (k + ·)))
 | n,k,hk,hn=>by
  rw[Kv,hb k hk]
  by_cases h:k+1<u.length
  ·have e:=Kc u k (by omega)
   have e2:=Kc u (k+1) h
   rw[e]
   by_cases h2:u.getD k 0=42∧u.getD (k+1) 0=47
   ·rw[if_neg (fun hh=>hh.2 h2),if_pos h]
    rw[e2]
    simp only[endC,List.head?_cons,h2,and_self,if_true,Option.map_some,Nat.add_zero]
   rw[if_pos ⟨h,h2⟩]
   cases n with
   | zero=>omega
   | succ n =>
    simp only
    rw[JrU u f hb n (k+1) (by omega) (by omega)]
    have:¬ (u.getD k 0=42∧(u.drop (k+1)).head? = some 47):=by
     rw[Jdt h]; simpa using h2
    rw[endC,if_neg this]
    cases endC (u.drop (k+1)) with
    | none=>rfl
    | some a=>simp only[Option.map_some]; rw[show k+1+a=k+(a+1) by omega]
  rw[if_neg (fun hh=>h hh.1),if_neg h]
  have:endC (u.drop k)=none:=by
   cases he:endC (u.drop k) with
   | none=>rfl
   | some j=>have:=Jlz he; simp at this; omega
  rw[this]
  rfl
def Ko(u:List UInt8)(k:Nat)(feed:Bool):Nat×Bool×Bool:=(k+(skip (u.drop k)).1,feed || (skip (u.drop k)).2.1,(skip (u.drop k)).2.2)
theorem JAz{u:List UInt8}{k:Nat}(h:k<u.length)(hb:isBl (u.getD k 0)=true)(feed:Bool):Ko u k feed=Ko u (k+1) (feed || decide (u.getD k 0=10)):=by
 unfold Ko
 rw[Kc u k h,Jwp hb,Bool.or_assoc]
 simp only[Prod.mk.injEq,and_true]
 omega
theorem Jxg{u:List UInt8}{k:Nat}(h:k+1<u.length)(h1:u.getD k 0=47)(h2:u.getD (k+1) 0=47)(feed:Bool):Ko u k feed=Ko u (k+Jbj (u.drop k)) feed:=by
 unfold Ko
 have e:=Kc u k (by omega)
 rw[e,h1,Jr0 (by rw[Jdt h,h2]),← h1,← e,List.drop_drop]
 simp only[Prod.mk.injEq,and_true]
 omega
theorem Jxl{u:List UInt8}{k j:Nat}(h:k+1<u.length)(h1:u.getD k 0=47)(h2:u.getD (k+1) 0=42)(hj:endC (u.drop (k+2))=some j)(feed:Bool):Ko u k feed=Ko u (k+2+j+2) feed:=by
 unfold Ko
 have e:=Kc u k (by omega)
 rw[e,h1,JqE (j:=j) (by rw[Jdt h,h2]) (by rw[List.drop_drop]; exact hj),List.drop_drop]
 rw[show k+1+(j+3)=k+2+j+2 by omega]
 simp only[Prod.mk.injEq,and_true]
 omega
theorem Jw5{u:List UInt8}{k:Nat}(h:k+1<u.length)(h1:u.getD k 0=47)(h2:u.getD (k+1) 0=42)(hj:endC (u.drop (k+2))=none)(feed:Bool):Ko u k feed=(k,feed,false):=by
 unfold Ko
 have e:=Kc u k (by omega)
 rw[e,h1,Jp0 (by rw[Jdt h,h2]) (by rw[List.drop_drop]; exact hj)]
 simp
theorem JwW{u:List UInt8}{k:Nat}(h:k<u.length)(hb:isBl (u.getD k 0)=false)(h1:¬ (u.getD k 0=47∧k+1<u.length∧u.getD (k+1) 0=47))(h2:¬ (u.getD k 0=47∧k+1<u.length∧u.getD (k+1) 0=42))(feed:Bool):Ko u k feed=(k,feed,true):=by
 unfold Ko
 have key:∀ d,(u.drop (k+1)).head? = some d→k+1<u.length∧u.getD (k+1) 0=d:=fun d hd=>by
  by_cases h3:k+1<u.length
  ·rw[Jdt h3]at hd; exact⟨h3,by simpa using hd⟩
  rw[drop_nil h3]at hd; cases hd
 rw[Kc u k h,Jqn hb (fun⟨a,b⟩=>h1 ⟨a,key _ b⟩) (fun⟨a,b⟩=>h2 ⟨a,key _ b⟩)]
 simp
theorem Jy8{u:List UInt8}{k:Nat}(h:¬ k<u.length)(feed:Bool):Ko u k feed=(k,feed,true):=by
 unfold Ko
 rw[drop_nil h]
 simp[JsI]
noncomputable def JcF{S R:Type}(b:S→Option (S ⊕ R)):Option (S ⊕ R)→Option R
 | none=>none
 | some (.inl s')=>Jt b s'
 | some (.inr r)=>some r
theorem JgL{S R:Type}(b:S→Option (S ⊕ R))(s:S):Jt b s=JcF b (b s):=by
 rw[Kv]
 cases b s with
 | none=>rfl
 | some o=>cases o <;> rfl
section
variable (x:Spliced) (txt:List UInt8) (file:Int) (out:List Token)
theorem Jul(hx:x.Text.length≤1099511627776)(a i:Nat)(hi:i≤x.Text.length):
  ∀ (n k:Nat) (some0 feed:Bool),k≤x.Text.length→x.Text.length-k≤n→Jt (KQ x.Text x.At txt file out) (some0,feed,(k:Int)) =
   some (some0 || decide (k<(Ko x.Text k feed).1),(Ko x.Text k feed).2.1,(Ko x.Text k feed).2.2,((Ko x.Text k feed).1:Int))
 | n,k,some0,feed,hk,hn=>by
  rw[JgL]
  have next:∀ (k':Nat) (feed':Bool),k<k'→k'≤x.Text.length→Ko x.Text k feed=Ko x.Text k' feed'→Jt (KQ x.Text x.At txt file out) (true,feed',(k':Int)) =
    some (some0 || decide (k<(Ko x.Text k feed).1),(Ko x.Text k feed).2.1,(Ko x.Text k feed).2.2,((Ko x.Text k feed).1:Int)):=fun k' feed' h1 h2 h3=>by
   cases n with
   | zero=>omega
   | succ n =>
    rw[Jul hx a i hi n k' true feed' h2 (by omega),h3]
    have:k'≤(Ko x.Text k' feed').1:=by unfold Ko; simp
    have h4:decide (k<(Ko x.Text k' feed').1)=true:=by simp; omega
    rw[h4]
    simp
  by_cases h:k<x.Text.length
  ·simp only[KQ,ltI,decide_eq_true_eq,Int.toNat_natCast,chr _ 32 32 rfl,chr _ 9 9 rfl,chr _ 10 10 rfl,chr _ 13 13 rfl]
   rw[if_pos (show(k:Int)<x.Text.length by omega),if_pos (show(0:Int)≤k∧k<x.Text.length by omega)]
   -- blank,or not
   have j3:∀ p:Bool,p=isBl (x.Text.getD k 0)→JcF (KQ x.Text x.At txt file out) (KT x.Text x.At txt file out some0 feed (k:Int) (x.Text.getD k 0,p)) =
     some (some0 || decide (k<(Ko x.Text k feed).1),(Ko x.Text k feed).2.1,(Ko x.Text k feed).2.2,((Ko x.Text k feed).1:Int)):=fun p hp=>by
    simp only[KT,ZF,Xd,V8,Vw,ltI,decide_eq_true_eq,Int.toNat_natCast,chr _ 10 10 rfl,chr _ 47 47 rfl,chr _ 42 42 rfl,wN1 k (by omega),wN2 k (by omega),inrO]
    cases hpp:p
    ·rw[hpp]at hp
     have hp:=hp.symm
     rw[if_neg (by decide)]
     have stop:¬ (x.Text.getD k 0=47∧k+1<x.Text.length∧x.Text.getD (k+1) 0=47)→¬ (x.Text.getD k 0=47∧k+1<x.Text.length∧x.Text.getD (k+1) 0=42) →
       some (some0,feed,true,(k:Int))=some (some0 || decide (k<(Ko x.Text k feed).1),(Ko x.Text k feed).2.1,(Ko x.Text k feed).2.2,((Ko x.Text k feed).1:Int)):=fun h1 h2=>by
      rw[JwW h hp h1 h2]; simp
     by_cases h47:x.Text.getD k 0=47
     ·by_cases h2:k+1<x.Text.length
      ·by_cases h3:x.Text.getD (k+1) 0=47
       ·rw[if_pos h47,if_pos (show((k+1:Nat):Int)<x.Text.length by omega),if_pos (show(0:Int)≤((k+1:Nat):Int)∧k+1<x.Text.length by omega),if_pos h3,Jxa x txt file out _ hx k (by omega)]
        simp only[Option.bind_some,JcF]
        have hl:=JlC (fun c=>decide (c≠10)) (x.Text.drop k)
        have hp2:0<Jbj (x.Text.drop k):=by rw[Kc x.Text k h]; exact JhA (by rw[h47]; decide)
        rw[List.length_drop]at hl
        exact next _ _ (by omega) (by unfold Jbj; omega) (Jxg h2 h47 h3 feed)
       by_cases h4:x.Text.getD (k+1) 0=42
       ·rw[if_pos h47,if_pos (show((k+1:Nat):Int)<x.Text.length by omega),if_pos (show(0:Int)≤((k+1:Nat):Int)∧k+1<x.Text.length by omega),if_neg h3,if_pos (show((k+1:Nat):Int)<x.Text.length by omega),if_pos (show(0:Int)≤((k+1:Nat):Int)∧k+1<x.Text.length by omega),if_pos h47,if_pos h4]
        have:=JrU (b:=Zv x.Text some0 feed (k:Int)) x.Text (fun o=>match o with | none=>Sum.inr (some0,feed,false,(k:Int)) | some e=>Sum.inl (true,feed,((e+2:Nat):Int))) (fun m hm=>?_) _ (k+2) (by omega) (Nat.le_refl _)
        ·rw[this]
         cases hj:endC (x.Text.drop (k+2)) with
         | none =>
          simp only[Option.map_none,JcF]
          rw[Jw5 h2 h47 h4 hj]
          simp
         | some j =>
          simp only[Option.map_some,JcF]
          have:=Jlz hj
          rw[List.length_drop]at this
          exact next _ _ (by omega) (by omega) (Jxl h2 h47 h4 hj feed)
        simp only[Zv,ZM,Vw,ltI,leI,eqS,decide_eq_true_eq,Int.toNat_natCast,wN1 m (by omega),wN2 m (by omega),inrO]
        by_cases hm2:m+1<x.Text.length
        ·rw[if_pos (show((m+1:Nat):Int)<x.Text.length by omega),if_pos (show(0:Int)≤(m:Int)∧(m:Int)≤((m+2:Nat):Int)∧((m+2:Nat):Int)≤x.Text.length by omega)]
         rw[show m+2-m=2 by omega,Kc x.Text m (by omega),Kc x.Text (m+1) hm2]
         simp only[List.take_succ_cons,List.take_zero]
         generalize x.Text.getD m 0=c
         generalize x.Text.getD (m+1) 0=d
         rw[if_neg (show ¬ (x.Text.length:Int)≤((m+1:Nat):Int) by omega)]
         by_cases hcd:c=42∧d=47
         ·obtain⟨rfl,rfl⟩:=hcd
          simp[hm2]
         have:¬ [c,d]=[42,47]:=fun hh=>hcd (by simpa using hh)
         simp[this,hm2,hcd]
        rw[if_neg (show ¬ ((m+1:Nat):Int)<x.Text.length by omega),if_neg (by decide),if_pos (show(x.Text.length:Int)≤((m+1:Nat):Int) by omega),if_neg (fun hh=>hm2 hh.1),if_neg hm2]
        rfl
       rw[if_pos h47,if_pos (show((k+1:Nat):Int)<x.Text.length by omega),if_pos (show(0:Int)≤((k+1:Nat):Int)∧k+1<x.Text.length by omega),if_neg h3,if_pos (show((k+1:Nat):Int)<x.Text.length by omega),if_pos (show(0:Int)≤((k+1:Nat):Int)∧k+1<x.Text.length by omega),if_pos h47,if_neg h4]
       simp only[Option.map_some,JcF]
       exact stop (fun hh=>h3 hh.2.2) (fun hh=>h4 hh.2.2)
      rw[if_pos h47,if_neg (show ¬ ((k+1:Nat):Int)<x.Text.length by omega),if_neg (by decide),if_pos h47,if_neg (show ¬ ((k+1:Nat):Int)<x.Text.length by omega),if_neg (by decide)]
      simp only[Option.map_some,JcF]
      exact stop (fun hh=>h2 hh.2.1) (fun hh=>h2 hh.2.1)
     rw[if_neg h47,if_neg (by decide),if_neg h47,if_neg (by decide)]
     simp only[Option.map_some,JcF]
     exact stop (fun hh=>h47 hh.1) (fun hh=>h47 hh.1)
    rw[hpp]at hp
    have hp:=hp.symm
    rw[if_pos rfl]
    have e:=JAz h hp feed
    cases feed
    ·rw[if_neg (by decide)]
     exact next (k+1) _ (by omega) (by omega) (by simpa using e)
    rw[if_pos rfl]
    exact next (k+1) _ (by omega) (by omega) (by simpa using e)
   unfold isBl at j3
   generalize x.Text.getD k 0=c at j3 ⊢
   by_cases h32:c=32
   ·rw[if_pos h32]; exact j3 true (by simp[h32])
   rw[if_neg h32]
   by_cases h9:c=9
   ·rw[if_pos h9]; exact j3 true (by simp[h9])
   rw[if_neg h9]
   by_cases h10:c=10
   ·rw[if_pos h10]; exact j3 true (by simp[h10])
   rw[if_neg h10]; exact j3 _ (by simp[h32,h9,h10])
  rw[Jy8 h]
  simp only[KQ,ltI,decide_eq_true_eq,inrO]
  rw[if_neg (show ¬ (k:Int)<x.Text.length by omega)]
  simp[JcF]
end
end Go.Proofs.YtfkhlbhjhdpkoaaGreatDoor
namespace Go.Proofs.YtfkhlbhjhdpkoaaGreatDoor
open Go.RowKit
def VP(t:Token):Bool:=t.First && decide (t.Text=[35])
def stOf(out:List Token):Nat :=
 match out.reverse with
 | []=>0
 | b::rest=>if VP b=true then 1 else if((rest.head?.map VP).getD false && (!b.First && decide (b.Text=incT)))=true then 2 else 0
theorem JyR(out:List Token):Xx out=decide (stOf out=2):=by
 rw[Bool.eq_iff_iff,decide_eq_true_iff]
 unfold Xx stOf
 cases out.reverse with
 | nil=>simp
 | cons b rest =>
  cases rest with
  | nil =>
   show(false:Bool)=true↔(if VP b=true then 1 else if(false && (!b.First && decide (b.Text=incT)))=true then 2 else 0)=2
   by_cases hb:VP b=true <;> simp[hb]
  | cons a rest =>
   show _↔(if VP b=true then 1 else if(VP a && (!b.First && decide (b.Text=incT)))=true then 2 else 0)=2
   by_cases h1:b.Text=incT
   ·have hb:VP b=false:=by unfold VP; rw[h1]; simp[incT]
    rw[hb]
    unfold VP
    cases hbf:b.First <;> cases haf:a.First <;> simp[h1,hbf,haf]
   by_cases hb:VP b=true <;> simp[h1,hb]
theorem Jy5(out:List Token)(t:Token):stOf (out++[t])=Jnt (stOf out) t.Text t.First:=by
 have e:stOf (out++[t])=if VP t=true then 1 else if((out.reverse.head?.map VP).getD false && (!t.First && decide (t.Text=incT)))=true then 2 else 0:=by
  unfold stOf
  rw[List.reverse_append]
  rfl
 have e1:(out.reverse.head?.map VP).getD false=true↔stOf out=1:=by
  unfold stOf
  cases out.reverse with
  | nil=>simp
  | cons a rest =>
   show VP a=true↔(if VP a=true then 1 else if((rest.head?.map VP).getD false && (!a.First && decide (a.Text=incT)))=true then 2 else 0)=1
   by_cases ha:VP a=true
   ·simp[ha]
   simp only[ha,if_false,Bool.false_eq_true,false_iff]
   split <;> simp
 rw[e]
 unfold Jnt
 by_cases ht:t.First=true∧t.Text=[35]
 ·have:VP t=true:=by unfold VP; simp[ht]
  rw[if_pos this,if_pos ht]
 have:¬ VP t=true:=by
  unfold VP
  intro h
  simp only[Bool.and_eq_true,decide_eq_true_eq]at h
  exact ht h
 rw[if_neg this,if_neg ht]
 by_cases h:stOf out=1∧t.First=false∧t.Text=incT
 ·rw[if_pos h,if_pos (by rw[e1.2 h.1]; simp[h.2])]
 rw[if_neg h,if_neg]
 intro hh
 simp only[Bool.and_eq_true,Bool.not_eq_true',decide_eq_true_eq]at hh
 exact h ⟨e1.1 hh.1,hh.2⟩
def finV(file:Int)(text:List UInt8)(out:List Token):List Raw×Option Nat→List Token×Fault
 | (ts,none)=>(out++ts.map (tokOf file text),⟨0,-1,0⟩)
 | (_,some p)=>([],⟨9,file,(((VZ text).getD p 0:Nat):Int)⟩)
theorem JyJ(file:Int)(text:List UInt8)(out:List Token)(t:Raw)(x:List Raw×Option Nat):finV file text (out++[tokOf file text t]) x=finV file text out (t::x.1,x.2):=by
 obtain⟨ts,_ | p⟩:=x <;> simp[finV]
theorem Jyu(A:List Nat)(p:Nat)(h:p<A.length):JmE A (p:Int)=((A.getD p 0:Nat):Int):=by
 unfold JmE
 rw[if_neg (by omega)]; simp
theorem JtT(text:List UInt8)(p:Nat)(h:p<(VZ text).length):(VZ text).getD p 0≤text.length:=by
 have:(VZ text).getD p 0∈VZ text:=by simp[List.getD_eq_getElem?_getD,List.getElem?_eq_getElem h]
 exact Jzl text _ this
theorem Jm0(text:List UInt8):(JJ text).length≤text.length:=by
 have h:=(JiT text 0 0).2.2
 unfold JJ spAt
 simpa using h
theorem JtD(file:Int)(text:List UInt8)(ht:text.length≤3000):∀ (n i:Nat) (out:List Token),i≤(JJ text).length→(JJ text).length-i<n→out.length+((JJ text).length-i)≤100000 →
  Jt (Jbt file text (spS text)) ((i:Int),out)=some (finV file text out (lxF n ((JJ text).drop i) i (stOf out) (out.isEmpty)))
 | 0,i,out,_,h,_=>by omega
 | n+1,i,out,hi,hn,ho=>by
  have hu:=Jm0 text
  have hA:=JtS text
  have e1:=Jul (spS text) text file out (by show(JJ text).length≤_; omega) i i hi _ i false false hi (Nat.le_refl _)
  have hsk:=JlL _ ((JJ text).drop i) (Nat.le_refl _)
  rw[List.length_drop]at hsk
  have hxT:(spS text).Text=JJ text:=rfl
  have hxA:(spS text).At=ints (VZ text):=rfl
  have hres:Ko (JJ text) i false=(i+(skip ((JJ text).drop i)).1,(skip ((JJ text).drop i)).2.1,(skip ((JJ text).drop i)).2.2):=by unfold Ko; simp
  rw[hxT,hres]at e1
  simp only[Bool.false_or]at e1
  have e2:Jdm (spS text).Text (spS text).At text file (i:Int) out=_:=e1
  rw[JgL]
  simp only[Jbt,e2,Option.bind_some,lxF]
  have hdk:decide (i<i+(skip ((JJ text).drop i)).1)=decide (0<(skip ((JJ text).drop i)).1):=by congr 1; simp
  rw[hdk]
  generalize hk:(skip ((JJ text).drop i)).1=k at hsk
  generalize hf:(skip ((JJ text).drop i)).2.1=feed
  generalize hok:(skip ((JJ text).drop i)).2.2=ok
  have hwh:∀ p:Nat,p<(VZ text).length→Xt (spS text) (p:Int)=some (((VZ text).getD p 0:Nat):Int):=fun p hp=>by
   have:=JAe (JJ text) (VZ text) (p:Int)
   rw[Jyu _ _ hp]at this
   exact this
  cases ok
  ·simp only[Bool.not_false,if_true,inrO]
   rw[hwh _ (by omega)]
   rfl
  simp only[Bool.not_true,Bool.false_eq_true,if_false,eqI,decide_eq_true_eq,Bool.true_eq_false]
  rw[hxT,List.drop_drop]
  by_cases hend:i+k=(JJ text).length
  ·rw[if_pos (by omega),if_pos (List.drop_of_length_le (by omega))]
   simp[inrO,JcF,finV]
  have hlt:i+k<(JJ text).length:=by omega
  rw[if_neg (show ¬ ((i+k:Nat):Int)=((JJ text).length:Int) by omega),if_neg (show ¬ (JJ text).drop (i+k)=[] from fun h=>by have:=congrArg List.length h; simp at this; omega)]
  have hone:=JCQ (spS text) text file out (by rw[hxT]; omega) (by omega) (i+k) (by rw[hxT]; exact hlt)
  rw[hxT]at hone
  have j2:∀ first:Bool,first=(out.isEmpty || feed)→JcF (Jbt file text (spS text)) (Jbq file text (spS text) out (decide (0<k),feed,true,((i+k:Nat):Int)) first) =
    some (finV file text out (match JdW ((JJ text).drop (i+k)) (!(out.isEmpty || feed) && decide (stOf out=2)) with
     | (_,none)=>([],some (i+k))
     | (kind,some m) =>
      let t:=((JJ text).drop (i+k)).take m
      let x:=lxF n (((JJ text).drop (i+k)).drop m) (i+k+m) (Jnt (stOf out) t (out.isEmpty || feed)) false
      (⟨kind,i+k,m,decide (0<k),out.isEmpty || feed,t⟩::x.1,x.2))):=fun first hfirst=>by
   simp only[Jbq]
   rw[hwh _ (by omega)]
   simp only[Option.bind_some]
   rw[show Jbr first (spS text).Text (spS text).At text file ((i+k:Nat):Int) out=_ from hone first]
   simp only[Option.bind_some]
   rw[hfirst,JyR]
   generalize hp:JdW ((JJ text).drop (i+k)) (!(out.isEmpty || feed) && decide (stOf out=2))=pc
   obtain⟨kind,m⟩:=pc
   cases m with
   | none=>simp[optI,ltI,inrO,JcF,finV]
   | some m =>
    obtain⟨m1,m2⟩:=Js0 hp
    rw[List.length_drop]at m2
    have hlt0:ltI (optI (i+k) (some m)) 0=false:=decide_eq_false (show ¬ (((i+k+m:Nat):Int)<0) by omega)
    have hoI:optI (i+k) (some m)=((i+k+m:Nat):Int):=rfl
    simp only[hlt0,Bool.false_eq_true,if_false]
    rw[hoI]
    rw[hxT]
    rw[if_pos (show(0:Int)≤((i+k:Nat):Int)∧((i+k:Nat):Int)≤((i+k+m:Nat):Int)∧((i+k+m:Nat):Int)≤(JJ text).length by omega)]
    rw[wNm (i+k+m) (by omega),hwh _ (by omega)]
    simp only[Option.bind_some]
    have hA1:=JtT text (i+k) (by omega)
    have hA2:=JtT text (i+k+m-1) (by omega)
    rw[JAn text _ (by omega)]
    simp only[Option.bind_some]
    have hkAt:kAt text (((VZ text).getD (i+k) 0:Nat):Int)=(VZ text).getD (i+k) 0:=by unfold kAt; rw[Int.toNat_natCast]; omega
    rw[hkAt,if_pos (by simp; omega)]
    rw[wN1 _ (by omega)]
    simp only[Int.toNat_natCast,show i+k+m-(i+k)=m by omega,JcF]
    have htok:(⟨kind,List.take m (List.drop (i+k) (JJ text)),decide (0<k),out.isEmpty || feed,file,(((VZ text).getD (i+k) 0:Nat):Int),(((VZ text).getD (i+k+m-1) 0+1:Nat):Int),((JfD text ((VZ text).getD (i+k) 0):Nat):Int),[],[],0⟩:Token)=tokOf file text ⟨kind,i+k,m,decide (0<k),out.isEmpty || feed,List.take m (List.drop (i+k) (JJ text))⟩:=rfl
    rw[htok,JtD file text ht n (i+k+m) _ (by omega) (by omega) (by simp; omega),JyJ,Jy5,List.drop_drop]
    have hne:(out++[tokOf file text ⟨kind,i+k,m,decide (0<k),out.isEmpty || feed,List.take m (List.drop (i+k) (JJ text))⟩]).isEmpty=false:=by simp
    rw[hne]
    rfl
  by_cases ho0:out=[]
  ·subst ho0
   rw[if_pos (show((([]:List Token).length:Nat):Int)=0 from rfl)]
   exact j2 true (by simp)
  have hol:¬ ((out.length:Nat):Int)=0:=fun h=>ho0 (List.length_eq_zero_iff.1 (by omega))
  rw[if_neg hol]
  exact j2 feed (by cases out with | nil=>exact absurd rfl ho0 | cons _ _=>rfl)
theorem JmQ(file:Int)(text:List UInt8)(h:text.length≤1099511627776):KG file text=some (Jcb file text):=by
 unfold KG Jcb
 simp only[ltI,decide_eq_true_eq]
 by_cases ht:3000<text.length
 ·rw[if_pos (by omega),if_pos ht]
 rw[if_neg (by omega),if_neg ht,JCi text h]
 have:=JtD file text (by omega) ((JJ text).length+1) 0 [] (Nat.zero_le _) (by omega) (by have:=Jm0 text; simp; omega)
 simp only[Option.bind_some]
 rw[show((0:Int),([]:List Token))=(((0:Nat):Int),[]) from rfl,this]
 unfold raws
 simp only[List.drop_zero]
 rw[show stOf []=0 from rfl,show([]:List Token).isEmpty=true from rfl]
 generalize lxF ((JJ text).length+1) (JJ text) 0 0 true=z
 obtain⟨ts,_ | p⟩:=z <;> simp[finV]
end Go.Proofs.YtfkhlbhjhdpkoaaGreatDoor
namespace Go.Proofs.YtfkhlbhjhdpkoaaGreatDoor
open Go.RowKit
end Go.Proofs.YtfkhlbhjhdpkoaaGreatDoor
namespace Go.Proofs.YtfkhlbhjhdpkoaaGreatDoor
open Go.RowKit
end Go.Proofs.YtfkhlbhjhdpkoaaGreatDoor
namespace Go.Proofs.YtfkhlbhjhdpkoaaGreatDoor
open Go.RowKit
end Go.Proofs.YtfkhlbhjhdpkoaaGreatDoor
namespace Go.Proofs.YtfkhlbhjhdpkoaaGreatDoor
open Go.RowKit
theorem JyQ{A:Type}(l:List A)(k:Nat)(d:A)(h:k<l.length):l.drop k=l.getD k d::l.drop (k+1):=by
 rw[List.drop_eq_getElem_cons h]; simp[List.getD_eq_getElem?_getD,List.getElem?_eq_getElem h]
theorem Jzt{A:Type}(l:List A)(k:Nat)(d:A)(h:k<l.length):l.getD k d∈l:=by
 rw[List.getD_eq_getElem?_getD,List.getElem?_eq_getElem h]; exact List.getElem_mem h
theorem JCH{p:Prop} [Decidable p] (h:¬ p):(!decide p)=true:=by simp[h]
theorem Jxi{A R:Type} [Inhabited A] {b:Int×Int→Option ((Int×Int) ⊕ R)} (l:List A) (p:A→Bool) (f:Nat→R) (d:R)
  (hb:∀ j:Nat,j≤l.length→b ((l.length:Int),(j:Int))=if j<l.length then(if p (l.getD j default)=true then some (.inr (f j)) else some (.inl ((l.length:Int),((j+1:Nat):Int)))) else some (.inr d)) :
  Jt b ((l.length:Int),0)=some (if l.any p=true then f (l.findIdx p) else d):=by
 have key:∀ (n j:Nat),j≤l.length→l.length-j≤n→Jt b ((l.length:Int),(j:Int))=some (if(l.drop j).any p=true then f (j+(l.drop j).findIdx p) else d):=by
  intro n
  induction n with
  | zero =>
   intro j hj hn
   have:j=l.length:=by omega
   subst this
   rw[Kv,hb _ hj,if_neg (by simp)]
   simp
  | succ n ih =>
   intro j hj hn
   rw[Kv,hb j hj]
   by_cases h:j<l.length
   ·rw[if_pos h,JyQ l j default h]
    by_cases hp:p (l.getD j default)=true
    ·rw[if_pos hp]
     simp only[List.any_cons,hp,Bool.true_or,if_true,List.findIdx_cons,cond_true,Nat.add_zero]
    rw[if_neg hp]
    simp only
    rw[ih (j+1) (by omega) (by omega)]
    have hp:p (l.getD j default)=false:=by simpa using hp
    simp only[List.any_cons,hp,Bool.false_or,List.findIdx_cons,cond_false]
    congr 2
    congr 1
    omega
   rw[if_neg h,List.drop_of_length_le (by omega)]
   rfl
 have:=key l.length 0 (Nat.zero_le _) (Nat.le_refl _)
 simpa using this
end Go.Proofs.YtfkhlbhjhdpkoaaGreatDoor
