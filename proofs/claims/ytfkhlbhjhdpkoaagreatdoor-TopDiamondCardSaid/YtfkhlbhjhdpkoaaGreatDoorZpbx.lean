/- TopDiamond: a file with a guard that many files include comes out once. Plain. -/
import Derived.Test.YtfkhlbhjhdpkoaaGreatDoorZpbw
set_option linter.unusedVariables false
set_option linter.unusedSimpArgs false
set_option maxHeartbeats 4000000
namespace Go.Proofs.YtfkhlbhjhdpkoaaGreatDoor
open Go.RowKit
set_option maxHeartbeats 1000000
def aP(j:Nat):List UInt8:=[97]++Lib.itoa (j:Int)
def dH:List UInt8:=[100,46,104]
def mC:List UInt8:=[109,46,99]
def endW:List UInt8:=[101,110,100]
def incD:List UInt8:=[35,105,110,99,108,117,100,101,32,34,100,46,104,34,10]
def JD5:List UInt8:=[35,105,110,99,108,117,100,101,32,34,97]
def dL1:Nat→List Source
 | 0=>[]
 | n+1=>dL1 n++[⟨[97]++Lib.itoa (n:Int),incD⟩]
def dS1:Nat→List UInt8
 | 0=>[]
 | n+1=>((dS1 n++JD5)++Lib.itoa (n:Int))++[34,10]
def preD:List UInt8:=[35,105,102,110,100,101,102,32,68,95,72,10,35,100,101,102,105,110,101,32,68,95,72]
def gD:List UInt8:=[68,95,72]
def fsD(n:Nat)(w:List UInt8):List Source:=dL1 n++[⟨dH,preD++10::(w++10::sufG)⟩,⟨mC,dS1 n++endW⟩]
def pthA:Nat→List (List UInt8)
 | 0=>[]
 | n+1=>pthA n++[aP n]
def pths(n:Nat):List (List UInt8):=pthA n++[dH,mC]
theorem JdY:∀ n,(dL1 n).length=n
 | 0=>rfl
 | n+1=>by simp[dL1,JdY n]
theorem Jvf:∀ n,(dL1 n).map (·.Path)=pthA n
 | 0=>rfl
 | n+1=>by rw[dL1,List.map_append,Jvf n]; rfl
theorem JmL(n:Nat)(w:List UInt8):(fsD n w).map (·.Path)=pths n:=by
 unfold fsD pths
 rw[List.map_append,Jvf]; rfl
theorem JbF(n:Nat)(w:List UInt8):(fsD n w).length=n+2:=by simp[fsD,JdY]
theorem JxA:∀ (n j:Nat),j<n→(dL1 n).getD j default=⟨aP j,incD⟩
 | 0,_,h=>by omega
 | n+1,j,h=>by
  rw[dL1]
  by_cases hj:j<n
  ·rw[List.getD_eq_getElem?_getD,List.getElem?_append_left (by rw[JdY]; exact hj),← List.getD_eq_getElem?_getD]
   exact JxA n j hj
  obtain rfl:j=n:=by omega
  exact Jiw (dL1 j) [] _ (JdY j).symm
theorem Jtn(n j:Nat)(w:List UInt8)(h:j<n):(fsD n w).getD j default=⟨aP j,incD⟩:=by
 unfold fsD
 rw[List.getD_eq_getElem?_getD,List.getElem?_append_left (by rw[JdY]; exact h),← List.getD_eq_getElem?_getD]
 exact JxA n j h
theorem Joa(n:Nat)(w:List UInt8):(fsD n w).getD n default=⟨dH,preD++10::(w++10::sufG)⟩:=Jiw (dL1 n) _ _ (JdY n).symm
theorem Jtp(n:Nat)(w:List UInt8):(fsD n w).getD (n+1) default=⟨mC,dS1 n++endW⟩:=by
 unfold fsD
 rw[show dL1 n++[⟨dH,preD++10::(w++10::sufG)⟩,⟨mC,dS1 n++endW⟩]=(dL1 n++[⟨dH,preD++10::(w++10::sufG)⟩])++[⟨mC,dS1 n++endW⟩] by simp]
 exact Jiw _ [] _ (by simp[JdY])
def fIdx(l:List (List UInt8))(p:List UInt8):Int:=if l.any (fun x=>decide (x=p))=true then(l.findIdx (fun x=>decide (x=p)):Nat) else -1
theorem JCS(fs:List Source)(hl:fs.length≤1000)(p:List UInt8):JbP fs p=some (fIdx (fs.map (·.Path)) p):=by
 unfold JbP Kz
 rw[Jjb fs (fun m=>decide (m.Path=p)) (fun j=>(j:Int)) (-1) (fun j hj=>?_)]
 ·simp only[Option.bind_some,fIdx,List.any_map,List.findIdx_map]
  rfl
 simp only[Kh,JfA,ltI,eqS,decide_eq_true_eq,Int.toNat_natCast,inrO,Option.map_some,Option.bind_some]
 by_cases h:j<fs.length
 ·rw[if_pos (by omega),if_pos (by omega),if_pos h,wN1 j (by omega)]
 rw[if_neg (by omega),if_neg h]
theorem fA:∀ n,n<7→∀ j,j<n→fIdx (pths n) (aP j)=(j:Int):=by decide +kernel
theorem fD:∀ n,n<7→fIdx (pths n) dH=(n:Int):=by decide +kernel
theorem bA:∀ j,j<6→XL mC (aP j)=some (aP j):=by decide +kernel
theorem bD:∀ j,j<6→XL (aP j) dH=some dH:=by decide +kernel
theorem cA:∀ n,n<7→∀ i,i<(pths n).length→Jcc ((pths n).getD i [])=some true:=by decide +kernel
theorem lA:∀ n,n<7→∀ i,i<(pths n).length→0<i→Op.bytesLess ((pths n).getD (i-1) []) ((pths n).getD i [])=true:=by decide +kernel
theorem sA:∀ n,n<7→(dS1 n++endW).length≤3000:=by decide +kernel
def Joe:Nat→List YI
 | 0=>[]
 | n+1=>Joe n++incK (aP n)
theorem kR0:(List.range 7).all (fun n=>decide (lxK (raws (dS1 n++endW))=(Joe n++[(1,endW,true)],true)))=true:=by decide +kernel
theorem kR(n:Nat)(h:n<7):lxK (raws (dS1 n++endW))=(Joe n++[(1,endW,true)],true):=of_decide_eq_true (List.all_eq_true.1 kR0 n (List.mem_range.2 h))
theorem kD:lxK (raws incD)=(incK dH++[],true):=by decide +kernel
theorem JDD:lxK (lxF (preD.length+1) preD 0 0 true)=(Jit gD,true):=by decide +kernel
theorem JBO:∀ j:Nat,j<6→(Lib.itoa (j:Int)).length=1:=by decide +kernel
theorem JwI(n:Nat)(hn:n<7)(w:List UInt8)(k:Nat)(p q:List UInt8)(hk:k<n+2)(hp:((fsD n w).getD k default).Path=q)(hb:XL q p=some p){x:Nat}(hf:fIdx (pths n) p=(x:Int)):XR (fsD n w) (k:Int) p true=some (x:Int):=by
 unfold XR
 rw[if_neg (by simp only[ltI,decide_eq_true_eq]; omega),show leI ((fsD n w).length:Int) (k:Int)=false by simp only[leI,JbF]; exact decide_eq_false (by omega)]
 simp only[Jbj,Bool.false_eq_true,if_false,Bool.not_true,Int.toNat_natCast,JbF]
 rw[if_pos (by omega),hp,hb]
 simp only[Option.bind_some,JCS (fsD n w) (by rw[JbF]; omega),JmL,hf,leI]
 rw[if_pos (by simp)]
theorem Jz6(n:Nat)(hn:n<7)(w:List UInt8)(hw:w.length≤20):Zs (fsD n w)=some ⟨0,-1,0⟩:=by
 have hpl:(pths n).length=n+2:=by rw[← JmL n w,List.length_map,JbF]
 have hpg:∀ j,j<n+2→((fsD n w).getD j default).Path=(pths n).getD j []:=by
  intro j hj
  rw[← JmL n w]
  simp only[List.getD_eq_getElem?_getD,List.getElem?_map]
  rw[List.getElem?_eq_getElem (by rw[JbF]; exact hj)]
  rfl
 refine JAA (fsD n w) (by rw[JbF]; omega) (fun j hj=>?_)
 rw[JbF]at hj
 refine⟨by rw[hpg j hj]; exact cA n hn j (by omega),?_,fun h0=>?_⟩
 ·by_cases h1:j<n
  ·rw[Jtn n j w h1]; show incD.length≤3000; decide
  by_cases h2:j=n
  ·subst h2
   rw[Joa]
   simp[preD,sufG]; omega
  obtain rfl:j=n+1:=by omega
  rw[Jtp]; exact sA n hn
 rw[hpg j hj,hpg (j-1) (by omega)]
 exact lA n hn j (by omega) h0
theorem JoA:∀ (n:Nat) (ks:List YI) (ts:List Token),ts.map keyT=Joe n++ks→(∀ t r,ks=t::r→t.2.2=true) →
  ∃ Ls R,JC ts=Ls++JC R∧Ls.length=n∧R.map keyT=ks∧(∀ t∈R,t∈ts)∧∀ j,j<n→∃ a b c,Ls.getD j default=[a,b,c]∧c∈ts∧(a.Text=[35]∧a.Kind=5)∧b.Text=incT∧c.Text=34::(aP j++[34])∧c.Kind=4
 | 0,ks,ts,h,_=>⟨[],ts,rfl,rfl,h,fun _ h=>h,fun j hj=>by omega⟩
 | n+1,ks,ts,h,hk=>by
  rw[Joe,List.append_assoc]at h
  obtain⟨Ls,R,h1,h2,h3,h4,h5⟩:=JoA n (incK (aP n)++ks) ts h (fun t r e=>by
   unfold incK at e
   simp only[List.cons_append,List.cons.injEq]at e
   rw[← e.1])
  obtain⟨a,b,c,R',r1,r2,r3,r4,r5,r6,r7⟩:=Jso h3 hk
  refine⟨Ls++[[a,b,c]],R',?_,by simp[h2],r3,fun t ht=>h4 t (by rw[r1]; simp[ht]),fun j hj=>?_⟩
  ·rw[h1,r2]; simp
  by_cases hjn:j<n
  ·obtain⟨a',b',c',g1,g2⟩:=h5 j hjn
   refine⟨a',b',c',?_,g2⟩
   rw[List.getD_eq_getElem?_getD,List.getElem?_append_left (by omega),← List.getD_eq_getElem?_getD,g1]
  obtain rfl:j=n:=by omega
  exact⟨a,b,c,Jiw Ls [] _ h2.symm,h4 c (by rw[r1]; simp),r4,r5,r6,r7⟩
theorem JyM(L n:Nat)(hn:n<7)(w:List UInt8)(j:Nat)(hj:j<n)(F:Int)(M:List Macro)(rd:List Int)(hrd:rd.length≤100)(out:List Token){F':Int}{M':List Macro}{rd':List Int}{out':List Token}
  (hg:(Jh (L+1)).1 (n:Int) (fsD n w) F 1500 6 M [] (rd++[(j:Int)]) (0+1+1) out=some (.ok (F',M',[],rd',0+1+1,out'))) :
  (Jh (L+4)).1 (j:Int) (fsD n w) F 1500 6 M [] rd (0+1) out=some (.ok (F',M',[],rd',0+1,out')):=by
 obtain⟨ts,t1,t2,t3⟩:=Jhy (k:=(j:Int)) (text:=incD) (by decide) kD
 obtain⟨a,b,c,R,hts,l1,l2,⟨a1,a2⟩,b1,c1,c2⟩:=Jso t2 (fun t r e=>by cases e)
 obtain rfl:=List.map_eq_nil_iff.1 l2
 have hc:c.File=(j:Int):=(t3 c (by rw[hts]; simp)).1
 rw[JjN,Jl4 _ _ _ (fsD n w) F 1500 6 M [] rd (0+1) out j (by rw[JbF]; omega) (ts:=ts) (by rw[Jtn n j w hj]; exact t1) (by rw[Jtn n j w hj]; show incD.length≤3000; decide) (by omega),l1]
 have hi:=JyY L (fsD n w) F 1500 6 M [] (rd++[(j:Int)]) (0+1) out a b c b1 c2 c1 (by decide) (k:=n) (by rw[hc]; exact JwI n hn w j dH (aP j) (by omega) (by rw[Jtn n j w hj]) (bD j (by omega)) (fD n hn)) (by simp) (by simp) (by omega) hg
 have s0:=Jt0 (Jh (L+3)).2.1 (fsD n w) 1500 6 [[a,b,c]] 0 0 F M [] (rd++[(j:Int)]) (0+1) [] [] out (by simp) (by simp) rfl (by simp) a1 a2 (JaS M (fsD n w) F 1500 6 (0+1) [] (rd++[(j:Int)]) out)
  (JiZ (fsD n w) F 1500 6 M [] (rd++[(j:Int)]) (0+1) [] out 0 [a,b,c] incT (by simp) b1) (Jop []) hi
 rw[Jz]
 rw[show((0:Nat):Int)=0 from rfl]at s0
 rw[show [a,b,c]::JC []=[[a,b,c]] from rfl,s0]
 simp only
 rw[Jz,show((0+1:Nat):Int)=(([[a,b,c]]:List (List Token)).length:Int) from rfl,Ji3 (Jh (L+3)).2.1 (fsD n w) 1500 6 [[a,b,c]] F' M' [] rd' (0+1) [] [] out' (JaS M' (fsD n w) F' 1500 6 (0+1) [] rd' out')]
theorem Jwt{p:UInt8→Bool}:∀ {l:List UInt8},(∀ x∈l,p x=true)→runN p l=l.length
 | [],_=>rfl
 | c::l,h=>by
  have:=Jwt (fun x hx=>h x (List.mem_cons_of_mem _ hx))
  unfold runN at *
  rw[List.takeWhile_cons,if_pos (h c (by simp)),List.length_cons,this,List.length_cons]
theorem Jzs(w:List UInt8)(hw:w≠[])(hl:∀ c∈w,97≤c.toNat∧c.toNat≤122):lxK (raws w)=([(1,w,true)],true):=by
 have hsp:JB w=w:=by
  have:=JuU w 0 (fun c hc=>by
   have:=hl c hc
   constructor <;> (rintro rfl; revert this; decide))
  unfold JB spAt
  rw[List.drop_zero]; exact this
 unfold raws
 rw[hsp]
 cases w with
 | nil=>exact absurd rfl hw
 | cons c r =>
  have hc:=hl c (by simp)
  have hlet:∀ x∈c::r,JcZ x=true:=fun x hx=>by
   have:=hl x hx
   unfold JcZ
   rw[decide_eq_true this.1,decide_eq_true this.2]; rfl
  have hrun:runN isWd (c::r)=(c::r).length:=by
   exact Jwt (fun x hx=>by unfold isWd; rw[hlet x hx]; rfl)
  have hne:∀ k:UInt8,k.toNat<97→c≠k:=fun k hk e=>by rw[e]at hc; omega
  have hb:isBl c=false:=by
   unfold isBl
   rw[decide_eq_false (hne 32 (by decide)),decide_eq_false (hne 9 (by decide)),decide_eq_false (hne 10 (by decide)),decide_eq_false (hne 13 (by decide))]; rfl
  have hsk:=Jgw (c:=c) (r:=r) hb (fun q=>hne 47 (by decide) q.1) (fun q=>hne 47 (by decide) q.1)
  have hp:∀ p,Jbq (c::r) p=(1,some (c::r).length):=fun p=>by
   rw[Jb1,if_pos (hlet c (by simp)),hrun]
  rw[XP,hsk]
  simp only[List.drop_zero,hp]
  rw[if_neg (by decide),if_neg (by simp)]
  have hd:(c::r).drop (c::r).length=[]:=List.drop_of_length_le (Nat.le_refl _)
  rw[hd,List.take_length,List.length_cons,XP,Jjr]
  rfl
end Go.Proofs.YtfkhlbhjhdpkoaaGreatDoor
