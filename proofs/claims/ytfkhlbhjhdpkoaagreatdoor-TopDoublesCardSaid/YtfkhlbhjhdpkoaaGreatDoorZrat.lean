/- slices.Sort and slices.Compact of own strings,by the library's contracts. -/
import Derived.Test.YtfkhlbhjhdpkoaaGreatDoorZrap
import Derived.Sort.OwnSorted
import Derived.Shelf.Slices.In.SortNone
set_option linter.unusedVariables false
set_option linter.unusedSimpArgs false
namespace Go.Proofs.YtfkhlbhjhdpkoaaGreatDoor
open Go.Shelf Go.RowKit Go.Sort
def leS:List UInt8→List UInt8→Bool:=fun x y=>decide (x≤y)
def insS(x:List UInt8):List (List UInt8)→List (List UInt8)
 | []=>[x]
 | y::l=>if leS x y then x::y::l else y::insS x l
def Jb5:List (List UInt8)→List (List UInt8)
 | []=>[]
 | x::l=>insS x (Jb5 l)
def goC:List UInt8→List (List UInt8)→List (List UInt8)
 | _,[]=>[]
 | p,y::r=>if y=p then goC y r else y::goC y r
def JT:List (List UInt8)→List (List UInt8)
 | []=>[]
 | x::l=>x::goC x l
theorem JoU{w:World}{S:Nat→Nat→Prop}:∀ {l:List (List UInt8)} {us:List Value},Rn w S ((l.map dS).flatMap D.cells) us→us=l.map encStr
 | [],us,h=>by cases h; rfl
 | x::l,us,h=>by
  have h:Rn w S (dS x::(l.map dS).flatMap D.cells) us:=h
  cases h with
  | acons _ v _ vs h1 h2 =>
   obtain rfl:=R1.vInv h1
   rw[JoU h2]
   rfl
theorem Jom{w:World}{S:Nat→Nat→Prop}:∀ (l:List (List UInt8)),Rn w S ((l.map dS).flatMap D.cells) (l.map encStr)
 | []=>.anil
 | x::l=>.acons _ _ _ _ (.v _) (Jom l)
theorem Jwh(r r':List C)(h0:r≠[])(h:r'≠[]):({ hpL [r] [] with H:=upd (hpL [r] []).H 1 (some r') }:Hp)=hpL [r'] []:=by
 have e:upd (hpL [r] []).H 1 (some r')=hpH [r']:=by
  funext n
  unfold upd
  by_cases h1:n=1
  ·subst h1
   cases r' with
   | nil=>exact absurd rfl h
   | cons c l=>rfl
  rw[if_neg h1]
  show hpH [r] n=hpH [r'] n
  unfold hpH
  by_cases h2:n=0
  ·rw[if_pos h2,if_pos h2]
  rw[if_neg h2,if_neg h2,List.getElem?_eq_none (by simp; omega),List.getElem?_eq_none (by simp; omega)]
 show(⟨upd (hpL [r] []).H 1 (some r'),hpT 1 [],2⟩:Hp)=⟨hpH [r'],hpT 1 [],2⟩
 rw[e]
theorem WInv.reStrs{Γ:Ctx}{e:Env}{l l':List (List UInt8)}(hw:WInv Γ (hpL [[.arr 1 (l.map dS)]] []) e)(hl:l'.length=l.length){b cap:Nat}{cur:Array Value}{ty:TypeId}(hρ:e.ρ 1=some b)(hτ:e.τ 1=some (.slice none cap cap))
  (hb:e.w.heap[b]? = some (.cells cur ty (0,0))) (hcap:cur.size=cap) (hm:cap≤maxLen) (hle:l.length≤cap) {w':World} (hb':w'.heap[b]? = some (.cells (putCells encStr 0 l'.toArray cur) ty (0,0))) (hg:e.w.grownBy w' (some b)) :
  WInv Γ (hpL [[.arr 1 (l'.map dS)]] []) { e with w:=w' }:=by
 have hH:(hpL [[.arr 1 (l.map dS)]] []).H 1=some [.arr 1 (l.map dS)]:=rfl
 have hsz:(putCells encStr 0 l'.toArray cur).toList.length=cur.size:=by simp[putCells]
 have ht:=take_putCells cur l' (by omega)
 obtain⟨w1,l1⟩:=hw.setBox (row':=[.arr 1 (l'.map dS)]) (vs:=(putCells encStr 0 l'.toArray cur).toList) hH hρ hb
  (show RB e 1 [.arr 1 (l'.map dS)] _ from⟨l'.map encStr,[],(putCells encStr 0 l'.toArray cur).toList.drop l'.length,cap,by rw[List.append_nil,← ht,List.take_append_drop],Jom l',fun d hd=>by
   obtain⟨x,_,rfl⟩:=List.mem_map.1 hd; rfl,trivial,.inl rfl,by decide,by rw[hsz,hcap,Nat.mul_one],hm,hτ⟩)
  hsz rfl (fun h=>by cases h)
 rw[Jwh _ _ (by simp) (by simp)]at w1
 have hgr:Grows (e.w.setRow b (putCells encStr 0 l'.toArray cur).toList.toArray) w':=by
  refine⟨hg.os,hg.tape,hg.output,by simpa [World.setRow] using hg.size,fun k hk=>?_⟩
  have hk':k<e.w.heap.size:=by simpa [World.setRow] using hk
  by_cases hkb:k=b
  ·subst hkb
   rw[hb',setRow_heap _ _ _ _ _ _ hb,Array.toArray_toList]
  rw[hg.block k hk' (by simpa using hkb),setRow_other _ _ _ _ hkb]
 exact(w1.quiet hgr).1
theorem Jro{Γ:Ctx}{e:Env}{l:List (List UInt8)}(hw:WInv Γ (hpL [[.arr 1 (l.map dS)]] []) e){v:Value}(hv:RC e (.os 1 1 0 l.length) v):
  (l=[]∧∃ o,v=.slice o 0 0)∨∃ b cap cur ty,e.ρ 1=some b∧e.τ 1=some (.slice none cap cap)∧v=.slice (some ⟨b,0,none⟩) l.length cap∧l.length≤cap∧e.w.heap[b]? = some (.cells cur ty (0,0))∧cur.size=cap∧cap≤maxLen∧cur.toList.take l.length=l.map encStr:=by
 rcases hv with⟨h0,o,rfl⟩|⟨b,cap,k1,k2,rfl,k4⟩
 ·exact .inl ⟨List.length_eq_zero_iff.1 h0,o,rfl⟩
 obtain⟨ob,q2,q3,_,_⟩:=hw.boxAny k1 [.arr 1 (l.map dS)] rfl
 obtain⟨cur,ty,rfl,us,ts,zs,cap',j1,j2,j3,j4,j5,j6,j7,j8,j9⟩:=q3.plain rfl
 rw[k2]at j9; cases j9
 have e1:=JoU j2
 cases ts with
 | cons _ _=>exact j4.elim
 | nil =>
  refine .inr ⟨b,cap,cur,ty,k1,k2,by simp,by simpa using k4,q2,by simpa using j7,j8,?_⟩
  rw[j1,e1]
  simp
theorem Jt7(x:List UInt8):∀ l,(insS x l).length=l.length+1
 | []=>rfl
 | y::l=>by
  unfold insS
  split
  ·rfl
  simp[Jt7 x l]
theorem Jgv:∀ l,(Jb5 l).length=l.length
 | []=>rfl
 | x::l=>by rw[Jb5,Jt7,Jgv l]; rfl
theorem Jsg(a b c:List UInt8)(h1:leS a b=true)(h2:leS b c=true):leS a c=true:=by
 simp only[leS,decide_eq_true_eq]at *
 exact List.le_trans h1 h2
theorem Jpa(a b:List UInt8):(leS a b || leS b a)=true:=by
 simp only[leS,Bool.or_eq_true,decide_eq_true_eq]
 exact List.le_total a b
theorem JAl(a b:List UInt8)(h1:leS a b=true)(h2:leS b a=true):a=b:=by
 simp only[leS,decide_eq_true_eq]at *
 exact List.le_antisymm h1 h2
theorem Jj3(x:List UInt8):∀ l,(insS x l).Perm (x::l)
 | []=>List.Perm.refl _
 | y::l=>by
  unfold insS
  split
  ·exact List.Perm.refl _
  exact((Jj3 x l).cons y).trans (List.Perm.swap x y l)
theorem JiR:∀ l,(Jb5 l).Perm l
 | []=>List.Perm.refl _
 | x::l=>(Jj3 x (Jb5 l)).trans ((JiR l).cons x)
theorem Jl1(x:List UInt8):∀ l,l.Pairwise (fun a b=>leS a b=true)→(insS x l).Pairwise (fun a b=>leS a b=true)
 | [],_=>by simp[insS]
 | y::l,h=>by
  unfold insS
  rw[List.pairwise_cons]at h
  split
  ·rename_i hx
   refine List.pairwise_cons.2 ⟨fun z hz=>?_,List.pairwise_cons.2 h⟩
   rcases List.mem_cons.1 hz with rfl | hz
   ·exact hx
   exact Jsg _ _ _ hx (h.1 z hz)
  rename_i hx
  refine List.pairwise_cons.2 ⟨fun z hz=>?_,Jl1 x l h.2⟩
  rcases List.mem_cons.1 ((Jj3 x l).mem_iff.1 hz) with rfl | hz
  ·have:=Jpa y z
   simp only[Bool.or_eq_true]at this
   exact this.resolve_right hx
  exact h.1 z hz
theorem JkD:∀ l,(Jb5 l).Pairwise (fun a b=>leS a b=true)
 | []=>by simp[Jb5]
 | x::l=>Jl1 x _ (JkD l)
theorem Jzo(l:List (List UInt8)):l.mergeSort (fun x y=>decide (x≤y))=Jb5 l:=by
 refine List.Perm.eq_of_pairwise (le:=fun a b=>leS a b=true) (fun a b _ _ h1 h2=>JAl a b h1 h2) ?_ (JkD l) ((List.mergeSort_perm l _).trans (JiR l).symm)
 exact List.pairwise_mergeSort (le:=leS) (fun a b c=>Jsg a b c) (fun a b=>Jpa a b) l
noncomputable def KS(a0:List (List UInt8)):Option Unit:=if a0.length<4611686018427387904 then some () else none
def XQ(a0:List (List UInt8))(r:Unit):GI :=
 ⟨[.c (.os 1 1 0 a0.length)],[[.arr 1 (List.map dS a0)]],[],.ret (.tu []) [[.arr 1 (List.map dS (Jb5 a0))]] []⟩
def Vj:GI→Prop:=Sg1 KS XQ
theorem Jz0(a0:List (List UInt8))(r:Unit)(hlen:a0.length<4611686018427387904):Jm Tryz.prog 160 (XQ a0 r):=by
 intro e vs hw hc ha
 match vs,ha with
 | [v],⟨h1,_⟩ =>
  rcases Jro hw h1 with⟨rfl,o,rfl⟩|⟨b,cap,cur,ty,k1,k2,rfl,k4,k5,k6,k7,k8⟩
  ·refine(Any.slices_Sort_string_none Jwo o 0 e.w).mono ?_
   rintro en w' ⟨rfl,rfl⟩
   exact⟨_,e,rfl,rfl,⟨hw,hc,Nat.le_refl _⟩,⟨[],rfl,trivial⟩⟩
  have hH:=holds_of_block k5 k8
  have hblk:b<e.w.heap.size:=(Array.getElem?_eq_some_iff.1 k5).1
  refine(Any.slices_Sort_string Jwo b 0 cap a0 e.w hH hblk hlen).mono ?_
  rintro en w' ⟨rfl,n,os,rfl⟩
  rw[Jzo]
  exact⟨_,{ e with w:=_ },rfl,rfl,⟨WInv.reStrs hw (Jgv a0) k1 k2 k5 k6 k7 k4 (heap_sorted _ k5) (grownBy_sorted _),hc,Nat.le_refl _⟩,⟨[],rfl,trivial⟩⟩
theorem Jfg:∀ g,Vj g→Jm Tryz.prog 160 g:=by
 rintro _ ⟨a0,r,H,rfl⟩
 unfold KS at H
 split at H
 ·rename_i h; exact Jz0 a0 r h
 cases H
theorem JfN:Jc Tryz.prog 160∧(∀ g,Vj g→Jm Tryz.prog 160 g)∧(true=true→∀ g,Vj g→∃ val bs ts,g.out=.ret val bs ts) :=
 ⟨Jzg,Jfg,fun _=>by rintro _ ⟨_,_,_,rfl⟩; exact⟨_,_,_,rfl⟩⟩
theorem JwI:∀ (p:List UInt8) (l:List (List UInt8)),(goC p l).length≤l.length
 | _,[]=>Nat.le_refl _
 | p,y::r=>by
  have:=JwI y r
  unfold goC
  split
  ·simp; omega
  simp; omega
theorem Jke(l:List (List UInt8)):(JT l).length≤l.length:=by
 cases l with
 | nil=>exact Nat.le_refl _
 | cons x l=>have:=JwI x l; simp only[JT,List.length_cons]; omega
theorem JvA:∀ (l pre:List (List UInt8)) (p:List UInt8),((List.range' (pre.length+1) l.length).filter (Lib.keeps ((pre++p::l).toArray))).map (fun j=>((pre++p::l).toArray)[j]!)=goC p l
 | [],pre,p=>rfl
 | y::r,pre,p=>by
  have ih:=JvA r (pre++[p]) y
  have e0:(pre++[p])++y::r=pre++p::y::r:=by simp
  rw[e0,List.length_append,List.length_singleton]at ih
  have h1:((pre++p::y::r).toArray)[pre.length+1]! = y:=by
   rw[List.getElem!_toArray]
   simp[List.getElem!_eq_getElem?_getD]
  have h0:((pre++p::y::r).toArray)[pre.length+1-1]! = p:=by
   rw[List.getElem!_toArray]
   simp[List.getElem!_eq_getElem?_getD]
  rw[List.length_cons,List.range'_succ,List.filter_cons]
  unfold goC
  by_cases hy:y=p
  ·have hk:Lib.keeps ((pre++p::y::r).toArray) (pre.length+1)=false:=by
    unfold Lib.keeps
    rw[h1,h0]
    simp[hy]
   rw[hk,if_neg (by decide),if_pos hy]
   exact ih
  have hk:Lib.keeps ((pre++p::y::r).toArray) (pre.length+1)=true:=by
   unfold Lib.keeps
   rw[h1,h0]
   simp[hy]
  rw[hk,if_pos rfl,if_neg hy,List.map_cons,h1]
  exact congrArg (y :: ·) ih
theorem Jxn(l:List (List UInt8)):Lib.compact l=JT l:=by
 cases l with
 | nil=>rfl
 | cons x l =>
  have h:=JvA l [] x
  unfold Lib.compact Lib.compactUpTo
  rw[List.length_cons,List.range_eq_range',List.range'_succ,List.filter_cons,show Lib.keeps (x::l).toArray 0=true from rfl,if_pos rfl,List.map_cons]
  exact congrArg (x :: ·) h
noncomputable def Kz(a0:List (List UInt8)):Option Unit:=if a0.length<4611686018427387904 then some () else none
def V0(a0:List (List UInt8))(r:Unit):GI :=
 ⟨[.c (.os 1 1 0 a0.length)],[[.arr 1 (List.map dS a0)]],[],.ret (.c (.d (.sl 1 (List.map dS (JT a0))))) [[]] []⟩
def KX:GI→Prop:=Sg1 Kz V0
theorem Jve(a0:List (List UInt8))(r:Unit)(hlen:a0.length<4611686018427387904):Jm Tryz.prog 161 (V0 a0 r):=by
 intro e vs hw hc ha
 match vs,ha with
 | [v],⟨h1,_⟩ =>
  have fin:∀ (e2:Env) (h2:Hp),WInv (ctxG Tryz.prog 1 0 e) h2 e2→GFin Tryz.prog 1 0 e [[]] [] (renE ⟨[1],[]⟩ e2):=fun e2 h2 hi=>by
   have hr:=JgW (rt:=1) (bs:=[[]]) (ts:=[]) ⟨[1],[]⟩ rfl rfl rfl rfl (by simp[BWk]) (by simp[TWk]) rfl rfl hi
   exact⟨hr,JgK hr,Nat.le_refl _⟩
  rcases Jro hw h1 with⟨rfl,o,rfl⟩|⟨b,cap,cur,ty,k1,k2,rfl,k4,k5,k6,k7,k8⟩
  ·refine(Any.slices_Compact_string_empty Jvx o 0 e.w).mono ?_
   rintro en w' ⟨rfl,rfl⟩
   exact⟨_,renE ⟨[1],[]⟩ e,rfl,rfl,fin e _ hw,.slnil _ _⟩
  have hH:=holds_of_block k5 k8
  have hcl:=Jke a0
  refine(Any.slices_Compact_string Jvx b 0 cap a0 e.w hH (by omega) k4).mono ?_
  rintro en w' ⟨rfl,q,rfl⟩
  rw[Jxn]
  have hw1:=WInv.reStrs (l':=JT a0++List.replicate (a0.length-(JT a0).length) []) (w':=putRow encStr (Sort.ahead e.w q) b 0 (JT a0++List.replicate (a0.length-(JT a0).length) []).toArray) hw (by simp; omega) k1 k2 k5 k6 k7 k4
   (by have:=heap_sorted (n:=q) (os:=#[]) (JT a0++List.replicate (a0.length-(JT a0).length) []).toArray k5; rwa [grow_empty]at this)
   (by have:=grownBy_sorted (w:=e.w) (g:=b) (n:=q) (os:=#[]) (JT a0++List.replicate (a0.length-(JT a0).length) []).toArray; rwa [grow_empty]at this)
  have hw2:=hw1.trunc (n:=1) (sz:=1) (k:=(JT a0).length) (l:=(JT a0++List.replicate (a0.length-(JT a0).length) []).map dS) (cs:=[]) rfl rfl rfl (by simp)
  have e1:(((JT a0++List.replicate (a0.length-(JT a0).length) []).map dS)++List.map C.toD []).take (JT a0).length=(JT a0).map dS:=by simp
  rw[e1,Jwh _ _ (by simp) (by simp)]at hw2
  obtain⟨e3,g1,g2,g3⟩:=Jgk (rt:=1) (σ:=fun _=>.c (.os 1 1 0 (JT a0).length)) (h:=hpL [[.arr 1 ((JT a0).map dS)]] []) (n:=1) (sz:=1) (l:=(JT a0).map dS) (cs:=[]) rfl rfl rfl
   { ctxG Tryz.prog 1 0 e with nt:=1 } ⟨#[.slice (some ⟨b,0,none⟩) (JT a0).length cap],[]⟩ _ rfl ⟨rfl,⟨⟨[],rfl,trivial⟩,(show 1≤DS by decide)⟩,fun i hi=>by
    obtain rfl:i=0:=by have:i<1:=hi; omega
    exact .inr ⟨b,cap,k1,k2,by simp,by omega⟩⟩ (hw2.reCtx rfl rfl rfl rfl rfl rfl)
  refine⟨_,renE ⟨[1],[]⟩ e3,rfl,g1,fin e3 _ (g3.reCtx rfl rfl rfl rfl rfl rfl),?_⟩
  have:=g2.2.2 0 (by decide:(0:Nat)<1)
  have t:RA e3 (.c (.d (.sl 1 ((JT a0).map dS)))) (.slice (some ⟨b,0,none⟩) (JT a0).length cap):=by simpa [frzA,frzC] using this
  exact t
theorem Jev:∀ g,KX g→Jm Tryz.prog 161 g:=by
 rintro _ ⟨a0,r,H,rfl⟩
 unfold Kz at H
 split at H
 ·rename_i h; exact Jve a0 r h
 cases H
theorem JeV:Jc Tryz.prog 161∧(∀ g,KX g→Jm Tryz.prog 161 g)∧(true=true→∀ g,KX g→∃ val bs ts,g.out=.ret val bs ts) :=
 ⟨JzQ,Jev,fun _=>by rintro _ ⟨_,_,_,rfl⟩; exact⟨_,_,_,rfl⟩⟩
end Go.Proofs.YtfkhlbhjhdpkoaaGreatDoor
