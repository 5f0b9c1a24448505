/- strings.Split: an array of one's own,of a text's parts; strings.Join. -/
import Derived.Test.YtfkhlbhjhdpkoaaDoorZtai
import Derived.Test.YtfkhlbhjhdpkoaaDoorZtal
import Derived.Test.YtfkhlbhjhdpkoaaDoorZtam
import Derived.Lib.Split
set_option linter.unusedVariables false
set_option linter.unusedSimpArgs false
namespace Go.Proofs.YtfkhlbhjhdpkoaaDoor
open Go.Shelf Go.RowKit
theorem Jkd(c:UInt8):∀ (n:Nat) (s:List UInt8),s.length≤n→Lib.splitK [c] 0 (Lib.count s [c]) s=splV c s:=by
 intro n
 induction n with
 | zero =>
  intro s h
  obtain rfl:s=[]:=List.eq_nil_of_length_eq_zero (by omega)
  rfl
 | succ n ih =>
  intro s h
  have hi1:=Lib.index_one s c
  rcases (show Lib.indexByte s c<0∨0≤Lib.indexByte s c by omega) with hneg | hpos
  ·have hi:Lib.indexByte s c=-1:=by have:=Lib.indexByte_ge s c; omega
   rw[Lib.count_miss (hi1.trans hi),JdR (Lib.indexByte_none hi)]
   rfl
  ·obtain⟨o,ho⟩:∃ o:Nat,Lib.indexByte s c=(o:Int):=⟨_,(Int.toNat_of_nonneg hpos).symm⟩
   obtain⟨h2,h3⟩:=Lib.indexByte_some ho
   have hol:o<s.length:=(List.getElem?_eq_some_iff.1 h2).1
   rw[Lib.count_hit (by simp) (hi1.trans ho),Nat.add_comm,JdW h2 h3,Lib.splitK]
   rw[hi1,ho,if_neg (by simp)]
   simp only[Int.toNat_natCast,Nat.add_zero,List.length_cons,List.length_nil,Nat.zero_add]
   rw[ih _ (by simp; omega)]
theorem JeB(s:List UInt8):(Lib.splitB ⟨#[47]⟩ 0 (Lib.countB (bsl s) ⟨#[47]⟩) (bsl s)).map (·.data.toList)=splV 47 s:=by
 rw[Lib.splitB_data]
 exact Jkd 47 s.length s (Nat.le_refl _)
theorem JjP(s:List UInt8):((Lib.splitB ⟨#[47]⟩ 0 (Lib.countB (bsl s) ⟨#[47]⟩) (bsl s)).map Value.string)=(splV 47 s).map JbT:=by
 rw[← JeB s,List.map_map]
 exact List.map_congr_left fun x _=>rfl
theorem JgT(s:List UInt8):(splV 47 s).length=Lib.countB (bsl s) ⟨#[47]⟩+1:=by
 rw[← JeB s,List.length_map]
 exact Lib.splitB_all ⟨#[47]⟩ (by decide) 0 _ (bsl s) rfl
theorem WInv.allocArr{Γ:Ctx}{h:Hp}{e:Env}(hw:WInv Γ h e){el:TypeId}{sz cap:Nat}{l:List D}{us zs:List Value}{cur:Array Value}
  (hcur:cur.toList=us++zs) (hr:Rn e.w e.S (l.flatMap D.cells) us) (hd:∀ d∈l,d.cells.length=sz) (hsz:0<sz) (hcs:cur.size=cap * sz) (hmax:cap≤maxLen) :
  WInv Γ { h with H:=upd h.H h.nx (some [.arr sz l]),nx:=h.nx+1 } ⟨e.w.alloc (.cells cur el),fun b o=>e.S b o∨b=e.w.heap.size,upd e.ρ h.nx (some e.w.heap.size),upd e.τ h.nx (some (.slice none cap cap))⟩:=by
 have hg:Grows e.w (e.w.alloc (.cells cur el)):=Grows.alloc _ _
 obtain⟨w1,l1⟩:=hw.grows (S':=fun b o=>e.S b o∨b=e.w.heap.size) hg (fun b o hb=>⟨fun h=>h.resolve_right (by omega),.inl⟩) (fun b o hb=>by
  simp
  rcases hb with hb | hb
  ·have:=hw.sdom b o hb; omega
  ·omega)
 have hnew:(e.w.alloc (.cells cur el)).heap[e.w.heap.size]? = some (.cells cur el (0,0)):=heap_alloc_new e.w _
 obtain⟨f1,f2,f3,f4⟩:=w1.fresh h.nx (Nat.le_refl _)
 have hle:=(Env.le_name (b:=e.w.heap.size) f3).trans (Env.le_tok (v:=.slice none cap cap) (e:={ ({ e with w:=e.w.alloc (.cells cur el),S:=fun b o=>e.S b o∨b=e.w.heap.size }:Env) with ρ:=upd e.ρ h.nx (some e.w.heap.size) }) f4)
 have hle2:=l1.trans hle
 obtain⟨w2,l2⟩:=w1.addArr (b:=e.w.heap.size) (ob:=.cells cur el) (row:=[.arr sz l]) (u:=.slice none cap cap) hnew
  (RO.arr ⟨us,[],zs,cap,by simpa using hcur,RD.mono hle2.keep hr,hd,trivial,.inl rfl,hsz,by simpa using hcs,hmax,by simp⟩) (fun o _=>.inr rfl) (.inl hw.hB)
  (fun n hn hb=>by
   cases hH:h.H n with
   | none=>exact hn hH
   | some r =>
    simp only at hb
    obtain⟨ob,q2,_⟩:=hw.boxAny hb r hH
    have:=(Array.getElem?_eq_some_iff.1 q2).1
    omega)
  (fun k v hk hv hfull hb=>by
   cases hT:h.T k with
   | none=>exact absurd hT hk
   | some ty =>
    obtain⟨_,v',q1,q2⟩:=hw.tok k ty hT
    simp only at hv
    rw[hv]at q1; simp at q1; subst q1
    obtain⟨sz,n,xs,_,q2,_⟩:=q2.resolve_left hfull
    have:=(q2.1.lt _ hb).2
    omega)
 exact w2
theorem JmP(row:List C)(hr:row≠[]):({ hpL [] [] with H:=upd (hpL [] []).H 1 (some row),nx:=2 }:Hp)=hpL [row] []:=by
 have e:upd (hpL [] []).H 1 (some row)=hpH [row]:=by
  funext n
  unfold upd
  by_cases h1:n=1
  ·subst h1
   cases row with
   | nil=>exact absurd rfl hr
   | cons c l=>rfl
  ·rw[if_neg h1]
   show hpH [] n=hpH [row] n
   unfold hpH
   by_cases h2:n=0
   ·rw[if_pos h2,if_pos h2]
   ·rw[if_neg h2,if_neg h2,List.getElem?_eq_none (by simp),List.getElem?_eq_none (by simp; omega)]
 show(⟨upd (hpL [] []).H 1 (some row),hpT 0 [],2⟩:Hp)=⟨hpH [row],hpT 1 [],2⟩
 rw[e]
 congr 1
 funext k
 simp[hpT]
noncomputable def Xx(a0 a1:List UInt8):Option Unit:=if a0.length<4294967281∧a1=[47] then some () else none
def JaW(a0 a1:List UInt8)(r:Unit):GI :=
 ⟨[.c (.d (.v (str a0))),.c (.d (.v (str a1)))],[],[],.ret (.c (.os 1 1 0 (splV 47 a0).length)) [[.arr 1 (List.map dS (splV 47 a0))]] []⟩
def XF:GI→Prop:=fun g=>∃ (a0 a1:List UInt8) (r:Unit),Xx a0 a1=some r∧g=JaW a0 a1 r
theorem JeW(a0 a1:List UInt8)(r:Unit)(H:Xx a0 a1=some r):XF (JaW a0 a1 r):=⟨a0,a1,r,H,rfl⟩
theorem JmV{w:World}{S:Nat→Nat→Prop}(h:GW w S):∃ m,w.cell? ⟨2,0,none⟩=some (.int .i64 m):=by
 obtain⟨cs,ty,h1,⟨m,h2⟩,_⟩:=h _ (List.mem_cons_self ..)
 have h1:w.heap[2]? = _:=h1
 exact⟨m,by simp only[World.cell?,h1]; exact h2⟩
theorem JeC:∀ g,XF g→Kq Tryd.prog 27 g:=by
 rintro _ ⟨a0,a1,r,H,rfl⟩
 unfold Xx at H
 split at H
 case isFalse=>cases H
 rename_i hh
 obtain⟨hs,rfl⟩:=hh
 intro e vs hw hc ha
 match vs,ha with
 | [v0,v1],⟨h1,h2,_⟩ =>
  obtain rfl:=R1.vInv h1
  obtain rfl:=R1.vInv h2
  obtain⟨m,hm⟩:=JmV hw.gw
  refine(Any.strings_Split JmD (by kernel_rfl) (bsl a0) ⟨#[47]⟩ m e.w (by simpa [bsl,ByteArray.size] using hs) hm (by decide)).mono ?_
  rintro en w' ⟨rfl,rfl⟩
  rw[JjP,← JgT]
  have hA:=WInv.allocArr (el:=9) (sz:=1) (cap:=(splV 47 a0).length) (l:=List.map dS (splV 47 a0)) (us:=(splV 47 a0).map JbT) (zs:=[]) (cur:=((splV 47 a0).map JbT).toArray) hw (by simp) (Jjd _) (fun d hd=>by
   obtain⟨x,_,rfl⟩:=List.mem_map.1 hd; rfl) (by decide) (by simp) (by
    have:=Lib.countB_le ⟨#[47]⟩ (by decide) (bsl a0).size (bsl a0) (Nat.le_refl _)
    rw[JgT]
    have h3:(bsl a0).size=a0.length:=rfl
    unfold maxLen
    omega)
  refine⟨_,_,rfl,?_,⟨(JmP [.arr 1 (List.map dS (splV 47 a0))] (by simp)) ▸ hA,?_,Nat.zero_le _⟩,.inr ⟨e.w.heap.size,(splV 47 a0).length,by show upd e.ρ 1 (some e.w.heap.size) 1=_; simp[upd],by show upd e.τ 1 (some (.slice none (splV 47 a0).length (splV 47 a0).length)) 1=_; simp[upd],rfl,by simp⟩⟩
  ·rfl
  ·intro i hi
   have hi:i=0∨1<i:=hi
   have h0:=hc i (hi.imp id (fun h=>show 0<i by omega))
   have hne:i≠1:=by omega
   exact⟨by show upd e.ρ 1 _ i=none; simp[upd,hne,h0.1],by show upd e.τ 1 _ i=none; simp[upd,hne,h0.2]⟩
theorem Jfm:Jg Tryd.prog 27∧(∀ g,XF g→Kq Tryd.prog 27 g)∧(true=true→∀ g,XF g→∃ val bs ts,g.out=.ret val bs ts) :=
 ⟨JmC,JeC,fun _=>by rintro _ ⟨_,_,_,_,rfl⟩; exact⟨_,_,_,rfl⟩⟩
noncomputable def Xp(a0:List (List UInt8))(a1:List UInt8):Option (List UInt8) :=
 if a0.length≤140737488355328∧(a1.intercalate a0).length≤140737488355328 then some (a1.intercalate a0) else none
noncomputable def Zx:PF:=PF.of (E2 (dL 1 dS) dS) (fun a=>Xp a.1 a.2) dS
theorem JfB:J7 Tryd.prog 28 Zx:=by
 intro w S args vs hG hargs hS hp
 obtain⟨⟨l,s⟩,r,hle,H⟩:=hp
 have hargs:=JcA hle hargs
 rw[show Zx.val args=dS r from PF.of_vall IEnc.inj hle H]
 replace H:Xp l s=some r:=H
 unfold Xp at H
 split at H
 case isFalse=>cases H
 rename_i hn
 obtain rfl:=Option.some.inj H
 have hargs:Rn w S [dL 1 dS l,dS s] vs:=hargs
 match vs,hargs with
 | [v0,v1],.acons _ _ _ _ k0 (.acons _ _ _ _ k1 .anil) =>
  obtain rfl:=R1.vInv k1
  rcases R1.slInv k0 with⟨h0,o,rfl⟩|⟨us,b,o,cap,rfl,q1,q2,q3,q4⟩
  ·obtain rfl:l=[]:=by simpa using h0
   refine(Any.strings_Join_none JfI Jaa o 0 (bsl s) w).mono ?_
   rintro en w' ⟨rfl,rfl⟩
   exact⟨_,rfl,Grows.refl _,.v _⟩
  ·obtain rfl:=Jjj q1
   rcases List.eq_nil_or_concat l with rfl | ⟨l',x',hl⟩
   ·refine(Any.strings_Join_none JfI Jaa _ cap (bsl s) w).mono ?_
    rintro en w' ⟨rfl,rfl⟩
    exact⟨_,rfl,Grows.refl _,.v _⟩
   ·have hpos:0<l.length:=by rw[hl]; simp
    have hbk:b<w.heap.size:=by
     have hc:=(q2 0 (JbT (l[0])) (by simp)).1
     unfold World.cell? at hc
     by_cases hb:b<w.heap.size
     ·exact hb
     ·rw[Array.getElem?_eq_none (show w.heap.size≤b by omega)]at hc; cases hc
    have hm:(l.map bsl).map (·.data.toList)=l:=by rw[List.map_map]; exact List.map_id'' (fun _=>rfl) l
    have hj:Lib.join ((l.map bsl).map (·.data.toList)) (bsl s).data.toList=s.intercalate l:=by rw[hm]; rfl
    have:=Any.strings_Join JfI Jaa b o cap (l.map bsl) (bsl s) w (fun j x hx=>by
     rw[List.getElem?_map]at hx
     cases hlj:l[j]? with
     | none=>rw[hlj]at hx; cases hx
     | some y =>
      rw[hlj]at hx
      obtain rfl:=Option.some.inj hx
      exact(q2 j (JbT y) (by rw[List.getElem?_map,hlj]; rfl)).1) hbk (by simpa using hn.1) (by simpa using q4) (by rw[hj]; exact hn.2)
    rw[hj]at this
    simp only[List.length_map]at this q4 ⊢
    refine this.mono ?_
    rintro en w' ⟨rfl,hB⟩
    exact⟨_,rfl,⟨hB.os,hB.tape,hB.output,hB.size,hB.block⟩,.v _⟩
theorem Jct(a0:List (List UInt8))(a1 r:List UInt8)(H:Xp a0 a1=some r):PC Zx [dL 1 dS a0,dS a1] (dS r):=PF.c (a:=(a0,a1)) H
end Go.Proofs.YtfkhlbhjhdpkoaaDoor
