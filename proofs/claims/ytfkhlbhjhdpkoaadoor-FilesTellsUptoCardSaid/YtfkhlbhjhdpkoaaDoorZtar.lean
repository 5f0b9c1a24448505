/- A literal slice of one text as an array of one's own. -/
import Derived.Test.YtfkhlbhjhdpkoaaDoorZtak
import Derived.Test.YtfkhlbhjhdpkoaaDoorZtam
set_option linter.unusedVariables false
set_option linter.unusedSimpArgs false
namespace Go.Proofs.YtfkhlbhjhdpkoaaDoor
open Go.RowKit
theorem WInv.newArrL{Γ:Ctx}{h:Hp}{e:Env}(hw:WInv Γ h e){el:TypeId}{sz cap:Nat}{l:List D}{us zs:List Value}{cur:Array Value}
  (hcur:cur.toList=us++zs) (hr:Rn e.w e.S (l.flatMap D.cells) us) (hd:∀ d∈l,d.cells.length=sz) (hsz:0<sz) (hcs:cur.size=cap * sz) (hmax:cap≤maxLen) :
  ∃ e',e'.w=e.w.alloc (.cells cur el)∧WInv Γ (h.box [.arr sz l]) e'∧e.le e'∧e'.ρ h.nx=some e.w.heap.size∧e'.τ h.nx=some (.slice none cap cap):=by
 have hg:Grows e.w (e.w.alloc (.cells cur el)):=Grows.alloc _ _
 obtain⟨w1,l1⟩:=hw.grows (S':=fun b o=>e.S b o∨b=e.w.heap.size) hg (fun b o hb=>⟨fun h=>h.resolve_right (by omega),.inl⟩) (fun b o hb=>by
  simp
  rcases hb with hb | hb
  ·have:=hw.sdom b o hb; omega
  ·omega)
 have hnew:(e.w.alloc (.cells cur el)).heap[e.w.heap.size]? = some (.cells cur el (0,0)):=heap_alloc_new e.w _
 obtain⟨f1,f2,f3,f4⟩:=w1.fresh h.nx (Nat.le_refl _)
 have hle:=(Env.le_name (b:=e.w.heap.size) f3).trans (Env.le_tok (v:=.slice none cap cap) (e:={ ({ e with w:=e.w.alloc (.cells cur el),S:=fun b o=>e.S b o∨b=e.w.heap.size }:Env) with ρ:=upd e.ρ h.nx (some e.w.heap.size) }) f4)
 have hle2:=l1.trans hle
 obtain⟨w2,l2⟩:=w1.addArr (b:=e.w.heap.size) (ob:=.cells cur el) (row:=[.arr sz l]) (u:=.slice none cap cap) hnew
  (RO.arr ⟨us,[],zs,cap,by simpa using hcur,RD.mono hle2.keep hr,hd,trivial,.inl rfl,hsz,by simpa using hcs,hmax,by simp⟩) (fun o _=>.inr rfl) (.inl hw.hB)
  (fun n hn hb=>by
   cases hH:h.H n with
   | none=>exact hn hH
   | some r =>
    simp only at hb
    obtain⟨ob,q2,_⟩:=hw.boxAny hb r hH
    have:=(Array.getElem?_eq_some_iff.1 q2).1
    omega)
  (fun k v hk hv hfull hb=>by
   cases hT:h.T k with
   | none=>exact absurd hT hk
   | some ty =>
    obtain⟨_,v',q1,q2⟩:=hw.tok k ty hT
    simp only at hv
    rw[hv]at q1; simp at q1; subst q1
    obtain⟨sz,n,xs,_,q2,_⟩:=q2.resolve_left hfull
    have:=(q2.1.lt _ hb).2
    omega)
 exact⟨_,rfl,w2,l1.trans l2,by simp,by simp⟩
theorem Jmg{t:Tab}{id:Nat}{σ:Nat→AV}{h:Hp}{Q:Kt}{o0 o1:Oper}(s:List UInt8)(d0 d1:Nat)
  (x:Q .normal (upd (upd σ d0 (.c (.os h.nx 1 0 [s].length))) d1 (.c (.os h.nx 1 0 [s].length))) (h.box [.arr 1 (List.map dS [s])]))
  (h0:o0.op=.buildSlice 49 1 #[(0,.const (str s))]:=by rfl) (g0:o0.guard=none:=by rfl) (e0:o0.dst=some d0:=by rfl) (h1:o1.op=.assign (.tmp d0):=by rfl) (g1:o1.guard=none:=by rfl) (e1:o1.dst=some d1:=by rfl)
  (hP:t.P=Tryd.prog:=by rfl) (hl0:t.lk.contains 999999=false:=by rfl) (hlk:t.lk.contains 1000037=true:=by rfl) (hd:d0<37∧d1<37:=by decide):aC t (.region id #[o0,o1] false) σ h Q:=by
 refine⟨σ,h,Wk.refl _ _ _,.inr ⟨_,_,⟨hl0,fun Γ a e hΓ hnt hs hw=>?_⟩,x⟩⟩
 have hn:Γ.nt=37:=hnt 37 hlk
 rw[hP]
 have hsz:a.tmps.size=37:=hs.1.trans hn
 refine wp_region_list ?_
 show wpList _ _ _ [o0,o1] a e.w
 refine wpList_plain g0 fun K hK=>?_
 have hfill:Instr.fill (fun i=>some (i * 1,1)) ((Array.range (1 * 1)).map fun x=>(Value.string ⟨#[]⟩).cells[x % (Value.string ⟨#[]⟩).cells.size]!) [(0,str s)]=some #[str s]:=by
  obtain⟨out,f1,f2⟩:=JeK 1 [(0,str s)] 0 ((Array.range (1 * 1)).map fun x=>(Value.string ⟨#[]⟩).cells[x % (Value.string ⟨#[]⟩).cells.size]!) (fun i p hi=>by
   cases i with
   | zero=>simp at hi; subst hi; exact⟨rfl,rfl⟩
   | succ i=>simp at hi) (by simp)
  rw[f1]
  congr 1
  apply Array.ext'
  rw[f2]
  simp
  rfl
 have hrun:=JcB (P:=Tryd.prog) (w:=e.w) (t:=49) (el:=9) (len:=1) (sz:=1) (z:=.string ⟨#[]⟩) (parts:=#[(0,str s)]) (out:=#[str s]) Tryd.underlying49 (Tryd.sizeOf9 _) (Tryd.zeroValue9 _) (by decide) hfill
 have hmap:((#[(0,Operand.const (str s))]:Array (Nat×Operand)).map fun x=>(x.1,a.eval x.2))=#[(0,str s)]:=by simp[Act.eval]
 refine KM (v:=.slice (some ⟨e.w.heap.size,0,none⟩) 1 1) (w':=e.w.alloc (.cells #[str s] 9)) (by
  simp only[execOp,h0]
  rw[Sem.run_bind,hmap,hrun]; rfl) (hK _ _ ?_)
 refine wpList_plain g1 fun K2 hK2=>?_
 have hev:(a.put o0.dst (.slice (some ⟨e.w.heap.size,0,none⟩) 1 1)).eval (.tmp d0)=.slice (some ⟨e.w.heap.size,0,none⟩) 1 1:=by
  rw[e0]
  simp[Act.eval,Act.put,Array.getD_eq_getD_getElem?,hsz,hd.1]
 refine KM (v:=.slice (some ⟨e.w.heap.size,0,none⟩) 1 1) (w':=e.w.alloc (.cells #[str s] 9)) (by
  simp[execOp,h1,hev]) (hK2 _ _ ?_)
 obtain⟨e',q1,q2,q3,q4,q5⟩:=hw.newArrL (el:=9) (sz:=1) (cap:=1) (l:=List.map dS [s]) (us:=[str s]) (zs:=[]) (cur:=#[str s]) rfl (.acons _ _ _ _ (.v _) .anil) (fun d hd=>by
  rw[List.map_cons,List.map_nil,List.mem_singleton]at hd; subst hd; rfl) (by decide) rfl (by decide)
 have hv:RA e' (.c (.os h.nx 1 0 [s].length)) (.slice (some ⟨e.w.heap.size,0,none⟩) 1 1):=.inr ⟨_,_,q4,q5,rfl,Nat.le_refl _⟩
 refine⟨rfl,e',q1,?_,q2⟩
 have k1:=(hs.mono q3).put o0.dst (by rw[e0]; intro h; have:=Option.some.inj h; unfold DS at this; omega) hv
 have k2:=k1.put o1.dst (by rw[e1]; intro h; have:=Option.some.inj h; unfold DS at this; omega) hv
 rw[e0,e1]at k2
 rw[e0,e1]
 exact k2
end Go.Proofs.YtfkhlbhjhdpkoaaDoor
