/- A string's maker: what its own checks and its end make of the heap. -/
import Derived.Test.YtjgimofnepechaaGreatDoorZad
set_option linter.unusedVariables false
set_option linter.unusedSimpArgs false
namespace Go.Proofs.YtjgimofnepechaaGreatDoor
open Go.RowKit
theorem freeze_other {w : World} {b c n : Nat} (h : c ≠ b) : (w.freeze ⟨b, 0, none⟩ n).heap[c]? = w.heap[c]? := by
 unfold World.freeze
 split
 ·rfl
 ·simp only [Array.getElem?_modify]
  rw [if_neg (fun he => h he.symm)]
theorem freeze_at {w : World} {b n : Nat} {cs : Array Value} {ty : TypeId} {fz : Nat × Nat} (hb : w.heap[b]? = some (.cells cs ty fz)) (hfz : fz.2 ≤ n) :
  ∃ fz', (w.freeze ⟨b, 0, none⟩ n).heap[b]? = some (.cells cs ty fz') ∧ fz'.2 ≤ n := by
 unfold World.freeze
 split
 ·exact ⟨fz, hb, hfz⟩
 ·obtain ⟨lo, hi⟩ := fz
  refine ⟨if lo == hi then (0, 0 + n) else (min lo 0, max hi (0 + n)), ?_, ?_⟩
  ·simp only [Array.getElem?_modify, if_true, hb, Option.map_some]
  ·simp only at hfz
   split
   ·simp
   ·simp only [Nat.zero_add]; omega
theorem freeze_os {w : World} {b n : Nat} : (w.freeze ⟨b, 0, none⟩ n).os = w.os ∧ (w.freeze ⟨b, 0, none⟩ n).tape = w.tape ∧ (w.freeze ⟨b, 0, none⟩ n).output = w.output ∧ (w.freeze ⟨b, 0, none⟩ n).heap.size = w.heap.size := by
 unfold World.freeze
 split
 ·exact ⟨rfl, rfl, rfl, rfl⟩
 ·exact ⟨rfl, rfl, rfl, by simp⟩
theorem WInv.freezeBar {Γ : Ctx} {h : Hp} {e : Env} (hw : WInv Γ h e) {n b : Nat} {l : List UInt8} (hn : h.H n = some [.bar l]) (hρ : e.ρ n = some b) :
  WInv Γ h { e with w := e.w.freeze ⟨b, 0, none⟩ l.length } ∧ e.le { e with w := e.w.freeze ⟨b, 0, none⟩ l.length } := by
 obtain ⟨ob, q2, q3, q4, q5⟩ := hw.boxAny hρ _ hn
 obtain ⟨_, cs, fz, zs, rfl, k2, k3, k4, k5⟩ := q3
 obtain ⟨fz', f1, f2⟩ := freeze_at (n := l.length) q2 k2
 obtain ⟨o1, o2, o3, o4⟩ := freeze_os (w := e.w) (b := b) (n := l.length)
 have hS : ∀ o x, e.w.cell? ⟨b, o, none⟩ = some x → e.S b o := fun o x hx => by
  have : cs[o]? = some x := by simpa [World.cell?, q2] using hx
  exact q4 o (Array.getElem?_eq_some_iff.1 this).1
 have hle : e.le { e with w := e.w.freeze ⟨b, 0, none⟩ l.length } := ⟨fun c o x hc hs => by
  have hne : c ≠ b := fun he => by subst he; exact hs (hS o x hc)
  exact ⟨(World.cell?_of_block (freeze_other hne)).trans hc, hs⟩, fun _ _ h => h, fun _ _ h => h⟩
 refine ⟨?_, hle⟩
 constructor
 ·exact hw.g0
 ·exact o1.trans hw.os
 ·exact o2.trans hw.tape
 ·exact o3.trans hw.output
 ·simpa [o4] using hw.grown
 ·simpa [o4] using hw.hB
 ·intro c hc hm
  have hne : c ≠ b := fun he => by
   subst he
   rcases q5 with h | h
   ·omega
   ·exact hm h
  exact (freeze_other hne).trans (hw.old c hc hm)
 ·intro c o hc; simpa [o4] using hw.sdom c o hc
 ·exact hw.s0
 ·exact hw.s0B
 ·exact hw.keep.trans hle.keep
 ·intro m r hmr
  by_cases hmn : m = n
  ·subst hmn
   rw [hn] at hmr
   simp only [Option.some.injEq] at hmr
   subst hmr
   exact .inr ⟨b, _, hρ, f1, ⟨rfl, cs, fz', zs, rfl, f2, k3, k4, k5⟩, q4, q5⟩
  ·rcases hw.box m r hmr with hz | ⟨b', ob, h1, h2, h3, h4, h5⟩
   ·exact .inl hz
   have hne : b' ≠ b := fun he => by
    subst he
    exact hmn (hw.inj m n b' (by simp [hmr]) (by simp [hn]) h1 hρ)
   exact .inr ⟨b', ob, h1, (freeze_other hne).trans h2, RO.mono hle h3, h4, h5⟩
 ·exact hw.inj
 ·intro k ty' hk
  obtain ⟨h0, v, h1, hor⟩ := hw.tok k ty' hk
  refine ⟨h0, v, h1, hor.imp id ?_⟩
  rintro ⟨sz, m, xs, hsz, h2, h3, h4⟩
  have hne : ∀ c, v.ownBlock = some c → c ≠ b := fun c hc he => by
   subst he
   exact h4 c hc n (by simp [hn]) hρ
  refine ⟨sz, m, xs, hsz, ⟨ownsRow_same h2.1 (fun c hc => freeze_other (hne c hc)), h2.2⟩, fun c o hc ho hs => ?_, h4⟩
  have hce : (e.w.freeze ⟨b, 0, none⟩ l.length).cell? ⟨c, o, none⟩ = e.w.cell? ⟨c, o, none⟩ := World.cell?_of_block (freeze_other (hne c hc))
  exact h3 c o hc ho (by rw [← hce]; exact hs)
 ·exact hw.tokinj
 ·exact hw.fresh
 ·exact hw.nx0
 ·exact hw.rt
theorem maker_box {Γ : Ctx} {h : Hp} {e : Env} (hw : WInv Γ h e) {p : Bool} {c : C} (hH : h.H 1 = some [.op p 1 0, c]) :
  ∃ b v, e.ρ 1 = some b ∧ e.w.heap[b]? = some (.cells #[if p = true then .pointer (some ⟨b, 0, none⟩) else .pointer none, v] BTY (0, 0)) ∧ RC e c v := by
 rcases hw.box 1 _ hH with ⟨_, hz | hz⟩ | ⟨b, ob, h1, h2, h3, h4, h5⟩
 ·obtain ⟨sz, hz, _⟩ := hz; simp at hz
 ·simp at hz
 ·obtain ⟨cs, ty, rfl, k1, k2⟩ := h3
  have k1 := k1.plain rfl
  have k2 := k2 rfl
  obtain ⟨cl⟩ := cs
  match cl, k1 with
  | [v0, v1], ⟨⟨q1, q2⟩, q3, _⟩ =>
   have hty : ty = BTY := by
    rw [k2] at q1
    simp only [tyV, Option.some.injEq, Value.int.injEq, true_and] at q1
    exact Int.ofNat_inj.1 q1
   subst hty
   refine ⟨b, v1, h1, ?_, q3⟩
   rw [h2]
   rcases q2 with ⟨rfl, rfl⟩ | ⟨rfl, b', q4, rfl⟩
   ·rfl
   ·rw [h1] at q4; cases q4; rfl
theorem copyCheck_gen {P : Program} {f : Nat}
  (used : ∀ (b : Nat) (w : World), w.cell? ⟨b, 0, none⟩ = some (.pointer (some ⟨b, 0, none⟩)) → Calls P f #[.pointer (some ⟨b, 0, none⟩)] w fun e w' => e = .returned (.tuple #[]) ∧ w' = w)
  (fresh : ∀ (b : Nat) (w : World), w.cell? ⟨b, 0, none⟩ = some (.pointer none) → w.shape? b = some (BTY, 2) → w.frozen? ⟨b, 0, none⟩ = false →
   Calls P f #[.pointer (some ⟨b, 0, none⟩)] w fun e w' => e = .returned (.tuple #[]) ∧ w' = w.setCell ⟨b, 0, none⟩ (.pointer (some ⟨b, 0, none⟩)))
  (p : Bool) (l : List UInt8) : GenOk P f ⟨[.c (.pt 1 0)], [[.op p 1 0, .os 2 1 0 l.length], [.bar l]], [], .ret (.tu []) [[.op true 1 0, .os 2 1 0 l.length], [.bar l]] []⟩ := by
 intro e vs hw hcan hargs
 obtain ⟨b, v, h1, h2, h3⟩ := maker_box hw (p := p) (c := .os 2 1 0 l.length) rfl
 match vs, hargs with
 | [x], ⟨⟨b', k1, hx⟩, _⟩ =>
  subst hx
  have hbb : b' = b := by rw [h1] at k1; cases k1; rfl
  subst hbb
  cases p with
  | true =>
   refine (used b' e.w (by simp [World.cell?, h2])).mono ?_
   rintro en w' ⟨rfl, rfl⟩
   exact ⟨_, e, rfl, rfl, ⟨hw, hcan, Nat.le_refl _⟩, ⟨[], rfl, trivial⟩⟩
  | false =>
   refine (fresh b' e.w (by simp [World.cell?, h2]) (by simp [World.shape?, h2]) (by simp [World.frozen?, h2])).mono ?_
   rintro en w' ⟨rfl, rfl⟩
   have hτ : e.τ 1 = some (tyV BTY) := by
    obtain ⟨ob, o1, o2, _⟩ := hw.boxAny h1 _ (show (hpL [[C.op false 1 0, .os 2 1 0 l.length], [.bar l]] []).H 1 = some [.op false 1 0, .os 2 1 0 l.length] from rfl)
    rw [h2] at o1; cases o1
    exact o2.ty rfl
   rw [setCell_eq_setRow e.w b' 0 _ BTY (0, 0) _ h2]
   obtain ⟨w2, l2⟩ := hw.setBox (n := 1) (b := b') (row := [.op false 1 0, .os 2 1 0 l.length]) (row' := [.op true 1 0, .os 2 1 0 l.length]) (vs := [.pointer (some ⟨b', 0, none⟩), v]) rfl h1 h2
    (.of ⟨⟨hτ, .inr ⟨rfl, b', h1, rfl⟩⟩, h3, trivial⟩) rfl rfl (fun _ => rfl)
   refine ⟨_, { e with w := e.w.setRow b' [.pointer (some ⟨b', 0, none⟩), v].toArray }, rfl, by simp, ⟨?_, hcan, Nat.le_refl _⟩, ⟨[], rfl, trivial⟩⟩
   have e1 : { hpL [[C.op false 1 0, .os 2 1 0 l.length], [.bar l]] [] with H := upd (hpL [[C.op false 1 0, .os 2 1 0 l.length], [.bar l]] []).H 1 (some [.op true 1 0, .os 2 1 0 l.length]) } = hpL [[C.op true 1 0, .os 2 1 0 l.length], [.bar l]] [] := by
    simp only [hpL, Hp.mk.injEq, and_true]
    refine ⟨?_, rfl, rfl⟩
    funext i
    simp only [upd]
    split
    ·rename_i hi; subst hi; rfl
    ·rename_i hi
     match i, hi with
     | 0, _ => rfl
     | i + 2, _ => rfl
   rw [e1] at w2
   exact w2
theorem string_gen {P : Program} {f : Nat} {l : List UInt8} (hl : l ≠ [])
  (H : ∀ (b g cap : Nat) (pv : Value) (cur : Array Value) (fz : Nat × Nat) (w : World), w.heap[b]? = some (.cells #[pv, .slice (some ⟨g, 0, none⟩) l.length cap] BTY (0, 0)) → w.heap[g]? = some (.cells cur UTY fz) → l.length ≤ cap → cap = cur.size → cur.size ≤ maxLen →
   cur.toList.take l.length = bytesV l → Calls P f #[.pointer (some ⟨b, 0, none⟩)] w fun e w' => e = .returned (str l) ∧ w' = w.drew.freeze ⟨g, 0, none⟩ l.length) (p : Bool) :
  GenOk P f ⟨[.c (.pt 1 0)], [[.op p 1 0, .os 2 1 0 l.length], [.bar l]], [], .ret (.c (.d (.v (str l)))) [[.op p 1 0, .os 2 1 0 l.length], [.bar l]] []⟩ := by
 intro e vs hw hcan hargs
 obtain ⟨b, v, h1, h2, h3⟩ := maker_box hw (p := p) (c := .os 2 1 0 l.length) rfl
 match vs, hargs with
 | [x], ⟨⟨b', k1, hx⟩, _⟩ =>
  subst hx
  have hbb : b' = b := by rw [h1] at k1; cases k1; rfl
  subst hbb
  have hl0 : l.length ≠ 0 := by simpa using hl
  rcases h3 with ⟨h0, _⟩ | ⟨g, cap, g1, g2, rfl, g4⟩
  ·exact absurd h0 hl0
  simp only [Nat.zero_mul, Nat.sub_zero, Nat.zero_add] at h2 g4
  obtain ⟨ob, q2, q3, q4, q5⟩ := hw.boxAny g1 [.bar l] rfl
  obtain ⟨_, cur, fz, zs, rfl, m2, m3, m4, m5⟩ := q3
  rw [g2] at m5; simp at m5
  refine (H b' g cap _ cur fz e.w h2 q2 g4 m5 m4 (by rw [m3]; exact List.take_left' (bytesV_length l))).mono ?_
  rintro en w' ⟨rfl, rfl⟩
  obtain ⟨w1, l1⟩ := hw.drewn
  obtain ⟨w2, l2⟩ := w1.freezeBar (n := 2) (b := g) (l := l) rfl g1
  exact ⟨_, _, rfl, rfl, ⟨w2, hcan, Nat.le_refl _⟩, .v _⟩
end Go.Proofs.YtjgimofnepechaaGreatDoor
