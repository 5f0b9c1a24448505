/- CondOps, by hand: a map that is made, and gone through in whatever order. -/
import Derived.Test.YtghmojcecefgjaaDoorZobj
import Derived.Deep.Cut
import Derived.Deep.CutRange
import Derived.LoopN
set_option linter.unusedVariables false
set_option linter.unusedSimpArgs false
namespace Go.Proofs.YtghmojcecefgjaaDoor
open Go.RowKit Go.Maps
set_option maxRecDepth 100000 in
set_option maxHeartbeats 16000000 in
theorem ops_calls (a b : Int) (ha : -9223372036854775808 ≤ a ∧ a ≤ 9223372036854775807) (hb : -9223372036854775808 ≤ b ∧ b ≤ 9223372036854775807) (W : World) (hG : GW W (fun _ _ => False)) :
    Calls Tryd.prog 4 #[.int .i64 a, .int .i64 b] W fun e w' => e = .returned (.bool true) ∧ Below W.heap.size W w' := by
  have hmm := @run_makeMap Tryd.prog
  have e14 : ∀ args w, (callFunc 14 args).run Tryd.prog w = .ok (.enter 14 args) w := enters_of Tryd.func14 (by kernel_rfl) rfl
  have e15 : ∀ args w, (callFunc 15 args).run Tryd.prog w = .ok (.enter 15 args) w := enters_of Tryd.func15 (by kernel_rfl) rfl
  have e16 : ∀ args w, (callFunc 16 args).run Tryd.prog w = .ok (.enter 16 args) w := enters_of Tryd.func16 (by kernel_rfl) rfl
  have e17 : ∀ args w, (callFunc 17 args).run Tryd.prog w = .ok (.enter 17 args) w := enters_of Tryd.func17 (by kernel_rfl) rfl
  have st : ∀ {X Y : World} {k : Nat}, Below W.heap.size W X → X.grownBy Y (some k) → W.heap.size ≤ k → Below W.heap.size W Y := fun h g hk => h.grown g h.size (fun j hj => by cases hj; exact hk)
  have st0 : ∀ {X Y : World}, Below W.heap.size W X → X.grownBy Y none → Below W.heap.size W Y := fun h g => h.grown g h.size (fun j hj => by cases hj)
  have tr : ∀ {X Y : World}, Below W.heap.size W X → Below X.heap.size X Y → Below W.heap.size W Y := fun h g => h.trans (g.mono h.size)
  go_enter Tryd.func4, Tryd.ntmps4
  go_upto_region 5 with (first
    | (go_at_fn 14; refine (alive_calls _ hG).mono ?_; rintro e w1 ⟨rfl, hb1⟩; have hG1 := gw_mono hG hb1)
    | (go_at_fn 15; refine (lit_calls _ (by assumption) _ (by assumption)).mono ?_; rintro e w2 ⟨rfl, hb2⟩; have hB2 : Below W.heap.size W w2 := tr (by assumption) hb2; have hG2 := gw_mono hG hB2; have hmk := World.ownsMap_made (H := Unit) w2 Tryd.prog 9 (plainElem Tryd.prog 3); have hBm : Below W.heap.size W (w2.alloc (.map #[] 0)) := hB2.alloc hB2.size _; have hsz2 : W.heap.size ≤ w2.heap.size := hB2.size)
    | go_in)
  go_cut [8] from 8 to 88 (fun s8 wx => ∃ (k n : Nat) (L : List (List UInt8 × Int)), s8 = .map (some k) ∧ W.heap.size ≤ k ∧ IsTab a b L ∧
    wx.ownsMap (H := Unit) Tryd.prog 9 (plainElem Tryd.prog 3) k n (putAll L) ∧ Below W.heap.size W wx)
  case first =>
    go_wp2_with (first
      | (go_at_fn 16; refine (one16_calls _ _).mono ?_; rintro e w' ⟨rfl, rfl⟩)
      | (refine upon_insert 36 9 3 key9 Tryd.underlying36 (by assumption) (by unfold maxLen; omega) (keyOf_str (by decide)) (plainElem_int Tryd.underlying3 (by first | exact wrap64_wf _ | exact oneV_wf _ | exact wf_bits _ _ _ _)) ?_; intro w5 hown1 hgrow1; have hB5 : Below W.heap.size W w5 := st (by assumption) hgrow1 (by assumption))
      | go_in)
    · have hz : a = 0 := by assumption
      subst hz
      go_meet
      refine ⟨_, 14, _, rfl, hsz2, IsTab.mk0 b, ?_, hB5⟩
      simpa [tabL, putAll] using hown1
    · have hz : ¬ a = 0 := by first | assumption | (simpa using (by assumption : (a != 0) = true))
      go_meet
      refine ⟨_, 14, _, rfl, hsz2, IsTab.mk1 hz b, ?_, hB5⟩
      have ha1 : (a != 0) = true := by simpa using hz
      rw [ha1, Bool.true_and] at hown1
      unfold tabL
      simp only [putAll]
      exact hown1
  case rest =>
    obtain ⟨k, n, L, rfl, hk, hT, hown, hBx⟩ := hcut
    have hG3 := gw_mono hG hBx
    clear hmk hBm hb2
    go_wp2_with (first
      | (at_range; refine wpList_range_own _ rfl _ 36 rfl 9 3 key9 Tryd.underlying36 _ _ _ _ rfl hown ?_; intro w0 hrg0 hg0 hs0; have hB0 : Below W.heap.size W w0 := st0 hBx hg0)
      | go_in)
    go_frame
    go_loopw [9] (fun _ wr => ∃ (left : Lit → Bool) (cnt : Nat), wr.ranges (H := Unit) Tryd.prog 9 (plainElem Tryd.prog 3) k wc.heap.size n (putAll L) left cnt ∧ (∀ kl, left kl = true → Maps.has (putAll L) kl = true) ∧ Below W.heap.size W wr)
      (fun _ wr => wr.rangeLeft k wc.heap.size)
    case atStart => exact ⟨_, _, hrg0, fun _ h => h, hB0⟩
    case round =>
      obtain ⟨left, cnt, hrg, hsub, hBr⟩ := hrel
      have hGr := gw_mono hG hBr
      go_wp2_with (first
        | (at_next; refine wpList_next_ranges _ rfl _ rfl 9 key9 (plainElem Tryd.prog 3) Value.string (Value.int .i64) (fun key kl hk => by obtain ⟨x, hx, _⟩ := keyOf_str_inv hk; exact ⟨x, hx⟩) (fun v y hv => by obtain ⟨c, rfl, _⟩ := plainElem_int_inv Tryd.underlying3 hv; exact ⟨c, rfl⟩) k wc.heap.size n _ _ _ rfl hrg ?_ ?_)
        | go_in)
      · intro hc0 hl0
        clear hrg hsub hl0 hc0 hrg0 hown hT
        have qc := fun t ht w hw => quo_calls ha hb t ht w hw
        have la := litS_small ha
        have lb := litS_small hb
        have al : ∀ {X : World}, Below W.heap.size W X → ∀ o, Below W.heap.size W (X.alloc o) := fun h o => h.alloc h.size o
        by_cases b0 : b = 0
        · subst b0
          have v47 := v47_0 a
          have v37 := v37_0 a
          have er : errQ 0 = 13 := rfl
          have c1 : ¬ 9223372036854775807 < (litS a).length + 1 := by omega
          have c2 : ¬ 9223372036854775807 < (litS a).length + 1 + (litS 0).length := by omega
          go_wp2
          refine wp_loop_rounds 3 ?_
          rw [rounds_succ]
          go_wp2_with (first
            | (go_at_fn 17; refine (qc _ (by first | exact Or.inl rfl | exact Or.inr rfl) _ (by first | assumption | exact gw_alloc (by assumption) _)).mono ?_; rintro e w4 ⟨f2, f3, rfl, hb4⟩; have hG4 := gw_mono (by first | assumption | exact gw_alloc (by assumption) _) hb4; have hB4 : Below W.heap.size W w4 := tr (by first | assumption | exact al (by assumption) _) hb4)
            | go_in)
          have hc4 : w4.cell? ⟨wr.heap.size, 1, none⟩ = some (.string ⟨#[37]⟩) := (hb4.cell (by simp)).trans (by simp)
          have hs4 : wr.heap.size < w4.heap.size := by have := hb4.size; simp at this; omega
          rw [rounds_succ]
          go_wp2_with (first
            | (go_at_fn 17; refine (qc _ (by first | exact Or.inl rfl | exact Or.inr rfl) _ (by first | assumption | exact gw_alloc (by assumption) _)).mono ?_; rintro e w5 ⟨f4, f5, rfl, hb5⟩; have hG5 := gw_mono (by first | assumption | exact gw_alloc (by assumption) _) hb5; have hB5 : Below W.heap.size W w5 := tr (by first | assumption | exact al (by assumption) _) hb5)
            | go_in)
          rw [rounds_succ]
          go_wp2
          go_ret
          exact ⟨rfl, hB5.alloc hB5.size _⟩
        by_cases b1 : b = -1
        · subst b1
          have v47 := v47_1 a
          have v37 := v37_1 a
          have er : errQ (-1) = 0 := rfl
          have c1 : ¬ 9223372036854775807 < (litS a).length + 1 := by omega
          have c2 : ¬ 9223372036854775807 < (litS a).length + 1 + (litS (-1)).length := by omega
          go_wp2
          refine wp_loop_rounds 3 ?_
          rw [rounds_succ]
          go_wp2_with (first
            | (go_at_fn 17; refine (qc _ (by first | exact Or.inl rfl | exact Or.inr rfl) _ (by first | assumption | exact gw_alloc (by assumption) _)).mono ?_; rintro e w4 ⟨f2, f3, rfl, hb4⟩; have hG4 := gw_mono (by first | assumption | exact gw_alloc (by assumption) _) hb4; have hB4 : Below W.heap.size W w4 := tr (by first | assumption | exact al (by assumption) _) hb4)
            | go_in)
          have hc4 : w4.cell? ⟨wr.heap.size, 1, none⟩ = some (.string ⟨#[37]⟩) := (hb4.cell (by simp)).trans (by simp)
          have hs4 : wr.heap.size < w4.heap.size := by have := hb4.size; simp at this; omega
          rw [rounds_succ]
          go_wp2_with (first
            | (go_at_fn 17; refine (qc _ (by first | exact Or.inl rfl | exact Or.inr rfl) _ (by first | assumption | exact gw_alloc (by assumption) _)).mono ?_; rintro e w5 ⟨f4, f5, rfl, hb5⟩; have hG5 := gw_mono (by first | assumption | exact gw_alloc (by assumption) _) hb5; have hB5 : Below W.heap.size W w5 := tr (by first | assumption | exact al (by assumption) _) hb5)
            | go_in)
          rw [rounds_succ]
          go_wp2
          go_ret
          exact ⟨rfl, hB5.alloc hB5.size _⟩
        have v47 := v47_2 a b b0 b1
        have v37 := v37_2 a b b0 b1
        have er : errQ b = 0 := if_neg b0
        have c1 : ¬ 9223372036854775807 < (litS a).length + 1 := by omega
        have c2 : ¬ 9223372036854775807 < (litS a).length + 1 + (litS b).length := by omega
        go_wp2
        refine wp_loop_rounds 3 ?_
        rw [rounds_succ]
        go_wp2_with (first
          | (go_at_fn 17; refine (qc _ (by first | exact Or.inl rfl | exact Or.inr rfl) _ (by first | assumption | exact gw_alloc (by assumption) _)).mono ?_; rintro e w4 ⟨f2, f3, rfl, hb4⟩; have hG4 := gw_mono (by first | assumption | exact gw_alloc (by assumption) _) hb4; have hB4 : Below W.heap.size W w4 := tr (by first | assumption | exact al (by assumption) _) hb4)
          | go_in)
        have hc4 : w4.cell? ⟨wr.heap.size, 1, none⟩ = some (.string ⟨#[37]⟩) := (hb4.cell (by simp)).trans (by simp)
        have hs4 : wr.heap.size < w4.heap.size := by have := hb4.size; simp at this; omega
        rw [rounds_succ]
        go_wp2_with (first
          | (go_at_fn 17; refine (qc _ (by first | exact Or.inl rfl | exact Or.inr rfl) _ (by first | assumption | exact gw_alloc (by assumption) _)).mono ?_; rintro e w5 ⟨f4, f5, rfl, hb5⟩; have hG5 := gw_mono (by first | assumption | exact gw_alloc (by assumption) _) hb5; have hB5 : Below W.heap.size W w5 := tr (by first | assumption | exact al (by assumption) _) hb5)
          | go_in)
        rw [rounds_succ]
        go_wp2
        go_ret
        exact ⟨rfl, hB5.alloc hB5.size _⟩
      · intro x c kl yd yp w2 cnt2 hkey hlk hv hat hrg2 hlt hg2 hs2 hen
        obtain ⟨x', ex, rfl⟩ := keyOf_str_inv hkey
        obtain rfl : x = x' := by injection ex
        obtain ⟨c', ec, ey, _⟩ := plainElem_int_inv Tryd.underlying3 hv
        cases ec
        cases ey
        obtain ⟨hs, hcv⟩ := hT.get hsub hlk hat
        have hB2 : Below W.heap.size W w2 := st hBr hg2 hBx.size
        have hG2 := gw_mono hG hB2
        have hx := sg_len hs
        have la := litS_small ha
        have lb := litS_small hb
        have c1 : ¬ 9223372036854775807 < (litS a).length + x.size := by omega
        have c2 : ¬ 9223372036854775807 < (litS a).length + x.size + (litS b).length := by omega
        have hm0 := hrg.left_eq
        have hsub2 : ∀ kl, (left kl && !kl.sameKey (.string x.data.toList)) = true → Maps.has (putAll L) kl = true := fun kl h => hsub kl (by simp only [Bool.and_eq_true] at h; exact h.1)
        have hcall := evalOk_calls ha hb x hs c hcv w2 hG2
        clear hat hsub hrg
        go_wp2_with (first | (go_at_fn 17; refine hcall.mono ?_; rintro e w3 ⟨rfl, hb3⟩) | go_in)
        have hB3 : Below W.heap.size W w3 := tr hB2 hb3
        have hrg3 := (hrg2.kept (below_grow hb3) (by simp) (by simp)).alloc (.cells #[.int .i64 0, .int .i64 (-1), .int .i64 0] 25)
        refine ⟨⟨_, cnt2, hrg3, hsub2, hB3.alloc hB3.size _⟩, ?_⟩
        rw [hrg3.left_eq, hm0]
        exact hlt
end Go.Proofs.YtghmojcecefgjaaDoor
