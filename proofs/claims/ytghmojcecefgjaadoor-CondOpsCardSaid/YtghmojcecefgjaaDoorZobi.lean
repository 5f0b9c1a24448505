/- CondOps: what its calls answer, and what its map holds. -/
import Derived.Test.YtghmojcecefgjaaDoorZoao
import Derived.Test.YtghmojcecefgjaaDoorZoau
import Derived.Test.YtghmojcecefgjaaDoorZobh
import Derived.Maps.RangeWalk
import Derived.Maps.StringElems
import Derived.OpenShut
set_option linter.unusedVariables false
set_option linter.unusedSimpArgs false
namespace Go.Proofs.YtghmojcecefgjaaDoor
open Go.RowKit Go.Maps
theorem gw_mono {w w' : World} (h : GW w (fun _ _ => False)) (hb : Below w.heap.size w w') : GW w' (fun _ _ => False) := by
  intro q hq
  obtain ⟨cs, ty, h1, h2, h3, h4⟩ := h q hq
  have hlt : q.1 < w.heap.size := by
    rcases Nat.lt_or_ge q.1 w.heap.size with g | g
    · exact g
    · rw [Array.getElem?_eq_none g] at h1; cases h1
  exact ⟨cs, ty, (hb.block _ hlt).trans h1, h2, h3, h4⟩
theorem Grows.bel {w w' : World} (h : Grows w w') : Below w.heap.size w w' := ⟨h.os, h.tape, h.output, h.size, h.block⟩
theorem alive_calls (w : World) (hG : GW w (fun _ _ => False)) : Calls Tryd.prog 14 #[] w fun e w' => e = .returned (.bool true) ∧ Below w.heap.size w w' := by
  have hl : les1 [] (E0 ()) := trivial
  refine (prelaw4_alive_ok w (fun _ _ => False) [] [] hG .anil (fun _ _ h => h.elim) ⟨(), true, hl, alive4_eq⟩).mono fun e w' ⟨v, he, hg, hr⟩ => ?_
  rw [show (pf_prelaw4_alive).val _ = dB true from PF.of_vall IEnc.inj hl alive4_eq] at hr
  obtain rfl : v = .bool true := R1.vInv hr
  exact ⟨he, hg.bel⟩
theorem lit_calls (n : Int) (hn : -9223372036854775808 ≤ n ∧ n ≤ 9223372036854775807) (w : World) (hG : GW w (fun _ _ => False)) : Calls Tryd.prog 15 #[.int .i64 n] w fun e w' => e = .returned (.string ⟨(litS n).toArray⟩) ∧ Below w.heap.size w w' := by
  have hl : les1 [.v (.int .i64 n)] (E1 dI n) := les1_refl _
  refine (prelaw4_lit_ok w (fun _ _ => False) [.v (.int .i64 n)] [.int .i64 n] hG (.acons _ _ _ _ (.v _) .anil) (fun _ _ h => h.elim) ⟨n, litS n, hl, lit_eq n hn⟩).mono fun e w' ⟨v, he, hg, hr⟩ => ?_
  rw [show (pf_prelaw4_lit).val _ = dS (litS n) from PF.of_vall IEnc.inj hl (lit_eq n hn)] at hr
  obtain rfl : v = _ := R1.vInv hr
  exact ⟨he, hg.bel⟩
theorem eval_calls (s : List UInt8) (hs : s.length ≤ 1000) (w : World) (hG : GW w (fun _ _ => False)) : Calls Tryd.prog 17 #[.string ⟨s.toArray⟩] w fun e w' =>
    e = .returned (.tuple #[.int .i64 (evalT s).1, .agg #[.int .i64 (evalT s).2.Err, .int .i64 (evalT s).2.File, .int .i64 (evalT s).2.At]]) ∧ Below w.heap.size w w' := by
  have hl : les1 [.v (.string ⟨s.toArray⟩)] (E1 dS s) := les1_refl _
  have hf : prelaw4_eval s = some (evalT s) := peval_eq s (by omega)
  refine (prelaw4_eval_ok w (fun _ _ => False) [.v (.string ⟨s.toArray⟩)] [.string ⟨s.toArray⟩] hG (.acons _ _ _ _ (.v _) .anil) (fun _ _ h => h.elim) ⟨s, evalT s, hl, hf⟩).mono fun e w' ⟨v, he, hg, hr⟩ => ?_
  rw [show (pf_prelaw4_eval).val _ = T2 dI d_Fault (evalT s) from PF.of_vall IEnc.inj hl hf] at hr
  refine ⟨?_, hg.bel⟩
  rw [he]
  have hr : RD w' (fun _ _ => False) (.one (.tu [dI (evalT s).1, d_Fault (evalT s).2]) v) := hr
  cases hr with
  | tu l vs h =>
    cases h with
    | acons _ x _ _ h1 h2 =>
      cases h2 with
      | acons _ y _ _ h3 h4 =>
        cases h4
        obtain rfl := R1.vInv h1
        obtain ⟨us, rfl, h5⟩ := R1.agInv h3
        cases h5 with
        | acons _ a _ _ k1 k2 =>
          cases k2 with
          | acons _ b _ _ k3 k4 =>
            cases k4 with
            | acons _ c _ _ k5 k6 =>
              cases k6
              obtain rfl := R1.vInv k1
              obtain rfl := R1.vInv k3
              obtain rfl := R1.vInv k5
              rfl
set_option maxRecDepth 100000 in
theorem one16_calls (p : Bool) (w : World) : Calls Tryd.prog 16 #[.bool p] w fun e w' => e = .returned (.int .i64 (oneV p)) ∧ w' = w := by
  cases p with
  | true =>
    go_enter Tryd.func16, Tryd.ntmps16
    go_wp2
    go_ret
    exact ⟨rfl, rfl⟩
  | false =>
    go_enter Tryd.func16, Tryd.ntmps16
    go_wp2
    go_ret
    exact ⟨rfl, rfl⟩
def tabL (a b : Int) (p q : Bool) : List (List UInt8 × Int) :=
  [([124, 124], oneV q), ([38, 38], oneV p), ([62, 61], oneV (decide (b ≤ a))), ([60, 61], oneV (decide (a ≤ b))), ([62], oneV (decide (b < a))), ([60], oneV (decide (a < b))), ([33, 61], oneV (a != b)), ([61, 61], oneV (a == b)),
   ([94], bits .xor .i64 a b), ([124], bits .or .i64 a b), ([38], bits .and .i64 a b), ([42], wrap64 (a * b)), ([45], wrap64 (a - b)), ([43], wrap64 (a + b))]
theorem tabL_ok (a b : Int) (p q : Bool) (hp : p = (!decide (a = 0) && !decide (b = 0))) (hq : q = (!decide (a = 0) || !decide (b = 0))) (s : List UInt8) (c : Int) (h : (s, c) ∈ tabL a b p q) : s ∈ signsO ∧ combV s a b 0 = .inl c := by
  simp only [tabL, List.mem_cons, Prod.mk.injEq, List.not_mem_nil, or_false] at h
  rcases h with ⟨rfl, rfl⟩ | ⟨rfl, rfl⟩ | ⟨rfl, rfl⟩ | ⟨rfl, rfl⟩ | ⟨rfl, rfl⟩ | ⟨rfl, rfl⟩ | ⟨rfl, rfl⟩ | ⟨rfl, rfl⟩ | ⟨rfl, rfl⟩ | ⟨rfl, rfl⟩ | ⟨rfl, rfl⟩ | ⟨rfl, rfl⟩ | ⟨rfl, rfl⟩ | ⟨rfl, rfl⟩
  · exact ⟨by decide, by rw [hq]; rfl⟩
  · exact ⟨by decide, by rw [hp]; rfl⟩
  · exact ⟨by decide, rfl⟩
  · exact ⟨by decide, rfl⟩
  · exact ⟨by decide, rfl⟩
  · exact ⟨by decide, rfl⟩
  · exact ⟨by decide, by rw [show (a != b) = !decide (a = b) from by rw [← beq_dec]; rfl]; rfl⟩
  · exact ⟨by decide, by rw [beq_dec]; rfl⟩
  · exact ⟨by decide, rfl⟩
  · exact ⟨by decide, rfl⟩
  · exact ⟨by decide, rfl⟩
  · exact ⟨by decide, by
      refine congrArg (Sum.inl : Int → Int ⊕ Int) (?_ : IntKind.i64.wrap (a * b) = wrap64 (a * b))
      rw [IntKind.wrap_i64]; unfold wrap64; omega⟩
  · exact ⟨by decide, by
      refine congrArg (Sum.inl : Int → Int ⊕ Int) (?_ : IntKind.i64.wrap (a - b) = wrap64 (a - b))
      rw [IntKind.wrap_i64]; unfold wrap64; omega⟩
  · exact ⟨by decide, by
      refine congrArg (Sum.inl : Int → Int ⊕ Int) (?_ : IntKind.i64.wrap (a + b) = wrap64 (a + b))
      rw [IntKind.wrap_i64]; unfold wrap64; omega⟩
theorem evalB_calls (t : ByteArray) (hs : t.size ≤ 1000) (w : World) (hG : GW w (fun _ _ => False)) : Calls Tryd.prog 17 #[.string t] w fun e w' =>
    e = .returned (.tuple #[.int .i64 (evalT t.data.toList).1, .agg #[.int .i64 (evalT t.data.toList).2.Err, .int .i64 (evalT t.data.toList).2.File, .int .i64 (evalT t.data.toList).2.At]]) ∧ Below w.heap.size w w' := by
  have h := eval_calls t.data.toList (by rw [← Lib.size_eq]; exact hs) w hG
  have e : (⟨t.data.toList.toArray⟩ : ByteArray) = t := by cases t; simp
  rw [e] at h
  exact h
theorem cat_list (x y z : ByteArray) : (x ++ y ++ z).data.toList = x.data.toList ++ y.data.toList ++ z.data.toList := by simp [ByteArray.data_append]
end Go.Proofs.YtghmojcecefgjaaDoor
