/- CondOps: what its calls of eval answer at a sign between two numbers. -/
import Derived.Test.YtghmojcecefgjaaDoorZobi
set_option linter.unusedVariables false
set_option linter.unusedSimpArgs false
namespace Go.Proofs.YtghmojcecefgjaaDoor
open Go.RowKit Go.Maps
theorem cat_sg (x y : List UInt8) (t : ByteArray) : ((⟨x.toArray⟩ : ByteArray) ++ t ++ ⟨y.toArray⟩).data.toList = x ++ t.data.toList ++ y := by
  rw [cat_list]
theorem sg_size {a b : Int} (ha : -9223372036854775808 ≤ a ∧ a ≤ 9223372036854775807) (hb : -9223372036854775808 ≤ b ∧ b ≤ 9223372036854775807) {t : ByteArray} (ht : t.data.toList ∈ signsO) :
    ((⟨(litS a).toArray⟩ : ByteArray) ++ t ++ ⟨(litS b).toArray⟩).size ≤ 1000 := by
  have la := litS_len a ha.1 ha.2
  have lb := litS_len b hb.1 hb.2
  have h2 : ∀ s ∈ signsO, s.length ≤ 2 := by decide
  have h3 := h2 _ ht
  rw [Lib.size_eq, cat_sg, List.length_append, List.length_append]
  omega
theorem evalOk_calls {a b : Int} (ha : -9223372036854775808 ≤ a ∧ a ≤ 9223372036854775807) (hb : -9223372036854775808 ≤ b ∧ b ≤ 9223372036854775807) (t : ByteArray) (ht : t.data.toList ∈ signsO) (v : Int) (hv : combV t.data.toList a b 0 = .inl v)
    (w : World) (hG : GW w (fun _ _ => False)) : Calls Tryd.prog 17 #[.string ((⟨(litS a).toArray⟩ : ByteArray) ++ t ++ ⟨(litS b).toArray⟩)] w fun e w' =>
      e = .returned (.tuple #[.int .i64 v, .agg #[.int .i64 0, .int .i64 (-1), .int .i64 0]]) ∧ Below w.heap.size w w' := by
  have h := evalB_calls _ (sg_size ha hb ht) w hG
  rw [cat_sg, (sg_text a b ha hb _ ht).1 v hv] at h
  exact h
theorem evalEr_calls {a b : Int} (ha : -9223372036854775808 ≤ a ∧ a ≤ 9223372036854775807) (hb : -9223372036854775808 ≤ b ∧ b ≤ 9223372036854775807) (t : ByteArray) (ht : t.data.toList ∈ signsO) (er : Int) (hv : combV t.data.toList a b 0 = .inr er)
    (w : World) (hG : GW w (fun _ _ => False)) : Calls Tryd.prog 17 #[.string ((⟨(litS a).toArray⟩ : ByteArray) ++ t ++ ⟨(litS b).toArray⟩)] w fun e w' =>
      ∃ f2 f3 : Int, e = .returned (.tuple #[.int .i64 0, .agg #[.int .i64 er, .int .i64 f2, .int .i64 f3]]) ∧ Below w.heap.size w w' := by
  have h := evalB_calls _ (sg_size ha hb ht) w hG
  obtain ⟨g1, g2⟩ := (sg_text a b ha hb _ ht).2 er hv
  rw [cat_sg, g1, g2] at h
  exact h.mono fun e w' ⟨h1, h2⟩ => ⟨_, _, h1, h2⟩
theorem below_grow {w w' : World} (h : Below w.heap.size w w') : w.grownBy w' none := ⟨h.os, h.tape, h.output, h.size, fun k hk _ => h.block k hk⟩
theorem quo0 (a : Int) : combV [47] a 0 0 = .inr 13 := rfl
theorem rem0 (a : Int) : combV [37] a 0 0 = .inr 13 := rfl
theorem quo1 (a : Int) : combV [47] a (-1) 0 = .inl (wrap64 (0 - a)) := by
  refine congrArg (Sum.inl : Int → Int ⊕ Int) (?_ : IntKind.i64.wrap (0 - a) = wrap64 (0 - a))
  rw [IntKind.wrap_i64]; unfold wrap64; omega
theorem rem1 (a : Int) : combV [37] a (-1) 0 = .inl 0 := rfl
theorem quo2 (a b : Int) (h0 : b ≠ 0) (h1 : b ≠ -1) : combV [47] a b 0 = .inl (IntKind.i64.wrap (a.tdiv b)) := by
  show (match (if b = 0 then _ else if b = -1 then _ else _ : Int ⊕ Int) with | .inl v => Sum.inl v | .inr e => _) = _
  rw [if_neg h0, if_neg h1]
  rfl
theorem rem2 (a b : Int) (h0 : b ≠ 0) (h1 : b ≠ -1) : combV [37] a b 0 = .inl (a.tmod b) := by
  show (match (if b = 0 then _ else if b = -1 then _ else _ : Int ⊕ Int) with | .inl v => Sum.inl v | .inr e => _) = _
  rw [if_neg h0, if_neg h1]
  rfl
theorem sg_len {t : ByteArray} (ht : t.data.toList ∈ signsO) : t.size ≤ 2 := by
  have h2 : ∀ s ∈ signsO, s.length ≤ 2 := by decide
  rw [Lib.size_eq]
  exact h2 _ ht
theorem litS_small {a : Int} (ha : -9223372036854775808 ≤ a ∧ a ≤ 9223372036854775807) : (litS a).length ≤ 100 := by
  have la := litS_len a ha.1 ha.2
  omega
theorem gw_alloc {w : World} (h : GW w (fun _ _ => False)) (o : Obj) : GW (w.alloc o) (fun _ _ => False) := gw_mono h ((Below.refl _ _).alloc (Nat.le_refl _) o)
def valQ (a b : Int) (t : ByteArray) : Int := match combV t.data.toList a b 0 with
  | .inl v => v
  | .inr _ => 0
def errQ (b : Int) : Int := if b = 0 then 13 else 0
theorem quo_calls {a b : Int} (ha : -9223372036854775808 ≤ a ∧ a ≤ 9223372036854775807) (hb : -9223372036854775808 ≤ b ∧ b ≤ 9223372036854775807) (t : ByteArray) (ht : t.data.toList = [47] ∨ t.data.toList = [37])
    (w : World) (hG : GW w (fun _ _ => False)) : Calls Tryd.prog 17 #[.string ((⟨(litS a).toArray⟩ : ByteArray) ++ t ++ ⟨(litS b).toArray⟩)] w fun e w' =>
      ∃ f2 f3 : Int, e = .returned (.tuple #[.int .i64 (valQ a b t), .agg #[.int .i64 (errQ b), .int .i64 f2, .int .i64 f3]]) ∧ Below w.heap.size w w' := by
  have hs : t.data.toList ∈ signsO := by rcases ht with h | h <;> rw [h] <;> decide
  cases hc : combV t.data.toList a b 0 with
  | inl v =>
    have hb0 : b ≠ 0 := by
      rintro rfl
      rcases ht with h | h
      · rw [h, quo0] at hc; cases hc
      · rw [h, rem0] at hc; cases hc
    have e1 : valQ a b t = v := by unfold valQ; rw [hc]
    rw [e1, show errQ b = 0 from if_neg hb0]
    exact (evalOk_calls ha hb t hs v hc w hG).mono fun e w' ⟨h1, h2⟩ => ⟨_, _, h1, h2⟩
  | inr er =>
    have hb0 : b = 0 := by
      refine Classical.byContradiction fun hb0 => ?_
      by_cases h1 : b = -1
      · subst h1
        rcases ht with h | h
        · rw [h, quo1] at hc; cases hc
        · rw [h, rem1] at hc; cases hc
      · rcases ht with h | h
        · rw [h, quo2 _ _ hb0 h1] at hc; cases hc
        · rw [h, rem2 _ _ hb0 h1] at hc; cases hc
    subst hb0
    have e0 : er = 13 := by
      rcases ht with h | h
      · rw [h, quo0] at hc; cases hc; rfl
      · rw [h, rem0] at hc; cases hc; rfl
    subst e0
    have e1 : valQ a 0 t = 0 := by unfold valQ; rw [hc]
    rw [e1, show errQ 0 = 13 from rfl]
    exact evalEr_calls ha hb t hs 13 hc w hG
theorem v47_0 (a : Int) : valQ a 0 ⟨#[47]⟩ = 0 := rfl
theorem v37_0 (a : Int) : valQ a 0 ⟨#[37]⟩ = 0 := rfl
theorem v47_1 (a : Int) : valQ a (-1) ⟨#[47]⟩ = wrap64 (0 - a) := by
  show (match combV [47] a (-1) 0 with | .inl v => v | .inr _ => 0) = _
  rw [quo1]
theorem v37_1 (a : Int) : valQ a (-1) ⟨#[37]⟩ = 0 := rfl
theorem v47_2 (a b : Int) (h0 : b ≠ 0) (h1 : b ≠ -1) : valQ a b ⟨#[47]⟩ = IntKind.i64.wrap (a.tdiv b) := by
  show (match combV [47] a b 0 with | .inl v => v | .inr _ => 0) = _
  rw [quo2 _ _ h0 h1]
theorem v37_2 (a b : Int) (h0 : b ≠ 0) (h1 : b ≠ -1) : valQ a b ⟨#[37]⟩ = a.tmod b := by
  show (match combV [37] a b 0 with | .inl v => v | .inr _ => 0) = _
  rw [rem2 _ _ h0 h1]
def IsTab (a b : Int) (L : List (List UInt8 × Int)) : Prop := ∃ p q : Bool, p = (!decide (a = 0) && !decide (b = 0)) ∧ q = (!decide (a = 0) || !decide (b = 0)) ∧ L = tabL a b p q
theorem IsTab.ok {a b : Int} {L : List (List UInt8 × Int)} (h : IsTab a b L) {s : List UInt8} {c : Int} (hm : (s, c) ∈ L) : s ∈ signsO ∧ combV s a b 0 = .inl c := by
  obtain ⟨p, q, hp, hq, rfl⟩ := h
  exact tabL_ok a b p q hp hq s c hm
theorem IsTab.mk0 (b : Int) : IsTab 0 b (tabL 0 b false (b != 0)) := ⟨_, _, rfl, by rw [← beq_dec b 0]; rfl, rfl⟩
theorem IsTab.mk1 {a : Int} (ha : ¬ a = 0) (b : Int) : IsTab a b (tabL a b (b != 0) true) := ⟨_, _, by rw [decide_eq_false ha, ← beq_dec b 0]; rfl, by rw [decide_eq_false ha]; rfl, rfl⟩
theorem IsTab.get {a b : Int} {L : List (List UInt8 × Int)} (h : IsTab a b L) {x : ByteArray} {c : Int} {left : Lit → Bool} (hsub : ∀ kl, left kl = true → Maps.has (putAll L) kl = true) (hl : left (.string x.data.toList) = true)
    (hat : ∀ zd, (putAll L).atKey (.string x.data.toList) zd = .lit (.int .i64 c)) : x.data.toList ∈ signsO ∧ combV x.data.toList a b 0 = .inl c :=
  h.ok (putAll_has _ c (.lit (.int .i64 0)) L (hsub _ hl) (hat _))
end Go.Proofs.YtghmojcecefgjaaDoor
