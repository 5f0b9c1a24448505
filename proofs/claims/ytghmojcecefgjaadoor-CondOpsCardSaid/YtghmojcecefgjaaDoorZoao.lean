/- cond.Char, by hand: a map that is made, and asked once. -/
import Derived.Test.YtghmojcecefgjaaDoorZoal
import Derived.Maps.Own
import Derived.Maps.OwnSet
import Derived.Maps.OwnOps
set_option linter.unusedVariables false
set_option linter.unusedSimpArgs false
namespace Go.Proofs.YtghmojcecefgjaaDoor
open Go.RowKit Go.Maps
theorem wpList_insert_own {H : Type} {P : Program} (w : World) {ops : Array Oper} {rest : List Oper} {o : Oper} {a : Act} {Q : Exit → Act → World → Prop}
    (hg : o.guard = none) (m x v : Operand) (t : TypeId) (hop : o.op = Op.insert t m x v)
    (k e : TypeId) (K : Keyed P k) (ht : P.underlying t = some (.map k e)) (R : Value → Option (DataW H × List MemPlace)) (b n : Nat) (D : DataW H)
    (hm : a.eval m = .map (some b)) (hown : w.ownsMap P k R b n D) (hn : n < maxLen) (key val : Value) (kl : Lit) (hx : a.eval x = key) (hv : a.eval v = val) (hkey : keyOf P k key = some kl)
    (d : DataW H) (ps : List MemPlace) (hval : R val = some (d, ps))
    (hK : ∀ w', w'.ownsMap P k R b (n + 1) (D.put kl d) → w.grownBy w' (some b) → wpList P ops Q rest (a.put o.dst undef) w') :
    wpList P ops Q (o :: rest) a w := by
  refine wpList_plain hg fun K' hK' => ?_
  obtain ⟨w', hrun, r1, r2⟩ := hown.update K ht hn hkey hval
  unfold Oper.wp
  simp [execOp, hop, hm, hx, hv, hrun, Result.andThen]
  exact hK' _ _ (hK w' r1 r2)
def esc (c : UInt8) : Int × Bool := if c = 110 then (10, true) else if c = 116 then (9, true) else if c = 48 then (0, true) else if c = 92 then (92, true) else if c = 39 then (39, true) else if c = 34 then (34, true) else (0, false)
def charF : List UInt8 → Int × Bool
  | [_, b, _] => if b = 92 then (0, false) else if b = 39 then (0, false) else ((b.toNat : Int), true)
  | [_, b, c, _] => if b = 92 then esc c else (0, false)
  | _ => (0, false)
def escM : DataW Unit := ((((((DataW.map []).put (.int .u8 110) (.lit (.int .i64 10))).put (.int .u8 116) (.lit (.int .i64 9))).put (.int .u8 48) (.lit (.int .i64 0))).put (.int .u8 92) (.lit (.int .i64 92))).put (.int .u8 39) (.lit (.int .i64 39))).put (.int .u8 34) (.lit (.int .i64 34))
def litI : DataW Unit → Int
  | .lit (.int _ a) => a
  | _ => 0
theorem esc_at : ∀ n : Fin 256, litI (escM.atKey (.int .u8 (n.val : Int)) (.lit (.int .i64 0))) = (esc (UInt8.ofNat n.val)).1 ∧ Maps.has escM (.int .u8 (n.val : Int)) = (esc (UInt8.ofNat n.val)).2 := by decide +kernel
theorem esc_at' (c : UInt8) : litI (escM.atKey (.int .u8 (c.toNat : Int)) (.lit (.int .i64 0))) = (esc c).1 ∧ Maps.has escM (.int .u8 (c.toNat : Int)) = (esc c).2 := by
  have := esc_at ⟨c.toNat, c.toNat_lt⟩
  simpa using this
theorem key5 : Keyed Tryd.prog 5 := int_keyed Tryd.underlying5
theorem zero3' (w : World) : (zeroValue 3).run Tryd.prog w = .ok (.int .i64 0) w := by kernel_rfl
theorem wf_u8 (c : UInt8) : (Lit.int .u8 (c.toNat : Int)).wf = true := by
  have : ∀ n : Fin 256, (Lit.int .u8 (n.val : Int)).wf = true := by decide +kernel
  exact this ⟨c.toNat, c.toNat_lt⟩
set_option maxRecDepth 100000 in
set_option maxHeartbeats 4000000 in
theorem char_calls (s : ByteArray) (w : World) : Calls Tryd.prog 12 #[.string s] w fun e w' => e = .returned (.tuple #[.int .i64 (charF s.data.toList).1, .bool (charF s.data.toList).2]) ∧ Below w.heap.size w w' := by
  have hmm := @run_makeMap Tryd.prog
  by_cases h3 : s.size = 3
  · obtain ⟨c0, c1, c2, hL⟩ : ∃ c0 c1 c2, s.data.toList = [c0, c1, c2] := by
      have h : s.data.toList.length = 3 := by rw [← Lib.size_eq]; exact h3
      match h2 : s.data.toList, h with
      | [a, b, c], _ => exact ⟨a, b, c, rfl⟩
    have hs1 : s[1]'(by omega) = c1 := by have := Lib.getD_at s 1 (by omega); rw [hL] at this; exact this
    rw [hL]
    clear hL
    by_cases h92 : c1 = 92
    · have e : charF [c0, c1, c2] = (0, false) := by rw [charF, if_pos h92]
      rw [e]
      subst h92
      go_enter Tryd.func12, Tryd.ntmps12
      go_wp2
      go_ret2
      exact ⟨rfl, Below.refl _ _⟩
    by_cases h39 : c1 = 39
    · have e : charF [c0, c1, c2] = (0, false) := by rw [charF, if_neg h92, if_pos h39]
      rw [e]
      subst h39
      go_enter Tryd.func12, Tryd.ntmps12
      go_wp2
      go_ret2
      exact ⟨rfl, Below.refl _ _⟩
    · have e : charF [c0, c1, c2] = ((c1.toNat : Int), true) := by rw [charF, if_neg h92, if_neg h39]
      rw [e]
      have n92 : ¬ (c1.toNat : Int) = 92 := fun h => h92 (UInt8.toNat_inj.1 (by have : (92 : UInt8).toNat = 92 := rfl; omega))
      have n39 : ¬ (c1.toNat : Int) = 39 := fun h => h39 (UInt8.toNat_inj.1 (by have : (39 : UInt8).toNat = 39 := rfl; omega))
      have n256 : (c1.toNat : Int) < 256 := by have := c1.toNat_lt; omega
      have m92 : ((c1.toNat : Int) != 92) = true := by simp [n92]
      have m39 : ((c1.toNat : Int) != 39) = true := by simp [n39]
      go_enter Tryd.func12, Tryd.ntmps12
      go_wp2
      all_goals first | (go_ret2; exact ⟨rfl, Below.refl _ _⟩) | (exfalso; simp_all; done)
  by_cases h4 : s.size = 4
  · obtain ⟨c0, c1, c2, c3, hL⟩ : ∃ c0 c1 c2 c3, s.data.toList = [c0, c1, c2, c3] := by
      have h : s.data.toList.length = 4 := by rw [← Lib.size_eq]; exact h4
      match h2 : s.data.toList, h with
      | [a, b, c, d], _ => exact ⟨a, b, c, d, rfl⟩
    have hs1 : s[1]'(by omega) = c1 := by have := Lib.getD_at s 1 (by omega); rw [hL] at this; exact this
    have hs2 : s[2]'(by omega) = c2 := by have := Lib.getD_at s 2 (by omega); rw [hL] at this; exact this
    rw [hL]
    clear hL
    by_cases h92 : c1 = 92
    · have e : charF [c0, c1, c2, c3] = esc c2 := by rw [charF, if_pos h92]
      rw [e]
      subst h92
      have hmk : ∀ W : World, (W.alloc (.map #[] 0)).ownsMap (H := Unit) Tryd.prog 5 (plainElem Tryd.prog 3) W.heap.size 0 (.map []) := fun W => World.ownsMap_made _ _ _ _
      have hmk0 := hmk w
      have n0 : (Lit.int .u8 110).wf = true := by decide
      go_enter Tryd.func12, Tryd.ntmps12
      go_wp2_with (first
        | (refine wpList_insert_own _ rfl _ _ _ 69 rfl 5 3 key5 Tryd.underlying69 _ w.heap.size _ _ rfl (by assumption) (by unfold maxLen; omega) _ _ _ rfl rfl (keyOf_int_mk Tryd.underlying5 (by decide)) _ [] (plainElem_int Tryd.underlying3 (by decide)) ?_; intro w1 hown1 hgrow1)
        | (at_lookup; refine wpList_lookup_own_ok_int _ rfl _ _ 69 rfl 5 3 .i64 key5 Tryd.underlying69 Tryd.underlying3 (zero3' _) w.heap.size _ _ rfl (by assumption) _ _ rfl (keyOf_int_mk Tryd.underlying5 (wf_u8 c2)) ?_; intro cc hat hwc)
        | go_in)
      go_ret2
      obtain ⟨e1, e2⟩ := esc_at' c2
      have e3 := congrArg litI hat
      refine ⟨?_, ?_⟩
      · rw [← e1, ← e2]
        exact congrArg (fun z => Ending.returned (.tuple #[.int .i64 z, .bool _])) e3.symm
      · have b0 : Below w.heap.size w (w.alloc (.map #[] 0)) := (Below.refl _ _).alloc (Nat.le_refl _) _
        have st : ∀ {W W' : World}, Below w.heap.size w W → W.grownBy W' (some w.heap.size) → Below w.heap.size w W' := fun h g => h.grown g h.size (fun j hj => by cases hj; exact Nat.le_refl _)
        exact st (st (st (st (st (st b0 (by assumption)) (by assumption)) (by assumption)) (by assumption)) (by assumption)) (by assumption)
    · have e : charF [c0, c1, c2, c3] = (0, false) := by rw [charF, if_neg h92]
      rw [e]
      have n92 : ¬ (c1.toNat : Int) = 92 := fun h => h92 (UInt8.toNat_inj.1 (by have : (92 : UInt8).toNat = 92 := rfl; omega))
      go_enter Tryd.func12, Tryd.ntmps12
      go_wp2
      go_ret2
      exact ⟨rfl, Below.refl _ _⟩
  · have e : charF s.data.toList = (0, false) := by
      have h : s.data.toList.length = s.size := by rw [← Lib.size_eq]
      match h2 : s.data.toList, h with
      | [], _ => rfl
      | [_], _ => rfl
      | [_, _], _ => rfl
      | [_, _, _], h => exact absurd h.symm h3
      | [_, _, _, _], h => exact absurd h.symm h4
      | _ :: _ :: _ :: _ :: _ :: _, _ => rfl
    rw [e]
    go_enter Tryd.func12, Tryd.ntmps12
    go_wp2
    go_ret2
    exact ⟨rfl, Below.refl _ _⟩
noncomputable def cond_Char (a0 : List UInt8) : Option (Int × Bool) := some (charF a0)
noncomputable def pf_cond_Char : PF := PF.of (E1 dS) (fun a => cond_Char a) (T2 dI dB)
theorem cond_Char_ok : PureOk Tryd.prog 12 pf_cond_Char := by
  intro w S args vs hG hargs hS hp
  obtain ⟨s, r, hle, H⟩ := hp
  have hargs := les1_Rn hle hargs
  rw [show pf_cond_Char.val args = T2 dI dB r from PF.of_vall IEnc.inj hle H]
  replace H : cond_Char s = some r := H
  obtain rfl := Option.some.inj H
  have hargs : Rn w S [dS s] vs := hargs
  match vs, hargs with
  | [v0], .acons _ _ _ _ k0 .anil =>
    obtain rfl := R1.vInv k0
    refine (char_calls ⟨s.toArray⟩ w).mono ?_
    rintro en w' ⟨rfl, hB⟩
    exact ⟨_, rfl, ⟨hB.os, hB.tape, hB.output, hB.size, hB.block⟩, .tu _ _ (.acons _ _ _ _ (.v _) (.acons _ _ _ _ (.v _) .anil))⟩
theorem cond_Char_c (a0 : List UInt8) (r : Int × Bool) (H : cond_Char a0 = some r) : PC pf_cond_Char [dS a0] (T2 dI dB r) := PF.c (a := a0) H
end Go.Proofs.YtghmojcecefgjaaDoor
