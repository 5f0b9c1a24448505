/- strconv.Itoa and strconv.ParseInt as functions of data, by the library's contracts. -/
import Derived.Test.YtghmojcecefgjaaDoorZoak
set_option linter.unusedVariables false
set_option linter.unusedSimpArgs false
namespace Go.Proofs.YtghmojcecefgjaaDoor
open Go.Shelf Go.RowKit
theorem GW.at {w : World} {S : Nat → Nat → Prop} (h : GW w S) {b : Nat} {p : Array Value → Prop} (hb : (b, p) ∈ gblocks) : ∃ cs ty, w.heap[b]? = some (.cells cs ty (0, 0)) ∧ p cs := by
  obtain ⟨cs, ty, h1, h2, _⟩ := h _ hb
  exact ⟨cs, ty, h1, h2⟩
theorem gw_tab {w : World} {S : Nat → Nat → Prop} (h : GW w S) : Lib.TabIs Tryd.prog w "internal/strconv.uint64pow10" .u64 Lib.pow10Tab := by
  obtain ⟨cs, ty, h1, h2⟩ := h.at (b := 2) (List.mem_cons_of_mem _ (List.mem_cons_of_mem _ (List.mem_cons_self ..)))
  have hg : Tryd.prog.globalNamed "internal/strconv.uint64pow10" = some 2 := by kernel_rfl
  unfold Lib.TabIs World.var?
  rw [hg]
  subst h2
  simp only [Option.bind_some, h1]
  rfl
noncomputable def strconv_Itoa (a0 : Int) : Option (List UInt8) := if -9223372036854775808 ≤ a0 ∧ a0 ≤ 9223372036854775807 then some (Lib.itoa a0) else none
noncomputable def pf_strconv_Itoa : PF := PF.of (E1 dI) (fun a => strconv_Itoa a) dS
theorem strconv_Itoa_ok : PureOk Tryd.prog 28 pf_strconv_Itoa := by
  intro w S args vs hG hargs hS hp
  obtain ⟨n, r, hle, H⟩ := hp
  have hargs := les1_Rn hle hargs
  rw [show pf_strconv_Itoa.val args = dS r from PF.of_vall IEnc.inj hle H]
  have H : strconv_Itoa n = some r := H
  unfold strconv_Itoa at H
  split at H
  · rename_i hn
    cases H
    have hargs : Rn w S [dI n] vs := hargs
    match vs, hargs with
    | [v0], .acons _ _ _ _ k0 _ =>
      obtain rfl := R1.vInv k0
      refine (Any.strconv_Itoa laysM171 n hn.1 hn.2 w (gw_tab hG)).mono ?_
      rintro en w' ⟨rfl, k, os, rfl⟩
      refine ⟨_, rfl, ?_, .v _⟩
      exact ⟨rfl, rfl, rfl, by rw [Go.Sort.size_grow]; exact Nat.le_add_right _ _, fun i hi => Go.Sort.heap_grow_old _ _ hi⟩
  · cases H
theorem strconv_Itoa_c (a0 : Int) (r : List UInt8) (H : strconv_Itoa a0 = some r) : PC pf_strconv_Itoa [dI a0] (dS r) := PF.c (a := a0) H
noncomputable def strconv_ParseInt (a0 : List UInt8) (a1 a2 : Int) : Option (Int × Bool) :=
  if a0.length ≤ 281474976710656 ∧ (a1 = 8 ∨ a1 = 10 ∨ a1 = 16) ∧ a2 = 64 then some ((parseI a1.toNat a0).getD (errI a1.toNat a0), (parseI a1.toNat a0).isSome) else none
noncomputable def pf_strconv_ParseInt : PF := PF.of (E3 dS dI dI) (fun a => strconv_ParseInt a.1 a.2.1 a.2.2) (T2 dI dE)
theorem strconv_ParseInt_ok : PureOk Tryd.prog 27 pf_strconv_ParseInt := by
  intro w S args vs hG hargs hS hp
  obtain ⟨⟨s, b, z⟩, r, hle, H⟩ := hp
  have hargs := les1_Rn hle hargs
  rw [show pf_strconv_ParseInt.val args = T2 dI dE r from PF.of_vall IEnc.inj hle H]
  replace H : strconv_ParseInt s b z = some r := H
  unfold strconv_ParseInt at H
  by_cases hn : s.length ≤ 281474976710656 ∧ (b = 8 ∨ b = 10 ∨ b = 16) ∧ z = 64
  · rw [if_pos hn] at H
    obtain ⟨hl, hb, hz⟩ := hn
    subst hz
    obtain rfl := Option.some.inj H
    have hargs : Rn w S [dS s, dI b, dI 64] vs := hargs
    match vs, hargs with
    | [v0, v1, v2], .acons _ _ _ _ k0 (.acons _ _ _ _ k1 (.acons _ _ _ _ k2 .anil)) =>
      obtain rfl := R1.vInv k0
      obtain rfl := R1.vInv k1
      obtain rfl := R1.vInv k2
      obtain ⟨cs0, ty0, e0, ev, f0, g0⟩ := hG.at (b := 0) (List.mem_cons_self ..)
      obtain ⟨cs1, ty1, e1, ew, f1, g1⟩ := hG.at (b := 1) (List.mem_cons_of_mem _ (List.mem_cons_self ..))
      have hU : PU Tryd.prog laysC174_ren b.toNat := by
        rcases hb with rfl | rfl | rfl
        · exact pu8 { laysC174 with }
        · exact pu10 { laysC174 with }
        · exact pu16 { laysC174 with }
      have hbi : (b.toNat : Int) = b := by omega
      have hv : w.cell? ⟨0, 0, none⟩ = some ev := by simp only [World.cell?, e0]; exact f0
      have hw : w.cell? ⟨1, 0, none⟩ = some ew := by simp only [World.cell?, e1]; exact f1
      have := spint laysC174 b.toNat hU ⟨s.toArray⟩ (by simpa [ByteArray.size] using hl) w ev hv g0 ew hw g1
      rw [hbi] at this
      refine this.mono ?_
      rintro en w' ⟨⟨n, er, rfl, hr⟩, hB⟩
      refine ⟨_, rfl, ⟨hB.os, hB.tape, hB.output, hB.size, hB.block⟩, ?_⟩
      have e4 : (⟨s.toArray⟩ : ByteArray).data.toList = s := rfl
      rw [e4] at hr
      rcases hr with ⟨h1, rfl⟩ | ⟨h1, rfl, p, rfl⟩
      · rw [h1]
        exact .tu _ _ (.acons _ _ _ _ (.v _) (.acons _ _ _ _ .ne0 .anil))
      · rw [h1]
        exact .tu _ _ (.acons _ _ _ _ (.v _) (.acons _ _ _ _ (.ne1 _ _) .anil))
  · rw [if_neg hn] at H; cases H
theorem strconv_ParseInt_c (a0 : List UInt8) (a1 a2 : Int) (r : Int × Bool) (H : strconv_ParseInt a0 a1 a2 = some r) : PC pf_strconv_ParseInt [dS a0, dI a1, dI a2] (T2 dI dE r) := PF.c (a := (a0, a1, a2)) H
end Go.Proofs.YtghmojcecefgjaaDoor
