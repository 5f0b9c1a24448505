/- internal/strconv.ParseInt and strconv.ParseInt, at each base at which ParseUint is known. -/
import Derived.Test.YtghmojcecefgjaaDoorZoab
set_option linter.unusedVariables false
set_option linter.unusedSimpArgs false
namespace Go.Proofs.YtghmojcecefgjaaDoor
open Go.Shelf Go.RowKit
variable {P : Program} {ρ : Ren}
def parseU (B : Nat) (l : List UInt8) : NE := if l = [] then .bad else parseB B 0 l
theorem parseU_lt {B : Nat} {l : List UInt8} {u : Nat} (h : parseU B l = .ok u) : u < 18446744073709551616 := by
  unfold parseU at h
  split at h
  · cases h
  · exact parseB_lt B l 0 u (by omega) h
def posI : NE → Option Int
  | .ok u => if 9223372036854775808 ≤ u then none else some (u : Int)
  | _ => none
def negI : NE → Option Int
  | .ok u => if 9223372036854775808 < u then none else some (-(u : Int))
  | _ => none
def parseI (B : Nat) : List UInt8 → Option Int
  | [] => none
  | c :: r => if c = 43 then posI (parseU B r) else if c = 45 then negI (parseU B r) else posI (parseU B (c :: r))
def posE : NE → Int
  | .bad => 0
  | _ => 9223372036854775807
def negE : NE → Int
  | .bad => 0
  | _ => -9223372036854775808
def errI (B : Nat) : List UInt8 → Int
  | [] => 0
  | c :: r => if c = 43 then posE (parseU B r) else if c = 45 then negE (parseU B r) else posE (parseU B (c :: r))
def PIR (T : TypeId) : Option Int → Int → Int → Value → Prop
  | some m, _, n, er => n = m ∧ er = .nilIface
  | none, x, n, er => n = x ∧ (er = .iface T (.int .i64 1) ∨ er = .iface T (.int .i64 2))
def PU (P : Program) (ρ : Ren) (B : Nat) : Prop := ∀ (t : ByteArray), t.size ≤ 9223372036854775806 → ∀ w, Calls P (ρ.f 287) #[.string t, .int .i64 (B : Int), .int .i64 64] w fun e w' =>
  e = .returned (uT (ρ.t 167) (parseU B t.data.toList)) ∧ (w' = w ∨ w' = Lib.bytesWorld w (ρ.t 5) t)
theorem pu_all (L : Lays.n287 P ρ) (B : Nat) (h : ∀ (t : ByteArray), t.size ≠ 0 → t.size ≤ 9223372036854775806 → ∀ w, Calls P (ρ.f 287) #[.string t, .int .i64 (B : Int), .int .i64 64] w fun e w' => e = .returned (uT (ρ.t 167) (parseB B 0 t.data.toList)) ∧ w' = Lib.bytesWorld w (ρ.t 5) t) : PU P ρ B := by
  intro t hmax w
  by_cases h0 : t.size = 0
  · have ht : t = ⟨#[]⟩ := by
      apply ByteArray.ext
      exact Array.eq_empty_of_size_eq_zero h0
    subst ht
    exact (Any.internal_strconv_ParseUint_empty { L with } B 64 w).mono fun e w' ⟨he, hw⟩ => ⟨he, Or.inl hw⟩
  · have hne : t.data.toList ≠ [] := fun h => h0 (by rw [Lib.size_eq, h]; rfl)
    refine (h t h0 hmax w).mono fun e w' ⟨he, hw⟩ => ⟨?_, Or.inr hw⟩
    rw [he, parseU, if_neg hne]
theorem pu8 (L : Lays.n287 P ρ) : PU P ρ 8 := pu_all L 8 (pu_8 L)
theorem pu10 (L : Lays.n287 P ρ) : PU P ρ 10 := pu_all L 10 (pu_10 L)
theorem pu16 (L : Lays.n287 P ρ) : PU P ρ 16 := pu_all L 16 (pu_16 L)
set_option maxHeartbeats 32000000 in
set_option maxRecDepth 100000 in
theorem pint (L : LaysC.n247 P ρ) (B : Nat) (HU : PU P ρ B) (s : ByteArray) (hmax : s.size ≤ 9223372036854775806) (w : World) :
    Calls P (ρ.f 247) #[.string s, .int .i64 (B : Int), .int .i64 64] w fun e w' => (∃ n er, e = .returned (.tuple #[.int .i64 n, er]) ∧ PIR (ρ.t 167) (parseI B s.data.toList) (errI B s.data.toList) n er) ∧ (w' = w ∨ ∃ t, w' = Lib.bytesWorld w (ρ.t 5) t) := by
  by_cases hne : s.size = 0
  · have hs : s = ⟨#[]⟩ := by
      apply ByteArray.ext
      exact Array.eq_empty_of_size_eq_zero hne
    subst hs
    exact (Any.internal_strconv_ParseInt_empty { L with } B 64 w).mono fun e w' ⟨he, hw⟩ => ⟨⟨0, .iface (ρ.t 167) (.int .i64 2), he, rfl, Or.inr rfl⟩, Or.inl hw⟩
  have mixed := L.mixed
  have t9 := L.t9; have a9 := L.a9; have z9 := L.z9; have v9 := L.v9
  have t3 := L.t3; have a3 := L.a3; have z3 := L.z3; have v3 := L.v3
  have t2 := L.t2; have a2 := L.a2; have z2 := L.z2; have v2 := L.v2
  have t75 := L.t75; have a75 := L.a75; have z75 := L.z75; have v75 := L.v75
  have t4 := L.t4; have a4 := L.a4; have z4 := L.z4; have v4 := L.v4
  have t167 := L.t167; have a167 := L.a167; have z167 := L.z167; have v167 := L.v167
  have t5 := L.t5; have a5 := L.a5; have z5 := L.z5; have v5 := L.v5
  have t53 := L.t53; have a53 := L.a53; have z53 := L.z53; have v53 := L.v53
  have t175 := L.t175; have a175 := L.a175; have z175 := L.z175; have v175 := L.v175
  have t46 := L.t46; have a46 := L.a46; have z46 := L.z46; have v46 := L.v46
  have e287 : ∀ args w, (callFunc (ρ.f 287) args).run P w = .ok (.enter (ρ.f 287) args) w := enters_of L.f287 (by kernel_rfl) rfl
  have hemp : s.toList.isEmpty = false := by
    rw [← decide_eq_emptyBytes]
    exact decide_eq_false (fun h => hne (by rw [h]; rfl))
  have hpos : 0 < s.size := by omega
  obtain ⟨c0, r, hL⟩ : ∃ c0 r, s.data.toList = c0 :: r := by
    cases h : s.data.toList with
    | nil => exact absurd (by rw [Lib.size_eq, h]; rfl) hne
    | cons c0 r => exact ⟨c0, r, rfl⟩
  have hsz : s.size = r.length + 1 := by rw [Lib.size_eq, hL]; rfl
  have hs0 : s[0]'hpos = c0 := by have := Lib.getD_at s 0 hpos; rw [hL] at this; exact this
  have hq2 : ∀ W, (binOp .neq (ρ.t 75) (.iface (ρ.t 167) (.int .i64 2)) (.iface (ρ.t 167) (.int .i64 1))).run P W = .ok (.bool true) W := fun W => Lib.run_neq_iface_int W 2 1 L.t75 L.c167 L.t167
  have hq1 : ∀ W, (binOp .neq (ρ.t 75) (.iface (ρ.t 167) (.int .i64 1)) (.iface (ρ.t 167) (.int .i64 1))).run P W = .ok (.bool false) W := fun W => Lib.run_neq_iface_int W 1 1 L.t75 L.c167 L.t167
  have hmin : wrap64 (-wrap64 9223372036854775808) = -9223372036854775808 := by
    unfold wrap64
    omega
  rw [hL]
  obtain ⟨b, hb⟩ : ∃ b : Int, b = (B : Int) := ⟨_, rfl⟩
  simp only [PU, ← hb] at HU ⊢
  by_cases h43 : c0 = 43
  · subst h43
    have hsl : ∀ W, (Instr.slice (ρ.t 9) (.string s) (some (.int .i64 1)) none none).run P W = .ok (.string (s.extract 1 s.size)) W := fun W => by
      rw [run_slice_string_from_if W (ρ.t 9) s .i64 _ L.t9, if_pos ⟨by omega, by omega⟩]
      rfl
    have htl : (s.extract 1 s.size).data.toList = r := by
      rw [Lib.extract_data, hL, List.drop_succ_cons, List.drop_zero, List.take_of_length_le (by omega)]
    have hts : (s.extract 1 s.size).size = s.size - 1 := by rw [Lib.size_eq, htl]; omega
    generalize s.extract 1 s.size = t at hsl htl hts
    have hU := HU t (by omega) w
    rw [htl] at hU
    have hwd : ∀ w1 : World, (w1 = w ∨ w1 = Lib.bytesWorld w (ρ.t 5) t) → (w1 = w ∨ ∃ t, w1 = Lib.bytesWorld w (ρ.t 5) t) := fun w1 h => h.imp id fun h => ⟨t, h⟩
    clear hL HU hb
    rw [show parseI B (43 :: r) = posI (parseU B r) from by rw [parseI, if_pos rfl], show errI B (43 :: r) = posE (parseU B r) from by rw [errI, if_pos rfl]]
    have hlt := fun u => parseU_lt (B := B) (l := r) (u := u)
    cases hE : parseU B (r) with
    | bad =>
      rw [hE] at hU
      have hU : Calls P (ρ.f 287) #[.string t, .int .i64 b, .int .i64 64] w fun e w' => e = .returned (.tuple #[.int .u64 0, .iface (ρ.t 167) (.int .i64 2)]) ∧ (w' = w ∨ w' = Lib.bytesWorld w (ρ.t 5) t) := hU
      clear hE hlt
      go_enter L.f247, Body.n247_ntmps ρ
      go_wp2_with (go_at_fn (ρ.f 287); refine hU.mono ?_; rintro e w1 ⟨rfl, hw1⟩)
      go_wp2
      go_ret2
      exact ⟨⟨_, _, rfl, rfl, Or.inr rfl⟩, hwd w1 hw1⟩
    | range =>
      rw [hE] at hU
      have hU : Calls P (ρ.f 287) #[.string t, .int .i64 b, .int .i64 64] w fun e w' => e = .returned (.tuple #[.int .u64 18446744073709551615, .iface (ρ.t 167) (.int .i64 1)]) ∧ (w' = w ∨ w' = Lib.bytesWorld w (ρ.t 5) t) := hU
      clear hE hlt
      go_enter L.f247, Body.n247_ntmps ρ
      go_wp2_with (go_at_fn (ρ.f 287); refine hU.mono ?_; rintro e w1 ⟨rfl, hw1⟩)
      go_wp2
      go_ret2
      exact ⟨⟨_, _, rfl, rfl, Or.inl rfl⟩, hwd w1 hw1⟩
    | ok u =>
      have hu64 := hlt u hE
      rw [hE] at hU
      obtain ⟨a, ha⟩ : ∃ a : Int, a = (u : Int) := ⟨_, rfl⟩
      have hU : Calls P (ρ.f 287) #[.string t, .int .i64 b, .int .i64 64] w fun e w' => e = .returned (.tuple #[.int .u64 a, .nilIface]) ∧ (w' = w ∨ w' = Lib.bytesWorld w (ρ.t 5) t) := by rw [ha]; exact hU
      have a0 : 0 ≤ a := by omega
      have a1 : a ≤ 18446744073709551615 := by omega
      by_cases hout : 9223372036854775808 ≤ u
      · rw [show posI (NE.ok u) = none from if_pos hout]
        have iout : 9223372036854775808 ≤ a := by omega
        clear hout hu64 ha hE hlt
        go_enter L.f247, Body.n247_ntmps ρ
        go_wp2_with (go_at_fn (ρ.f 287); refine hU.mono ?_; rintro e w1 ⟨rfl, hw1⟩)
        go_wp2
        go_ret2
        exact ⟨⟨_, _, rfl, rfl, Or.inl rfl⟩, hwd w1 hw1⟩
      · rw [show posI (NE.ok u) = some (u : Int) from if_neg hout, ← ha]
        have iin : a < 9223372036854775808 := by omega
        clear hout hu64 ha hE hlt
        go_enter L.f247, Body.n247_ntmps ρ
        go_wp2_with (go_at_fn (ρ.f 287); refine hU.mono ?_; rintro e w1 ⟨rfl, hw1⟩)
        go_wp2
        go_ret2
        exact ⟨⟨_, _, rfl, rfl, rfl⟩, hwd w1 hw1⟩
  by_cases h45 : c0 = 45
  · subst h45
    have hsl : ∀ W, (Instr.slice (ρ.t 9) (.string s) (some (.int .i64 1)) none none).run P W = .ok (.string (s.extract 1 s.size)) W := fun W => by
      rw [run_slice_string_from_if W (ρ.t 9) s .i64 _ L.t9, if_pos ⟨by omega, by omega⟩]
      rfl
    have htl : (s.extract 1 s.size).data.toList = r := by
      rw [Lib.extract_data, hL, List.drop_succ_cons, List.drop_zero, List.take_of_length_le (by omega)]
    have hts : (s.extract 1 s.size).size = s.size - 1 := by rw [Lib.size_eq, htl]; omega
    generalize s.extract 1 s.size = t at hsl htl hts
    have hU := HU t (by omega) w
    rw [htl] at hU
    have hwd : ∀ w1 : World, (w1 = w ∨ w1 = Lib.bytesWorld w (ρ.t 5) t) → (w1 = w ∨ ∃ t, w1 = Lib.bytesWorld w (ρ.t 5) t) := fun w1 h => h.imp id fun h => ⟨t, h⟩
    clear hL HU hb
    rw [show parseI B (45 :: r) = negI (parseU B r) from by rw [parseI, if_neg (by decide), if_pos rfl], show errI B (45 :: r) = negE (parseU B r) from by rw [errI, if_neg (by decide), if_pos rfl]]
    have hlt := fun u => parseU_lt (B := B) (l := r) (u := u)
    cases hE : parseU B (r) with
    | bad =>
      rw [hE] at hU
      have hU : Calls P (ρ.f 287) #[.string t, .int .i64 b, .int .i64 64] w fun e w' => e = .returned (.tuple #[.int .u64 0, .iface (ρ.t 167) (.int .i64 2)]) ∧ (w' = w ∨ w' = Lib.bytesWorld w (ρ.t 5) t) := hU
      clear hE hlt
      go_enter L.f247, Body.n247_ntmps ρ
      go_wp2_with (go_at_fn (ρ.f 287); refine hU.mono ?_; rintro e w1 ⟨rfl, hw1⟩)
      go_wp2
      go_ret2
      exact ⟨⟨_, _, rfl, rfl, Or.inr rfl⟩, hwd w1 hw1⟩
    | range =>
      rw [hE] at hU
      have hU : Calls P (ρ.f 287) #[.string t, .int .i64 b, .int .i64 64] w fun e w' => e = .returned (.tuple #[.int .u64 18446744073709551615, .iface (ρ.t 167) (.int .i64 1)]) ∧ (w' = w ∨ w' = Lib.bytesWorld w (ρ.t 5) t) := hU
      clear hE hlt
      go_enter L.f247, Body.n247_ntmps ρ
      go_wp2_with (go_at_fn (ρ.f 287); refine hU.mono ?_; rintro e w1 ⟨rfl, hw1⟩)
      go_wp2
      go_ret2
      exact ⟨⟨_, _, rfl, by first | rfl | exact hmin, Or.inl rfl⟩, hwd w1 hw1⟩
    | ok u =>
      have hu64 := hlt u hE
      rw [hE] at hU
      obtain ⟨a, ha⟩ : ∃ a : Int, a = (u : Int) := ⟨_, rfl⟩
      have hU : Calls P (ρ.f 287) #[.string t, .int .i64 b, .int .i64 64] w fun e w' => e = .returned (.tuple #[.int .u64 a, .nilIface]) ∧ (w' = w ∨ w' = Lib.bytesWorld w (ρ.t 5) t) := by rw [ha]; exact hU
      have a0 : 0 ≤ a := by omega
      have a1 : a ≤ 18446744073709551615 := by omega
      by_cases hout : 9223372036854775808 < u
      · rw [show negI (NE.ok u) = none from if_pos hout]
        have iout : 9223372036854775808 < a := by omega
        clear hout hu64 ha hE hlt
        go_enter L.f247, Body.n247_ntmps ρ
        go_wp2_with (go_at_fn (ρ.f 287); refine hU.mono ?_; rintro e w1 ⟨rfl, hw1⟩)
        go_wp2
        go_ret2
        exact ⟨⟨_, _, rfl, by first | rfl | exact hmin, Or.inl rfl⟩, hwd w1 hw1⟩
      · rw [show negI (NE.ok u) = some (-(u : Int)) from if_neg hout, ← ha]
        have iin : a ≤ 9223372036854775808 := by omega
        have hwn : wrap64 (-wrap64 a) = -a := by
          unfold wrap64
          omega
        clear hout hu64 ha hE hlt
        go_enter L.f247, Body.n247_ntmps ρ
        go_wp2_with (go_at_fn (ρ.f 287); refine hU.mono ?_; rintro e w1 ⟨rfl, hw1⟩)
        go_wp2
        go_ret2
        exact ⟨⟨_, _, rfl, by first | rfl | exact hwn, rfl⟩, hwd w1 hw1⟩
  · skip
    have n43 : c0.toNat ≠ 43 := fun h => h43 (UInt8.toNat_inj.1 h)
    have n45 : c0.toNat ≠ 45 := fun h => h45 (UInt8.toNat_inj.1 h)
    have i43 : ¬ (c0.toNat : Int) = 43 := by omega
    have i45 : ¬ (c0.toNat : Int) = 45 := by omega
    obtain ⟨t, ht⟩ : ∃ t, t = s := ⟨_, rfl⟩
    have hU := HU s hmax w
    rw [hL] at hU
    have hwd : ∀ w1 : World, (w1 = w ∨ w1 = Lib.bytesWorld w (ρ.t 5) s) → (w1 = w ∨ ∃ t, w1 = Lib.bytesWorld w (ρ.t 5) t) := fun w1 h => h.imp id fun h => ⟨s, h⟩
    subst ht
    clear hL HU hb
    rw [show parseI B (c0 :: r) = posI (parseU B (c0 :: r)) from by rw [parseI, if_neg h43, if_neg h45], show errI B (c0 :: r) = posE (parseU B (c0 :: r)) from by rw [errI, if_neg h43, if_neg h45]]
    have hlt := fun u => parseU_lt (B := B) (l := (c0 :: r)) (u := u)
    cases hE : parseU B ((c0 :: r)) with
    | bad =>
      rw [hE] at hU
      have hU : Calls P (ρ.f 287) #[.string t, .int .i64 b, .int .i64 64] w fun e w' => e = .returned (.tuple #[.int .u64 0, .iface (ρ.t 167) (.int .i64 2)]) ∧ (w' = w ∨ w' = Lib.bytesWorld w (ρ.t 5) t) := hU
      clear hE hlt
      go_enter L.f247, Body.n247_ntmps ρ
      go_wp2_with (go_at_fn (ρ.f 287); refine hU.mono ?_; rintro e w1 ⟨rfl, hw1⟩)
      go_wp2
      go_ret2
      exact ⟨⟨_, _, rfl, rfl, Or.inr rfl⟩, hwd w1 hw1⟩
    | range =>
      rw [hE] at hU
      have hU : Calls P (ρ.f 287) #[.string t, .int .i64 b, .int .i64 64] w fun e w' => e = .returned (.tuple #[.int .u64 18446744073709551615, .iface (ρ.t 167) (.int .i64 1)]) ∧ (w' = w ∨ w' = Lib.bytesWorld w (ρ.t 5) t) := hU
      clear hE hlt
      go_enter L.f247, Body.n247_ntmps ρ
      go_wp2_with (go_at_fn (ρ.f 287); refine hU.mono ?_; rintro e w1 ⟨rfl, hw1⟩)
      go_wp2
      go_ret2
      exact ⟨⟨_, _, rfl, rfl, Or.inl rfl⟩, hwd w1 hw1⟩
    | ok u =>
      have hu64 := hlt u hE
      rw [hE] at hU
      obtain ⟨a, ha⟩ : ∃ a : Int, a = (u : Int) := ⟨_, rfl⟩
      have hU : Calls P (ρ.f 287) #[.string t, .int .i64 b, .int .i64 64] w fun e w' => e = .returned (.tuple #[.int .u64 a, .nilIface]) ∧ (w' = w ∨ w' = Lib.bytesWorld w (ρ.t 5) t) := by rw [ha]; exact hU
      have a0 : 0 ≤ a := by omega
      have a1 : a ≤ 18446744073709551615 := by omega
      by_cases hout : 9223372036854775808 ≤ u
      · rw [show posI (NE.ok u) = none from if_pos hout]
        have iout : 9223372036854775808 ≤ a := by omega
        clear hout hu64 ha hE hlt
        go_enter L.f247, Body.n247_ntmps ρ
        go_wp2_with (go_at_fn (ρ.f 287); refine hU.mono ?_; rintro e w1 ⟨rfl, hw1⟩)
        go_wp2
        go_ret2
        exact ⟨⟨_, _, rfl, rfl, Or.inl rfl⟩, hwd w1 hw1⟩
      · rw [show posI (NE.ok u) = some (u : Int) from if_neg hout, ← ha]
        have iin : a < 9223372036854775808 := by omega
        clear hout hu64 ha hE hlt
        go_enter L.f247, Body.n247_ntmps ρ
        go_wp2_with (go_at_fn (ρ.f 287); refine hU.mono ?_; rintro e w1 ⟨rfl, hw1⟩)
        go_wp2
        go_ret2
        exact ⟨⟨_, _, rfl, rfl, rfl⟩, hwd w1 hw1⟩
set_option maxHeartbeats 8000000 in
set_option maxRecDepth 100000 in
theorem spint (L : LaysC.n174 P ρ) (B : Nat) (HU : PU P ρ B) (s : ByteArray) (hlim : s.size ≤ 281474976710656) (w : World)
    (ev : Value) (hv : w.cell? ⟨(ρ.g 15), 0, none⟩ = some ev) (hev : ev = .nilIface ∨ ∃ te pe, ev = .iface te pe)
    (ew : Value) (hw : w.cell? ⟨(ρ.g 16), 0, none⟩ = some ew) (hew : ew = .nilIface ∨ ∃ te pe, ew = .iface te pe) :
    Calls P (ρ.f 174) #[.string s, .int .i64 (B : Int), .int .i64 64] w fun e w' => (∃ n er, e = .returned (.tuple #[.int .i64 n, er]) ∧ ((parseI B s.data.toList = some n ∧ er = .nilIface) ∨ (parseI B s.data.toList = none ∧ n = errI B s.data.toList ∧ ∃ p, er = .iface (ρ.t 168) p))) ∧ Below w.heap.size w w' := by
  have mixed := L.mixed
  have t9 := L.t9; have a9 := L.a9; have z9 := L.z9; have v9 := L.v9
  have t3 := L.t3; have a3 := L.a3; have z3 := L.z3; have v3 := L.v3
  have t2 := L.t2; have a2 := L.a2; have z2 := L.z2; have v2 := L.v2
  have t75 := L.t75; have a75 := L.a75; have z75 := L.z75; have v75 := L.v75
  have t85 := L.t85; have a85 := L.a85; have z85 := L.z85; have v85 := L.v85
  have t4 := L.t4; have a4 := L.a4; have z4 := L.z4; have v4 := L.v4
  have e247 : ∀ args w, (callFunc (ρ.f 247) args).run P w = .ok (.enter (ρ.f 247) args) w := enters_of L.f247 (by kernel_rfl) rfl
  have e245 : ∀ args w, (callFunc (ρ.f 245) args).run P w = .ok (.enter (ρ.f 245) args) w := enters_of L.f245 (by kernel_rfl) rfl
  have hG : (ρ.g 15) < w.heap.size := Lib.lt_of_cell hv
  have hG2 : (ρ.g 16) < w.heap.size := Lib.lt_of_cell hw
  have hI := pint { L with } B HU s (by omega) w
  obtain ⟨b, hb⟩ : ∃ b : Int, b = (B : Int) := ⟨_, rfl⟩
  rw [← hb] at hI ⊢
  generalize parseI B s.data.toList = res at hI ⊢
  generalize errI B s.data.toList = x at hI ⊢
  clear hb HU
  have hB2 : ∀ W1, (W1 = w ∨ ∃ t, W1 = Lib.bytesWorld w (ρ.t 5) t) → Below w.heap.size w W1 := by
    rintro W1 (rfl | ⟨t, rfl⟩)
    · exact Below.refl _ _
    · exact Lib.bytesWorld_below _ _ _
  cases res with
  | some m =>
    have hI : Calls P (ρ.f 247) #[.string s, .int .i64 b, .int .i64 64] w fun e w' => e = .returned (.tuple #[.int .i64 m, .nilIface]) ∧ Below w.heap.size w w' := hI.mono fun e w' ⟨⟨n, er, he, h1, h2⟩, hW⟩ => ⟨by rw [he, h1, h2], hB2 w' hW⟩
    go_enter L.f174, Body.n174_ntmps ρ
    go_wp2_with (go_at_fn (ρ.f 247); refine hI.mono ?_; rintro e W1 ⟨rfl, hb1⟩)
    go_wp2
    go_ret2
    exact ⟨⟨_, _, rfl, Or.inl ⟨rfl, rfl⟩⟩, hb1⟩
  | none =>
    have hI : Calls P (ρ.f 247) #[.string s, .int .i64 b, .int .i64 64] w fun e w' => (e = .returned (.tuple #[.int .i64 x, .iface (ρ.t 167) (.int .i64 1)]) ∨ e = .returned (.tuple #[.int .i64 x, .iface (ρ.t 167) (.int .i64 2)])) ∧ Below w.heap.size w w' := hI.mono fun e w' ⟨⟨n, er, he, h0, h1⟩, hW⟩ => ⟨h1.elim (fun h => Or.inl (by rw [he, h0, h])) (fun h => Or.inr (by rw [he, h0, h])), hB2 w' hW⟩
    go_enter L.f174, Body.n174_ntmps ρ
    go_wp2_with (go_at_fn (ρ.f 247); refine hI.mono ?_; rintro e W1 ⟨rfl | rfl, hb1⟩)
    · have hw1 : W1.cell? ⟨(ρ.g 16), 0, none⟩ = some ew := (hb1.cell (show (⟨(ρ.g 16), 0, none⟩ : Addr).block < w.heap.size from hG2)).trans hw
      go_wp2_with (go_at_fn (ρ.f 245); refine (Any.strconv_toError_range { L with } ⟨#[80, 97, 114, 115, 101, 73, 110, 116]⟩ s b 64 ew _ hlim ?_ hew).mono ?_)
      · exact hw1
      rintro e W2 ⟨N, rfl, h1, h2, h3⟩
      go_wp2
      go_ret2
      exact ⟨⟨_, _, rfl, Or.inr ⟨by trivial, by trivial, _, rfl⟩⟩, hb1.trans (h3.mono hb1.size)⟩
    · have hv1 : W1.cell? ⟨(ρ.g 15), 0, none⟩ = some ev := (hb1.cell (show (⟨(ρ.g 15), 0, none⟩ : Addr).block < w.heap.size from hG)).trans hv
      go_wp2_with (go_at_fn (ρ.f 245); refine (Any.strconv_toError_syntax { L with } ⟨#[80, 97, 114, 115, 101, 73, 110, 116]⟩ s b 64 ev _ hlim ?_ hev).mono ?_)
      · exact hv1
      rintro e W2 ⟨N, rfl, h1, h2, h3⟩
      go_wp2
      go_ret2
      exact ⟨⟨_, _, rfl, Or.inr ⟨by trivial, by trivial, _, rfl⟩⟩, hb1.trans (h3.mono hb1.size)⟩
end Go.Proofs.YtghmojcecefgjaaDoor
