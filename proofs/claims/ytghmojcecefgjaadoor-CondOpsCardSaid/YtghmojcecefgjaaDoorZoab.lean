/- internal/strconv.ParseUint at bases 8, 10 and 16: what its bytes spell. -/
import Derived.Shelf.LaysM
import Derived.Shelf.LaysC
import Derived.Shelf.Strconv.Lower
import Derived.Shelf.Strconv.ParseUintEmpty
import Derived.Shelf.Strconv.ParseIntEmpty
import Derived.Shelf.Strconv.ToError
import Derived.Shelf.Strconv.ToErrorRange
import Derived.Lib.Strings
import Derived.Lib.Walk
import Derived.Lib.ConvBytes
import Derived.Lib.AtoiAllMem
import Derived.Lib.ParseIntBMem
import Derived.Lib.IfaceNeq
import Derived.Lib.ItoaWalk
import Derived.Lib.Hide
import Derived.Laws.Strings3
import Derived.Laws.Closers25
import Derived.Laws.Closers25b
import Derived.WalkKit
import Derived.BigCall
import Derived.BigGuard
set_option linter.unusedVariables false
set_option linter.unusedSimpArgs false
namespace Go.Proofs.YtghmojcecefgjaaDoor
open Go.Shelf Go.RowKit
variable {P : Program} {ρ : Ren}
def low (c : Nat) : Nat := if 65 ≤ c ∧ c ≤ 90 then c + 32 else if c < 32 ∨ (64 ≤ c ∧ c < 96) ∨ (128 ≤ c ∧ c < 160) ∨ (192 ≤ c ∧ c < 224) then c + 32 else c
theorem low_or : ∀ n : Fin 256, bits .or .u8 (n.val : Int) 32 = (low n.val : Int) := by decide +kernel
theorem low_or' (c : Nat) (h : c < 256) : bits .or .u8 (c : Int) 32 = (low c : Int) := low_or ⟨c, h⟩
theorem low_lt (c : Nat) (h : c < 256) : low c < 256 := by
  unfold low
  split
  · omega
  · split <;> omega
def digB (c : Nat) : Nat := if 48 ≤ c ∧ c ≤ 57 then c - 48 else if 97 ≤ low c ∧ low c ≤ 122 then low c - 87 else 99
inductive NE where
  | ok (v : Nat)
  | bad
  | range
def uT (T : TypeId) : NE → Value
  | .ok v => .tuple #[.int .u64 v, .nilIface]
  | .bad => .tuple #[.int .u64 0, .iface T (.int .i64 2)]
  | .range => .tuple #[.int .u64 18446744073709551615, .iface T (.int .i64 1)]
def parseB (B acc : Nat) : List UInt8 → NE
  | [] => .ok acc
  | c :: r => if digB c.toNat < B then (if 18446744073709551616 ≤ acc * B + digB c.toNat then .range else parseB B (acc * B + digB c.toNat) r) else .bad
theorem parseB_lt (B : Nat) : ∀ (l : List UInt8) (acc u : Nat), acc < 18446744073709551616 → parseB B acc l = .ok u → u < 18446744073709551616
  | [], acc, u, ha, h => by
    simp only [parseB, NE.ok.injEq] at h
    omega
  | c :: r, acc, u, ha, h => by
    simp only [parseB] at h
    split at h
    · split at h
      · cases h
      · exact parseB_lt B r _ u (by omega) h
    · cases h
set_option maxHeartbeats 32000000 in
set_option maxRecDepth 100000 in
theorem pu_8 (L : Lays.n287 P ρ) (t : ByteArray) (hne : t.size ≠ 0) (hmax : t.size ≤ 9223372036854775806) (w : World) :
    Calls P (ρ.f 287) #[.string t, .int .i64 8, .int .i64 64] w fun e w' => e = .returned (uT (ρ.t 167) (parseB 8 0 t.data.toList)) ∧ w' = Lib.bytesWorld w (ρ.t 5) t := by
  have mixed := L.mixed
  have t9 := L.t9; have a9 := L.a9; have z9 := L.z9; have v9 := L.v9
  have t3 := L.t3; have a3 := L.a3; have z3 := L.z3; have v3 := L.v3
  have t53 := L.t53; have a53 := L.a53; have z53 := L.z53; have v53 := L.v53
  have t75 := L.t75; have a75 := L.a75; have z75 := L.z75; have v75 := L.v75
  have t4 := L.t4; have a4 := L.a4; have z4 := L.z4; have v4 := L.v4
  have t167 := L.t167; have a167 := L.a167; have z167 := L.z167; have v167 := L.v167
  have t5 := L.t5; have a5 := L.a5; have z5 := L.z5; have v5 := L.v5
  have t46 := L.t46; have a46 := L.a46; have z46 := L.z46; have v46 := L.v46
  have t37 := L.t37; have a37 := L.a37; have z37 := L.z37; have v37 := L.v37
  have t0 := L.t0; have a0 := L.a0; have z0 := L.z0; have v0 := L.v0
  have e321 : ∀ args w, (callFunc (ρ.f 321) args).run P w = .ok (.enter (ρ.f 321) args) w := enters_of L.f321 (by kernel_rfl) rfl
  have hemp : t.toList.isEmpty = false := by
    rw [← decide_eq_emptyBytes]
    exact decide_eq_false (fun h => hne (by rw [h]; rfl))
  have hcv := Lib.run_convert_string_bytes (P := P) w (ρ.t 9) (ρ.t 37) (ρ.t 5) t (u := .string) L.t9 L.t37 L.t5
  have hB : ∀ j, j < t.size → (Lib.bytesWorld w (ρ.t 5) t).cell? ⟨w.heap.size, j, none⟩ = some (.int .u8 (t.data.toList.getD j 0).toNat) := fun j hj => Lib.bytesWorld_cell w (ρ.t 5) t j hj
  obtain ⟨W1, hW1⟩ : ∃ W1, W1 = Lib.bytesWorld w (ρ.t 5) t := ⟨_, rfl⟩
  rw [← hW1] at hcv hB ⊢
  clear hW1
  obtain ⟨bs, hL⟩ : ∃ bs, bs = t.data.toList := ⟨_, rfl⟩
  have hLn : bs.length = t.size := by rw [hL, Lib.size_eq]
  rw [← hL] at hB ⊢
  clear hL
  have hmv : IntKind.u64.wrap (IntKind.u64.wrap 18446744073709551616 - 1) = 18446744073709551615 := by
    rw [IntKind.wrap_u64, IntKind.wrap_u64]
    decide
  go_enter L.f287, Body.n287_ntmps ρ
  go_wp2
  go_loop [12, 13, 101] (fun vu vn vi => ∃ (k acc : Nat) (a : Int), vu = .bool false ∧ vn = .int .u64 a ∧ vi = .int .i64 k ∧ k ≤ t.size ∧ Hid (a = (acc : Int) ∧ acc < 18446744073709551616 ∧ parseB 8 0 bs = parseB 8 acc (bs.drop k)))
    (fun _ _ vi => t.size - (intOf vi).toNat)
  case atStart => exact ⟨0, 0, 0, rfl, rfl, rfl, by omega, rfl, by omega, rfl⟩
  case round =>
    obtain ⟨k, acc, a, rfl, rfl, rfl, hk, hh⟩ := hrel
    obtain ⟨ha, hacc, hdec⟩ := hh.out
    clear hh
    have a0 : 0 ≤ a := by omega
    have a1 : a < 18446744073709551616 := by omega
    by_cases hkn : k < t.size
    · have hc := hB k hkn
      have hdrop : bs.drop k = bs[k]'(by omega) :: bs.drop (k + 1) := List.drop_eq_getElem_cons (by omega)
      have hget : bs.getD k 0 = bs[k]'(by omega) := by simp [List.getD, List.getElem?_eq_getElem (show k < bs.length by omega)]
      rw [hdrop] at hdec
      rw [hget] at hc
      generalize bs[k]'(by omega) = c at hc hdec
      have hc256 : c.toNat < 256 := c.toNat_lt
      clear hB hdrop hget
      rw [parseB] at hdec
      by_cases hdig : 48 ≤ c.toNat ∧ c.toNat ≤ 57
      · have hg : digB c.toNat = c.toNat - 48 := if_pos hdig
        obtain ⟨hd0, hd1⟩ := hdig
        rw [hg] at hdec
        clear hg
        by_cases hbig : 56 ≤ c.toNat
        · rw [if_neg (by omega)] at hdec
          have ibig : 56 ≤ (c.toNat : Int) := by omega
          clear hacc ha
          go_wp2
          all_goals go_ret2
          all_goals first | exact ⟨rfl, rfl⟩ | exact ⟨by rw [hdec]; rfl, rfl⟩
        obtain ⟨d, hd⟩ : ∃ d : Nat, d = c.toNat - 48 := ⟨_, rfl⟩
        by_cases hcut : 2305843009213693952 ≤ acc
        · rw [if_pos (by omega), if_pos (by omega)] at hdec
          have icut : 2305843009213693952 ≤ a := by omega
          clear hcut hacc ha hd
          go_wp2
          all_goals go_ret2
          all_goals first | exact ⟨rfl, rfl⟩ | exact ⟨by rw [hdec]; rfl, rfl⟩
        · by_cases hov : 18446744073709551616 ≤ acc * 8 + (c.toNat - 48)
          · rw [if_pos (by omega), if_pos (by omega)] at hdec
            have icut : a < 2305843009213693952 := by omega
            have iov : 18446744073709551616 ≤ a * 8 + ((c.toNat : Int) - 48) := by omega
            have hwr : IntKind.u64.wrap (a * 8 + ((c.toNat : Int) - 48)) = a * 8 + ((c.toNat : Int) - 48) - 18446744073709551616 := by
              rw [IntKind.wrap_u64]
              omega
            clear hcut hacc hov ha hd
            go_wp2
            all_goals go_ret2
            all_goals first | exact ⟨rfl, rfl⟩ | exact ⟨by rw [hdec]; rfl, rfl⟩
          · rw [if_pos (by omega), if_neg (by omega)] at hdec
            have HN : Hid (a * 8 + ((c.toNat : Int) - 48) = ((acc * 8 + (c.toNat - 48) : Nat) : Int) ∧ acc * 8 + (c.toNat - 48) < 18446744073709551616 ∧ parseB 8 0 bs = parseB 8 (acc * 8 + (c.toNat - 48)) (bs.drop (k + 1))) := Lib.hid ⟨by omega, by omega, hdec⟩
            have icut : a < 2305843009213693952 := by omega
            have iov : a * 8 + ((c.toNat : Int) - 48) < 18446744073709551616 := by omega
            clear hcut hacc hov hdec ha hd
            go_wp2
            refine ⟨⟨k + 1, acc * 8 + (c.toNat - 48), a * 8 + ((c.toNat : Int) - 48), rfl, (by first | rfl | (congr 1; omega)), (by first | rfl | (congr 1; omega)), by omega, HN⟩, by simp [intOf]; omega⟩
      · have hlo := low_or' c.toNat hc256
        have hll := low_lt c.toNat hc256
        have hu0 := bits_lo_u8 .or 95 32
        have hu1 := bits_hi_u8 .or 95 32
        have hlu : low 95 = 127 := rfl
        by_cases hlet : 97 ≤ low c.toNat ∧ low c.toNat ≤ 122
        · have hg : digB c.toNat = low c.toNat - 87 := by unfold digB; rw [if_neg hdig, if_pos hlet]
          rw [hg] at hdec
          clear hg
          have hnu : c.toNat ≠ 95 := by intro h; rw [h] at hlet; revert hlet; decide
          have hnu' : ¬ (c.toNat : Int) = 95 := by omega
          have hndI : ¬ (48 ≤ (c.toNat : Int) ∧ (c.toNat : Int) ≤ 57) := by omega
          obtain ⟨h97, h122⟩ := hlet
          generalize low c.toNat = m at hlo hll hdec h97 h122
          rw [if_neg (by omega)] at hdec
          clear hacc ha
          go_wp2_with (go_at_fn (ρ.f 321); refine (Any.internal_strconv_lower { L with } _ _).mono ?_; rintro e w' ⟨rfl, rfl⟩; rw [hlo])
          all_goals go_ret2
          all_goals first | exact ⟨rfl, rfl⟩ | exact ⟨by rw [hdec]; rfl, rfl⟩
        · have hg : digB c.toNat = 99 := by unfold digB; rw [if_neg hdig, if_neg hlet]
          rw [hg, if_neg (by omega)] at hdec
          clear hg hacc ha
          have hndI : ¬ (48 ≤ (c.toNat : Int) ∧ (c.toNat : Int) ≤ 57) := by omega
          have hv0 := bits_lo_u8 .or (c.toNat : Int) 32
          have hv1 := bits_hi_u8 .or (c.toNat : Int) 32
          have hlI : ¬ (97 ≤ bits .or .u8 (c.toNat : Int) 32 ∧ bits .or .u8 (c.toNat : Int) 32 ≤ 122) := by rw [hlo]; omega
          clear hlo hll hlet
          go_wp2_with (go_at_fn (ρ.f 321); refine (Any.internal_strconv_lower { L with } _ _).mono ?_; rintro e w' ⟨rfl, rfl⟩)
          all_goals go_ret2
          all_goals first | exact ⟨rfl, rfl⟩ | exact ⟨by rw [hdec]; rfl, rfl⟩
    · have hkk : k = t.size := by omega
      subst hkk
      rw [List.drop_eq_nil_of_le (show bs.length ≤ t.size by omega)] at hdec
      have hF : parseB 8 acc [] = .ok acc := rfl
      rw [hF] at hdec
      subst ha
      clear hacc hF a0 a1
      go_wp2
      all_goals go_ret2
      all_goals first | exact ⟨rfl, rfl⟩ | exact ⟨by rw [hdec]; rfl, rfl⟩
set_option maxHeartbeats 32000000 in
set_option maxRecDepth 100000 in
theorem pu_10 (L : Lays.n287 P ρ) (t : ByteArray) (hne : t.size ≠ 0) (hmax : t.size ≤ 9223372036854775806) (w : World) :
    Calls P (ρ.f 287) #[.string t, .int .i64 10, .int .i64 64] w fun e w' => e = .returned (uT (ρ.t 167) (parseB 10 0 t.data.toList)) ∧ w' = Lib.bytesWorld w (ρ.t 5) t := by
  have mixed := L.mixed
  have t9 := L.t9; have a9 := L.a9; have z9 := L.z9; have v9 := L.v9
  have t3 := L.t3; have a3 := L.a3; have z3 := L.z3; have v3 := L.v3
  have t53 := L.t53; have a53 := L.a53; have z53 := L.z53; have v53 := L.v53
  have t75 := L.t75; have a75 := L.a75; have z75 := L.z75; have v75 := L.v75
  have t4 := L.t4; have a4 := L.a4; have z4 := L.z4; have v4 := L.v4
  have t167 := L.t167; have a167 := L.a167; have z167 := L.z167; have v167 := L.v167
  have t5 := L.t5; have a5 := L.a5; have z5 := L.z5; have v5 := L.v5
  have t46 := L.t46; have a46 := L.a46; have z46 := L.z46; have v46 := L.v46
  have t37 := L.t37; have a37 := L.a37; have z37 := L.z37; have v37 := L.v37
  have t0 := L.t0; have a0 := L.a0; have z0 := L.z0; have v0 := L.v0
  have e321 : ∀ args w, (callFunc (ρ.f 321) args).run P w = .ok (.enter (ρ.f 321) args) w := enters_of L.f321 (by kernel_rfl) rfl
  have hemp : t.toList.isEmpty = false := by
    rw [← decide_eq_emptyBytes]
    exact decide_eq_false (fun h => hne (by rw [h]; rfl))
  have hcv := Lib.run_convert_string_bytes (P := P) w (ρ.t 9) (ρ.t 37) (ρ.t 5) t (u := .string) L.t9 L.t37 L.t5
  have hB : ∀ j, j < t.size → (Lib.bytesWorld w (ρ.t 5) t).cell? ⟨w.heap.size, j, none⟩ = some (.int .u8 (t.data.toList.getD j 0).toNat) := fun j hj => Lib.bytesWorld_cell w (ρ.t 5) t j hj
  obtain ⟨W1, hW1⟩ : ∃ W1, W1 = Lib.bytesWorld w (ρ.t 5) t := ⟨_, rfl⟩
  rw [← hW1] at hcv hB ⊢
  clear hW1
  obtain ⟨bs, hL⟩ : ∃ bs, bs = t.data.toList := ⟨_, rfl⟩
  have hLn : bs.length = t.size := by rw [hL, Lib.size_eq]
  rw [← hL] at hB ⊢
  clear hL
  have hmv : IntKind.u64.wrap (IntKind.u64.wrap 18446744073709551616 - 1) = 18446744073709551615 := by
    rw [IntKind.wrap_u64, IntKind.wrap_u64]
    decide
  go_enter L.f287, Body.n287_ntmps ρ
  go_wp2
  go_loop [12, 13, 101] (fun vu vn vi => ∃ (k acc : Nat) (a : Int), vu = .bool false ∧ vn = .int .u64 a ∧ vi = .int .i64 k ∧ k ≤ t.size ∧ Hid (a = (acc : Int) ∧ acc < 18446744073709551616 ∧ parseB 10 0 bs = parseB 10 acc (bs.drop k)))
    (fun _ _ vi => t.size - (intOf vi).toNat)
  case atStart => exact ⟨0, 0, 0, rfl, rfl, rfl, by omega, rfl, by omega, rfl⟩
  case round =>
    obtain ⟨k, acc, a, rfl, rfl, rfl, hk, hh⟩ := hrel
    obtain ⟨ha, hacc, hdec⟩ := hh.out
    clear hh
    have a0 : 0 ≤ a := by omega
    have a1 : a < 18446744073709551616 := by omega
    by_cases hkn : k < t.size
    · have hc := hB k hkn
      have hdrop : bs.drop k = bs[k]'(by omega) :: bs.drop (k + 1) := List.drop_eq_getElem_cons (by omega)
      have hget : bs.getD k 0 = bs[k]'(by omega) := by simp [List.getD, List.getElem?_eq_getElem (show k < bs.length by omega)]
      rw [hdrop] at hdec
      rw [hget] at hc
      generalize bs[k]'(by omega) = c at hc hdec
      have hc256 : c.toNat < 256 := c.toNat_lt
      clear hB hdrop hget
      rw [parseB] at hdec
      by_cases hdig : 48 ≤ c.toNat ∧ c.toNat ≤ 57
      · have hg : digB c.toNat = c.toNat - 48 := if_pos hdig
        obtain ⟨hd0, hd1⟩ := hdig
        rw [hg] at hdec
        clear hg
        obtain ⟨d, hd⟩ : ∃ d : Nat, d = c.toNat - 48 := ⟨_, rfl⟩
        by_cases hcut : 1844674407370955162 ≤ acc
        · rw [if_pos (by omega), if_pos (by omega)] at hdec
          have icut : 1844674407370955162 ≤ a := by omega
          clear hcut hacc ha hd
          go_wp2
          all_goals go_ret2
          all_goals first | exact ⟨rfl, rfl⟩ | exact ⟨by rw [hdec]; rfl, rfl⟩
        · by_cases hov : 18446744073709551616 ≤ acc * 10 + (c.toNat - 48)
          · rw [if_pos (by omega), if_pos (by omega)] at hdec
            have icut : a < 1844674407370955162 := by omega
            have iov : 18446744073709551616 ≤ a * 10 + ((c.toNat : Int) - 48) := by omega
            have hwr : IntKind.u64.wrap (a * 10 + ((c.toNat : Int) - 48)) = a * 10 + ((c.toNat : Int) - 48) - 18446744073709551616 := by
              rw [IntKind.wrap_u64]
              omega
            clear hcut hacc hov ha hd
            go_wp2
            all_goals go_ret2
            all_goals first | exact ⟨rfl, rfl⟩ | exact ⟨by rw [hdec]; rfl, rfl⟩
          · rw [if_pos (by omega), if_neg (by omega)] at hdec
            have HN : Hid (a * 10 + ((c.toNat : Int) - 48) = ((acc * 10 + (c.toNat - 48) : Nat) : Int) ∧ acc * 10 + (c.toNat - 48) < 18446744073709551616 ∧ parseB 10 0 bs = parseB 10 (acc * 10 + (c.toNat - 48)) (bs.drop (k + 1))) := Lib.hid ⟨by omega, by omega, hdec⟩
            have icut : a < 1844674407370955162 := by omega
            have iov : a * 10 + ((c.toNat : Int) - 48) < 18446744073709551616 := by omega
            clear hcut hacc hov hdec ha hd
            go_wp2
            refine ⟨⟨k + 1, acc * 10 + (c.toNat - 48), a * 10 + ((c.toNat : Int) - 48), rfl, (by first | rfl | (congr 1; omega)), (by first | rfl | (congr 1; omega)), by omega, HN⟩, by simp [intOf]; omega⟩
      · have hlo := low_or' c.toNat hc256
        have hll := low_lt c.toNat hc256
        have hu0 := bits_lo_u8 .or 95 32
        have hu1 := bits_hi_u8 .or 95 32
        have hlu : low 95 = 127 := rfl
        by_cases hlet : 97 ≤ low c.toNat ∧ low c.toNat ≤ 122
        · have hg : digB c.toNat = low c.toNat - 87 := by unfold digB; rw [if_neg hdig, if_pos hlet]
          rw [hg] at hdec
          clear hg
          have hnu : c.toNat ≠ 95 := by intro h; rw [h] at hlet; revert hlet; decide
          have hnu' : ¬ (c.toNat : Int) = 95 := by omega
          have hndI : ¬ (48 ≤ (c.toNat : Int) ∧ (c.toNat : Int) ≤ 57) := by omega
          obtain ⟨h97, h122⟩ := hlet
          generalize low c.toNat = m at hlo hll hdec h97 h122
          rw [if_neg (by omega)] at hdec
          clear hacc ha
          go_wp2_with (go_at_fn (ρ.f 321); refine (Any.internal_strconv_lower { L with } _ _).mono ?_; rintro e w' ⟨rfl, rfl⟩; rw [hlo])
          all_goals go_ret2
          all_goals first | exact ⟨rfl, rfl⟩ | exact ⟨by rw [hdec]; rfl, rfl⟩
        · have hg : digB c.toNat = 99 := by unfold digB; rw [if_neg hdig, if_neg hlet]
          rw [hg, if_neg (by omega)] at hdec
          clear hg hacc ha
          have hndI : ¬ (48 ≤ (c.toNat : Int) ∧ (c.toNat : Int) ≤ 57) := by omega
          have hv0 := bits_lo_u8 .or (c.toNat : Int) 32
          have hv1 := bits_hi_u8 .or (c.toNat : Int) 32
          have hlI : ¬ (97 ≤ bits .or .u8 (c.toNat : Int) 32 ∧ bits .or .u8 (c.toNat : Int) 32 ≤ 122) := by rw [hlo]; omega
          clear hlo hll hlet
          go_wp2_with (go_at_fn (ρ.f 321); refine (Any.internal_strconv_lower { L with } _ _).mono ?_; rintro e w' ⟨rfl, rfl⟩)
          all_goals go_ret2
          all_goals first | exact ⟨rfl, rfl⟩ | exact ⟨by rw [hdec]; rfl, rfl⟩
    · have hkk : k = t.size := by omega
      subst hkk
      rw [List.drop_eq_nil_of_le (show bs.length ≤ t.size by omega)] at hdec
      have hF : parseB 10 acc [] = .ok acc := rfl
      rw [hF] at hdec
      subst ha
      clear hacc hF a0 a1
      go_wp2
      all_goals go_ret2
      all_goals first | exact ⟨rfl, rfl⟩ | exact ⟨by rw [hdec]; rfl, rfl⟩
set_option maxHeartbeats 32000000 in
set_option maxRecDepth 100000 in
theorem pu_16 (L : Lays.n287 P ρ) (t : ByteArray) (hne : t.size ≠ 0) (hmax : t.size ≤ 9223372036854775806) (w : World) :
    Calls P (ρ.f 287) #[.string t, .int .i64 16, .int .i64 64] w fun e w' => e = .returned (uT (ρ.t 167) (parseB 16 0 t.data.toList)) ∧ w' = Lib.bytesWorld w (ρ.t 5) t := by
  have mixed := L.mixed
  have t9 := L.t9; have a9 := L.a9; have z9 := L.z9; have v9 := L.v9
  have t3 := L.t3; have a3 := L.a3; have z3 := L.z3; have v3 := L.v3
  have t53 := L.t53; have a53 := L.a53; have z53 := L.z53; have v53 := L.v53
  have t75 := L.t75; have a75 := L.a75; have z75 := L.z75; have v75 := L.v75
  have t4 := L.t4; have a4 := L.a4; have z4 := L.z4; have v4 := L.v4
  have t167 := L.t167; have a167 := L.a167; have z167 := L.z167; have v167 := L.v167
  have t5 := L.t5; have a5 := L.a5; have z5 := L.z5; have v5 := L.v5
  have t46 := L.t46; have a46 := L.a46; have z46 := L.z46; have v46 := L.v46
  have t37 := L.t37; have a37 := L.a37; have z37 := L.z37; have v37 := L.v37
  have t0 := L.t0; have a0 := L.a0; have z0 := L.z0; have v0 := L.v0
  have e321 : ∀ args w, (callFunc (ρ.f 321) args).run P w = .ok (.enter (ρ.f 321) args) w := enters_of L.f321 (by kernel_rfl) rfl
  have hemp : t.toList.isEmpty = false := by
    rw [← decide_eq_emptyBytes]
    exact decide_eq_false (fun h => hne (by rw [h]; rfl))
  have hcv := Lib.run_convert_string_bytes (P := P) w (ρ.t 9) (ρ.t 37) (ρ.t 5) t (u := .string) L.t9 L.t37 L.t5
  have hB : ∀ j, j < t.size → (Lib.bytesWorld w (ρ.t 5) t).cell? ⟨w.heap.size, j, none⟩ = some (.int .u8 (t.data.toList.getD j 0).toNat) := fun j hj => Lib.bytesWorld_cell w (ρ.t 5) t j hj
  obtain ⟨W1, hW1⟩ : ∃ W1, W1 = Lib.bytesWorld w (ρ.t 5) t := ⟨_, rfl⟩
  rw [← hW1] at hcv hB ⊢
  clear hW1
  obtain ⟨bs, hL⟩ : ∃ bs, bs = t.data.toList := ⟨_, rfl⟩
  have hLn : bs.length = t.size := by rw [hL, Lib.size_eq]
  rw [← hL] at hB ⊢
  clear hL
  have hmv : IntKind.u64.wrap (IntKind.u64.wrap 18446744073709551616 - 1) = 18446744073709551615 := by
    rw [IntKind.wrap_u64, IntKind.wrap_u64]
    decide
  go_enter L.f287, Body.n287_ntmps ρ
  go_wp2
  go_loop [12, 13, 101] (fun vu vn vi => ∃ (k acc : Nat) (a : Int), vu = .bool false ∧ vn = .int .u64 a ∧ vi = .int .i64 k ∧ k ≤ t.size ∧ Hid (a = (acc : Int) ∧ acc < 18446744073709551616 ∧ parseB 16 0 bs = parseB 16 acc (bs.drop k)))
    (fun _ _ vi => t.size - (intOf vi).toNat)
  case atStart => exact ⟨0, 0, 0, rfl, rfl, rfl, by omega, rfl, by omega, rfl⟩
  case round =>
    obtain ⟨k, acc, a, rfl, rfl, rfl, hk, hh⟩ := hrel
    obtain ⟨ha, hacc, hdec⟩ := hh.out
    clear hh
    have a0 : 0 ≤ a := by omega
    have a1 : a < 18446744073709551616 := by omega
    by_cases hkn : k < t.size
    · have hc := hB k hkn
      have hdrop : bs.drop k = bs[k]'(by omega) :: bs.drop (k + 1) := List.drop_eq_getElem_cons (by omega)
      have hget : bs.getD k 0 = bs[k]'(by omega) := by simp [List.getD, List.getElem?_eq_getElem (show k < bs.length by omega)]
      rw [hdrop] at hdec
      rw [hget] at hc
      generalize bs[k]'(by omega) = c at hc hdec
      have hc256 : c.toNat < 256 := c.toNat_lt
      clear hB hdrop hget
      rw [parseB] at hdec
      by_cases hdig : 48 ≤ c.toNat ∧ c.toNat ≤ 57
      · have hg : digB c.toNat = c.toNat - 48 := if_pos hdig
        obtain ⟨hd0, hd1⟩ := hdig
        rw [hg] at hdec
        clear hg
        obtain ⟨d, hd⟩ : ∃ d : Nat, d = c.toNat - 48 := ⟨_, rfl⟩
        by_cases hcut : 1152921504606846976 ≤ acc
        · rw [if_pos (by omega), if_pos (by omega)] at hdec
          have icut : 1152921504606846976 ≤ a := by omega
          clear hcut hacc ha hd
          go_wp2
          all_goals go_ret2
          all_goals first | exact ⟨rfl, rfl⟩ | exact ⟨by rw [hdec]; rfl, rfl⟩
        · by_cases hov : 18446744073709551616 ≤ acc * 16 + (c.toNat - 48)
          · rw [if_pos (by omega), if_pos (by omega)] at hdec
            have icut : a < 1152921504606846976 := by omega
            have iov : 18446744073709551616 ≤ a * 16 + ((c.toNat : Int) - 48) := by omega
            have hwr : IntKind.u64.wrap (a * 16 + ((c.toNat : Int) - 48)) = a * 16 + ((c.toNat : Int) - 48) - 18446744073709551616 := by
              rw [IntKind.wrap_u64]
              omega
            clear hcut hacc hov ha hd
            go_wp2
            all_goals go_ret2
            all_goals first | exact ⟨rfl, rfl⟩ | exact ⟨by rw [hdec]; rfl, rfl⟩
          · rw [if_pos (by omega), if_neg (by omega)] at hdec
            have HN : Hid (a * 16 + ((c.toNat : Int) - 48) = ((acc * 16 + (c.toNat - 48) : Nat) : Int) ∧ acc * 16 + (c.toNat - 48) < 18446744073709551616 ∧ parseB 16 0 bs = parseB 16 (acc * 16 + (c.toNat - 48)) (bs.drop (k + 1))) := Lib.hid ⟨by omega, by omega, hdec⟩
            have icut : a < 1152921504606846976 := by omega
            have iov : a * 16 + ((c.toNat : Int) - 48) < 18446744073709551616 := by omega
            clear hcut hacc hov hdec ha hd
            go_wp2
            refine ⟨⟨k + 1, acc * 16 + (c.toNat - 48), a * 16 + ((c.toNat : Int) - 48), rfl, (by first | rfl | (congr 1; omega)), (by first | rfl | (congr 1; omega)), by omega, HN⟩, by simp [intOf]; omega⟩
      · have hlo := low_or' c.toNat hc256
        have hll := low_lt c.toNat hc256
        have hu0 := bits_lo_u8 .or 95 32
        have hu1 := bits_hi_u8 .or 95 32
        have hlu : low 95 = 127 := rfl
        by_cases hlet : 97 ≤ low c.toNat ∧ low c.toNat ≤ 122
        · have hg : digB c.toNat = low c.toNat - 87 := by unfold digB; rw [if_neg hdig, if_pos hlet]
          rw [hg] at hdec
          clear hg
          have hnu : c.toNat ≠ 95 := by intro h; rw [h] at hlet; revert hlet; decide
          have hnu' : ¬ (c.toNat : Int) = 95 := by omega
          have hndI : ¬ (48 ≤ (c.toNat : Int) ∧ (c.toNat : Int) ≤ 57) := by omega
          obtain ⟨h97, h122⟩ := hlet
          generalize low c.toNat = m at hlo hll hdec h97 h122
          by_cases h102 : m ≤ 102
          · by_cases hcut : 1152921504606846976 ≤ acc
            · rw [if_pos (by omega), if_pos (by omega)] at hdec
              have icut : 1152921504606846976 ≤ a := by omega
              clear hcut hacc ha
              go_wp2_with (go_at_fn (ρ.f 321); refine (Any.internal_strconv_lower { L with } _ _).mono ?_; rintro e w' ⟨rfl, rfl⟩; rw [hlo])
              all_goals go_ret2
              all_goals first | exact ⟨rfl, rfl⟩ | exact ⟨by rw [hdec]; rfl, rfl⟩
            · have hov : ¬ 18446744073709551616 ≤ acc * 16 + (m - 87) := by omega
              rw [if_pos (by omega), if_neg hov] at hdec
              have HN : Hid (a * 16 + ((m : Int) - 97 + 10) = ((acc * 16 + (m - 87) : Nat) : Int) ∧ acc * 16 + (m - 87) < 18446744073709551616 ∧ parseB 16 0 bs = parseB 16 (acc * 16 + (m - 87)) (bs.drop (k + 1))) := Lib.hid ⟨by omega, by omega, hdec⟩
              have icut : a < 1152921504606846976 := by omega
              have iov : a * 16 + ((m : Int) - 97 + 10) < 18446744073709551616 := by omega
              clear hcut hacc hov hdec ha
              go_wp2_with (go_at_fn (ρ.f 321); refine (Any.internal_strconv_lower { L with } _ _).mono ?_; rintro e w' ⟨rfl, rfl⟩; rw [hlo])
              all_goals refine ⟨⟨k + 1, acc * 16 + (m - 87), a * 16 + ((m : Int) - 97 + 10), rfl, (by first | rfl | (congr 1; omega)), (by first | rfl | (congr 1; omega)), by omega, HN⟩, by simp [intOf]; omega⟩
          · rw [if_neg (by omega)] at hdec
            clear hacc ha
            go_wp2_with (go_at_fn (ρ.f 321); refine (Any.internal_strconv_lower { L with } _ _).mono ?_; rintro e w' ⟨rfl, rfl⟩; rw [hlo])
            all_goals go_ret2
            all_goals first | exact ⟨rfl, rfl⟩ | exact ⟨by rw [hdec]; rfl, rfl⟩
        · have hg : digB c.toNat = 99 := by unfold digB; rw [if_neg hdig, if_neg hlet]
          rw [hg, if_neg (by omega)] at hdec
          clear hg hacc ha
          have hndI : ¬ (48 ≤ (c.toNat : Int) ∧ (c.toNat : Int) ≤ 57) := by omega
          have hv0 := bits_lo_u8 .or (c.toNat : Int) 32
          have hv1 := bits_hi_u8 .or (c.toNat : Int) 32
          have hlI : ¬ (97 ≤ bits .or .u8 (c.toNat : Int) 32 ∧ bits .or .u8 (c.toNat : Int) 32 ≤ 122) := by rw [hlo]; omega
          clear hlo hll hlet
          go_wp2_with (go_at_fn (ρ.f 321); refine (Any.internal_strconv_lower { L with } _ _).mono ?_; rintro e w' ⟨rfl, rfl⟩)
          all_goals go_ret2
          all_goals first | exact ⟨rfl, rfl⟩ | exact ⟨by rw [hdec]; rfl, rfl⟩
    · have hkk : k = t.size := by omega
      subst hkk
      rw [List.drop_eq_nil_of_le (show bs.length ≤ t.size by omega)] at hdec
      have hF : parseB 16 acc [] = .ok acc := rfl
      rw [hF] at hdec
      subst ha
      clear hacc hF a0 a1
      go_wp2
      all_goals go_ret2
      all_goals first | exact ⟨rfl, rfl⟩ | exact ⟨by rw [hdec]; rfl, rfl⟩
end Go.Proofs.YtghmojcecefgjaaDoor
