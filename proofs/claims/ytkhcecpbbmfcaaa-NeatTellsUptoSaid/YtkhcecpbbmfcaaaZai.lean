/- strings.Repeat, and the string of a maker that was not used, by the library's contracts. -/
import Derived.Test.YtkhcecpbbmfcaaaZag
import Derived.Shelf.Strings.Repeat
set_option linter.unusedVariables false
set_option linter.unusedSimpArgs false
namespace Go.Proofs.Ytkhcecpbbmfcaaa
open Go.Shelf Go.RowKit
def rnR : Go.Shelf.Ren := ⟨fun n => if n = 240 then 66 else if n = 276 then 88 else if n = 169 then 39 else if n = 99 then 68 else if n = 105 then 35 else if n = 165 then 69 else if n = 166 then 34 else if n = 170 then 38 else if n = 206 then 91 else if n = 212 then 67 else if n = 241 then 92 else if n = 263 then 89 else if n = 264 then 90 else if n = 277 then 97 else 0, fun n => if n = 0 then 0 else if n = 3 then 3 else if n = 4 then 4 else if n = 5 then 5 else if n = 9 then 9 else if n = 20 then 20 else if n = 37 then 57 else if n = 70 then 56 else if n = 72 then 59 else if n = 127 then 109 else if n = 164 then 115 else if n = 46 then 105 else if n = 51 then 117 else if n = 53 then 120 else if n = 75 then 63 else if n = 76 then 64 else if n = 109 then 106 else if n = 146 then 118 else if n = 148 then 121 else if n = 80 then 70 else 0, fun n => n⟩
theorem lays105 : Lays.n105 Try.prog rnR where
  mixed := mixed
  f99 := by kernel_rfl
  f105 := by kernel_rfl
  f165 := by kernel_rfl
  f166 := by kernel_rfl
  f169 := by kernel_rfl
  f170 := by kernel_rfl
  f206 := by kernel_rfl
  f212 := by kernel_rfl
  f240 := by kernel_rfl
  f241 := by kernel_rfl
  f263 := by kernel_rfl
  f264 := by kernel_rfl
  f276 := by kernel_rfl
  f277 := by kernel_rfl
  t0 := Try.underlying0
  a0 := Try.isAgg0
  z0 := Try.sizeOf0
  v0 := Try.zeroValue0
  t3 := Try.underlying3
  a3 := Try.isAgg3
  z3 := Try.sizeOf3
  v3 := Try.zeroValue3
  t4 := Try.underlying4
  a4 := Try.isAgg4
  z4 := Try.sizeOf4
  v4 := Try.zeroValue4
  t5 := Try.underlying5
  a5 := Try.isAgg5
  z5 := Try.sizeOf5
  v5 := Try.zeroValue5
  t9 := Try.underlying9
  a9 := Try.isAgg9
  z9 := Try.sizeOf9
  v9 := Try.zeroValue9
  t20 := Try.underlying20
  a20 := Try.isAgg20
  z20 := Try.sizeOf20
  v20 := Try.zeroValue20
  t37 := Try.underlying57
  a37 := Try.isAgg57
  z37 := Try.sizeOf57
  v37 := Try.zeroValue57
  t46 := Try.underlying105
  a46 := Try.isAgg105
  z46 := Try.sizeOf105
  v46 := Try.zeroValue105
  t51 := Try.underlying117
  a51 := Try.isAgg117
  z51 := Try.sizeOf117
  v51 := Try.zeroValue117
  t53 := Try.underlying120
  a53 := Try.isAgg120
  z53 := Try.sizeOf120
  v53 := Try.zeroValue120
  t70 := Try.underlying56
  a70 := Try.isAgg56
  z70 := Try.sizeOf56
  v70 := Try.zeroValue56
  t72 := Try.underlying59
  a72 := Try.isAgg59
  z72 := Try.sizeOf59
  v72 := Try.zeroValue59
  t75 := Try.underlying63
  a75 := Try.isAgg63
  z75 := Try.sizeOf63
  v75 := Try.zeroValue63
  t76 := Try.underlying64
  a76 := Try.isAgg64
  z76 := Try.sizeOf64
  v76 := Try.zeroValue64
  t109 := Try.underlying106
  a109 := Try.isAgg106
  z109 := Try.sizeOf106
  v109 := Try.zeroValue106
  t127 := Try.underlying109
  a127 := Try.isAgg109
  z127 := Try.sizeOf109
  v127 := Try.zeroValue109
  t146 := Try.underlying118
  a146 := Try.isAgg118
  z146 := Try.sizeOf118
  v146 := Try.zeroValue118
  t148 := Try.underlying121
  a148 := Try.isAgg121
  z148 := Try.sizeOf121
  v148 := Try.zeroValue121
  t164 := Try.underlying115
  a164 := Try.isAgg115
  z164 := Try.sizeOf115
  v164 := Try.zeroValue115
theorem makerR : Builder.Extra Try.prog rnR where
  sizeBuilder := by kernel_rfl
  liesBuilder := by kernel_rfl
  t5 := Try.underlying5
  a5 := Try.isAgg5
  z5 := Try.sizeOf5
  v5 := Try.zeroValue5
  infoByte := by kernel_rfl
  cellsByte := by kernel_rfl
  sizeByte := by kernel_rfl
  neB5 := by decide
noncomputable def strings_Repeat (a0 : List UInt8) (a1 : Int) : Option (List UInt8) := if 0 ≤ a1 ∧ a1 ≤ 9223372036854775807 ∧ a0.length * a1.toNat ≤ 140737488355328 then some (Lib.repeatL a0 a1.toNat) else none
noncomputable def pf_strings_Repeat : PF := PF.of (E2 dS dI) (fun a => strings_Repeat a.1 a.2) dS
theorem strings_Repeat_ok : PureOk Try.prog 35 pf_strings_Repeat := by
  intro w S args vs hargs hS hp
  obtain ⟨a, r, hle, H⟩ := hp
  have hargs := les1_Rn hle hargs
  rw [show pf_strings_Repeat.val args = dS r from PF.of_vall IEnc.inj hle H]
  obtain ⟨s, n⟩ := a
  have H : strings_Repeat s n = some r := H
  unfold strings_Repeat at H
  obtain ⟨hc, H⟩ := gsplit H
  obtain ⟨h0, h1, h2⟩ := hc
  cases H
  have hargs : Rn w S [dS s, dI n] vs := hargs
  match vs, hargs with
  | [v0, v1], .acons _ _ _ _ k0 (.acons _ _ _ _ k1 _) =>
    obtain rfl := R1.vInv k0
    obtain rfl := R1.vInv k1
    have := Any.strings_Repeat lays105 makerR ⟨s.toArray⟩ n.toNat w (by omega) h2
    rw [Int.toNat_of_nonneg h0] at this
    refine this.mono ?_
    rintro en w' ⟨rfl, hb⟩
    exact ⟨_, rfl, ⟨hb.os, hb.tape, hb.output, hb.size, hb.block⟩, .v _⟩
theorem strings_Repeat_c (a0 : List UInt8) (a1 : Int) (r : List UInt8) (H : strings_Repeat a0 a1 = some r) : PC pf_strings_Repeat [dS a0, dI a1] (dS r) := PF.c (a := (a0, a1)) H
set_option maxHeartbeats 1000000 in
set_option maxRecDepth 100000 in
theorem maker_nil (b : Nat) (pv : Value) (w : World) (hbk : w.heap[b]? = some (.cells #[pv, .slice none 0 0] BTY (0, 0))) :
    Calls Try.prog 39 #[.pointer (some ⟨b, 0, none⟩)] w fun e w' => e = .returned (str []) ∧ w' = w.drew := by
  have c1 : w.drew.cell? ⟨b, 1, none⟩ = some (.slice none 0 0) := by
    have : w.drew.heap[b]? = some (.cells #[pv, .slice none 0 0] BTY (0, 0)) := hbk
    simp [World.cell?, this]
  have hSD : (Builtin.unsafeSliceData_ #[(rnM.t 37)] (rnM.t 127) #[.slice none 0 0]).run Try.prog w.drew = .ok (.pointer none) w.drew := Lib.run_unsafeSliceData_nil _ _ _ _ _
  have hUS : (Builtin.unsafeString_ #[(rnM.t 127), (rnM.t 3)] (rnM.t 9) #[.pointer none, .int .i64 0]).run Try.prog w.drew = .ok (.string .empty) w.drew := Lib.run_unsafeString_none _ _ _ _ _
  have mixed := lays169.mixed
  have t72 := lays169.t72; have a72 := lays169.a72; have z72 := lays169.z72; have v72 := lays169.v72; have u72 := run_underlying lays169.t72
  have t70 := lays169.t70; have a70 := lays169.a70; have z70 := lays169.z70; have v70 := lays169.v70; have u70 := run_underlying lays169.t70
  have t37 := lays169.t37; have a37 := lays169.a37; have z37 := lays169.z37; have v37 := lays169.v37; have u37 := run_underlying lays169.t37
  have t127 := lays169.t127; have a127 := lays169.a127; have z127 := lays169.z127; have v127 := lays169.v127; have u127 := run_underlying lays169.t127
  have t3 := lays169.t3; have a3 := lays169.a3; have z3 := lays169.z3; have v3 := lays169.v3; have u3 := run_underlying lays169.t3
  have t9 := lays169.t9; have a9 := lays169.a9; have z9 := lays169.z9; have v9 := lays169.v9; have u9 := run_underlying lays169.t9
  have t5 := makerX.t5; have a5 := makerX.a5; have z5 := makerX.z5; have v5 := makerX.v5; have u5 := run_underlying makerX.t5
  go_enter lays169.f169, Body.n169_ntmps rnM
  go_wp2
  go_region_o
  all_goals (go_wp2; go_ret; exact ⟨rfl, rfl⟩)
noncomputable def strings_Builder_String_v2 (a0 : Bool) : Option Unit := some ()
def g_strings_Builder_String_v2 (a0 : Bool) (r : Unit) : GI :=
  ⟨[.c (.pt 1 0)], [[.op a0 1 0, .ex (.slice none 0 0) (.sl 1 [])]], [], .ret (.c (.d (.v (str [])))) [[.op a0 1 0, .ex (.slice none 0 0) (.sl 1 [])]] []⟩
def S_strings_Builder_String_v2 : GI → Prop := fun g => ∃ (a0 : Bool) (r : Unit), strings_Builder_String_v2 a0 = some r ∧ g = g_strings_Builder_String_v2 a0 r
theorem strings_Builder_String_v2_c (a0 : Bool) (r : Unit) (H : strings_Builder_String_v2 a0 = some r) : S_strings_Builder_String_v2 (g_strings_Builder_String_v2 a0 r) := ⟨a0, r, H, rfl⟩
theorem strings_Builder_String_v2_k : Callable Try.prog 39 ∧ (∀ g, S_strings_Builder_String_v2 g → GenOk Try.prog 39 g) ∧ (true = true → ∀ g, S_strings_Builder_String_v2 g → ∃ val bs ts, g.out = .ret val bs ts) :=
  ⟨call_39, fun g => by rintro ⟨a0, r, H, rfl⟩; exact string_new maker_nil a0, fun _ => by rintro _ ⟨_, _, _, rfl⟩; exact ⟨_, _, _, rfl⟩⟩
end Go.Proofs.Ytkhcecpbbmfcaaa
