/- OriginTells: the row: called with whatever text it returns true, where the arguments hold together at most 1048576 values and letters. -/
import Derived.Test.YtgkacglpjmndbaaSg
import Derived.Test.YtgkacglpjmndbaaRu
namespace Go.Proofs.Ytgkacglpjmndbaa.originTells
open Go.ChangeShapes Go.WideShapes Go.ChangeAt Go.RowKit Go.ChangeMaps
set_option linter.unusedVariables false

theorem laid : laidOutB Try.prog = true := by kernel_rfl

set_option maxRecDepth 100000 in
theorem contract (H : Type) (enc : TypeId × Value → H) (W : World) (base : Nat) (args : Array Value) (ds gs : List (DataW H)) (before : List MemPlace)
    (hval : ∀ (j : Nat) t v, Try.f6.params[j]? = some t → args[j]? = some v → Value.okWide Try.prog W .any base t v)
    (hW : DataW.Whole enc Try.prog Try.f6.params.toList Rows.originTellsSpec.vars false W args.toList ds gs before)
    (hk : Rows.uptoSmall H (ds ++ gs) = true) :
    Calls Try.prog 6 args W fun e W' => ∃ v, e = .returned v ∧ Rows.originTellsSpec.post enc Try.prog Try.f6 false true false false W args v W' := by
  have hW' := hW
  obtain ⟨p, q, hA0, hV, rfl, hfz, hnd⟩ := hW
  have hA : DataW.TrodAll enc Try.prog W 0 (fun _ => true) true Try.f6.params.toList args.toList ds p := hA0
  rw [Try.params6] at hA hval
  obtain ⟨v0, vs0, d0, ds0, p0, q0, hargs, rfl, rfl, h0, r0⟩ := trodAll_cons hA
  obtain ⟨v1, vs1, d1, ds1, p1, q1, rfl, rfl, rfl, h1, r1⟩ := trodAll_cons r0
  obtain ⟨v2, vs2, d2, ds2, p2, q2, rfl, rfl, rfl, h2, r2⟩ := trodAll_cons r1
  obtain ⟨v3, vs3, d3, ds3, p3, q3, rfl, rfl, rfl, h3, r3⟩ := trodAll_cons r2
  obtain ⟨rfl, rfl, rfl⟩ := trodAll_nil r3
  obtain rfl : args = #[v0, v1, v2, v3] := by cases args; simp_all
  obtain ⟨rfl, rfl⟩ := trodVars_none hV
  have hlt := hW'.lt
  obtain ⟨l0, RR0, B0, K0⟩ := (Opn.slice (sz := 2) Try.underlying32 cl79 (by decide) opn_Source (fun _ => rfl)).top (slice_cells Try.underlying32 (hval 0 32 v0 rfl rfl)) rfl h0
  obtain ⟨l1, RR1, B1, K1⟩ := (Opn.slice (sz := 11) Try.underlying33 cl37 (by decide) opn_Token (fun _ => rfl)).top (slice_cells Try.underlying33 (hval 1 33 v1 rfl rfl)) rfl h1
  obtain ⟨n2, rfl, rfl, rfl, w2⟩ := open_int Try.underlying3 (hval 2 3 v2 rfl rfl) h2
  obtain ⟨n3, rfl, rfl, rfl, w3⟩ := open_int Try.underlying3 (hval 3 3 v3 rfl rfl) h3
  clear hA0
  simp only [List.append_nil] at hW' hk
  have hb := of_decide_eq_true hk
  simp only [Rows.uptoBulkAll, Rows.uptoBulk] at hb
  have hn2 : -9223372036854775808 ≤ n2 ∧ n2 ≤ 9223372036854775807 := by simpa [Lit.wf, IntKind.min, IntKind.max, IntKind.signed, IntKind.bits] using w2
  have hn3 : -9223372036854775808 ≤ n3 ∧ n3 ≤ 9223372036854775807 := by simpa [Lit.wf, IntKind.min, IntKind.max, IntKind.signed, IntKind.bits] using w3
  have hf := origin_row (l0) (l1) (n2) (n3) (by omega) (by omega)
  have hl : les1 [dL 2 d_Source l0, dL 11 d_Token l1, .v (.int .i64 n2), .v (.int .i64 n3)] (c_prelaw8_OriginTells (l0, l1, n2, n3)) := by
    simp only [c_prelaw8_OriginTells, dI]
    exact les1_refl _
  have hc := prelaw8_OriginTells_ok W (fun _ _ => False) [dL 2 d_Source l0, dL 11 d_Token l1, .v (.int .i64 n2), .v (.int .i64 n3)] [v0, v1, .int .i64 n2, .int .i64 n3] (.acons _ _ _ _ RR0 (.acons _ _ _ _ RR1 (.acons _ _ _ _ (.v _) (.acons _ _ _ _ (.v _) .anil)))) (fun _ _ h => h.elim) ⟨(l0, l1, n2, n3), true, hl, hf⟩
  refine hc.mono fun e W' ⟨v, he, hg, hr⟩ => ?_
  rw [show (pf_prelaw8_OriginTells).val _ = e_prelaw8_OriginTells true from PF.of_vall c_prelaw8_OriginTells_inj hl hf] at hr
  obtain rfl : v = .bool true := R1.vInv hr
  subst he
  exact ⟨_, rfl, post_of_grows (pa := (p0 ++ (p1 ++ ([] ++ ([] ++ []))))) (pv := []) hW' (fun _ _ _ => (trodAll_cons_mk (shut_bool Try.underlying4 _) trodAll_mk0)) (fun sp hsp => (trodAll_cons_mk (stays laid (by kernel_rfl) (of_decide_eq_true (by kernel_rfl)) h0 hg (fun x hx => hlt x (by simp [hx])) (fun x hx => hsp x (by simp [hx]))) (trodAll_cons_mk (stays laid (by kernel_rfl) (of_decide_eq_true (by kernel_rfl)) h1 hg (fun x hx => hlt x (by simp [hx])) (fun x hx => hsp x (by simp [hx]))) (trodAll_cons_mk (shut_int Try.underlying3 w2) (trodAll_cons_mk (shut_int Try.underlying3 w3) (trodAll_mk0)))))) (fun _ _ => rfl) (by simp)
    hg (ok_one (by kernel_rfl) rfl (okWide_bool_mk Try.underlying4 _))⟩

set_option maxRecDepth 100000 in
theorem lifted (os : Os) (started : os.Started) (H : Type) (enc : TypeId × Value → H) (F : Stop.Interp) :
    ReturnsInHanded {} Try.checked os 6 .any ((Rows.OpenSpec.upto Rows.originTellsSpec).pre6 enc Try.prog Try.f6 Rows.originTellsUptoRow.domain false) (((Rows.OpenSpec.upto Rows.originTellsSpec).at F).post enc Try.prog Try.f6 false true false false) := by
  refine returnsInHanded_of_cond (C := Try.checked) (s := Rows.OpenSpec.upto Rows.originTellsSpec) (k := Rows.uptoSmall) rfl own started (by kernel_rfl) Try.func6
    (OpenSpec.witness (enc := enc) (C := Try.checked) (s := Rows.OpenSpec.upto Rows.originTellsSpec) (k := Rows.uptoSmall) rfl false ⟨#[], #[.slice none 0 0, .slice none 0 0, .int .i64 0, .int .i64 0], []⟩ 8 (by kernel_rfl) (by kernel_rfl) (by kernel_rfl)
      (x := ([.nil, .nil, .lit (.int .i64 0), .lit (.int .i64 0)], [], [])) (by kernel_rfl) rfl (by kernel_rfl)) ?_
  intro W base args ds gs before hval hW _ hk _
  exact contract H enc W base args ds gs before hval hW hk

theorem over : Rows.originTellsUptoRow.holds Try.pinned (Rows.OpenSpec.upto Rows.originTellsSpec) :=
  OpenClaim.holds_of_cond 6 Try.f6 rfl rfl rfl rfl rfl rfl rfl ⟨rfl, rfl, rfl, rfl, rfl⟩ rfl rfl rfl rfl rfl (by kernel_rfl) Try.func6 (by kernel_rfl)
    (of_decide_eq_true (by kernel_rfl)) (by unfold Func.isWrapper; first | (rw [if_pos (by decide +kernel)]; kernel_rfl) | (rw [if_neg (by decide +kernel)]; exact ⟨rfl, rfl⟩))
    (fun os started H enc _ F => lifted os started H enc F)

theorem proved : Rows.OriginTellsUptoSaid :=
  over
end Go.Proofs.Ytgkacglpjmndbaa.originTells
