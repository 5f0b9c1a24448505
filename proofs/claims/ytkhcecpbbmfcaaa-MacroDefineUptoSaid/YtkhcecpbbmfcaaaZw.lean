/- MacroDefine: the row: called with whatever text it returns true, where the arguments hold together at most 1048576 values and letters. -/
import Derived.Test.YtkhcecpbbmfcaaaZaw
set_option linter.unusedVariables false
set_option linter.unusedSimpArgs false
namespace Go.Proofs.Ytkhcecpbbmfcaaa.macroDefine
open Go.ChangeShapes Go.WideShapes Go.ChangeAt Go.RowKit Go.ChangeMaps
theorem laid : laidOutB Try.prog = true := by kernel_rfl
theorem cell9 : Try.prog.cellsOf 9 = 1 := by kernel_rfl
set_option maxRecDepth 100000 in
theorem contract (H : Type) (enc : TypeId × Value → H) (W : World) (base : Nat) (args : Array Value) (ds gs : List (DataW H)) (before : List MemPlace)
    (hval : ∀ (j : Nat) t v, Try.f5.params[j]? = some t → args[j]? = some v → Value.okWide Try.prog W .any base t v)
    (hW : DataW.Whole enc Try.prog Try.f5.params.toList Rows.macroDefineSpec.vars false W args.toList ds gs before)
    (hk : Rows.uptoSmall H (ds ++ gs) = true) :
    Calls Try.prog 5 args W fun e W' => ∃ v, e = .returned v ∧ Rows.macroDefineSpec.post enc Try.prog Try.f5 false true false false W args v W' := by
  have hW' := hW
  obtain ⟨p, q, hA0, hV, rfl, hfz, hnd⟩ := hW
  have hA : DataW.TrodAll enc Try.prog W 0 (fun _ => true) true Try.f5.params.toList args.toList ds p := hA0
  rw [Try.params5] at hA hval
  obtain ⟨v0, vs0, d0, ds0, p0, q0, hargs, rfl, rfl, h0, r0⟩ := trodAll_cons hA
  obtain ⟨v1, vs1, d1, ds1, p1, q1, rfl, rfl, rfl, h1, r1⟩ := trodAll_cons r0
  obtain ⟨v2, vs2, d2, ds2, p2, q2, rfl, rfl, rfl, h2, r2⟩ := trodAll_cons r1
  obtain ⟨rfl, rfl, rfl⟩ := trodAll_nil r2
  obtain rfl : args = #[v0, v1, v2] := by cases args; simp_all
  obtain ⟨rfl, rfl⟩ := trodVars_none hV
  have hlt := hW'.lt
  obtain ⟨l0, RR0, B0, K0⟩ := (Opn.slice (sz := 1) Try.underlying28 cell9 (by decide) (Opn.str Try.underlying9) (fun _ => rfl)).top (slice_cells Try.underlying28 (hval 0 28 v0 rfl rfl)) rfl h0
  obtain ⟨s1, rfl, rfl, rfl, w1⟩ := open_string Try.underlying9 (hval 1 9 v1 rfl rfl) h1
  obtain ⟨s2, rfl, rfl, rfl, w2⟩ := open_string Try.underlying9 (hval 2 9 v2 rfl rfl) h2
  clear hA0
  simp only [List.append_nil] at hW' hk
  have hb := of_decide_eq_true hk
  simp only [Rows.uptoBulkAll, Rows.uptoBulk] at hb
  have hs1 : (bl s1).length ≤ 1048576 := by
    show s1.data.toList.length ≤ 1048576
    omega
  have hs2 : (bl s2).length ≤ 1048576 := by
    show s2.data.toList.length ≤ 1048576
    omega
  have hf := macroDefine_row (l0) (bl s1) (bl s2) (by omega) (by omega) (by omega)
  have hl : les1 [dL 1 dS l0, .v (.string s1), .v (.string s2)] ((E3 (dL 1 dS) dS dS) (l0, bl s1, bl s2)) := by
    simp only [E3, dS, str_bl]
    exact les1_refl _
  have hc := prelaw5_MacroDefine_ok W (fun _ _ => False) [dL 1 dS l0, .v (.string s1), .v (.string s2)] [v0, .string s1, .string s2] (.acons _ _ _ _ RR0 (.acons _ _ _ _ (.v _) (.acons _ _ _ _ (.v _) .anil))) (fun _ _ h => h.elim) ⟨(l0, bl s1, bl s2), true, hl, hf⟩
  refine hc.mono fun e W' ⟨v, he, hg, hr⟩ => ?_
  rw [show (pf_prelaw5_MacroDefine).val _ = dB true from PF.of_vall IEnc.inj hl hf] at hr
  obtain rfl : v = .bool true := R1.vInv hr
  subst he
  exact ⟨_, rfl, post_of_grows (pa := (p0 ++ ([] ++ ([] ++ [])))) (pv := []) hW' (fun _ _ _ => (trodAll_cons_mk (shut_bool Try.underlying4 _) trodAll_mk0)) (fun sp hsp => (trodAll_cons_mk (stays laid (by kernel_rfl) (of_decide_eq_true (by kernel_rfl)) h0 hg (fun x hx => hlt x (by simp [hx])) (fun x hx => hsp x (by simp [hx]))) (trodAll_cons_mk (shut_string Try.underlying9 w1) (trodAll_cons_mk (shut_string Try.underlying9 w2) (trodAll_mk0))))) (fun _ _ => rfl) (by simp)
    hg (ok_one (by kernel_rfl) rfl (okWide_bool_mk Try.underlying4 _))⟩
set_option maxRecDepth 100000 in
theorem lifted (os : Os) (started : os.Started) (H : Type) (enc : TypeId × Value → H) (F : Stop.Interp) :
    ReturnsInHanded {} Try.checked os 5 .any ((Rows.OpenSpec.upto Rows.macroDefineSpec).pre6 enc Try.prog Try.f5 Rows.macroDefineUptoRow.domain false) (((Rows.OpenSpec.upto Rows.macroDefineSpec).at F).post enc Try.prog Try.f5 false true false false) := by
  refine returnsInHanded_of_cond (C := Try.checked) (s := Rows.OpenSpec.upto Rows.macroDefineSpec) (k := Rows.uptoSmall) rfl own started (by kernel_rfl) Try.func5
    (OpenSpec.witness (enc := enc) (C := Try.checked) (s := Rows.OpenSpec.upto Rows.macroDefineSpec) (k := Rows.uptoSmall) rfl false ⟨#[], #[.slice none 0 0, .string ⟨#[]⟩, .string ⟨#[]⟩], []⟩ 8 (by kernel_rfl) (by kernel_rfl) (by kernel_rfl)
      (x := ([.nil, .lit (.string []), .lit (.string [])], [], [])) (by kernel_rfl) rfl (by kernel_rfl)) ?_
  intro W base args ds gs before hval hW _ hk _
  exact contract H enc W base args ds gs before hval hW hk
theorem over : Rows.macroDefineUptoRow.holds Try.pinned (Rows.OpenSpec.upto Rows.macroDefineSpec) :=
  OpenClaim.holds_of_cond 5 Try.f5 rfl rfl rfl rfl rfl rfl rfl ⟨rfl, rfl, rfl, rfl, rfl⟩ rfl rfl rfl rfl rfl (by kernel_rfl) Try.func5 (by kernel_rfl)
    (of_decide_eq_true (by kernel_rfl)) (by unfold Func.isWrapper; first | (rw [if_pos (by decide +kernel)]; kernel_rfl) | (rw [if_neg (by decide +kernel)]; exact ⟨rfl, rfl⟩))
    (fun os started H enc _ F => lifted os started H enc F)
theorem proved : Rows.MacroDefineUptoSaid :=
  over
end Go.Proofs.Ytkhcecpbbmfcaaa.macroDefine
