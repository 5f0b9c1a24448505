/- TopChoice: its tied card: called with whatever arguments it returns true, and they read as they did. Condition: what its row lists of the package-level variables, tied to the program's text. -/
import Derived.Test.YtfkhlbhjhdpkoaaGreatDoorZcba
import Derived.Test.YtfkhlbhjhdpkoaaGreatDoorZcbo
set_option linter.unusedVariables false
set_option linter.unusedSimpArgs false
set_option maxRecDepth 100000
namespace Go.Proofs.YtfkhlbhjhdpkoaaGreatDoor.topChoice
open Go.ChangeShapes Go.WideShapes Go.ChangeAt Go.RowKit Go.ChangeMaps
theorem laid : laidOutB Tryz.prog = true := by kernel_rfl
theorem cell4 : Tryz.prog.cellsOf 4 = 1 := by kernel_rfl
theorem lifted (os : Os) (started : os.Started) (H : Type) (enc : TypeId × Value → H) :
  ReturnsInHanded {} Tryz.checked os 8 .any (fun w args => (Rows.topChoiceSpec.pre enc Tryz.prog Tryz.f8 Rows.topChoiceRow.domain false w args ∧ laidMetH Tryz.prog lst w) ∧ sizedMet enc Tryz.prog Tryz.f8 (OpenSpec.ofChange Rows.topChoiceSpec) false w args)
   (Rows.topChoiceSpec.post enc Tryz.prog Tryz.f8 false true false false) := by
 refine ret_shaped (C := Tryz.checked) (X := fun w _ => laidMetH Tryz.prog lst w) (fun _ _ _ hh h => h.of_heap hh) own started (by kernel_rfl) Tryz.func8
  (ChangeSpec.witness_shaped (enc := enc) (C := Tryz.checked) (os := os) (X := fun w _ => laidMetH Tryz.prog lst w) false (World.laidAll Tryz.prog os lst) #[.slice none 0 0] 8 (World.laidAll_os _ _ _)
   (World.shaped_of_ZipB (by kernel_rfl) (by kernel_rfl)) (by kernel_rfl) (by kernel_rfl) (by kernel_rfl)
   (by rw [MakeChecks.laidMetH_plain _ _ _ (by kernel_rfl)]; exact laidMet_laidAll _ (by kernel_rfl) (by kernel_rfl))) ?_
 intro W base args ds gs before hval0 hW hz hL hsh
 have hval : ∀ (j : Nat) t v, Tryz.f8.params[j]? = some t → args[j]? = some v → Value.okWide Tryz.prog W .any base t v := hval0
 have hW' := hW
 obtain ⟨p, q, hA0, hV, rfl, _, _⟩ := hW
 have hA : DataW.TrodAll enc Tryz.prog W 0 (fun _ => true) true Tryz.f8.params.toList args.toList ds p := hA0
 rw [Tryz.params8] at hA hval
 have hlt := hW'.lt
 obtain ⟨v0, vs0, d0, ds0, p0, q0, hargs, rfl, rfl, h0, r0⟩ := trodAll_cons hA
 obtain ⟨rfl, rfl, rfl⟩ := trodAll_nil r0
 obtain rfl : args = #[v0] := by cases args; simp_all
 obtain ⟨rfl, rfl⟩ := trodVars_none hV
 obtain ⟨l0, RR0, B0, K0⟩ := (Opn.slice (sz := 1) Tryz.underlying57 cell4 (by decide) (Opn.bool Tryz.underlying4) (fun _ => rfl)).top (slice_cells Tryz.underlying57 (hval 0 57 v0 rfl rfl)) rfl h0
 have hL0 := slice_len Tryz.underlying57 (slice_cells Tryz.underlying57 (hval 0 57 v0 rfl rfl)) h0 RR0
 rw [List.length_map] at hL0
 clear hA0
 simp only [List.append_nil] at hW'
 have hf := topChoice_row (l0) hL0
 have hl : les1 [dL 1 dB l0] ((E1 (dL 1 dB)) (l0)) := by
  simp only [E1]
  exact les1_refl _
 have hc := Jer W (fun _ _ => False) [dL 1 dB l0] [v0] (gw_of_laid hL hsh) (.acons _ _ _ _ RR0 .anil) (fun _ _ h => h.elim) ⟨l0, true, hl, hf⟩
 refine hc.mono fun e W' ⟨v, he, hg, hr⟩ => ?_
 rw [show (Jcg).val _ = dB true from PF.of_vall IEnc.inj hl hf] at hr
 obtain rfl : v = .bool true := R1.vInv hr
 subst he
 exact ⟨_, rfl, post_of_grows (pa := (p0 ++ [])) (pv := []) hW' (fun _ _ _ => (trodAll_cons_mk (shut_bool Tryz.underlying4 _) trodAll_mk0)) (fun sp hsp => (trodAll_cons_mk (stays laid (by kernel_rfl) (of_decide_eq_true (by kernel_rfl)) h0 hg (fun x hx => hlt x (by simp [hx])) (fun x hx => hsp x (by simp [hx]))) (trodAll_mk0))) (fun _ _ => rfl) (by simp)
  hg (ok_one (by kernel_rfl) rfl (okWide_bool_mk Tryz.underlying4 _))⟩
theorem holds : Rows.TopChoiceSaid :=
 OpenClaim.holds_of_wide 8 Tryz.f8 rfl rfl rfl rfl rfl rfl rfl ⟨rfl, rfl, rfl, rfl, rfl⟩ rfl rfl rfl rfl rfl (by kernel_rfl) Tryz.func8 (by kernel_rfl)
  (of_decide_eq_true (by kernel_rfl)) (by unfold Func.isWrapper; first | (rw [if_pos (by decide +kernel)]; kernel_rfl) | (rw [if_neg (by decide +kernel)]; exact ⟨rfl, rfl⟩))
  (fun os started H enc _ => lifted os started H enc)
theorem proved : Rows.TopChoiceCardSaid :=
 Claim7.holds_tied_plain_at .later [] [.data, .data, .data, .data, .sentinel, .sentinel, .pinned] true (true, "ae8d561167538cb2b0683586cf11148cb4b6a2621a1d920bce357e5322bc8d54") true holds (fun _ h => by cases h) (by kernel_rfl) (fun _ h => by cases h) topChoice_row_tie rfl ⟨rfl, rfl⟩ (by kernel_rfl) rfl
  (fun f fn hf hfn => by
   obtain rfl : f = 8 := Option.some.inj ((show Tryz.prog.funcNamed "preamble/pretop.TopChoice" = some 8 by kernel_rfl).symm.trans hf) |>.symm
   obtain rfl : fn = Tryz.f8 := (Option.some.inj (Tryz.func8.symm.trans hfn)).symm
   exact ⟨by kernel_rfl, fun j t ht => by
    rw [Tryz.params8] at ht
    have hm : t ∈ [57] := by simpa using Array.mem_of_getElem? ht
    have hall : ([57].all fun u => !Tryz.prog.wantsStandIn u) = true := by kernel_rfl
    exact (show Tryz.prog.wantsStandIn t = false by simpa using List.all_eq_true.1 hall t hm)⟩)
  (by kernel_rfl)
end Go.Proofs.YtfkhlbhjhdpkoaaGreatDoor.topChoice
