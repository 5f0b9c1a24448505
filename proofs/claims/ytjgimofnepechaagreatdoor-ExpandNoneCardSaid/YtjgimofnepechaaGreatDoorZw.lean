/- ExpandNone: its tied card: called with whatever arguments it returns true, and they read as they did. Condition: what its row lists of the package-level variables, tied to the program's text. -/
import Derived.Test.YtjgimofnepechaaGreatDoorZav
import Derived.Test.YtjgimofnepechaaGreatDoorZax
set_option linter.unusedVariables false
set_option linter.unusedSimpArgs false
set_option maxRecDepth 100000
namespace Go.Proofs.YtjgimofnepechaaGreatDoor.expandNone
open Go.ChangeShapes Go.WideShapes Go.ChangeAt Go.RowKit Go.ChangeMaps
theorem laid : laidOutB Tryz.prog = true := by kernel_rfl
theorem cell9 : Tryz.prog.cellsOf 9 = 1 := by kernel_rfl
theorem lifted (os : Os) (started : os.Started) (H : Type) (enc : TypeId × Value → H) :
  ReturnsInHanded {} Tryz.checked os 5 .any (fun w args => (Rows.expandNoneSpec.pre enc Tryz.prog Tryz.f5 Rows.expandNoneRow.domain false w args ∧ laidMetH Tryz.prog lst w) ∧ sizedMet enc Tryz.prog Tryz.f5 (OpenSpec.ofChange Rows.expandNoneSpec) false w args)
   (Rows.expandNoneSpec.post enc Tryz.prog Tryz.f5 false true false false) := by
 refine returnsInHanded_of_change_and (C := Tryz.checked) (X := fun w _ => laidMetH Tryz.prog lst w) (fun _ _ _ hh h => h.of_heap hh) own started (by kernel_rfl) Tryz.func5
  (ChangeSpec.witness_shaped (enc := enc) (C := Tryz.checked) (os := os) (X := fun w _ => laidMetH Tryz.prog lst w) false (World.laidAll Tryz.prog os lst) #[.slice none 0 0, .string ⟨#[]⟩] 8 (World.laidAll_os _ _ _)
   (World.shaped_of_ZipB (by kernel_rfl) (by kernel_rfl)) (by kernel_rfl) (by kernel_rfl) (by kernel_rfl)
   (by rw [MakeChecks.laidMetH_plain _ _ _ (by kernel_rfl)]; exact laidMet_laidAll _ (by kernel_rfl) (by kernel_rfl))) ?_
 intro W base args ds gs before hval0 hW hc hz hL _
 have hval : ∀ (j : Nat) t v, Tryz.f5.params[j]? = some t → args[j]? = some v → Value.okWide Tryz.prog W .any base t v := hval0
 have hW' := hW
 obtain ⟨p, q, hA0, hV, rfl, _, _⟩ := hW
 have hA : DataW.TrodAll enc Tryz.prog W 0 (fun _ => true) true Tryz.f5.params.toList args.toList ds p := hA0
 rw [Tryz.params5] at hA hval
 have hlt := hW'.lt
 obtain ⟨v0, vs0, d0, ds0, p0, q0, hargs, rfl, rfl, h0, r0⟩ := trodAll_cons hA
 obtain ⟨v1, vs1, d1, ds1, p1, q1, rfl, rfl, rfl, h1, r1⟩ := trodAll_cons r0
 obtain ⟨rfl, rfl, rfl⟩ := trodAll_nil r1
 obtain rfl : args = #[v0, v1] := by cases args; simp_all
 obtain ⟨rfl, rfl⟩ := trodVars_none hV
 obtain ⟨l0, RR0, B0, K0⟩ := (Opn.slice (sz := 1) Tryz.underlying24 cell9 (by decide) (Opn.str Tryz.underlying9) (fun _ => rfl)).top (slice_cells Tryz.underlying24 (hval 0 24 v0 rfl rfl)) rfl h0
 have hL0 := slice_len Tryz.underlying24 (slice_cells Tryz.underlying24 (hval 0 24 v0 rfl rfl)) h0 RR0
 rw [List.length_map] at hL0
 obtain ⟨s1, rfl, rfl, rfl, w1⟩ := open_string Tryz.underlying9 (hval 1 9 v1 rfl rfl) h1
 clear hA0
 simp only [List.append_nil] at hW'
 have hf := Jff (l0) (bl s1) hL0
 have hl : les1 [dL 1 dS l0, .v (.string s1)] ((E2 (dL 1 dS) dS) (l0, bl s1)) := by
  simp only [E2, dS, str_bl]
  exact les1_refl _
 have hc := JdA W (fun _ _ => False) [dL 1 dS l0, .v (.string s1)] [v0, .string s1] (gw_of_laid hL) (.acons _ _ _ _ RR0 (.acons _ _ _ _ (.v _) .anil)) (fun _ _ h => h.elim) ⟨(l0, bl s1), true, hl, hf⟩
 refine hc.mono fun e W' ⟨v, he, hg, hr⟩ => ?_
 rw [show (JbU).val _ = dB true from PF.of_vall IEnc.inj hl hf] at hr
 obtain rfl : v = .bool true := R1.vInv hr
 subst he
 exact ⟨_, rfl, post_of_grows (pa := (p0 ++ ([] ++ []))) (pv := []) hW' (fun _ _ _ => (trodAll_cons_mk (shut_bool Tryz.underlying4 _) trodAll_mk0)) (fun sp hsp => (trodAll_cons_mk (stays laid (by kernel_rfl) (of_decide_eq_true (by kernel_rfl)) h0 hg (fun x hx => hlt x (by simp [hx])) (fun x hx => hsp x (by simp [hx]))) (trodAll_cons_mk (shut_string Tryz.underlying9 w1) (trodAll_mk0)))) (fun _ _ => rfl) (by simp)
  hg (ok_one (by kernel_rfl) rfl (okWide_bool_mk Tryz.underlying4 _))⟩
theorem holds : Rows.ExpandNoneSaid :=
 OpenClaim.holds_of_wide 5 Tryz.f5 rfl rfl rfl rfl rfl rfl rfl ⟨rfl, rfl, rfl, rfl, rfl⟩ rfl rfl rfl rfl rfl (by kernel_rfl) Tryz.func5 (by kernel_rfl)
  (of_decide_eq_true (by kernel_rfl)) (by unfold Func.isWrapper; first | (rw [if_pos (by decide +kernel)]; kernel_rfl) | (rw [if_neg (by decide +kernel)]; exact ⟨rfl, rfl⟩))
  (fun os started H enc _ => lifted os started H enc)
theorem proved : Rows.ExpandNoneCardSaid :=
 Claim7.holds_tied_plain_at .later [] [.data, .data, .data] true (true, "9ed1f0c91f6ddb5b573767b51baaed009354d2c81d8d4f1592dbebe68225a792") true holds (fun _ h => by cases h) (by kernel_rfl) (fun _ h => by cases h) expandNone_row_tie rfl ⟨rfl, rfl⟩ (by kernel_rfl) rfl
  (fun f fn hf hfn => by
   obtain rfl : f = 5 := Option.some.inj ((show Tryz.prog.funcNamed "preamble/prelaw6.ExpandNone" = some 5 by kernel_rfl).symm.trans hf) |>.symm
   obtain rfl : fn = Tryz.f5 := (Option.some.inj (Tryz.func5.symm.trans hfn)).symm
   exact ⟨by kernel_rfl, fun j t ht => by
    rw [Tryz.params5] at ht
    have hm : t ∈ [24, 9] := by simpa using Array.mem_of_getElem? ht
    have hall : ([24, 9].all fun u => !Tryz.prog.wantsStandIn u) = true := by kernel_rfl
    exact (show Tryz.prog.wantsStandIn t = false by simpa using List.all_eq_true.1 hall t hm)⟩)
  (by kernel_rfl)
end Go.Proofs.YtjgimofnepechaaGreatDoor.expandNone
