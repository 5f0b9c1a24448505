/- Functions of data for functions of the program: lex_lexer_blank_1, lex_lexer_one_1, lex_lexer_path_1, lex_lexer_while, lex_lexer_number, lex_lexer_quoted. Written by dec.py. -/
import Derived.Test.YtgkacglpjmndbaaQb
import Derived.Test.YtgkacglpjmndbaaQf
namespace Go.Proofs.Ytgkacglpjmndbaa
open Go.RowKit
set_option linter.unusedVariables false
set_option linter.unusedSimpArgs false

noncomputable def lex_lexer_blank_1 (a0 : UInt8) : Option Bool :=
  some (!eqI (a0.toNat : Int) 10)
noncomputable def pf_lex_lexer_blank_1 : PF := PF.of (E1 dU) (fun a => lex_lexer_blank_1 a) dB
set_option maxRecDepth 100000 in
set_option maxHeartbeats 4000000 in
theorem lex_lexer_blank_1_ok : PureOk Try.prog 80 pf_lex_lexer_blank_1 := by
  refine xF mixed [] [] trivial trivial Try.func80 ?_
  rintro a0 out H
  have G := True.intro
  have Y := Try.results80
  simp only [lex_lexer_blank_1] at H
  refine xS ?_
  refine xr ?_
  refine xr ?_
  cases H
  exact xN
theorem lex_lexer_blank_1_c (a0 : UInt8) (r : Bool) (H : lex_lexer_blank_1 a0 = some r) : PC pf_lex_lexer_blank_1 [dU a0] (dB r) := PF.c (a := a0) H
noncomputable def lex_lexer_one_1_j1 : Bool → Option Bool
  | x1 => some x1
noncomputable def lex_lexer_one_1 (a0 : UInt8) : Option Bool :=
  (lex_Letter a0).bind fun r1 => if r1 = true then lex_lexer_one_1_j1 true else (lex_Digit a0).bind fun r2 => lex_lexer_one_1_j1 r2
noncomputable def pf_lex_lexer_one_1 : PF := PF.of (E1 dU) (fun a => lex_lexer_one_1 a) dB
set_option maxRecDepth 100000 in
set_option maxHeartbeats 4000000 in
theorem lex_lexer_one_1_ok : PureOk Try.prog 81 pf_lex_lexer_one_1 := by
  refine xF mixed [(42, pf_lex_Letter), (44, pf_lex_Digit)] [] ⟨⟨call_42, lex_Letter_ok⟩, ⟨call_44, lex_Digit_ok⟩, trivial⟩ trivial Try.func81 ?_
  rintro a0 out H
  have G := True.intro
  have Y := Try.results81
  simp only [lex_lexer_one_1] at H
  refine xS ?_
  refine xr0 ?_
  refine then_normal ?_
  refine w_cut lex_lexer_one_1_j1 (fun s => [(2, .c (.d (.v (.bool s))))]) (fun s => []) [] out ?_ ?_
  · obtain ⟨r1, hr1, H⟩ := osplit H
    have F := xC Y (lex_Letter_c a0 r1 hr1)
    rcases bsplit H with ⟨hp1, H⟩ | ⟨hp1, H⟩
    · obtain ⟨F, G, hq1⟩ := xH F G hp1
      refine xR ?_
      exact cut_at H (xK ⟨[], []⟩)
    · obtain ⟨F, G, hq1⟩ := xH F G hp1
      obtain ⟨r2, hr2, H⟩ := osplit H
      have F := xC F (lex_Digit_c a0 r2 hr2)
      refine xR ?_
      exact cut_at H (xK ⟨[], []⟩)
  · rintro x1 H
    rw [lex_lexer_one_1_j1] at H
    refine xS ?_
    cases H
    exact xN
theorem lex_lexer_one_1_c (a0 : UInt8) (r : Bool) (H : lex_lexer_one_1 a0 = some r) : PC pf_lex_lexer_one_1 [dU a0] (dB r) := PF.c (a := a0) H
noncomputable def lex_lexer_path_1_j1 : Bool → Option Bool
  | x1 => some x1
noncomputable def lex_lexer_path_1 (a0 : UInt8) : Option Bool :=
  if (!eqI (a0.toNat : Int) 62) = true then lex_lexer_path_1_j1 (!eqI (a0.toNat : Int) 10) else lex_lexer_path_1_j1 false
noncomputable def pf_lex_lexer_path_1 : PF := PF.of (E1 dU) (fun a => lex_lexer_path_1 a) dB
set_option maxRecDepth 100000 in
set_option maxHeartbeats 4000000 in
theorem lex_lexer_path_1_ok : PureOk Try.prog 109 pf_lex_lexer_path_1 := by
  refine xF mixed [] [] trivial trivial Try.func109 ?_
  rintro a0 out H
  have G := True.intro
  have Y := Try.results109
  simp only [lex_lexer_path_1] at H
  refine xS ?_
  refine xr0 ?_
  refine then_normal ?_
  refine w_cut lex_lexer_path_1_j1 (fun s => [(2, .c (.d (.v (.bool s))))]) (fun s => []) [] out ?_ ?_
  · rcases bsplit H with ⟨hp1, H⟩ | ⟨hp1, H⟩
    · obtain ⟨F, G, hq1⟩ := xH Y G hp1
      refine xR ?_
      exact cut_at H (xK ⟨[], []⟩)
    · obtain ⟨F, G, hq1⟩ := xH Y G hp1
      refine xR ?_
      exact cut_at H (xK ⟨[], []⟩)
  · rintro x1 H
    rw [lex_lexer_path_1_j1] at H
    refine xS ?_
    cases H
    exact xN
theorem lex_lexer_path_1_c (a0 : UInt8) (r : Bool) (H : lex_lexer_path_1 a0 = some r) : PC pf_lex_lexer_path_1 [dU a0] (dB r) := PF.c (a := a0) H
noncomputable def lex_lexer_while_80_j2 (x1 : Int) : Bool → Option (Int ⊕ Int)
  | x2 => if x2 = true then some (.inl (IntKind.i64.wrap (x1 + 1))) else inrO (some x1)
noncomputable def lex_lexer_while_80_b1 (a0 : lex_lexer) : Int → Option (Int ⊕ Int)
  | x1 => if (ltI x1 (a0.x_.Text.length : Int)) = true then if (0 : Int) ≤ x1 ∧ x1.toNat < a0.x_.Text.length then (lex_lexer_blank_1 (a0.x_.Text.getD x1.toNat 0)).bind fun r1 => lex_lexer_while_80_j2 x1 r1 else none else lex_lexer_while_80_j2 x1 false
noncomputable def lex_lexer_while_80 (a0 : lex_lexer) (a1 : Int) : Option Int :=
  loopO (lex_lexer_while_80_b1 a0) a1
noncomputable def lex_lexer_while_81_j2 (x1 : Int) : Bool → Option (Int ⊕ Int)
  | x2 => if x2 = true then some (.inl (IntKind.i64.wrap (x1 + 1))) else inrO (some x1)
noncomputable def lex_lexer_while_81_b1 (a0 : lex_lexer) : Int → Option (Int ⊕ Int)
  | x1 => if (ltI x1 (a0.x_.Text.length : Int)) = true then if (0 : Int) ≤ x1 ∧ x1.toNat < a0.x_.Text.length then (lex_lexer_one_1 (a0.x_.Text.getD x1.toNat 0)).bind fun r1 => lex_lexer_while_81_j2 x1 r1 else none else lex_lexer_while_81_j2 x1 false
noncomputable def lex_lexer_while_81 (a0 : lex_lexer) (a1 : Int) : Option Int :=
  loopO (lex_lexer_while_81_b1 a0) a1
noncomputable def lex_lexer_while_109_j2 (x1 : Int) : Bool → Option (Int ⊕ Int)
  | x2 => if x2 = true then some (.inl (IntKind.i64.wrap (x1 + 1))) else inrO (some x1)
noncomputable def lex_lexer_while_109_b1 (a0 : lex_lexer) : Int → Option (Int ⊕ Int)
  | x1 => if (ltI x1 (a0.x_.Text.length : Int)) = true then if (0 : Int) ≤ x1 ∧ x1.toNat < a0.x_.Text.length then (lex_lexer_path_1 (a0.x_.Text.getD x1.toNat 0)).bind fun r1 => lex_lexer_while_109_j2 x1 r1 else none else lex_lexer_while_109_j2 x1 false
noncomputable def lex_lexer_while_109 (a0 : lex_lexer) (a1 : Int) : Option Int :=
  loopO (lex_lexer_while_109_b1 a0) a1
def u_lex_lexer_while : Int → List (Nat × D) := fun _ => []
def e_lex_lexer_while : Int → D := dI
noncomputable def mf_lex_lexer_while : MF := MF.on d_lex_lexer (E2 dI dF) (fun a => if a.2.2 = 80 then lex_lexer_while_80 a.1 a.2.1 else if a.2.2 = 81 then lex_lexer_while_81 a.1 a.2.1 else if a.2.2 = 109 then lex_lexer_while_109 a.1 a.2.1 else none) e_lex_lexer_while u_lex_lexer_while
set_option maxRecDepth 100000 in
set_option maxHeartbeats 4000000 in
theorem lex_lexer_while_ok : MethOk Try.prog 79 mf_lex_lexer_while := by
  refine xM mixed [(80, pf_lex_lexer_blank_1), (81, pf_lex_lexer_one_1), (109, pf_lex_lexer_path_1)] [] ⟨⟨call_80, lex_lexer_blank_1_ok⟩, ⟨call_81, lex_lexer_one_1_ok⟩, ⟨call_109, lex_lexer_path_1_ok⟩, trivial⟩ trivial Try.func79 ?_ (hu := by intro s r; simp [usIn, u_lex_lexer_while, d_lex_lexer, D.cells, List.lookup_cons])
  rintro a0 ⟨a1, n⟩ out H xs hxs
  have G := True.intro
  have Y := xZ y_9 <| xZ y_24 <| xZ y_84 <| xZ Try.results79 <| xZ d_Spliced.eq_1 <| xZ d_Call.eq_1 <| xZ d_Token.eq_1 <| xZ d_lex_lexer.eq_1 <| xZ u_lex_lexer_while.eq_1 <| e_lex_lexer_while.eq_1
  obtain ⟨w0, w1, w2, w3, w4, w5, rfl⟩ : ∃ w0 w1 w2 w3 w4 w5, xs = [w0, w1, w2, w3, w4, w5] := by
    match xs, hxs with
    | [x0, x1, x2, x3, x4, x5], _ => exact ⟨x0, x1, x2, x3, x4, x5, rfl⟩
  clear hxs
  rcases nsplit 80 H with ⟨rfl, H⟩ | H
  · simp only [lex_lexer_while_80] at H
    refine xS ?_
    refine xr ?_
    refine w_loop (lex_lexer_while_80_b1 a0) (fun s => [(0, .c (.pt 1 0)), (1, .c (.d (.v (.int .i64 s)))), (2, .c (.d (.v (.func (.func 80) #[] #[]))))]) (fun s => [[.d (.v (str a0.x_.Text)), .ex w1 (.sl 1 (List.map dI a0.x_.At)), .d (.v (str a0.text_)), .d (.v (.int .i64 a0.file_)), .d (.v (.int .i64 a0.at_)), .ex w5 (.sl 11 (List.map d_Token a0.out_))]]) [] H (xK ⟨[1], []⟩) ?_
    rintro n1 x1 o1 H hF1
    rw [lex_lexer_while_80_b1] at H
    refine w_seq ?_
    refine w_cut (lex_lexer_while_80_j2 x1) (fun s => [(0, .c (.pt 1 0)), (1, .c (.d (.v (.int .i64 x1)))), (2, .c (.d (.v (.func (.func 80) #[] #[])))), (25, .c (.d (.v (.bool s))))]) (fun s => [[.d (.v (str a0.x_.Text)), .ex w1 (.sl 1 (List.map dI a0.x_.At)), .d (.v (str a0.text_)), .d (.v (.int .i64 a0.file_)), .d (.v (.int .i64 a0.at_)), .ex w5 (.sl 11 (List.map d_Token a0.out_))]]) [] o1 ?_ ?_
    · rcases bsplit H with ⟨hp2, H⟩ | ⟨hp2, H⟩
      · obtain ⟨F, G, hq2⟩ := xH Y G hp2
        obtain ⟨hg1, H⟩ := gsplit H
        obtain ⟨r1, hr1, H⟩ := osplit H
        have F := xC F (lex_lexer_blank_1_c (a0.x_.Text.getD x1.toNat 0) r1 hr1)
        refine xR ?_
        exact cut_at H (xK ⟨[1], []⟩)
      · obtain ⟨F, G, hq2⟩ := xH Y G hp2
        refine xR ?_
        exact cut_at H (xK ⟨[1], []⟩)
    · rintro x2 H
      rw [lex_lexer_while_80_j2] at H
      rcases bsplit H with ⟨hp1, H⟩ | ⟨hp1, H⟩
      · obtain ⟨F, G, hq1⟩ := xH Y G hp1
        refine xT ?_
        refine xr ?_
        exact round_at (inl_fin H hF1) (xK ⟨[1], []⟩)
      · obtain ⟨F, G, hq1⟩ := xH Y G hp1
        replace H := inrO_fin H hF1
        refine xE ?_
        refine xr ?_
        cases H
        exact xN
  rcases nsplit 81 H with ⟨rfl, H⟩ | H
  · simp only [lex_lexer_while_81] at H
    refine xS ?_
    refine xr ?_
    refine w_loop (lex_lexer_while_81_b1 a0) (fun s => [(0, .c (.pt 1 0)), (1, .c (.d (.v (.int .i64 s)))), (2, .c (.d (.v (.func (.func 81) #[] #[]))))]) (fun s => [[.d (.v (str a0.x_.Text)), .ex w1 (.sl 1 (List.map dI a0.x_.At)), .d (.v (str a0.text_)), .d (.v (.int .i64 a0.file_)), .d (.v (.int .i64 a0.at_)), .ex w5 (.sl 11 (List.map d_Token a0.out_))]]) [] H (xK ⟨[1], []⟩) ?_
    rintro n1 x1 o1 H hF1
    rw [lex_lexer_while_81_b1] at H
    refine w_seq ?_
    refine w_cut (lex_lexer_while_81_j2 x1) (fun s => [(0, .c (.pt 1 0)), (1, .c (.d (.v (.int .i64 x1)))), (2, .c (.d (.v (.func (.func 81) #[] #[])))), (25, .c (.d (.v (.bool s))))]) (fun s => [[.d (.v (str a0.x_.Text)), .ex w1 (.sl 1 (List.map dI a0.x_.At)), .d (.v (str a0.text_)), .d (.v (.int .i64 a0.file_)), .d (.v (.int .i64 a0.at_)), .ex w5 (.sl 11 (List.map d_Token a0.out_))]]) [] o1 ?_ ?_
    · rcases bsplit H with ⟨hp2, H⟩ | ⟨hp2, H⟩
      · obtain ⟨F, G, hq2⟩ := xH Y G hp2
        obtain ⟨hg1, H⟩ := gsplit H
        obtain ⟨r1, hr1, H⟩ := osplit H
        have F := xC F (lex_lexer_one_1_c (a0.x_.Text.getD x1.toNat 0) r1 hr1)
        refine xR ?_
        exact cut_at H (xK ⟨[1], []⟩)
      · obtain ⟨F, G, hq2⟩ := xH Y G hp2
        refine xR ?_
        exact cut_at H (xK ⟨[1], []⟩)
    · rintro x2 H
      rw [lex_lexer_while_81_j2] at H
      rcases bsplit H with ⟨hp1, H⟩ | ⟨hp1, H⟩
      · obtain ⟨F, G, hq1⟩ := xH Y G hp1
        refine xT ?_
        refine xr ?_
        exact round_at (inl_fin H hF1) (xK ⟨[1], []⟩)
      · obtain ⟨F, G, hq1⟩ := xH Y G hp1
        replace H := inrO_fin H hF1
        refine xE ?_
        refine xr ?_
        cases H
        exact xN
  rcases nsplit 109 H with ⟨rfl, H⟩ | H
  · simp only [lex_lexer_while_109] at H
    refine xS ?_
    refine xr ?_
    refine w_loop (lex_lexer_while_109_b1 a0) (fun s => [(0, .c (.pt 1 0)), (1, .c (.d (.v (.int .i64 s)))), (2, .c (.d (.v (.func (.func 109) #[] #[]))))]) (fun s => [[.d (.v (str a0.x_.Text)), .ex w1 (.sl 1 (List.map dI a0.x_.At)), .d (.v (str a0.text_)), .d (.v (.int .i64 a0.file_)), .d (.v (.int .i64 a0.at_)), .ex w5 (.sl 11 (List.map d_Token a0.out_))]]) [] H (xK ⟨[1], []⟩) ?_
    rintro n1 x1 o1 H hF1
    rw [lex_lexer_while_109_b1] at H
    refine w_seq ?_
    refine w_cut (lex_lexer_while_109_j2 x1) (fun s => [(0, .c (.pt 1 0)), (1, .c (.d (.v (.int .i64 x1)))), (2, .c (.d (.v (.func (.func 109) #[] #[])))), (25, .c (.d (.v (.bool s))))]) (fun s => [[.d (.v (str a0.x_.Text)), .ex w1 (.sl 1 (List.map dI a0.x_.At)), .d (.v (str a0.text_)), .d (.v (.int .i64 a0.file_)), .d (.v (.int .i64 a0.at_)), .ex w5 (.sl 11 (List.map d_Token a0.out_))]]) [] o1 ?_ ?_
    · rcases bsplit H with ⟨hp2, H⟩ | ⟨hp2, H⟩
      · obtain ⟨F, G, hq2⟩ := xH Y G hp2
        obtain ⟨hg1, H⟩ := gsplit H
        obtain ⟨r1, hr1, H⟩ := osplit H
        have F := xC F (lex_lexer_path_1_c (a0.x_.Text.getD x1.toNat 0) r1 hr1)
        refine xR ?_
        exact cut_at H (xK ⟨[1], []⟩)
      · obtain ⟨F, G, hq2⟩ := xH Y G hp2
        refine xR ?_
        exact cut_at H (xK ⟨[1], []⟩)
    · rintro x2 H
      rw [lex_lexer_while_109_j2] at H
      rcases bsplit H with ⟨hp1, H⟩ | ⟨hp1, H⟩
      · obtain ⟨F, G, hq1⟩ := xH Y G hp1
        refine xT ?_
        refine xr ?_
        exact round_at (inl_fin H hF1) (xK ⟨[1], []⟩)
      · obtain ⟨F, G, hq1⟩ := xH Y G hp1
        replace H := inrO_fin H hF1
        refine xE ?_
        refine xr ?_
        cases H
        exact xN
  cases H
theorem lex_lexer_while_80_c (a0 : lex_lexer) (a1 : Int) (r : Int) (H : lex_lexer_while_80 a0 a1 = some r) : MC mf_lex_lexer_while (d_lex_lexer a0).cells [dI a1, dF 80] (e_lex_lexer_while r) (u_lex_lexer_while r) := MF.c (s := a0) (a := (a1, 80)) (by simp [H])
theorem lex_lexer_while_81_c (a0 : lex_lexer) (a1 : Int) (r : Int) (H : lex_lexer_while_81 a0 a1 = some r) : MC mf_lex_lexer_while (d_lex_lexer a0).cells [dI a1, dF 81] (e_lex_lexer_while r) (u_lex_lexer_while r) := MF.c (s := a0) (a := (a1, 81)) (by simp [H])
theorem lex_lexer_while_109_c (a0 : lex_lexer) (a1 : Int) (r : Int) (H : lex_lexer_while_109 a0 a1 = some r) : MC mf_lex_lexer_while (d_lex_lexer a0).cells [dI a1, dF 109] (e_lex_lexer_while r) (u_lex_lexer_while r) := MF.c (s := a0) (a := (a1, 109)) (by simp [H])
noncomputable def lex_lexer_number_j2 (x1 : Int) : Unit → Option (Int ⊕ Int)
  | () => some (.inl (IntKind.i64.wrap (x1 + 1)))
noncomputable def lex_lexer_number_j4 (x1 : Int) : Bool → Option (Int ⊕ Int)
  | x4 => if x4 = true then inrO (some x1) else lex_lexer_number_j2 x1 ()
noncomputable def lex_lexer_number_j3 (x1 : Int) : (UInt8 × Bool) → Option (Int ⊕ Int)
  | (x2, x3) => if x3 = true then lex_lexer_number_j2 x1 () else if (!eqI (x2.toNat : Int) 46) = true then (lex_Letter x2).bind fun r1 => if (!r1) = true then (lex_Digit x2).bind fun r2 => lex_lexer_number_j4 x1 (!r2) else lex_lexer_number_j4 x1 false else lex_lexer_number_j4 x1 false
noncomputable def lex_lexer_number_b1 (a0 : lex_lexer) : Int → Option (Int ⊕ Int)
  | x1 => if (ltI x1 (a0.x_.Text.length : Int)) = true then if (0 : Int) ≤ x1 ∧ x1.toNat < a0.x_.Text.length then if (eqI ((a0.x_.Text.getD x1.toNat 0).toNat : Int) 43) = true then if (ltI a0.at_ x1) = true then if (0 : Int) ≤ (IntKind.i64.wrap (x1 - 1)) ∧ (IntKind.i64.wrap (x1 - 1)).toNat < a0.x_.Text.length then if (eqI ((a0.x_.Text.getD ((IntKind.i64.wrap (x1 - 1)).toNat) 0).toNat : Int) 101) = true then lex_lexer_number_j3 x1 ((a0.x_.Text.getD x1.toNat 0), true) else if (0 : Int) ≤ (IntKind.i64.wrap (x1 - 1)) ∧ (IntKind.i64.wrap (x1 - 1)).toNat < a0.x_.Text.length then lex_lexer_number_j3 x1 ((a0.x_.Text.getD x1.toNat 0), eqI ((a0.x_.Text.getD ((IntKind.i64.wrap (x1 - 1)).toNat) 0).toNat : Int) 69) else none else none else lex_lexer_number_j3 x1 ((a0.x_.Text.getD x1.toNat 0), false) else if (eqI ((a0.x_.Text.getD x1.toNat 0).toNat : Int) 45) = true then if (ltI a0.at_ x1) = true then if (0 : Int) ≤ (IntKind.i64.wrap (x1 - 1)) ∧ (IntKind.i64.wrap (x1 - 1)).toNat < a0.x_.Text.length then if (eqI ((a0.x_.Text.getD ((IntKind.i64.wrap (x1 - 1)).toNat) 0).toNat : Int) 101) = true then lex_lexer_number_j3 x1 ((a0.x_.Text.getD x1.toNat 0), true) else if (0 : Int) ≤ (IntKind.i64.wrap (x1 - 1)) ∧ (IntKind.i64.wrap (x1 - 1)).toNat < a0.x_.Text.length then lex_lexer_number_j3 x1 ((a0.x_.Text.getD x1.toNat 0), eqI ((a0.x_.Text.getD ((IntKind.i64.wrap (x1 - 1)).toNat) 0).toNat : Int) 69) else none else none else lex_lexer_number_j3 x1 ((a0.x_.Text.getD x1.toNat 0), false) else lex_lexer_number_j3 x1 ((a0.x_.Text.getD x1.toNat 0), false) else none else inrO (some x1)
noncomputable def lex_lexer_number (a0 : lex_lexer) : Option Int :=
  loopO (lex_lexer_number_b1 a0) a0.at_
def u_lex_lexer_number : Int → List (Nat × D) := fun _ => []
def e_lex_lexer_number : Int → D := dI
noncomputable def mf_lex_lexer_number : MF := MF.on d_lex_lexer E0 (fun a => lex_lexer_number a.1) e_lex_lexer_number u_lex_lexer_number
set_option maxRecDepth 100000 in
set_option maxHeartbeats 4000000 in
theorem lex_lexer_number_ok : MethOk Try.prog 82 mf_lex_lexer_number := by
  refine xM mixed [(42, pf_lex_Letter), (44, pf_lex_Digit)] [] ⟨⟨call_42, lex_Letter_ok⟩, ⟨call_44, lex_Digit_ok⟩, trivial⟩ trivial Try.func82 ?_ (hu := by intro s r; simp [usIn, u_lex_lexer_number, d_lex_lexer, D.cells, List.lookup_cons])
  rintro a0 _ out H xs hxs
  have G := True.intro
  have Y := xZ y_3 <| xZ y_9 <| xZ y_24 <| xZ y_84 <| xZ Try.results82 <| xZ d_Spliced.eq_1 <| xZ d_Call.eq_1 <| xZ d_Token.eq_1 <| xZ d_lex_lexer.eq_1 <| xZ u_lex_lexer_number.eq_1 <| e_lex_lexer_number.eq_1
  obtain ⟨w0, w1, w2, w3, w4, w5, rfl⟩ : ∃ w0 w1 w2 w3 w4 w5, xs = [w0, w1, w2, w3, w4, w5] := by
    match xs, hxs with
    | [x0, x1, x2, x3, x4, x5], _ => exact ⟨x0, x1, x2, x3, x4, x5, rfl⟩
  clear hxs
  simp only [lex_lexer_number] at H
  refine xS ?_
  refine xr ?_
  refine xr ?_
  refine xr ?_
  refine w_loop (lex_lexer_number_b1 a0) (fun s => [(0, .c (.pt 1 0)), (3, .c (.d (.v (str a0.x_.Text)))), (4, .c (.d (.v (.int .i64 s))))]) (fun s => [[.d (.v (str a0.x_.Text)), .ex w1 (.sl 1 (List.map dI a0.x_.At)), .d (.v (str a0.text_)), .d (.v (.int .i64 a0.file_)), .d (.v (.int .i64 a0.at_)), .ex w5 (.sl 11 (List.map d_Token a0.out_))]]) [] H (xK ⟨[1], []⟩) ?_
  rintro n1 x1 o1 H hF1
  rw [lex_lexer_number_b1] at H
  refine xS ?_
  refine xr ?_
  rcases bsplit H with ⟨hp1, H⟩ | ⟨hp1, H⟩
  · obtain ⟨F, G, hq1⟩ := xH Y G hp1
    refine xT0 ?_
    refine w_skip ?_
    refine then_normal ?_
    refine w_block ?_
    refine w_cut (lex_lexer_number_j2 x1) (fun s => [(0, .c (.pt 1 0)), (3, .c (.d (.v (str a0.x_.Text)))), (4, .c (.d (.v (.int .i64 x1))))]) (fun s => [[.d (.v (str a0.x_.Text)), .ex w1 (.sl 1 (List.map dI a0.x_.At)), .d (.v (str a0.text_)), .d (.v (.int .i64 a0.file_)), .d (.v (.int .i64 a0.at_)), .ex w5 (.sl 11 (List.map d_Token a0.out_))]]) [] o1 ?_ ?_
    · refine xS ?_
      obtain ⟨hg1, H⟩ := gsplit H
      refine xr0 ?_
      refine then_normal ?_
      refine w_block ?_
      refine w_cut (lex_lexer_number_j3 x1) (fun s => [(0, .c (.pt 1 0)), (3, .c (.d (.v (str a0.x_.Text)))), (4, .c (.d (.v (.int .i64 x1)))), (5, .c (.d (.v (.int .u8 (s.1.toNat : Int))))), (22, .c (.d (.v (.bool s.2))))]) (fun s => [[.d (.v (str a0.x_.Text)), .ex w1 (.sl 1 (List.map dI a0.x_.At)), .d (.v (str a0.text_)), .d (.v (.int .i64 a0.file_)), .d (.v (.int .i64 a0.at_)), .ex w5 (.sl 11 (List.map d_Token a0.out_))]]) [] o1 ?_ ?_
      · rcases bsplit H with ⟨hp6, H⟩ | ⟨hp6, H⟩
        · obtain ⟨F, G, hq6⟩ := xH Y G hp6
          rcases bsplit H with ⟨hp7, H⟩ | ⟨hp7, H⟩
          · obtain ⟨F, G, hq7⟩ := xH F G hp7
            obtain ⟨hg2, H⟩ := gsplit H
            rcases bsplit H with ⟨hp8, H⟩ | ⟨hp8, H⟩
            · obtain ⟨F, G, hq8⟩ := xH F G hp8
              refine xR ?_
              exact cut_at H (xK ⟨[1], []⟩)
            · obtain ⟨F, G, hq8⟩ := xH F G hp8
              obtain ⟨hg3, H⟩ := gsplit H
              refine xR ?_
              exact cut_at H (xK ⟨[1], []⟩)
          · obtain ⟨F, G, hq7⟩ := xH F G hp7
            refine xR ?_
            exact cut_at H (xK ⟨[1], []⟩)
        · obtain ⟨F, G, hq6⟩ := xH Y G hp6
          rcases bsplit H with ⟨hp9, H⟩ | ⟨hp9, H⟩
          · obtain ⟨F, G, hq9⟩ := xH F G hp9
            rcases bsplit H with ⟨hp10, H⟩ | ⟨hp10, H⟩
            · obtain ⟨F, G, hq10⟩ := xH F G hp10
              obtain ⟨hg4, H⟩ := gsplit H
              rcases bsplit H with ⟨hp11, H⟩ | ⟨hp11, H⟩
              · obtain ⟨F, G, hq11⟩ := xH F G hp11
                refine xR ?_
                exact cut_at H (xK ⟨[1], []⟩)
              · obtain ⟨F, G, hq11⟩ := xH F G hp11
                obtain ⟨hg5, H⟩ := gsplit H
                refine xR ?_
                exact cut_at H (xK ⟨[1], []⟩)
            · obtain ⟨F, G, hq10⟩ := xH F G hp10
              refine xR ?_
              exact cut_at H (xK ⟨[1], []⟩)
          · obtain ⟨F, G, hq9⟩ := xH F G hp9
            refine xR ?_
            exact cut_at H (xK ⟨[1], []⟩)
      · rintro ⟨x2, x3⟩ H
        rw [lex_lexer_number_j3] at H
        rcases bsplit H with ⟨hp2, H⟩ | ⟨hp2, H⟩
        · obtain ⟨F, G, hq2⟩ := xH Y G hp2
          refine xT ?_
          exact cut_at H (xK ⟨[1], []⟩)
        · obtain ⟨F, G, hq2⟩ := xH Y G hp2
          refine xE0 ?_
          refine w_cut (lex_lexer_number_j4 x1) (fun s => [(0, .c (.pt 1 0)), (3, .c (.d (.v (str a0.x_.Text)))), (4, .c (.d (.v (.int .i64 x1)))), (51, .c (.d (.v (.bool s))))]) (fun s => [[.d (.v (str a0.x_.Text)), .ex w1 (.sl 1 (List.map dI a0.x_.At)), .d (.v (str a0.text_)), .d (.v (.int .i64 a0.file_)), .d (.v (.int .i64 a0.at_)), .ex w5 (.sl 11 (List.map d_Token a0.out_))]]) [] o1 ?_ ?_
          · rcases bsplit H with ⟨hp4, H⟩ | ⟨hp4, H⟩
            · obtain ⟨F, G, hq4⟩ := xH Y G hp4
              obtain ⟨r1, hr1, H⟩ := osplit H
              have F := xC F (lex_Letter_c x2 r1 hr1)
              rcases bsplit H with ⟨hp5, H⟩ | ⟨hp5, H⟩
              · obtain ⟨F, G, hq5⟩ := xH F G hp5
                obtain ⟨r2, hr2, H⟩ := osplit H
                have F := xC F (lex_Digit_c x2 r2 hr2)
                refine xR ?_
                exact cut_at H (xK ⟨[1], []⟩)
              · obtain ⟨F, G, hq5⟩ := xH F G hp5
                refine xR ?_
                exact cut_at H (xK ⟨[1], []⟩)
            · obtain ⟨F, G, hq4⟩ := xH Y G hp4
              refine xR ?_
              exact cut_at H (xK ⟨[1], []⟩)
          · rintro x4 H
            rw [lex_lexer_number_j4] at H
            rcases bsplit H with ⟨hp3, H⟩ | ⟨hp3, H⟩
            · obtain ⟨F, G, hq3⟩ := xH Y G hp3
              refine xT ?_
              replace H := inrO_fin H hF1
              refine xr ?_
              cases H
              exact xN
            · obtain ⟨F, G, hq3⟩ := xH Y G hp3
              refine xE ?_
              exact cut_at H (xK ⟨[1], []⟩)
    · rintro ⟨⟩ H
      rw [lex_lexer_number_j2] at H
      refine xr ?_
      exact round_at (inl_fin H hF1) (xK ⟨[1], []⟩)
  · obtain ⟨F, G, hq1⟩ := xH Y G hp1
    replace H := inrO_fin H hF1
    refine xE ?_
    refine xr ?_
    cases H
    exact xN
theorem lex_lexer_number_c (a0 : lex_lexer) (r : Int) (H : lex_lexer_number a0 = some r) : MC mf_lex_lexer_number (d_lex_lexer a0).cells [] (e_lex_lexer_number r) (u_lex_lexer_number r) := MF.c (s := a0) (a := ()) H
noncomputable def lex_lexer_quoted_j3 : (UInt8 × Int) → Option ((UInt8 × Int) ⊕ Int)
  | (x5, x6) => some (.inl (x5, IntKind.i64.wrap (x6 + 1)))
noncomputable def lex_lexer_quoted_j4 (x2 : Int) : (UInt8 × Bool) → Option ((UInt8 × Int) ⊕ Int)
  | (x7, x8) => if x8 = true then lex_lexer_quoted_j3 (x7, IntKind.i64.wrap (x2 + 1)) else lex_lexer_quoted_j3 (x7, x2)
noncomputable def lex_lexer_quoted_j2 (a0 : lex_lexer) (x2 : Int) : (UInt8 × Bool) → Option ((UInt8 × Int) ⊕ Int)
  | (x3, x4) => if x4 = true then if (0 : Int) ≤ x2 ∧ x2.toNat < a0.x_.Text.length then if (eqI ((a0.x_.Text.getD x2.toNat 0).toNat : Int) (x3.toNat : Int)) = true then inrO (some (IntKind.i64.wrap (x2 + 1))) else if (eqI ((a0.x_.Text.getD x2.toNat 0).toNat : Int) 92) = true then if (ltI (IntKind.i64.wrap (x2 + 1)) (a0.x_.Text.length : Int)) = true then if (0 : Int) ≤ (IntKind.i64.wrap (x2 + 1)) ∧ (IntKind.i64.wrap (x2 + 1)).toNat < a0.x_.Text.length then lex_lexer_quoted_j4 x2 (x3, !eqI ((a0.x_.Text.getD ((IntKind.i64.wrap (x2 + 1)).toNat) 0).toNat : Int) 10) else none else lex_lexer_quoted_j4 x2 (x3, false) else lex_lexer_quoted_j3 (x3, x2) else none else inrO (some (-1))
noncomputable def lex_lexer_quoted_b1 (a0 : lex_lexer) : (UInt8 × Int) → Option ((UInt8 × Int) ⊕ Int)
  | (x1, x2) => if (ltI x2 (a0.x_.Text.length : Int)) = true then if (0 : Int) ≤ x2 ∧ x2.toNat < a0.x_.Text.length then lex_lexer_quoted_j2 a0 x2 (x1, !eqI ((a0.x_.Text.getD x2.toNat 0).toNat : Int) 10) else none else lex_lexer_quoted_j2 a0 x2 (x1, false)
noncomputable def lex_lexer_quoted (a0 : lex_lexer) (a1 : UInt8) : Option Int :=
  loopO (lex_lexer_quoted_b1 a0) (a1, IntKind.i64.wrap (a0.at_ + 1))
def u_lex_lexer_quoted : Int → List (Nat × D) := fun _ => []
def e_lex_lexer_quoted : Int → D := dI
noncomputable def mf_lex_lexer_quoted : MF := MF.on d_lex_lexer (E1 dU) (fun a => lex_lexer_quoted a.1 a.2) e_lex_lexer_quoted u_lex_lexer_quoted
set_option maxRecDepth 100000 in
set_option maxHeartbeats 4000000 in
theorem lex_lexer_quoted_ok : MethOk Try.prog 83 mf_lex_lexer_quoted := by
  refine xM mixed [] [] trivial trivial Try.func83 ?_ (hu := by intro s r; simp [usIn, u_lex_lexer_quoted, d_lex_lexer, D.cells, List.lookup_cons])
  rintro a0 a1 out H xs hxs
  have G := True.intro
  have Y := xZ y_3 <| xZ y_9 <| xZ y_24 <| xZ y_84 <| xZ Try.results83 <| xZ d_Spliced.eq_1 <| xZ d_Call.eq_1 <| xZ d_Token.eq_1 <| xZ d_lex_lexer.eq_1 <| xZ u_lex_lexer_quoted.eq_1 <| e_lex_lexer_quoted.eq_1
  obtain ⟨w0, w1, w2, w3, w4, w5, rfl⟩ : ∃ w0 w1 w2 w3 w4 w5, xs = [w0, w1, w2, w3, w4, w5] := by
    match xs, hxs with
    | [x0, x1, x2, x3, x4, x5], _ => exact ⟨x0, x1, x2, x3, x4, x5, rfl⟩
  clear hxs
  simp only [lex_lexer_quoted] at H
  refine xS ?_
  refine xr ?_
  refine xr ?_
  refine xr ?_
  refine w_loop (lex_lexer_quoted_b1 a0) (fun s => [(1, .c (.d (.v (.int .u8 (s.1.toNat : Int))))), (5, .c (.d (.v (str a0.x_.Text)))), (6, .c (.d (.v (.int .i64 s.2))))]) (fun s => [[.d (.v (str a0.x_.Text)), .ex w1 (.sl 1 (List.map dI a0.x_.At)), .d (.v (str a0.text_)), .d (.v (.int .i64 a0.file_)), .d (.v (.int .i64 a0.at_)), .ex w5 (.sl 11 (List.map d_Token a0.out_))]]) [] H (xK ⟨[1], []⟩) ?_
  rintro n1 ⟨x1, x2⟩ o1 H hF1
  rw [lex_lexer_quoted_b1] at H
  refine w_seq ?_
  refine w_cut (lex_lexer_quoted_j2 a0 x2) (fun s => [(1, .c (.d (.v (.int .u8 (s.1.toNat : Int))))), (5, .c (.d (.v (str a0.x_.Text)))), (6, .c (.d (.v (.int .i64 x2)))), (26, .c (.d (.v (.bool s.2))))]) (fun s => [[.d (.v (str a0.x_.Text)), .ex w1 (.sl 1 (List.map dI a0.x_.At)), .d (.v (str a0.text_)), .d (.v (.int .i64 a0.file_)), .d (.v (.int .i64 a0.at_)), .ex w5 (.sl 11 (List.map d_Token a0.out_))]]) [] o1 ?_ ?_
  · rcases bsplit H with ⟨hp6, H⟩ | ⟨hp6, H⟩
    · obtain ⟨F, G, hq6⟩ := xH Y G hp6
      obtain ⟨hg3, H⟩ := gsplit H
      refine xR ?_
      exact cut_at H (xK ⟨[1], []⟩)
    · obtain ⟨F, G, hq6⟩ := xH Y G hp6
      refine xR ?_
      exact cut_at H (xK ⟨[1], []⟩)
  · rintro ⟨x3, x4⟩ H
    rw [lex_lexer_quoted_j2] at H
    rcases bsplit H with ⟨hp1, H⟩ | ⟨hp1, H⟩
    · obtain ⟨F, G, hq1⟩ := xH Y G hp1
      refine xT0 ?_
      refine w_skip ?_
      refine then_normal ?_
      refine w_cut lex_lexer_quoted_j3 (fun s => [(1, .c (.d (.v (.int .u8 (s.1.toNat : Int))))), (5, .c (.d (.v (str a0.x_.Text)))), (6, .c (.d (.v (.int .i64 s.2))))]) (fun s => [[.d (.v (str a0.x_.Text)), .ex w1 (.sl 1 (List.map dI a0.x_.At)), .d (.v (str a0.text_)), .d (.v (.int .i64 a0.file_)), .d (.v (.int .i64 a0.at_)), .ex w5 (.sl 11 (List.map d_Token a0.out_))]]) [] o1 ?_ ?_
      · refine xS ?_
        obtain ⟨hg1, H⟩ := gsplit H
        refine xr ?_
        refine xr ?_
        rcases bsplit H with ⟨hp2, H⟩ | ⟨hp2, H⟩
        · obtain ⟨F, G, hq2⟩ := xH Y G hp2
          refine xT ?_
          replace H := inrO_fin H hF1
          refine xr ?_
          cases H
          exact xN
        · obtain ⟨F, G, hq2⟩ := xH Y G hp2
          refine xE ?_
          refine xr ?_
          rcases bsplit H with ⟨hp3, H⟩ | ⟨hp3, H⟩
          · obtain ⟨F, G, hq3⟩ := xH Y G hp3
            refine xT0 ?_
            refine w_cut (lex_lexer_quoted_j4 x2) (fun s => [(1, .c (.d (.v (.int .u8 (s.1.toNat : Int))))), (5, .c (.d (.v (str a0.x_.Text)))), (6, .c (.d (.v (.int .i64 x2)))), (50, .c (.d (.v (.bool s.2))))]) (fun s => [[.d (.v (str a0.x_.Text)), .ex w1 (.sl 1 (List.map dI a0.x_.At)), .d (.v (str a0.text_)), .d (.v (.int .i64 a0.file_)), .d (.v (.int .i64 a0.at_)), .ex w5 (.sl 11 (List.map d_Token a0.out_))]]) [] o1 ?_ ?_
            · rcases bsplit H with ⟨hp5, H⟩ | ⟨hp5, H⟩
              · obtain ⟨F, G, hq5⟩ := xH Y G hp5
                obtain ⟨hg2, H⟩ := gsplit H
                refine xR ?_
                exact cut_at H (xK ⟨[1], []⟩)
              · obtain ⟨F, G, hq5⟩ := xH Y G hp5
                refine xR ?_
                exact cut_at H (xK ⟨[1], []⟩)
            · rintro ⟨x7, x8⟩ H
              rw [lex_lexer_quoted_j4] at H
              rcases bsplit H with ⟨hp4, H⟩ | ⟨hp4, H⟩
              · obtain ⟨F, G, hq4⟩ := xH Y G hp4
                refine xT ?_
                refine xr ?_
                exact cut_at H (xK ⟨[1], []⟩)
              · obtain ⟨F, G, hq4⟩ := xH Y G hp4
                refine xE ?_
                exact cut_at H (xK ⟨[1], []⟩)
          · obtain ⟨F, G, hq3⟩ := xH Y G hp3
            refine xE ?_
            exact cut_at H (xK ⟨[1], []⟩)
      · rintro ⟨x5, x6⟩ H
        rw [lex_lexer_quoted_j3] at H
        refine xr ?_
        exact round_at (inl_fin H hF1) (xK ⟨[1], []⟩)
    · obtain ⟨F, G, hq1⟩ := xH Y G hp1
      replace H := inrO_fin H hF1
      refine xE ?_
      refine xr ?_
      cases H
      exact xN
theorem lex_lexer_quoted_c (a0 : lex_lexer) (a1 : UInt8) (r : Int) (H : lex_lexer_quoted a0 a1 = some r) : MC mf_lex_lexer_quoted (d_lex_lexer a0).cells [dU a1] (e_lex_lexer_quoted r) (u_lex_lexer_quoted r) := MF.c (s := a0) (a := a1) H
end Go.Proofs.Ytgkacglpjmndbaa
