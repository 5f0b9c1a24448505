/- Functions of data for functions of the program: lex_lexer_path, lex_lexer_sign, lex_lexer_one. Written by dec.py. -/
import Derived.Test.YtgkacglpjmndbaaQj
namespace Go.Proofs.Ytgkacglpjmndbaa
open Go.RowKit
set_option linter.unusedVariables false
set_option linter.unusedSimpArgs false

noncomputable def lex_lexer_path_j2 (r1 : Int) : Bool → Option Int
  | x2 => if x2 = true then some (IntKind.i64.wrap (r1 + 1)) else some (-1)
noncomputable def lex_lexer_path_j1 (a0 : lex_lexer) : Bool → Option Int
  | x1 => if x1 = true then some (-1) else (lex_lexer_while_109 a0 (IntKind.i64.wrap (a0.at_ + 1))).bind fun r1 => if (ltI r1 (a0.x_.Text.length : Int)) = true then if (0 : Int) ≤ r1 ∧ r1.toNat < a0.x_.Text.length then lex_lexer_path_j2 r1 (eqI ((a0.x_.Text.getD r1.toNat 0).toNat : Int) 62) else none else lex_lexer_path_j2 r1 false
noncomputable def lex_lexer_path (a0 : lex_lexer) : Option Int :=
  if (ltI (a0.out_.length : Int) 2) = true then lex_lexer_path_j1 a0 true else if (0 : Int) ≤ (IntKind.i64.wrap ((a0.out_.length : Int) - 1)) ∧ (IntKind.i64.wrap ((a0.out_.length : Int) - 1)).toNat < a0.out_.length then if (!eqS ((a0.out_.getD ((IntKind.i64.wrap ((a0.out_.length : Int) - 1)).toNat) default).Text) [105, 110, 99, 108, 117, 100, 101]) = true then lex_lexer_path_j1 a0 true else if (0 : Int) ≤ (IntKind.i64.wrap ((a0.out_.length : Int) - 1)) ∧ (IntKind.i64.wrap ((a0.out_.length : Int) - 1)).toNat < a0.out_.length then if ((a0.out_.getD ((IntKind.i64.wrap ((a0.out_.length : Int) - 1)).toNat) default).First) = true then lex_lexer_path_j1 a0 true else if (0 : Int) ≤ (IntKind.i64.wrap ((a0.out_.length : Int) - 2)) ∧ (IntKind.i64.wrap ((a0.out_.length : Int) - 2)).toNat < a0.out_.length then if (!((a0.out_.getD ((IntKind.i64.wrap ((a0.out_.length : Int) - 2)).toNat) default).First)) = true then lex_lexer_path_j1 a0 true else if (0 : Int) ≤ (IntKind.i64.wrap ((a0.out_.length : Int) - 2)) ∧ (IntKind.i64.wrap ((a0.out_.length : Int) - 2)).toNat < a0.out_.length then lex_lexer_path_j1 a0 (!eqS ((a0.out_.getD ((IntKind.i64.wrap ((a0.out_.length : Int) - 2)).toNat) default).Text) [35]) else none else none else none else none
def u_lex_lexer_path : Int → List (Nat × D) := fun _ => []
def e_lex_lexer_path : Int → D := dI
noncomputable def mf_lex_lexer_path : MF := MF.on d_lex_lexer E0 (fun a => lex_lexer_path a.1) e_lex_lexer_path u_lex_lexer_path
set_option maxRecDepth 100000 in
set_option maxHeartbeats 4000000 in
theorem lex_lexer_path_ok : MethOk Try.prog 84 mf_lex_lexer_path := by
  refine xM mixed [] [(79, mf_lex_lexer_while)] trivial ⟨⟨call_79, lex_lexer_while_ok⟩, trivial⟩ Try.func84 ?_ (hu := by intro s r; simp [usIn, u_lex_lexer_path, d_lex_lexer, D.cells, List.lookup_cons])
  rintro a0 _ out H xs hxs
  have G := True.intro
  have Y := xZ y_3 <| xZ y_4 <| xZ y_9 <| xZ y_24 <| xZ y_33 <| xZ y_37 <| xZ y_84 <| xZ Try.results84 <| xZ d_Spliced.eq_1 <| xZ d_Call.eq_1 <| xZ d_Token.eq_1 <| xZ d_lex_lexer.eq_1 <| xZ u_lex_lexer_path.eq_1 <| xZ e_lex_lexer_path.eq_1 <| xZ u_lex_lexer_while.eq_1 <| e_lex_lexer_while.eq_1
  obtain ⟨w0, w1, w2, w3, w4, w5, rfl⟩ : ∃ w0 w1 w2 w3 w4 w5, xs = [w0, w1, w2, w3, w4, w5] := by
    match xs, hxs with
    | [x0, x1, x2, x3, x4, x5], _ => exact ⟨x0, x1, x2, x3, x4, x5, rfl⟩
  clear hxs
  simp only [lex_lexer_path] at H
  refine xS ?_
  refine xr ?_
  refine xr0 ?_
  refine then_normal ?_
  refine w_seq ?_
  refine w_cut (lex_lexer_path_j1 a0) (fun s => [(0, .c (.pt 1 0)), (58, .c (.d (.v (.bool s))))]) (fun s => [[.d (.v (str a0.x_.Text)), .ex w1 (.sl 1 (List.map dI a0.x_.At)), .d (.v (str a0.text_)), .d (.v (.int .i64 a0.file_)), .d (.v (.int .i64 a0.at_)), .ex w5 (.sl 11 (List.map d_Token a0.out_))]]) [] out ?_ ?_
  · rcases bsplit H with ⟨hp4, H⟩ | ⟨hp4, H⟩
    · obtain ⟨F, G, hq4⟩ := xH Y G hp4
      refine xR ?_
      exact cut_at H (xK ⟨[1], []⟩)
    · obtain ⟨F, G, hq4⟩ := xH Y G hp4
      obtain ⟨hg2, H⟩ := gsplit H
      have F := xZ F (map_getD d_Token a0.out_ ((IntKind.i64.wrap ((a0.out_.length : Int) - 1)).toNat) default default (by omega))
      rcases bsplit H with ⟨hp5, H⟩ | ⟨hp5, H⟩
      · obtain ⟨F, G, hq5⟩ := xH F G hp5
        refine xR ?_
        exact cut_at H (xK ⟨[1], []⟩)
      · obtain ⟨F, G, hq5⟩ := xH F G hp5
        obtain ⟨hg3, H⟩ := gsplit H
        have F := xZ F (map_getD d_Token a0.out_ ((IntKind.i64.wrap ((a0.out_.length : Int) - 1)).toNat) default default (by omega))
        rcases bsplit H with ⟨hp6, H⟩ | ⟨hp6, H⟩
        · obtain ⟨F, G, hq6⟩ := xH F G hp6
          refine xR ?_
          exact cut_at H (xK ⟨[1], []⟩)
        · obtain ⟨F, G, hq6⟩ := xH F G hp6
          obtain ⟨hg4, H⟩ := gsplit H
          have F := xZ F (map_getD d_Token a0.out_ ((IntKind.i64.wrap ((a0.out_.length : Int) - 2)).toNat) default default (by omega))
          rcases bsplit H with ⟨hp7, H⟩ | ⟨hp7, H⟩
          · obtain ⟨F, G, hq7⟩ := xH F G hp7
            refine xR ?_
            exact cut_at H (xK ⟨[1], []⟩)
          · obtain ⟨F, G, hq7⟩ := xH F G hp7
            obtain ⟨hg5, H⟩ := gsplit H
            have F := xZ F (map_getD d_Token a0.out_ ((IntKind.i64.wrap ((a0.out_.length : Int) - 2)).toNat) default default (by omega))
            refine xR ?_
            exact cut_at H (xK ⟨[1], []⟩)
  · rintro x1 H
    rw [lex_lexer_path_j1] at H
    rcases bsplit H with ⟨hp1, H⟩ | ⟨hp1, H⟩
    · obtain ⟨F, G, hq1⟩ := xH Y G hp1
      refine xT ?_
      refine xr ?_
      cases H
      exact xN
    · obtain ⟨F, G, hq1⟩ := xH Y G hp1
      refine xE ?_
      obtain ⟨r1, hr1, H⟩ := osplit H
      have F := xC Y (lex_lexer_while_109_c a0 (IntKind.i64.wrap (a0.at_ + 1)) r1 hr1)
      refine xR0 ?_
      refine then_normal ?_
      refine w_seq ?_
      refine w_cut (lex_lexer_path_j2 r1) (fun s => [(4, .c (.d (.v (.int .i64 r1)))), (83, .c (.d (.v (.bool s))))]) (fun s => [[.d (.v (str a0.x_.Text)), .ex w1 (.sl 1 (List.map dI a0.x_.At)), .d (.v (str a0.text_)), .d (.v (.int .i64 a0.file_)), .d (.v (.int .i64 a0.at_)), .ex w5 (.sl 11 (List.map d_Token a0.out_))]]) [] out ?_ ?_
      · rcases bsplit H with ⟨hp3, H⟩ | ⟨hp3, H⟩
        · obtain ⟨F, G, hq3⟩ := xH Y G hp3
          obtain ⟨hg1, H⟩ := gsplit H
          refine xR ?_
          exact cut_at H (xK ⟨[1], []⟩)
        · obtain ⟨F, G, hq3⟩ := xH Y G hp3
          refine xR ?_
          exact cut_at H (xK ⟨[1], []⟩)
      · rintro x2 H
        rw [lex_lexer_path_j2] at H
        rcases bsplit H with ⟨hp2, H⟩ | ⟨hp2, H⟩
        · obtain ⟨F, G, hq2⟩ := xH Y G hp2
          refine xT ?_
          refine xr ?_
          cases H
          exact xN
        · obtain ⟨F, G, hq2⟩ := xH Y G hp2
          refine xE ?_
          refine xr ?_
          cases H
          exact xN
theorem lex_lexer_path_c (a0 : lex_lexer) (r : Int) (H : lex_lexer_path a0 = some r) : MC mf_lex_lexer_path (d_lex_lexer a0).cells [] (e_lex_lexer_path r) (u_lex_lexer_path r) := MF.c (s := a0) (a := ()) H
noncomputable def lex_lexer_sign_j2 (a0 : lex_lexer) (x1 : Int) (x2 : Int) : ((List UInt8) × Bool) → Option ((Int × Int) ⊕ Int)
  | (x3, x4) => if x4 = true then inrO (some (IntKind.i64.wrap (a0.at_ + (x3.length : Int)))) else some (.inl (x1, IntKind.i64.wrap (x2 + 1)))
noncomputable def lex_lexer_sign_b1 (a0 : lex_lexer) (r1 : (List (List UInt8))) : (Int × Int) → Option ((Int × Int) ⊕ Int)
  | (x1, x2) => if (ltI x2 x1) = true then if (0 : Int) ≤ x2 ∧ x2.toNat < r1.length then if (leI ((r1.getD x2.toNat default).length : Int) (IntKind.i64.wrap ((a0.x_.Text.length : Int) - a0.at_))) = true then if (0 : Int) ≤ a0.at_ ∧ a0.at_ ≤ (IntKind.i64.wrap (a0.at_ + ((r1.getD x2.toNat default).length : Int))) ∧ (IntKind.i64.wrap (a0.at_ + ((r1.getD x2.toNat default).length : Int))) ≤ (a0.x_.Text.length : Int) then lex_lexer_sign_j2 a0 x1 x2 ((r1.getD x2.toNat default), eqS (List.take ((IntKind.i64.wrap (a0.at_ + ((r1.getD x2.toNat default).length : Int))).toNat - a0.at_.toNat) (List.drop a0.at_.toNat a0.x_.Text)) (r1.getD x2.toNat default)) else none else lex_lexer_sign_j2 a0 x1 x2 ((r1.getD x2.toNat default), false) else none else inrO (some (-1))
noncomputable def lex_lexer_sign (a0 : lex_lexer) : Option Int :=
  (lex_Signs ).bind fun r1 => loopO (lex_lexer_sign_b1 a0 r1) ((r1.length : Int), 0)
def u_lex_lexer_sign : Int → List (Nat × D) := fun _ => []
def e_lex_lexer_sign : Int → D := dI
noncomputable def mf_lex_lexer_sign : MF := MF.on d_lex_lexer E0 (fun a => lex_lexer_sign a.1) e_lex_lexer_sign u_lex_lexer_sign
set_option maxRecDepth 100000 in
set_option maxHeartbeats 4000000 in
theorem lex_lexer_sign_ok : MethOk Try.prog 85 mf_lex_lexer_sign := by
  refine xM mixed [(40, pf_lex_Signs)] [] ⟨⟨call_40, lex_Signs_ok⟩, trivial⟩ trivial Try.func85 ?_ (hu := by intro s r; simp [usIn, u_lex_lexer_sign, d_lex_lexer, D.cells, List.lookup_cons])
  rintro a0 _ out H xs hxs
  have G := True.intro
  have Y := xZ y_3 <| xZ y_9 <| xZ y_24 <| xZ y_34 <| xZ y_84 <| xZ Try.results85 <| xZ d_Spliced.eq_1 <| xZ d_Call.eq_1 <| xZ d_Token.eq_1 <| xZ d_lex_lexer.eq_1 <| xZ u_lex_lexer_sign.eq_1 <| e_lex_lexer_sign.eq_1
  obtain ⟨w0, w1, w2, w3, w4, w5, rfl⟩ : ∃ w0 w1 w2 w3 w4 w5, xs = [w0, w1, w2, w3, w4, w5] := by
    match xs, hxs with
    | [x0, x1, x2, x3, x4, x5], _ => exact ⟨x0, x1, x2, x3, x4, x5, rfl⟩
  clear hxs
  simp only [lex_lexer_sign] at H
  refine xS ?_
  refine xr ?_
  obtain ⟨r1, hr1, H⟩ := osplit H
  have F := xC Y (lex_Signs_c  r1 hr1)
  refine xR ?_
  refine w_loop (lex_lexer_sign_b1 a0 r1) (fun s => [(0, .c (.pt 1 0)), (5, .c (.d (.sl 1 (List.map dS r1)))), (6, .c (.d (.v (.int .i64 s.1)))), (7, .c (.d (.v (.int .i64 s.2))))]) (fun s => [[.d (.v (str a0.x_.Text)), .ex w1 (.sl 1 (List.map dI a0.x_.At)), .d (.v (str a0.text_)), .d (.v (.int .i64 a0.file_)), .d (.v (.int .i64 a0.at_)), .ex w5 (.sl 11 (List.map d_Token a0.out_))]]) [] H (xK ⟨[1], []⟩) ?_
  rintro n1 ⟨x1, x2⟩ o1 H hF1
  rw [lex_lexer_sign_b1] at H
  refine xS ?_
  refine xr ?_
  rcases bsplit H with ⟨hp1, H⟩ | ⟨hp1, H⟩
  · obtain ⟨F, G, hq1⟩ := xH Y G hp1
    refine xT ?_
    obtain ⟨hg1, H⟩ := gsplit H
    have F := xZ Y (map_getD dS r1 x2.toNat default default (by omega))
    refine xR0 ?_
    refine then_normal ?_
    refine w_cut (lex_lexer_sign_j2 a0 x1 x2) (fun s => [(0, .c (.pt 1 0)), (4, .c (.d (.v (str s.1)))), (5, .c (.d (.sl 1 (List.map dS r1)))), (6, .c (.d (.v (.int .i64 x1)))), (7, .c (.d (.v (.int .i64 x2)))), (45, .c (.d (.v (.bool s.2))))]) (fun s => [[.d (.v (str a0.x_.Text)), .ex w1 (.sl 1 (List.map dI a0.x_.At)), .d (.v (str a0.text_)), .d (.v (.int .i64 a0.file_)), .d (.v (.int .i64 a0.at_)), .ex w5 (.sl 11 (List.map d_Token a0.out_))]]) [] o1 ?_ ?_
    · rcases bsplit H with ⟨hp3, H⟩ | ⟨hp3, H⟩
      · obtain ⟨F, G, hq3⟩ := xH Y G hp3
        obtain ⟨hg2, H⟩ := gsplit H
        refine xR ?_
        exact cut_at H (xK ⟨[1], []⟩)
      · obtain ⟨F, G, hq3⟩ := xH Y G hp3
        refine xR ?_
        exact cut_at H (xK ⟨[1], []⟩)
    · rintro ⟨x3, x4⟩ H
      rw [lex_lexer_sign_j2] at H
      rcases bsplit H with ⟨hp2, H⟩ | ⟨hp2, H⟩
      · obtain ⟨F, G, hq2⟩ := xH Y G hp2
        refine xT ?_
        replace H := inrO_fin H hF1
        refine xr ?_
        cases H
        exact xN
      · obtain ⟨F, G, hq2⟩ := xH Y G hp2
        refine xE ?_
        refine xr ?_
        exact round_at (inl_fin H hF1) (xK ⟨[1], []⟩)
  · obtain ⟨F, G, hq1⟩ := xH Y G hp1
    replace H := inrO_fin H hF1
    refine xE ?_
    refine xr ?_
    cases H
    exact xN
theorem lex_lexer_sign_c (a0 : lex_lexer) (r : Int) (H : lex_lexer_sign a0 = some r) : MC mf_lex_lexer_sign (d_lex_lexer a0).cells [] (e_lex_lexer_sign r) (u_lex_lexer_sign r) := MF.c (s := a0) (a := ()) H
noncomputable def lex_lexer_one_j2 (a0 : lex_lexer) : Bool → Option (Int × Int)
  | x3 => if x3 = true then (lex_lexer_path a0).bind fun r6 => some (7, r6) else (lex_lexer_sign a0).bind fun r7 => if (ltI 0 r7) = true then (lex_lexer_sign a0).bind fun r8 => some (5, r8) else some (6, IntKind.i64.wrap (a0.at_ + 1))
noncomputable def lex_lexer_one_j1 (a0 : lex_lexer) (a1 : Bool) : (UInt8 × Bool) → Option (Int × Int)
  | (x1, x2) => if x2 = true then (lex_lexer_number a0).bind fun r3 => some (2, r3) else if (eqI (x1.toNat : Int) 34) = true then (lex_lexer_quoted a0 x1).bind fun r4 => some (4, r4) else if (eqI (x1.toNat : Int) 39) = true then (lex_lexer_quoted a0 x1).bind fun r5 => some (3, r5) else if (eqI (x1.toNat : Int) 60) = true then if (!a1) = true then (lex_lexer_path a0).bind fun r9 => lex_lexer_one_j2 a0 (ltI 0 r9) else lex_lexer_one_j2 a0 false else lex_lexer_one_j2 a0 false
noncomputable def lex_lexer_one (a0 : lex_lexer) (a1 : Bool) : Option (Int × Int) :=
  if (0 : Int) ≤ a0.at_ ∧ a0.at_.toNat < a0.x_.Text.length then (lex_Letter (a0.x_.Text.getD a0.at_.toNat 0)).bind fun r1 => if r1 = true then (lex_lexer_while_81 a0 a0.at_).bind fun r2 => some (1, r2) else (lex_Digit (a0.x_.Text.getD a0.at_.toNat 0)).bind fun r10 => if r10 = true then lex_lexer_one_j1 a0 a1 ((a0.x_.Text.getD a0.at_.toNat 0), true) else if (eqI ((a0.x_.Text.getD a0.at_.toNat 0).toNat : Int) 46) = true then if (ltI (IntKind.i64.wrap (a0.at_ + 1)) (a0.x_.Text.length : Int)) = true then if (0 : Int) ≤ (IntKind.i64.wrap (a0.at_ + 1)) ∧ (IntKind.i64.wrap (a0.at_ + 1)).toNat < a0.x_.Text.length then (lex_Digit (a0.x_.Text.getD ((IntKind.i64.wrap (a0.at_ + 1)).toNat) 0)).bind fun r11 => lex_lexer_one_j1 a0 a1 ((a0.x_.Text.getD a0.at_.toNat 0), r11) else none else lex_lexer_one_j1 a0 a1 ((a0.x_.Text.getD a0.at_.toNat 0), false) else lex_lexer_one_j1 a0 a1 ((a0.x_.Text.getD a0.at_.toNat 0), false) else none
def u_lex_lexer_one : Int × Int → List (Nat × D) := fun _ => []
def e_lex_lexer_one : Int × Int → D := T2 dI dI
noncomputable def mf_lex_lexer_one : MF := MF.on d_lex_lexer (E1 dB) (fun a => lex_lexer_one a.1 a.2) e_lex_lexer_one u_lex_lexer_one
set_option maxRecDepth 100000 in
set_option maxHeartbeats 4000000 in
theorem lex_lexer_one_ok : MethOk Try.prog 63 mf_lex_lexer_one := by
  refine xM mixed [(42, pf_lex_Letter), (44, pf_lex_Digit)] [(79, mf_lex_lexer_while), (82, mf_lex_lexer_number), (83, mf_lex_lexer_quoted), (84, mf_lex_lexer_path), (85, mf_lex_lexer_sign)] ⟨⟨call_42, lex_Letter_ok⟩, ⟨call_44, lex_Digit_ok⟩, trivial⟩ ⟨⟨call_79, lex_lexer_while_ok⟩, ⟨call_82, lex_lexer_number_ok⟩, ⟨call_83, lex_lexer_quoted_ok⟩, ⟨call_84, lex_lexer_path_ok⟩, ⟨call_85, lex_lexer_sign_ok⟩, trivial⟩ Try.func63 ?_ (hu := by intro s r; simp [usIn, u_lex_lexer_one, d_lex_lexer, D.cells, List.lookup_cons])
  rintro a0 a1 out H xs hxs
  have G := True.intro
  have Y := xZ y_3 <| xZ y_9 <| xZ y_24 <| xZ y_84 <| xZ Try.results63 <| xZ d_Spliced.eq_1 <| xZ d_Call.eq_1 <| xZ d_Token.eq_1 <| xZ d_lex_lexer.eq_1 <| xZ u_lex_lexer_one.eq_1 <| xZ e_lex_lexer_one.eq_1 <| xZ u_lex_lexer_while.eq_1 <| xZ e_lex_lexer_while.eq_1 <| xZ u_lex_lexer_number.eq_1 <| xZ e_lex_lexer_number.eq_1 <| xZ u_lex_lexer_quoted.eq_1 <| xZ e_lex_lexer_quoted.eq_1 <| xZ u_lex_lexer_path.eq_1 <| xZ e_lex_lexer_path.eq_1 <| xZ u_lex_lexer_sign.eq_1 <| e_lex_lexer_sign.eq_1
  obtain ⟨w0, w1, w2, w3, w4, w5, rfl⟩ : ∃ w0 w1 w2 w3 w4 w5, xs = [w0, w1, w2, w3, w4, w5] := by
    match xs, hxs with
    | [x0, x1, x2, x3, x4, x5], _ => exact ⟨x0, x1, x2, x3, x4, x5, rfl⟩
  clear hxs
  simp only [lex_lexer_one] at H
  refine xS ?_
  refine xr ?_
  refine xr ?_
  obtain ⟨hg1, H⟩ := gsplit H
  refine xr ?_
  obtain ⟨r1, hr1, H⟩ := osplit H
  have F := xC Y (lex_Letter_c (a0.x_.Text.getD a0.at_.toNat 0) r1 hr1)
  refine xR ?_
  rcases bsplit H with ⟨hp1, H⟩ | ⟨hp1, H⟩
  · obtain ⟨F, G, hq1⟩ := xH Y G hp1
    refine xT ?_
    obtain ⟨r2, hr2, H⟩ := osplit H
    have F := xC Y (lex_lexer_while_81_c a0 a0.at_ r2 hr2)
    refine xR ?_
    cases H
    exact xN
  · obtain ⟨F, G, hq1⟩ := xH Y G hp1
    refine xE0 ?_
    refine w_cut (lex_lexer_one_j1 a0 a1) (fun s => [(0, .c (.pt 1 0)), (1, .c (.d (.v (.bool a1)))), (7, .c (.d (.v (.int .u8 (s.1.toNat : Int))))), (28, .c (.d (.v (.bool s.2))))]) (fun s => [[.d (.v (str a0.x_.Text)), .ex w1 (.sl 1 (List.map dI a0.x_.At)), .d (.v (str a0.text_)), .d (.v (.int .i64 a0.file_)), .d (.v (.int .i64 a0.at_)), .ex w5 (.sl 11 (List.map d_Token a0.out_))]]) [] out ?_ ?_
    · obtain ⟨r10, hr10, H⟩ := osplit H
      have F := xC Y (lex_Digit_c (a0.x_.Text.getD a0.at_.toNat 0) r10 hr10)
      rcases bsplit H with ⟨hp9, H⟩ | ⟨hp9, H⟩
      · obtain ⟨F, G, hq9⟩ := xH F G hp9
        refine xR ?_
        exact cut_at H (xK ⟨[1], []⟩)
      · obtain ⟨F, G, hq9⟩ := xH F G hp9
        rcases bsplit H with ⟨hp10, H⟩ | ⟨hp10, H⟩
        · obtain ⟨F, G, hq10⟩ := xH F G hp10
          rcases bsplit H with ⟨hp11, H⟩ | ⟨hp11, H⟩
          · obtain ⟨F, G, hq11⟩ := xH F G hp11
            obtain ⟨hg2, H⟩ := gsplit H
            obtain ⟨r11, hr11, H⟩ := osplit H
            have F := xC F (lex_Digit_c (a0.x_.Text.getD ((IntKind.i64.wrap (a0.at_ + 1)).toNat) 0) r11 hr11)
            refine xR ?_
            exact cut_at H (xK ⟨[1], []⟩)
          · obtain ⟨F, G, hq11⟩ := xH F G hp11
            refine xR ?_
            exact cut_at H (xK ⟨[1], []⟩)
        · obtain ⟨F, G, hq10⟩ := xH F G hp10
          refine xR ?_
          exact cut_at H (xK ⟨[1], []⟩)
    · rintro ⟨x1, x2⟩ H
      rw [lex_lexer_one_j1] at H
      rcases bsplit H with ⟨hp2, H⟩ | ⟨hp2, H⟩
      · obtain ⟨F, G, hq2⟩ := xH Y G hp2
        refine xT ?_
        obtain ⟨r3, hr3, H⟩ := osplit H
        have F := xC Y (lex_lexer_number_c a0 r3 hr3)
        refine xR ?_
        cases H
        exact xN
      · obtain ⟨F, G, hq2⟩ := xH Y G hp2
        refine xE ?_
        refine xr ?_
        rcases bsplit H with ⟨hp3, H⟩ | ⟨hp3, H⟩
        · obtain ⟨F, G, hq3⟩ := xH Y G hp3
          refine xT ?_
          obtain ⟨r4, hr4, H⟩ := osplit H
          have F := xC Y (lex_lexer_quoted_c a0 x1 r4 hr4)
          refine xR ?_
          cases H
          exact xN
        · obtain ⟨F, G, hq3⟩ := xH Y G hp3
          refine xE ?_
          refine xr ?_
          rcases bsplit H with ⟨hp4, H⟩ | ⟨hp4, H⟩
          · obtain ⟨F, G, hq4⟩ := xH Y G hp4
            refine xT ?_
            obtain ⟨r5, hr5, H⟩ := osplit H
            have F := xC Y (lex_lexer_quoted_c a0 x1 r5 hr5)
            refine xR ?_
            cases H
            exact xN
          · obtain ⟨F, G, hq4⟩ := xH Y G hp4
            refine xE0 ?_
            refine w_cut (lex_lexer_one_j2 a0) (fun s => [(0, .c (.pt 1 0)), (69, .c (.d (.v (.bool s))))]) (fun s => [[.d (.v (str a0.x_.Text)), .ex w1 (.sl 1 (List.map dI a0.x_.At)), .d (.v (str a0.text_)), .d (.v (.int .i64 a0.file_)), .d (.v (.int .i64 a0.at_)), .ex w5 (.sl 11 (List.map d_Token a0.out_))]]) [] out ?_ ?_
            · rcases bsplit H with ⟨hp7, H⟩ | ⟨hp7, H⟩
              · obtain ⟨F, G, hq7⟩ := xH Y G hp7
                rcases bsplit H with ⟨hp8, H⟩ | ⟨hp8, H⟩
                · obtain ⟨F, G, hq8⟩ := xH F G hp8
                  obtain ⟨r9, hr9, H⟩ := osplit H
                  have F := xC F (lex_lexer_path_c a0 r9 hr9)
                  refine xR ?_
                  exact cut_at H (xK ⟨[1], []⟩)
                · obtain ⟨F, G, hq8⟩ := xH F G hp8
                  refine xR ?_
                  exact cut_at H (xK ⟨[1], []⟩)
              · obtain ⟨F, G, hq7⟩ := xH Y G hp7
                refine xR ?_
                exact cut_at H (xK ⟨[1], []⟩)
            · rintro x3 H
              rw [lex_lexer_one_j2] at H
              rcases bsplit H with ⟨hp5, H⟩ | ⟨hp5, H⟩
              · obtain ⟨F, G, hq5⟩ := xH Y G hp5
                refine xT ?_
                obtain ⟨r6, hr6, H⟩ := osplit H
                have F := xC Y (lex_lexer_path_c a0 r6 hr6)
                refine xR ?_
                cases H
                exact xN
              · obtain ⟨F, G, hq5⟩ := xH Y G hp5
                refine xE ?_
                obtain ⟨r7, hr7, H⟩ := osplit H
                have F := xC Y (lex_lexer_sign_c a0 r7 hr7)
                refine xR ?_
                rcases bsplit H with ⟨hp6, H⟩ | ⟨hp6, H⟩
                · obtain ⟨F, G, hq6⟩ := xH Y G hp6
                  refine xT ?_
                  obtain ⟨r8, hr8, H⟩ := osplit H
                  have F := xC Y (lex_lexer_sign_c a0 r8 hr8)
                  refine xR ?_
                  cases H
                  exact xN
                · obtain ⟨F, G, hq6⟩ := xH Y G hp6
                  refine xE ?_
                  refine xr ?_
                  cases H
                  exact xN
theorem lex_lexer_one_c (a0 : lex_lexer) (a1 : Bool) (r : Int × Int) (H : lex_lexer_one a0 a1 = some r) : MC mf_lex_lexer_one (d_lex_lexer a0).cells [dB a1] (e_lex_lexer_one r) (u_lex_lexer_one r) := MF.c (s := a0) (a := a1) H
end Go.Proofs.Ytgkacglpjmndbaa
