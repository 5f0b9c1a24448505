/- Functions of data for functions of the program: lex_lexer_blank, lex_Tokens. Written by dec.py. -/
import Derived.Test.YtgkacglpjmndbaaQk
namespace Go.Proofs.Ytgkacglpjmndbaa
open Go.RowKit
set_option linter.unusedVariables false
set_option linter.unusedSimpArgs false

noncomputable def lex_lexer_blank_j2 : (Bool × Int) → Option ((Bool × Bool × Int) ⊕ ((Bool × Bool × Bool) × lex_lexer))
  | (x4, x5) => some (.inl (true, x4, x5))
noncomputable def lex_lexer_blank_j4 (x3 : Int) : Bool → Option ((Bool × Bool × Int) ⊕ ((Bool × Bool × Bool) × lex_lexer))
  | x8 => lex_lexer_blank_j2 (x8, IntKind.i64.wrap (x3 + 1))
noncomputable def lex_lexer_blank_j8 (a0 : lex_lexer) (x1 : Bool) (x2 : Bool) (x3 : Int) (x12 : Int) : Bool → Option (Int ⊕ ((Bool × Bool × Int) ⊕ ((Bool × Bool × Bool) × lex_lexer)))
  | x13 => if x13 = true then some (.inl (IntKind.i64.wrap (x12 + 1))) else inrO (if (leI (a0.x_.Text.length : Int) (IntKind.i64.wrap (x12 + 1))) = true then inrO (some ((x1, x2, false), (⟨a0.x_, a0.text_, a0.file_, x3, a0.out_⟩ : lex_lexer))) else lex_lexer_blank_j2 (x2, IntKind.i64.wrap (x12 + 2)))
noncomputable def lex_lexer_blank_b7 (a0 : lex_lexer) (x1 : Bool) (x2 : Bool) (x3 : Int) : Int → Option (Int ⊕ ((Bool × Bool × Int) ⊕ ((Bool × Bool × Bool) × lex_lexer)))
  | x12 => if (ltI (IntKind.i64.wrap (x12 + 1)) (a0.x_.Text.length : Int)) = true then if (0 : Int) ≤ x12 ∧ x12 ≤ (IntKind.i64.wrap (x12 + 2)) ∧ (IntKind.i64.wrap (x12 + 2)) ≤ (a0.x_.Text.length : Int) then lex_lexer_blank_j8 a0 x1 x2 x3 x12 (!eqS (List.take ((IntKind.i64.wrap (x12 + 2)).toNat - x12.toNat) (List.drop x12.toNat a0.x_.Text)) [42, 47]) else none else lex_lexer_blank_j8 a0 x1 x2 x3 x12 false
noncomputable def lex_lexer_blank_j6 (a0 : lex_lexer) (x1 : Bool) (x2 : Bool) (x3 : Int) : Bool → Option ((Bool × Bool × Int) ⊕ ((Bool × Bool × Bool) × lex_lexer))
  | x11 => if x11 = true then loopO (lex_lexer_blank_b7 a0 x1 x2 x3) (IntKind.i64.wrap (x3 + 2)) else inrO (some ((x1, x2, true), (⟨a0.x_, a0.text_, a0.file_, x3, a0.out_⟩ : lex_lexer)))
noncomputable def lex_lexer_blank_j5 (a0 : lex_lexer) (x1 : Bool) (x2 : Bool) (x3 : Int) : (UInt8 × Bool) → Option ((Bool × Bool × Int) ⊕ ((Bool × Bool × Bool) × lex_lexer))
  | (x9, x10) => if x10 = true then (lex_lexer_while_80 (⟨a0.x_, a0.text_, a0.file_, x3, a0.out_⟩ : lex_lexer) x3).bind fun r1 => lex_lexer_blank_j2 (x2, r1) else if (eqI (x9.toNat : Int) 47) = true then if (ltI (IntKind.i64.wrap (x3 + 1)) (a0.x_.Text.length : Int)) = true then if (0 : Int) ≤ (IntKind.i64.wrap (x3 + 1)) ∧ (IntKind.i64.wrap (x3 + 1)).toNat < a0.x_.Text.length then lex_lexer_blank_j6 a0 x1 x2 x3 (eqI ((a0.x_.Text.getD ((IntKind.i64.wrap (x3 + 1)).toNat) 0).toNat : Int) 42) else none else lex_lexer_blank_j6 a0 x1 x2 x3 false else lex_lexer_blank_j6 a0 x1 x2 x3 false
noncomputable def lex_lexer_blank_j3 (a0 : lex_lexer) (x1 : Bool) (x2 : Bool) (x3 : Int) : (UInt8 × Bool) → Option ((Bool × Bool × Int) ⊕ ((Bool × Bool × Bool) × lex_lexer))
  | (x6, x7) => if x7 = true then if x2 = true then lex_lexer_blank_j4 x3 true else lex_lexer_blank_j4 x3 (eqI (x6.toNat : Int) 10) else if (eqI (x6.toNat : Int) 47) = true then if (ltI (IntKind.i64.wrap (x3 + 1)) (a0.x_.Text.length : Int)) = true then if (0 : Int) ≤ (IntKind.i64.wrap (x3 + 1)) ∧ (IntKind.i64.wrap (x3 + 1)).toNat < a0.x_.Text.length then lex_lexer_blank_j5 a0 x1 x2 x3 (x6, eqI ((a0.x_.Text.getD ((IntKind.i64.wrap (x3 + 1)).toNat) 0).toNat : Int) 47) else none else lex_lexer_blank_j5 a0 x1 x2 x3 (x6, false) else lex_lexer_blank_j5 a0 x1 x2 x3 (x6, false)
noncomputable def lex_lexer_blank_b1 (a0 : lex_lexer) : (Bool × Bool × Int) → Option ((Bool × Bool × Int) ⊕ ((Bool × Bool × Bool) × lex_lexer))
  | (x1, x2, x3) => if (ltI x3 (a0.x_.Text.length : Int)) = true then if (0 : Int) ≤ x3 ∧ x3.toNat < a0.x_.Text.length then if (eqI ((a0.x_.Text.getD x3.toNat 0).toNat : Int) 32) = true then lex_lexer_blank_j3 a0 x1 x2 x3 ((a0.x_.Text.getD x3.toNat 0), true) else if (eqI ((a0.x_.Text.getD x3.toNat 0).toNat : Int) 9) = true then lex_lexer_blank_j3 a0 x1 x2 x3 ((a0.x_.Text.getD x3.toNat 0), true) else if (eqI ((a0.x_.Text.getD x3.toNat 0).toNat : Int) 10) = true then lex_lexer_blank_j3 a0 x1 x2 x3 ((a0.x_.Text.getD x3.toNat 0), true) else lex_lexer_blank_j3 a0 x1 x2 x3 ((a0.x_.Text.getD x3.toNat 0), eqI ((a0.x_.Text.getD x3.toNat 0).toNat : Int) 13) else none else inrO (some ((x1, x2, true), (⟨a0.x_, a0.text_, a0.file_, x3, a0.out_⟩ : lex_lexer)))
noncomputable def lex_lexer_blank (a0 : lex_lexer) : Option ((Bool × Bool × Bool) × lex_lexer) :=
  loopO (lex_lexer_blank_b1 a0) (false, false, a0.at_)
def u_lex_lexer_blank : (Bool × Bool × Bool) × lex_lexer → List (Nat × D) := fun r => [(4, .v (.int .i64 r.2.at_))]
def e_lex_lexer_blank : (Bool × Bool × Bool) × lex_lexer → D := fun r => (T3 dB dB dB) r.1
noncomputable def mf_lex_lexer_blank : MF := MF.on d_lex_lexer E0 (fun a => lex_lexer_blank a.1) e_lex_lexer_blank u_lex_lexer_blank
set_option maxRecDepth 100000 in
set_option maxHeartbeats 4000000 in
theorem lex_lexer_blank_ok : MethOk Try.prog 62 mf_lex_lexer_blank := by
  refine xM mixed [] [(79, mf_lex_lexer_while)] trivial ⟨⟨call_79, lex_lexer_while_ok⟩, trivial⟩ Try.func62 ?_ (hu := by intro s r; simp [usIn, u_lex_lexer_blank, d_lex_lexer, D.cells, List.lookup_cons])
  rintro a0 _ out H xs hxs
  have G := True.intro
  have Y := xZ y_3 <| xZ y_9 <| xZ y_24 <| xZ y_84 <| xZ Try.results62 <| xZ d_Spliced.eq_1 <| xZ d_Call.eq_1 <| xZ d_Token.eq_1 <| xZ d_lex_lexer.eq_1 <| xZ u_lex_lexer_blank.eq_1 <| xZ e_lex_lexer_blank.eq_1 <| xZ u_lex_lexer_while.eq_1 <| e_lex_lexer_while.eq_1
  obtain ⟨w0, w1, w2, w3, w4, w5, rfl⟩ : ∃ w0 w1 w2 w3 w4 w5, xs = [w0, w1, w2, w3, w4, w5] := by
    match xs, hxs with
    | [x0, x1, x2, x3, x4, x5], _ => exact ⟨x0, x1, x2, x3, x4, x5, rfl⟩
  clear hxs
  simp only [lex_lexer_blank] at H
  refine xS ?_
  refine xr ?_
  refine xr ?_
  refine w_loop (lex_lexer_blank_b1 a0) (fun s => [(0, .c (.pt 1 0)), (2, .c (.d (.v (.bool s.1)))), (3, .c (.d (.v (.bool s.2.1)))), (5, .c (.d (.v (str a0.x_.Text))))]) (fun s => [[.d (.v (str a0.x_.Text)), .ex w1 (.sl 1 (List.map dI a0.x_.At)), .d (.v (str a0.text_)), .d (.v (.int .i64 a0.file_)), .d (.v (.int .i64 s.2.2)), .ex w5 (.sl 11 (List.map d_Token a0.out_))]]) [] H (xK ⟨[1], []⟩) ?_
  rintro n1 ⟨x1, x2, x3⟩ o1 H hF1
  rw [lex_lexer_blank_b1] at H
  refine xS ?_
  refine xr ?_
  rcases bsplit H with ⟨hp1, H⟩ | ⟨hp1, H⟩
  · obtain ⟨F, G, hq1⟩ := xH Y G hp1
    refine xT0 ?_
    refine w_skip ?_
    refine then_normal ?_
    refine w_block ?_
    refine w_cut lex_lexer_blank_j2 (fun s => [(0, .c (.pt 1 0)), (3, .c (.d (.v (.bool s.1)))), (5, .c (.d (.v (str a0.x_.Text))))]) (fun s => [[.d (.v (str a0.x_.Text)), .ex w1 (.sl 1 (List.map dI a0.x_.At)), .d (.v (str a0.text_)), .d (.v (.int .i64 a0.file_)), .d (.v (.int .i64 s.2)), .ex w5 (.sl 11 (List.map d_Token a0.out_))]]) [] o1 ?_ ?_
    · refine xS ?_
      obtain ⟨hg1, H⟩ := gsplit H
      refine xr0 ?_
      refine then_normal ?_
      refine w_block ?_
      refine w_cut (lex_lexer_blank_j3 a0 x1 x2 x3) (fun s => [(0, .c (.pt 1 0)), (2, .c (.d (.v (.bool x1)))), (3, .c (.d (.v (.bool x2)))), (5, .c (.d (.v (str a0.x_.Text)))), (6, .c (.d (.v (.int .u8 (s.1.toNat : Int))))), (28, .c (.d (.v (.bool s.2))))]) (fun s => [[.d (.v (str a0.x_.Text)), .ex w1 (.sl 1 (List.map dI a0.x_.At)), .d (.v (str a0.text_)), .d (.v (.int .i64 a0.file_)), .d (.v (.int .i64 x3)), .ex w5 (.sl 11 (List.map d_Token a0.out_))]]) [] o1 ?_ ?_
      · rcases bsplit H with ⟨hp13, H⟩ | ⟨hp13, H⟩
        · obtain ⟨F, G, hq13⟩ := xH Y G hp13
          refine xR ?_
          exact cut_at H (xK ⟨[1], []⟩)
        · obtain ⟨F, G, hq13⟩ := xH Y G hp13
          rcases bsplit H with ⟨hp14, H⟩ | ⟨hp14, H⟩
          · obtain ⟨F, G, hq14⟩ := xH F G hp14
            refine xR ?_
            exact cut_at H (xK ⟨[1], []⟩)
          · obtain ⟨F, G, hq14⟩ := xH F G hp14
            rcases bsplit H with ⟨hp15, H⟩ | ⟨hp15, H⟩
            · obtain ⟨F, G, hq15⟩ := xH F G hp15
              refine xR ?_
              exact cut_at H (xK ⟨[1], []⟩)
            · obtain ⟨F, G, hq15⟩ := xH F G hp15
              refine xR ?_
              exact cut_at H (xK ⟨[1], []⟩)
      · rintro ⟨x6, x7⟩ H
        rw [lex_lexer_blank_j3] at H
        rcases bsplit H with ⟨hp2, H⟩ | ⟨hp2, H⟩
        · obtain ⟨F, G, hq2⟩ := xH Y G hp2
          refine xT0 ?_
          refine w_cut (lex_lexer_blank_j4 x3) (fun s => [(0, .c (.pt 1 0)), (3, .c (.d (.v (.bool s)))), (5, .c (.d (.v (str a0.x_.Text))))]) (fun s => [[.d (.v (str a0.x_.Text)), .ex w1 (.sl 1 (List.map dI a0.x_.At)), .d (.v (str a0.text_)), .d (.v (.int .i64 a0.file_)), .d (.v (.int .i64 x3)), .ex w5 (.sl 11 (List.map d_Token a0.out_))]]) [] o1 ?_ ?_
          · rcases bsplit H with ⟨hp3, H⟩ | ⟨hp3, H⟩
            · obtain ⟨F, G, hq3⟩ := xH Y G hp3
              refine xR ?_
              exact cut_at H (xK ⟨[1], []⟩)
            · obtain ⟨F, G, hq3⟩ := xH Y G hp3
              refine xR ?_
              exact cut_at H (xK ⟨[1], []⟩)
          · rintro x8 H
            rw [lex_lexer_blank_j4] at H
            refine xr ?_
            exact cut_at H (xK ⟨[1], []⟩)
        · obtain ⟨F, G, hq2⟩ := xH Y G hp2
          refine xE0 ?_
          refine w_cut (lex_lexer_blank_j5 a0 x1 x2 x3) (fun s => [(0, .c (.pt 1 0)), (2, .c (.d (.v (.bool x1)))), (3, .c (.d (.v (.bool x2)))), (5, .c (.d (.v (str a0.x_.Text)))), (6, .c (.d (.v (.int .u8 (s.1.toNat : Int))))), (55, .c (.d (.v (.bool s.2))))]) (fun s => [[.d (.v (str a0.x_.Text)), .ex w1 (.sl 1 (List.map dI a0.x_.At)), .d (.v (str a0.text_)), .d (.v (.int .i64 a0.file_)), .d (.v (.int .i64 x3)), .ex w5 (.sl 11 (List.map d_Token a0.out_))]]) [] o1 ?_ ?_
          · rcases bsplit H with ⟨hp11, H⟩ | ⟨hp11, H⟩
            · obtain ⟨F, G, hq11⟩ := xH Y G hp11
              rcases bsplit H with ⟨hp12, H⟩ | ⟨hp12, H⟩
              · obtain ⟨F, G, hq12⟩ := xH F G hp12
                obtain ⟨hg4, H⟩ := gsplit H
                refine xR ?_
                exact cut_at H (xK ⟨[1], []⟩)
              · obtain ⟨F, G, hq12⟩ := xH F G hp12
                refine xR ?_
                exact cut_at H (xK ⟨[1], []⟩)
            · obtain ⟨F, G, hq11⟩ := xH Y G hp11
              refine xR ?_
              exact cut_at H (xK ⟨[1], []⟩)
          · rintro ⟨x9, x10⟩ H
            rw [lex_lexer_blank_j5] at H
            rcases bsplit H with ⟨hp4, H⟩ | ⟨hp4, H⟩
            · obtain ⟨F, G, hq4⟩ := xH Y G hp4
              refine xT ?_
              obtain ⟨r1, hr1, H⟩ := osplit H
              have F := xC Y (lex_lexer_while_80_c (⟨a0.x_, a0.text_, a0.file_, x3, a0.out_⟩ : lex_lexer) x3 r1 hr1)
              refine xR ?_
              exact cut_at H (xK ⟨[1], []⟩)
            · obtain ⟨F, G, hq4⟩ := xH Y G hp4
              refine xE0 ?_
              refine w_cut (lex_lexer_blank_j6 a0 x1 x2 x3) (fun s => [(0, .c (.pt 1 0)), (2, .c (.d (.v (.bool x1)))), (3, .c (.d (.v (.bool x2)))), (5, .c (.d (.v (str a0.x_.Text)))), (87, .c (.d (.v (.bool s))))]) (fun s => [[.d (.v (str a0.x_.Text)), .ex w1 (.sl 1 (List.map dI a0.x_.At)), .d (.v (str a0.text_)), .d (.v (.int .i64 a0.file_)), .d (.v (.int .i64 x3)), .ex w5 (.sl 11 (List.map d_Token a0.out_))]]) [] o1 ?_ ?_
              · rcases bsplit H with ⟨hp9, H⟩ | ⟨hp9, H⟩
                · obtain ⟨F, G, hq9⟩ := xH Y G hp9
                  rcases bsplit H with ⟨hp10, H⟩ | ⟨hp10, H⟩
                  · obtain ⟨F, G, hq10⟩ := xH F G hp10
                    obtain ⟨hg3, H⟩ := gsplit H
                    refine xR ?_
                    exact cut_at H (xK ⟨[1], []⟩)
                  · obtain ⟨F, G, hq10⟩ := xH F G hp10
                    refine xR ?_
                    exact cut_at H (xK ⟨[1], []⟩)
                · obtain ⟨F, G, hq9⟩ := xH Y G hp9
                  refine xR ?_
                  exact cut_at H (xK ⟨[1], []⟩)
              · rintro x11 H
                rw [lex_lexer_blank_j6] at H
                rcases bsplit H with ⟨hp5, H⟩ | ⟨hp5, H⟩
                · obtain ⟨F, G, hq5⟩ := xH Y G hp5
                  refine xT ?_
                  refine xr ?_
                  refine w_loop (lex_lexer_blank_b7 a0 x1 x2 x3) (fun s => [(0, .c (.pt 1 0)), (2, .c (.d (.v (.bool x1)))), (3, .c (.d (.v (.bool x2)))), (5, .c (.d (.v (str a0.x_.Text)))), (7, .c (.d (.v (.int .i64 s))))]) (fun s => [[.d (.v (str a0.x_.Text)), .ex w1 (.sl 1 (List.map dI a0.x_.At)), .d (.v (str a0.text_)), .d (.v (.int .i64 a0.file_)), .d (.v (.int .i64 x3)), .ex w5 (.sl 11 (List.map d_Token a0.out_))]]) [] H (xK ⟨[1], []⟩) ?_
                  rintro n2 x12 o2 H hF2
                  rw [lex_lexer_blank_b7] at H
                  refine w_seq ?_
                  refine w_cut (lex_lexer_blank_j8 a0 x1 x2 x3 x12) (fun s => [(0, .c (.pt 1 0)), (2, .c (.d (.v (.bool x1)))), (3, .c (.d (.v (.bool x2)))), (5, .c (.d (.v (str a0.x_.Text)))), (7, .c (.d (.v (.int .i64 x12)))), (127, .c (.d (.v (.bool s))))]) (fun s => [[.d (.v (str a0.x_.Text)), .ex w1 (.sl 1 (List.map dI a0.x_.At)), .d (.v (str a0.text_)), .d (.v (.int .i64 a0.file_)), .d (.v (.int .i64 x3)), .ex w5 (.sl 11 (List.map d_Token a0.out_))]]) [] o2 ?_ ?_
                  · rcases bsplit H with ⟨hp8, H⟩ | ⟨hp8, H⟩
                    · obtain ⟨F, G, hq8⟩ := xH Y G hp8
                      obtain ⟨hg2, H⟩ := gsplit H
                      refine xR ?_
                      exact cut_at H (xK ⟨[1], []⟩)
                    · obtain ⟨F, G, hq8⟩ := xH Y G hp8
                      refine xR ?_
                      exact cut_at H (xK ⟨[1], []⟩)
                  · rintro x13 H
                    rw [lex_lexer_blank_j8] at H
                    rcases bsplit H with ⟨hp6, H⟩ | ⟨hp6, H⟩
                    · obtain ⟨F, G, hq6⟩ := xH Y G hp6
                      refine xT ?_
                      refine xr ?_
                      exact round_at (inl_fin H hF2) (xK ⟨[1], []⟩)
                    · obtain ⟨F, G, hq6⟩ := xH Y G hp6
                      replace H := inrO_fin H hF2
                      refine xE ?_
                      refine xr ?_
                      rcases bsplit H with ⟨hp7, H⟩ | ⟨hp7, H⟩
                      · obtain ⟨F, G, hq7⟩ := xH Y G hp7
                        refine xT ?_
                        replace H := inrO_fin H hF1
                        refine xr ?_
                        cases H
                        exact xN
                      · obtain ⟨F, G, hq7⟩ := xH Y G hp7
                        refine xE ?_
                        refine xr ?_
                        exact cut_at H (xK ⟨[1], []⟩)
                · obtain ⟨F, G, hq5⟩ := xH Y G hp5
                  refine xE ?_
                  replace H := inrO_fin H hF1
                  refine xr ?_
                  cases H
                  exact xN
    · rintro ⟨x4, x5⟩ H
      rw [lex_lexer_blank_j2] at H
      refine xr ?_
      exact round_at (inl_fin H hF1) (xK ⟨[1], []⟩)
  · obtain ⟨F, G, hq1⟩ := xH Y G hp1
    replace H := inrO_fin H hF1
    refine xE ?_
    refine xr ?_
    cases H
    exact xN
theorem lex_lexer_blank_c (a0 : lex_lexer) (r : (Bool × Bool × Bool) × lex_lexer) (H : lex_lexer_blank a0 = some r) : MC mf_lex_lexer_blank (d_lex_lexer a0).cells [] (e_lex_lexer_blank r) (u_lex_lexer_blank r) := MF.c (s := a0) (a := ()) H
noncomputable def lex_Tokens_j2 (a0 : Int) (a1 : List UInt8) (r1 : Spliced) (x2 : List Token) (r2 : (Bool × Bool × Bool) × lex_lexer) : Bool → Option ((Int × (List Token)) ⊕ ((List Token) × Fault))
  | x3 => (splice_Where r1 r2.2.at_).bind fun r4 => (lex_lexer_one (⟨r1, a1, a0, r2.2.at_, x2⟩ : lex_lexer) x3).bind fun r5 => if (ltI r5.2 0) = true then inrO (some (([] : List Token), (⟨9, a0, r4⟩ : Fault))) else if (0 : Int) ≤ r2.2.at_ ∧ r2.2.at_ ≤ r5.2 ∧ r5.2 ≤ (r1.Text.length : Int) then (splice_Where r1 (IntKind.i64.wrap (r5.2 - 1))).bind fun r6 => (splice_Lines a1 r4).bind fun r7 => if (x2.length + [(⟨r5.1, List.take (r5.2.toNat - r2.2.at_.toNat) (List.drop r2.2.at_.toNat r1.Text), r2.1.1, x3, a0, r4, IntKind.i64.wrap (r6 + 1), r7, ([] : List (List UInt8)), ([] : List Call), 0⟩ : Token)].length) * 120 ≤ 140737488355328 then some (.inl (r5.2, x2 ++ [(⟨r5.1, List.take (r5.2.toNat - r2.2.at_.toNat) (List.drop r2.2.at_.toNat r1.Text), r2.1.1, x3, a0, r4, IntKind.i64.wrap (r6 + 1), r7, ([] : List (List UInt8)), ([] : List Call), 0⟩ : Token)])) else none else none
noncomputable def lex_Tokens_b1 (a0 : Int) (a1 : List UInt8) (r1 : Spliced) : (Int × (List Token)) → Option ((Int × (List Token)) ⊕ ((List Token) × Fault))
  | (x1, x2) => (lex_lexer_blank (⟨r1, a1, a0, x1, x2⟩ : lex_lexer)).bind fun r2 => if (!r2.1.2.2) = true then (splice_Where r1 r2.2.at_).bind fun r3 => inrO (some (([] : List Token), (⟨9, a0, r3⟩ : Fault))) else if (eqI r2.2.at_ (r1.Text.length : Int)) = true then inrO (some (x2, (⟨0, (-1), 0⟩ : Fault))) else if (eqI (x2.length : Int) 0) = true then lex_Tokens_j2 a0 a1 r1 x2 r2 true else lex_Tokens_j2 a0 a1 r1 x2 r2 r2.1.2.1
noncomputable def lex_Tokens (a0 : Int) (a1 : List UInt8) : Option ((List Token) × Fault) :=
  if (ltI 3000 (a1.length : Int)) = true then some (([] : List Token), (⟨4, a0, 0⟩ : Fault)) else (splice_Text a1).bind fun r1 => loopO (lex_Tokens_b1 a0 a1 r1) (0, ([] : List Token))
noncomputable def pf_lex_Tokens : PF := PF.of (E2 dI dS) (fun a => lex_Tokens a.1 a.2) (T2 (dL 11 d_Token) d_Fault)
set_option maxRecDepth 100000 in
set_option maxHeartbeats 4000000 in
theorem lex_Tokens_ok : PureOk Try.prog 30 pf_lex_Tokens := by
  refine xF mixed [(15, pf_splice_Text), (19, pf_splice_Where), (17, pf_splice_Lines)] [(62, mf_lex_lexer_blank), (63, mf_lex_lexer_one)] ⟨⟨call_15, splice_Text_ok⟩, ⟨call_19, splice_Where_ok⟩, ⟨call_17, splice_Lines_ok⟩, trivial⟩ ⟨⟨call_62, lex_lexer_blank_ok⟩, ⟨call_63, lex_lexer_one_ok⟩, trivial⟩ Try.func30 ?_
  rintro ⟨a0, a1⟩ out H
  have G := True.intro
  have Y := xZ y_3 <| xZ y_4 <| xZ y_9 <| xZ y_24 <| xZ y_33 <| xZ y_34 <| xZ y_35 <| xZ y_37 <| xZ y_49 <| xZ y_51 <| xZ y_84 <| xZ Try.results30 <| xZ d_Spliced.eq_1 <| xZ d_Call.eq_1 <| xZ d_Token.eq_1 <| xZ d_Fault.eq_1 <| xZ d_lex_lexer.eq_1 <| xZ u_lex_lexer_blank.eq_1 <| xZ e_lex_lexer_blank.eq_1 <| xZ u_lex_lexer_one.eq_1 <| e_lex_lexer_one.eq_1
  simp only [lex_Tokens] at H
  refine xS ?_
  refine xr ?_
  refine xr ?_
  rcases bsplit H with ⟨hp1, H⟩ | ⟨hp1, H⟩
  · obtain ⟨F, G, hq1⟩ := xH Y G hp1
    refine xT ?_
    refine xr ?_
    cases H
    exact xN
  · obtain ⟨F, G, hq1⟩ := xH Y G hp1
    refine xE ?_
    obtain ⟨r1, hr1, H⟩ := osplit H
    have F := xC Y (splice_Text_c a1 r1 hr1)
    refine xR ?_
    refine w_loop (lex_Tokens_b1 a0 a1 r1) (fun s => [(0, .c (.d (.v (.int .i64 a0)))), (1, .c (.d (.v (str a1)))), (5, .c (.pt 1 0)), (6, .c (.pt 2 0))]) (fun s => [[.d (.v (.int .i64 0)), .d (.v (.int .i64 0)), .d (.v (.int .i64 0))], [.d (.v (str r1.Text)), .d (.sl 1 (List.map dI r1.At)), .d (.v (str a1)), .d (.v (.int .i64 a0)), .d (.v (.int .i64 s.1)), .sl 11 (List.map d_Token s.2) 3]]) [37] H (xK ⟨[1,2], [0]⟩) ?_
    rintro n1 ⟨x1, x2⟩ o1 H hF1
    rw [lex_Tokens_b1] at H
    refine xS ?_
    obtain ⟨r2, hr2, H⟩ := osplit H
    have F := xC Y (lex_lexer_blank_c (⟨r1, a1, a0, x1, x2⟩ : lex_lexer) r2 hr2)
    refine xR ?_
    refine xr ?_
    rcases bsplit H with ⟨hp2, H⟩ | ⟨hp2, H⟩
    · obtain ⟨F, G, hq2⟩ := xH Y G hp2
      refine xT ?_
      obtain ⟨r3, hr3, H⟩ := osplit H
      have F := xC Y (splice_Where_c r1 r2.2.at_ r3 hr3)
      replace H := inrO_fin H hF1
      refine xR ?_
      cases H
      exact xN
    · obtain ⟨F, G, hq2⟩ := xH Y G hp2
      refine xE ?_
      refine xr ?_
      rcases bsplit H with ⟨hp3, H⟩ | ⟨hp3, H⟩
      · obtain ⟨F, G, hq3⟩ := xH Y G hp3
        refine xT ?_
        replace H := inrO_fin H hF1
        refine xr ?_
        cases H
        exact xN
      · obtain ⟨F, G, hq3⟩ := xH Y G hp3
        refine xE0 ?_
        refine w_skip ?_
        refine then_normal ?_
        refine w_cut (lex_Tokens_j2 a0 a1 r1 x2 r2) (fun s => [(0, .c (.d (.v (.int .i64 a0)))), (1, .c (.d (.v (str a1)))), (5, .c (.pt 1 0)), (6, .c (.pt 2 0)), (7, .c (.d (.v (.bool r2.1.1)))), (10, .c (.d (.v (.bool s))))]) (fun s => [[.d (.v (.int .i64 0)), .d (.v (.int .i64 0)), .d (.v (.int .i64 0))], [.d (.v (str r1.Text)), .d (.sl 1 (List.map dI r1.At)), .d (.v (str a1)), .d (.v (.int .i64 a0)), .d (.v (.int .i64 r2.2.at_)), .sl 11 (List.map d_Token x2) 3]]) [37] o1 ?_ ?_
        · rcases bsplit H with ⟨hp5, H⟩ | ⟨hp5, H⟩
          · obtain ⟨F, G, hq5⟩ := xH Y G hp5
            refine xR ?_
            exact cut_at H (xK ⟨[1,2], [3]⟩)
          · obtain ⟨F, G, hq5⟩ := xH Y G hp5
            refine xR ?_
            exact cut_at H (xK ⟨[1,2], [3]⟩)
        · rintro x3 H
          rw [lex_Tokens_j2] at H
          refine xS ?_
          obtain ⟨r4, hr4, H⟩ := osplit H
          have F := xC Y (splice_Where_c r1 r2.2.at_ r4 hr4)
          refine xR ?_
          obtain ⟨r5, hr5, H⟩ := osplit H
          have F := xC Y (lex_lexer_one_c (⟨r1, a1, a0, r2.2.at_, x2⟩ : lex_lexer) x3 r5 hr5)
          refine xR ?_
          refine xr ?_
          rcases bsplit H with ⟨hp4, H⟩ | ⟨hp4, H⟩
          · obtain ⟨F, G, hq4⟩ := xH Y G hp4
            refine xT ?_
            replace H := inrO_fin H hF1
            refine xr ?_
            cases H
            exact xN
          · obtain ⟨F, G, hq4⟩ := xH Y G hp4
            refine xE ?_
            obtain ⟨hg1, H⟩ := gsplit H
            obtain ⟨r6, hr6, H⟩ := osplit H
            have F := xC Y (splice_Where_c r1 (IntKind.i64.wrap (r5.2 - 1)) r6 hr6)
            obtain ⟨r7, hr7, H⟩ := osplit H
            have F := xC F (splice_Lines_c a1 r4 r7 hr7)
            obtain ⟨hg2, H⟩ := gsplit H
            have F := xZ F (all_map one_Token [(⟨r5.1, List.take (r5.2.toNat - r2.2.at_.toNat) (List.drop r2.2.at_.toNat r1.Text), r2.1.1, x3, a0, r4, IntKind.i64.wrap (r6 + 1), r7, ([] : List (List UInt8)), ([] : List Call), 0⟩ : Token)])
            refine xR ?_
            refine xr ?_
            exact round_at (inl_fin H hF1) (xK ⟨[1,2], [4]⟩)
theorem lex_Tokens_c (a0 : Int) (a1 : List UInt8) (r : (List Token) × Fault) (H : lex_Tokens a0 a1 = some r) : PC pf_lex_Tokens [dI a0, dS a1] (T2 (dL 11 d_Token) d_Fault r) := PF.c (a := (a0, a1)) H
end Go.Proofs.Ytgkacglpjmndbaa
