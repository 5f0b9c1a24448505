/- Functions of data for functions of the program. Written by dec3.py. -/
import Derived.Test.YtppomhjhokbacaaZbaq
set_option linter.unusedVariables false
set_option linter.unusedSimpArgs false
namespace Go.Proofs.Ytppomhjhokbacaa
open Go.RowKit
noncomputable def preref1_Splice_j2 (x2 : List UInt8) : (Int × (List UInt8) × (List Int)) → Option ((Int × (List UInt8) × (List UInt8) × (List Int)) ⊕ Spliced)
  | (x5, x6, x7) => some (.inl (IntKind.i64.wrap (x5 + 1), x2, x6, x7))
noncomputable def preref1_Splice_j5 (x1 : Int) (x2 : List UInt8) (x3 : List UInt8) (x4 : List Int) (x8 : List UInt8) : Bool → Option ((Int × (List UInt8) × (List UInt8) × (List Int)) ⊕ Spliced)
  | x11 => if x11 = true then preref1_Splice_j2 x2 (x1, x3, x4) else if (0 : Int) ≤ 0 ∧ 0 ≤ 1 ∧ 1 ≤ (x8.length : Int) then if x3.length + (List.take 1 x8).length ≤ 9223372036854775807 then if (x4.length + [x1].length) * 8 ≤ 140737488355328 then preref1_Splice_j2 x2 (x1, x3 ++ (List.take 1 x8), x4 ++ [x1]) else none else none else none
noncomputable def preref1_Splice_j4 (x1 : Int) (x2 : List UInt8) (x3 : List UInt8) (x4 : List Int) (x8 : List UInt8) : Bool → Option ((Int × (List UInt8) × (List UInt8) × (List Int)) ⊕ Spliced)
  | x10 => if x10 = true then preref1_Splice_j2 x2 (IntKind.i64.wrap (x1 + 2), x3, x4) else if (ltI 1 (x8.length : Int)) = true then if 0 < x8.length then if (eqI ((x8.getD 0 0).toNat : Int) 13) = true then if 1 < x8.length then preref1_Splice_j5 x1 x2 x3 x4 x8 (eqI ((x8.getD 1 0).toNat : Int) 10) else none else preref1_Splice_j5 x1 x2 x3 x4 x8 false else none else preref1_Splice_j5 x1 x2 x3 x4 x8 false
noncomputable def preref1_Splice_j3 (x1 : Int) (x2 : List UInt8) (x3 : List UInt8) (x4 : List Int) : ((List UInt8) × Bool) → Option ((Int × (List UInt8) × (List UInt8) × (List Int)) ⊕ Spliced)
  | (x8, x9) => if x9 = true then preref1_Splice_j2 x2 (IntKind.i64.wrap (x1 + 1), x3, x4) else if (ltI 2 (x8.length : Int)) = true then if 0 < x8.length then if (eqI ((x8.getD 0 0).toNat : Int) 92) = true then if 1 < x8.length then if (eqI ((x8.getD 1 0).toNat : Int) 13) = true then if 2 < x8.length then preref1_Splice_j4 x1 x2 x3 x4 x8 (eqI ((x8.getD 2 0).toNat : Int) 10) else none else preref1_Splice_j4 x1 x2 x3 x4 x8 false else none else preref1_Splice_j4 x1 x2 x3 x4 x8 false else none else preref1_Splice_j4 x1 x2 x3 x4 x8 false
noncomputable def preref1_Splice_b1 (a0 : List UInt8) : (Int × (List UInt8) × (List UInt8) × (List Int)) → Option ((Int × (List UInt8) × (List UInt8) × (List Int)) ⊕ Spliced)
  | (x1, x2, x3, x4) => if (ltI x1 (a0.length : Int)) = true then if (0 : Int) ≤ x1 ∧ x1 ≤ (a0.length : Int) ∧ (a0.length : Int) ≤ (a0.length : Int) then if (ltI 1 ((List.drop x1.toNat a0).length : Int)) = true then if 0 < (List.drop x1.toNat a0).length then if (eqI (((List.drop x1.toNat a0).getD 0 0).toNat : Int) 92) = true then if 1 < (List.drop x1.toNat a0).length then preref1_Splice_j3 x1 x2 x3 x4 (List.drop x1.toNat a0, eqI (((List.drop x1.toNat a0).getD 1 0).toNat : Int) 10) else none else preref1_Splice_j3 x1 x2 x3 x4 (List.drop x1.toNat a0, false) else none else preref1_Splice_j3 x1 x2 x3 x4 (List.drop x1.toNat a0, false) else none else inrO (if (x4.length + [(a0.length : Int)].length) * 8 ≤ 140737488355328 then some (⟨x3, x4 ++ [(a0.length : Int)]⟩ : Spliced) else none)
noncomputable def preref1_Splice (a0 : List UInt8) : Option Spliced :=
  loopO (preref1_Splice_b1 a0) (0, [], [], ([] : List Int))
noncomputable def pf_preref1_Splice : PF := PF.of (E1 dS) (fun a => preref1_Splice a) d_Spliced
set_option maxRecDepth 100000 in
set_option maxHeartbeats 4000000 in
theorem preref1_Splice_ok : PureOk Try.prog 15 pf_preref1_Splice := by
  refine xF mixed [] [] trivial trivial Try.func15 ?_
  rintro a0 out H
  have G := True.intro
  have Y := xZ y_3 <| xZ y_9 <| xZ y_53 <| xZ y_55 <| xZ Try.results15 <| d_Spliced.eq_1
  simp only [preref1_Splice] at H
  refine xS ?_
  refine xr ?_
  refine xr ?_
  refine xr ?_
  refine w_loop (preref1_Splice_b1 a0) (fun s => [(0, .c (.d (.v (str a0)))), (2, .c (.pt 1 0)), (3, .c (.pt 2 0)), (4, .c (.d (.v (.int .i64 s.1))))]) (fun s => [[.d (.v (str s.2.1)), .sl 1 [] 0], [.d (.v (str s.2.2.1)), .sl 1 (List.map dI s.2.2.2) 3]]) [3] H (xK ⟨[1,2], [0]⟩) ?_
  rintro n1 ⟨x1, x2, x3, x4⟩ o1 H hF1
  rw [preref1_Splice_b1] at H
  refine xS ?_
  refine xr ?_
  rcases bsplit H with ⟨hp1, H⟩ | ⟨hp1, H⟩
  · obtain ⟨F, G, hq1⟩ := xH Y G hp1
    refine xT0 ?_
    refine w_skip ?_
    refine then_normal ?_
    refine w_cut (preref1_Splice_j2 x2) (fun s => [(0, .c (.d (.v (str a0)))), (2, .c (.pt 1 0)), (3, .c (.pt 2 0)), (4, .c (.d (.v (.int .i64 s.1))))]) (fun s => [[.d (.v (str x2)), .sl 1 [] 0], [.d (.v (str s.2.1)), .sl 1 (List.map dI s.2.2) 3]]) [3] o1 ?_ ?_
    · refine xS ?_
      obtain ⟨hg1, H⟩ := gsplit H
      refine xr0 ?_
      refine then_normal ?_
      refine w_seq ?_
      refine w_cut (preref1_Splice_j3 x1 x2 x3 x4) (fun s => [(0, .c (.d (.v (str a0)))), (2, .c (.pt 1 0)), (3, .c (.pt 2 0)), (4, .c (.d (.v (.int .i64 x1)))), (5, .c (.d (.v (str s.1)))), (27, .c (.d (.v (.bool s.2))))]) (fun s => [[.d (.v (str x2)), .sl 1 [] 0], [.d (.v (str x3)), .sl 1 (List.map dI x4) 3]]) [3] o1 ?_ ?_
      · rcases bsplit H with ⟨hp10, H⟩ | ⟨hp10, H⟩
        · obtain ⟨F, G, hq10⟩ := xH Y G hp10
          obtain ⟨hg10, H⟩ := gsplit H
          rcases bsplit H with ⟨hp11, H⟩ | ⟨hp11, H⟩
          · obtain ⟨F, G, hq11⟩ := xH F G hp11
            obtain ⟨hg11, H⟩ := gsplit H
            refine xR ?_
            exact cut_at H (xK ⟨[1,2], [3]⟩)
          · obtain ⟨F, G, hq11⟩ := xH F G hp11
            refine xR ?_
            exact cut_at H (xK ⟨[1,2], [3]⟩)
        · obtain ⟨F, G, hq10⟩ := xH Y G hp10
          refine xR ?_
          exact cut_at H (xK ⟨[1,2], [3]⟩)
      · rintro ⟨x8, x9⟩ H
        rw [preref1_Splice_j3] at H
        rcases bsplit H with ⟨hp2, H⟩ | ⟨hp2, H⟩
        · obtain ⟨F, G, hq2⟩ := xH Y G hp2
          refine xT ?_
          refine xr ?_
          exact cut_at H (xK ⟨[1,2], [3]⟩)
        · obtain ⟨F, G, hq2⟩ := xH Y G hp2
          refine xE0 ?_
          refine w_skip ?_
          refine then_normal ?_
          refine w_seq ?_
          refine w_cut (preref1_Splice_j4 x1 x2 x3 x4 x8) (fun s => [(0, .c (.d (.v (str a0)))), (2, .c (.pt 1 0)), (3, .c (.pt 2 0)), (4, .c (.d (.v (.int .i64 x1)))), (5, .c (.d (.v (str x8)))), (47, .c (.d (.v (.bool s))))]) (fun s => [[.d (.v (str x2)), .sl 1 [] 0], [.d (.v (str x3)), .sl 1 (List.map dI x4) 3]]) [3] o1 ?_ ?_
          · rcases bsplit H with ⟨hp7, H⟩ | ⟨hp7, H⟩
            · obtain ⟨F, G, hq7⟩ := xH Y G hp7
              obtain ⟨hg7, H⟩ := gsplit H
              rcases bsplit H with ⟨hp8, H⟩ | ⟨hp8, H⟩
              · obtain ⟨F, G, hq8⟩ := xH F G hp8
                obtain ⟨hg8, H⟩ := gsplit H
                rcases bsplit H with ⟨hp9, H⟩ | ⟨hp9, H⟩
                · obtain ⟨F, G, hq9⟩ := xH F G hp9
                  obtain ⟨hg9, H⟩ := gsplit H
                  refine xR ?_
                  exact cut_at H (xK ⟨[1,2], [3]⟩)
                · obtain ⟨F, G, hq9⟩ := xH F G hp9
                  refine xR ?_
                  exact cut_at H (xK ⟨[1,2], [3]⟩)
              · obtain ⟨F, G, hq8⟩ := xH F G hp8
                refine xR ?_
                exact cut_at H (xK ⟨[1,2], [3]⟩)
            · obtain ⟨F, G, hq7⟩ := xH Y G hp7
              refine xR ?_
              exact cut_at H (xK ⟨[1,2], [3]⟩)
          · rintro x10 H
            rw [preref1_Splice_j4] at H
            rcases bsplit H with ⟨hp3, H⟩ | ⟨hp3, H⟩
            · obtain ⟨F, G, hq3⟩ := xH Y G hp3
              refine xT ?_
              refine xr ?_
              exact cut_at H (xK ⟨[1,2], [3]⟩)
            · obtain ⟨F, G, hq3⟩ := xH Y G hp3
              refine xE0 ?_
              refine w_skip ?_
              refine then_normal ?_
              refine w_seq ?_
              refine w_cut (preref1_Splice_j5 x1 x2 x3 x4 x8) (fun s => [(0, .c (.d (.v (str a0)))), (2, .c (.pt 1 0)), (3, .c (.pt 2 0)), (4, .c (.d (.v (.int .i64 x1)))), (5, .c (.d (.v (str x8)))), (62, .c (.d (.v (.bool s))))]) (fun s => [[.d (.v (str x2)), .sl 1 [] 0], [.d (.v (str x3)), .sl 1 (List.map dI x4) 3]]) [3] o1 ?_ ?_
              · rcases bsplit H with ⟨hp5, H⟩ | ⟨hp5, H⟩
                · obtain ⟨F, G, hq5⟩ := xH Y G hp5
                  obtain ⟨hg5, H⟩ := gsplit H
                  rcases bsplit H with ⟨hp6, H⟩ | ⟨hp6, H⟩
                  · obtain ⟨F, G, hq6⟩ := xH F G hp6
                    obtain ⟨hg6, H⟩ := gsplit H
                    refine xR ?_
                    exact cut_at H (xK ⟨[1,2], [3]⟩)
                  · obtain ⟨F, G, hq6⟩ := xH F G hp6
                    refine xR ?_
                    exact cut_at H (xK ⟨[1,2], [3]⟩)
                · obtain ⟨F, G, hq5⟩ := xH Y G hp5
                  refine xR ?_
                  exact cut_at H (xK ⟨[1,2], [3]⟩)
              · rintro x11 H
                rw [preref1_Splice_j5] at H
                rcases bsplit H with ⟨hp4, H⟩ | ⟨hp4, H⟩
                · obtain ⟨F, G, hq4⟩ := xH Y G hp4
                  refine xT ?_
                  exact cut_at H (xK ⟨[1,2], [3]⟩)
                · obtain ⟨F, G, hq4⟩ := xH Y G hp4
                  refine xE ?_
                  obtain ⟨hg2, H⟩ := gsplit H
                  obtain ⟨hg3, H⟩ := gsplit H
                  refine xr ?_
                  obtain ⟨hg4, H⟩ := gsplit H
                  have F := xZ Y (all_map one_dI [x1])
                  refine xR ?_
                  exact cut_at H (xK ⟨[1,2], [4]⟩)
    · rintro ⟨x5, x6, x7⟩ H
      rw [preref1_Splice_j2] at H
      refine xr ?_
      exact round_at (inl_fin H hF1) (xK ⟨[1,2], [3]⟩)
  · obtain ⟨F, G, hq1⟩ := xH Y G hp1
    replace H := inrO_fin H hF1
    refine xE ?_
    obtain ⟨hg12, H⟩ := gsplit H
    have F := xZ Y (all_map one_dI [(a0.length : Int)])
    refine xR ?_
    replace H := Option.some.inj H
    refine xr ?_
    subst H
    exact xN
theorem preref1_Splice_c (a0 : List UInt8) (r : Spliced) (H : preref1_Splice a0 = some r) : PC pf_preref1_Splice [dS a0] (d_Spliced r) := PF.c (a := a0) H
noncomputable def preref1_Skip_j5 (x2 : Bool) (x7 : Int) : Bool → Option (Int ⊕ ((Int × Bool) ⊕ (Int × Bool)))
  | x8 => if x8 = true then some (.inl (IntKind.i64.wrap (x7 + 1))) else inrO (some (.inl (x7, x2)))
noncomputable def preref1_Skip_b4 (a0 : List UInt8) (x2 : Bool) : Int → Option (Int ⊕ ((Int × Bool) ⊕ (Int × Bool)))
  | x7 => if (ltI x7 (a0.length : Int)) = true then if (0 : Int) ≤ x7 ∧ x7.toNat < a0.length then preref1_Skip_j5 x2 x7 (!eqI ((a0.getD x7.toNat 0).toNat : Int) 10) else none else preref1_Skip_j5 x2 x7 false
noncomputable def preref1_Skip_j7 (a0 : List UInt8) (x1 : Int) (x2 : Bool) (x9 : Int) : Bool → Option (Int ⊕ ((Int × Bool) ⊕ (Int × Bool)))
  | x10 => if x10 = true then some (.inl (IntKind.i64.wrap (x9 + 1))) else inrO (if (leI (a0.length : Int) (IntKind.i64.wrap (x9 + 1))) = true then inrO (some (IntKind.i64.wrap ((-1) - x1), x2)) else some (.inl (IntKind.i64.wrap (x9 + 2), x2)))
noncomputable def preref1_Skip_b6 (a0 : List UInt8) (x1 : Int) (x2 : Bool) : Int → Option (Int ⊕ ((Int × Bool) ⊕ (Int × Bool)))
  | x9 => if (ltI (IntKind.i64.wrap (x9 + 1)) (a0.length : Int)) = true then if (0 : Int) ≤ x9 ∧ x9 ≤ (IntKind.i64.wrap (x9 + 2)) ∧ (IntKind.i64.wrap (x9 + 2)) ≤ (a0.length : Int) then preref1_Skip_j7 a0 x1 x2 x9 (!eqS (List.take ((IntKind.i64.wrap (x9 + 2)).toNat - x9.toNat) (List.drop x9.toNat a0)) [42, 47]) else none else preref1_Skip_j7 a0 x1 x2 x9 false
noncomputable def preref1_Skip_j3 (a0 : List UInt8) (x1 : Int) (x2 : Bool) (x4 : List UInt8) : (UInt8 × Bool) → Option ((Int × Bool) ⊕ (Int × Bool))
  | (x5, x6) => if x6 = true then some (.inl (IntKind.i64.wrap (x1 + 1), x2)) else if (eqI (x5.toNat : Int) 10) = true then some (.inl (IntKind.i64.wrap (x1 + 1), true)) else if (eqS x4 [47, 47]) = true then loopO (preref1_Skip_b4 a0 x2) x1 else if (eqS x4 [47, 42]) = true then loopO (preref1_Skip_b6 a0 x1 x2) (IntKind.i64.wrap (x1 + 2)) else inrO (some (x1, x2))
noncomputable def preref1_Skip_j2 (a0 : List UInt8) (x1 : Int) (x2 : Bool) : (UInt8 × (List UInt8)) → Option ((Int × Bool) ⊕ (Int × Bool))
  | (x3, x4) => if (eqI (x3.toNat : Int) 32) = true then preref1_Skip_j3 a0 x1 x2 x4 (x3, true) else if (eqI (x3.toNat : Int) 9) = true then preref1_Skip_j3 a0 x1 x2 x4 (x3, true) else preref1_Skip_j3 a0 x1 x2 x4 (x3, eqI (x3.toNat : Int) 13)
noncomputable def preref1_Skip_b1 (a0 : List UInt8) : (Int × Bool) → Option ((Int × Bool) ⊕ (Int × Bool))
  | (x1, x2) => if (ltI x1 (a0.length : Int)) = true then if (0 : Int) ≤ x1 ∧ x1.toNat < a0.length then if (ltI (IntKind.i64.wrap (x1 + 1)) (a0.length : Int)) = true then if (0 : Int) ≤ x1 ∧ x1 ≤ (IntKind.i64.wrap (x1 + 2)) ∧ (IntKind.i64.wrap (x1 + 2)) ≤ (a0.length : Int) then preref1_Skip_j2 a0 x1 x2 ((a0.getD x1.toNat 0), List.take ((IntKind.i64.wrap (x1 + 2)).toNat - x1.toNat) (List.drop x1.toNat a0)) else none else preref1_Skip_j2 a0 x1 x2 ((a0.getD x1.toNat 0), []) else none else inrO (some (x1, x2))
noncomputable def preref1_Skip (a0 : List UInt8) : Option (Int × Bool) :=
  loopO (preref1_Skip_b1 a0) (0, false)
noncomputable def pf_preref1_Skip : PF := PF.of (E1 dS) (fun a => preref1_Skip a) (T2 dI dB)
set_option maxRecDepth 100000 in
set_option maxHeartbeats 4000000 in
theorem preref1_Skip_ok : PureOk Try.prog 16 pf_preref1_Skip := by
  refine xF mixed [] [] trivial trivial Try.func16 ?_
  rintro a0 out H
  have G := True.intro
  have Y := xZ y_9 <| Try.results16
  simp only [preref1_Skip] at H
  refine xS ?_
  refine xr ?_
  refine xr ?_
  refine w_loop (preref1_Skip_b1 a0) (fun s => [(0, .c (.d (.v (str a0)))), (4, .c (.d (.v (.int .i64 s.1)))), (5, .c (.d (.v (.bool s.2))))]) (fun s => []) [] H (xK ⟨[], []⟩) ?_
  rintro n1 ⟨x1, x2⟩ o1 H hF1
  rw [preref1_Skip_b1] at H
  refine xS ?_
  refine xr ?_
  rcases bsplit H with ⟨hp1, H⟩ | ⟨hp1, H⟩
  · obtain ⟨F, G, hq1⟩ := xH Y G hp1
    refine xT ?_
    obtain ⟨hg1, H⟩ := gsplit H
    refine xr ?_
    refine xr0 ?_
    refine then_normal ?_
    refine w_cut (preref1_Skip_j2 a0 x1 x2) (fun s => [(0, .c (.d (.v (str a0)))), (4, .c (.d (.v (.int .i64 x1)))), (5, .c (.d (.v (.bool x2)))), (6, .c (.d (.v (.int .u8 (s.1.toNat : Int))))), (7, .c (.d (.v (str s.2))))]) (fun s => []) [] o1 ?_ ?_
    · refine xS ?_
      refine xr ?_
      rcases bsplit H with ⟨hp13, H⟩ | ⟨hp13, H⟩
      · obtain ⟨F, G, hq13⟩ := xH Y G hp13
        refine xT ?_
        obtain ⟨hg4, H⟩ := gsplit H
        refine xr ?_
        exact cut_at H (xK ⟨[], []⟩)
      · obtain ⟨F, G, hq13⟩ := xH Y G hp13
        refine xE ?_
        exact cut_at H (xK ⟨[], []⟩)
    · rintro ⟨x3, x4⟩ H
      rw [preref1_Skip_j2] at H
      refine w_block ?_
      refine w_cut (preref1_Skip_j3 a0 x1 x2 x4) (fun s => [(0, .c (.d (.v (str a0)))), (4, .c (.d (.v (.int .i64 x1)))), (5, .c (.d (.v (.bool x2)))), (6, .c (.d (.v (.int .u8 (s.1.toNat : Int))))), (7, .c (.d (.v (str x4)))), (28, .c (.d (.v (.bool s.2))))]) (fun s => []) [] o1 ?_ ?_
      · rcases bsplit H with ⟨hp11, H⟩ | ⟨hp11, H⟩
        · obtain ⟨F, G, hq11⟩ := xH Y G hp11
          refine xR ?_
          exact cut_at H (xK ⟨[], []⟩)
        · obtain ⟨F, G, hq11⟩ := xH Y G hp11
          rcases bsplit H with ⟨hp12, H⟩ | ⟨hp12, H⟩
          · obtain ⟨F, G, hq12⟩ := xH F G hp12
            refine xR ?_
            exact cut_at H (xK ⟨[], []⟩)
          · obtain ⟨F, G, hq12⟩ := xH F G hp12
            refine xR ?_
            exact cut_at H (xK ⟨[], []⟩)
      · rintro ⟨x5, x6⟩ H
        rw [preref1_Skip_j3] at H
        rcases bsplit H with ⟨hp2, H⟩ | ⟨hp2, H⟩
        · obtain ⟨F, G, hq2⟩ := xH Y G hp2
          refine xT ?_
          refine xr ?_
          exact round_at (inl_fin H hF1) (xK ⟨[], []⟩)
        · obtain ⟨F, G, hq2⟩ := xH Y G hp2
          refine xE ?_
          refine xr ?_
          rcases bsplit H with ⟨hp3, H⟩ | ⟨hp3, H⟩
          · obtain ⟨F, G, hq3⟩ := xH Y G hp3
            refine xT ?_
            refine xr ?_
            refine xr ?_
            exact round_at (inl_fin H hF1) (xK ⟨[], []⟩)
          · obtain ⟨F, G, hq3⟩ := xH Y G hp3
            refine xE ?_
            refine xr ?_
            rcases bsplit H with ⟨hp4, H⟩ | ⟨hp4, H⟩
            · obtain ⟨F, G, hq4⟩ := xH Y G hp4
              refine xT ?_
              refine w_loop (preref1_Skip_b4 a0 x2) (fun s => [(0, .c (.d (.v (str a0)))), (4, .c (.d (.v (.int .i64 s)))), (5, .c (.d (.v (.bool x2))))]) (fun s => []) [] H (xK ⟨[], []⟩) ?_
              rintro n2 x7 o2 H hF2
              rw [preref1_Skip_b4] at H
              refine w_seq ?_
              refine w_cut (preref1_Skip_j5 x2 x7) (fun s => [(0, .c (.d (.v (str a0)))), (4, .c (.d (.v (.int .i64 x7)))), (5, .c (.d (.v (.bool x2)))), (58, .c (.d (.v (.bool s))))]) (fun s => []) [] o2 ?_ ?_
              · rcases bsplit H with ⟨hp6, H⟩ | ⟨hp6, H⟩
                · obtain ⟨F, G, hq6⟩ := xH Y G hp6
                  obtain ⟨hg2, H⟩ := gsplit H
                  refine xR ?_
                  exact cut_at H (xK ⟨[], []⟩)
                · obtain ⟨F, G, hq6⟩ := xH Y G hp6
                  refine xR ?_
                  exact cut_at H (xK ⟨[], []⟩)
              · rintro x8 H
                rw [preref1_Skip_j5] at H
                rcases bsplit H with ⟨hp5, H⟩ | ⟨hp5, H⟩
                · obtain ⟨F, G, hq5⟩ := xH Y G hp5
                  refine xT ?_
                  refine xr ?_
                  exact round_at (inl_fin H hF2) (xK ⟨[], []⟩)
                · obtain ⟨F, G, hq5⟩ := xH Y G hp5
                  replace H := inrO_fin H hF2
                  refine xE ?_
                  exact round_at (inl_fin H hF1) (xK ⟨[], []⟩)
            · obtain ⟨F, G, hq4⟩ := xH Y G hp4
              refine xE ?_
              refine xr ?_
              rcases bsplit H with ⟨hp7, H⟩ | ⟨hp7, H⟩
              · obtain ⟨F, G, hq7⟩ := xH Y G hp7
                refine xT ?_
                refine xr ?_
                refine w_loop (preref1_Skip_b6 a0 x1 x2) (fun s => [(0, .c (.d (.v (str a0)))), (4, .c (.d (.v (.int .i64 x1)))), (5, .c (.d (.v (.bool x2)))), (8, .c (.d (.v (.int .i64 s))))]) (fun s => []) [] H (xK ⟨[], []⟩) ?_
                rintro n3 x9 o3 H hF3
                rw [preref1_Skip_b6] at H
                refine w_seq ?_
                refine w_cut (preref1_Skip_j7 a0 x1 x2 x9) (fun s => [(0, .c (.d (.v (str a0)))), (4, .c (.d (.v (.int .i64 x1)))), (5, .c (.d (.v (.bool x2)))), (8, .c (.d (.v (.int .i64 x9)))), (78, .c (.d (.v (.bool s))))]) (fun s => []) [] o3 ?_ ?_
                · rcases bsplit H with ⟨hp10, H⟩ | ⟨hp10, H⟩
                  · obtain ⟨F, G, hq10⟩ := xH Y G hp10
                    obtain ⟨hg3, H⟩ := gsplit H
                    refine xR ?_
                    exact cut_at H (xK ⟨[], []⟩)
                  · obtain ⟨F, G, hq10⟩ := xH Y G hp10
                    refine xR ?_
                    exact cut_at H (xK ⟨[], []⟩)
                · rintro x10 H
                  rw [preref1_Skip_j7] at H
                  rcases bsplit H with ⟨hp8, H⟩ | ⟨hp8, H⟩
                  · obtain ⟨F, G, hq8⟩ := xH Y G hp8
                    refine xT ?_
                    refine xr ?_
                    exact round_at (inl_fin H hF3) (xK ⟨[], []⟩)
                  · obtain ⟨F, G, hq8⟩ := xH Y G hp8
                    replace H := inrO_fin H hF3
                    refine xE ?_
                    refine xr ?_
                    rcases bsplit H with ⟨hp9, H⟩ | ⟨hp9, H⟩
                    · obtain ⟨F, G, hq9⟩ := xH Y G hp9
                      refine xT ?_
                      replace H := inrO_fin H hF1
                      replace H := Option.some.inj H
                      refine xr ?_
                      subst H
                      exact xN
                    · obtain ⟨F, G, hq9⟩ := xH Y G hp9
                      refine xE ?_
                      refine xr ?_
                      exact round_at (inl_fin H hF1) (xK ⟨[], []⟩)
              · obtain ⟨F, G, hq7⟩ := xH Y G hp7
                refine xE ?_
                replace H := inrO_fin H hF1
                replace H := Option.some.inj H
                refine xr ?_
                subst H
                exact xN
  · obtain ⟨F, G, hq1⟩ := xH Y G hp1
    replace H := inrO_fin H hF1
    refine xE ?_
    replace H := Option.some.inj H
    refine xr ?_
    subst H
    exact xN
theorem preref1_Skip_c (a0 : List UInt8) (r : Int × Bool) (H : preref1_Skip a0 = some r) : PC pf_preref1_Skip [dS a0] (T2 dI dB r) := PF.c (a := a0) H
noncomputable def preref1_Letter_j1 : Bool → Option Bool
  | x1 => some x1
noncomputable def preref1_Letter (a0 : UInt8) : Option Bool :=
  if (leI 97 (a0.toNat : Int)) = true then if (leI (a0.toNat : Int) 122) = true then preref1_Letter_j1 true else if (leI 65 (a0.toNat : Int)) = true then if (leI (a0.toNat : Int) 90) = true then preref1_Letter_j1 true else preref1_Letter_j1 (eqI (a0.toNat : Int) 95) else preref1_Letter_j1 (eqI (a0.toNat : Int) 95) else if (leI 65 (a0.toNat : Int)) = true then if (leI (a0.toNat : Int) 90) = true then preref1_Letter_j1 true else preref1_Letter_j1 (eqI (a0.toNat : Int) 95) else preref1_Letter_j1 (eqI (a0.toNat : Int) 95)
noncomputable def pf_preref1_Letter : PF := PF.of (E1 dU) (fun a => preref1_Letter a) dB
set_option maxRecDepth 100000 in
set_option maxHeartbeats 4000000 in
theorem preref1_Letter_ok : PureOk Try.prog 27 pf_preref1_Letter := by
  refine xF mixed [] [] trivial trivial Try.func27 ?_
  rintro a0 out H
  have G := True.intro
  have Y := Try.results27
  simp only [preref1_Letter] at H
  refine xS ?_
  refine xr0 ?_
  refine then_normal ?_
  refine w_cut preref1_Letter_j1 (fun s => [(2, .c (.d (.v (.bool s))))]) (fun s => []) [] out ?_ ?_
  · rcases bsplit H with ⟨hp1, H⟩ | ⟨hp1, H⟩
    · obtain ⟨F, G, hq1⟩ := xH Y G hp1
      rcases bsplit H with ⟨hp2, H⟩ | ⟨hp2, H⟩
      · obtain ⟨F, G, hq2⟩ := xH F G hp2
        refine xR ?_
        exact cut_at H (xK ⟨[], []⟩)
      · obtain ⟨F, G, hq2⟩ := xH F G hp2
        rcases bsplit H with ⟨hp3, H⟩ | ⟨hp3, H⟩
        · obtain ⟨F, G, hq3⟩ := xH F G hp3
          rcases bsplit H with ⟨hp4, H⟩ | ⟨hp4, H⟩
          · obtain ⟨F, G, hq4⟩ := xH F G hp4
            refine xR ?_
            exact cut_at H (xK ⟨[], []⟩)
          · obtain ⟨F, G, hq4⟩ := xH F G hp4
            refine xR ?_
            exact cut_at H (xK ⟨[], []⟩)
        · obtain ⟨F, G, hq3⟩ := xH F G hp3
          refine xR ?_
          exact cut_at H (xK ⟨[], []⟩)
    · obtain ⟨F, G, hq1⟩ := xH Y G hp1
      rcases bsplit H with ⟨hp5, H⟩ | ⟨hp5, H⟩
      · obtain ⟨F, G, hq5⟩ := xH F G hp5
        rcases bsplit H with ⟨hp6, H⟩ | ⟨hp6, H⟩
        · obtain ⟨F, G, hq6⟩ := xH F G hp6
          refine xR ?_
          exact cut_at H (xK ⟨[], []⟩)
        · obtain ⟨F, G, hq6⟩ := xH F G hp6
          refine xR ?_
          exact cut_at H (xK ⟨[], []⟩)
      · obtain ⟨F, G, hq5⟩ := xH F G hp5
        refine xR ?_
        exact cut_at H (xK ⟨[], []⟩)
  · rintro x1 H
    rw [preref1_Letter_j1] at H
    replace H := Option.some.inj H
    refine xS ?_
    subst H
    exact xN
theorem preref1_Letter_c (a0 : UInt8) (r : Bool) (H : preref1_Letter a0 = some r) : PC pf_preref1_Letter [dU a0] (dB r) := PF.c (a := a0) H
noncomputable def preref1_Digit_j1 : Bool → Option Bool
  | x1 => some x1
noncomputable def preref1_Digit (a0 : UInt8) : Option Bool :=
  if (leI 48 (a0.toNat : Int)) = true then preref1_Digit_j1 (leI (a0.toNat : Int) 57) else preref1_Digit_j1 false
noncomputable def pf_preref1_Digit : PF := PF.of (E1 dU) (fun a => preref1_Digit a) dB
set_option maxRecDepth 100000 in
set_option maxHeartbeats 4000000 in
theorem preref1_Digit_ok : PureOk Try.prog 28 pf_preref1_Digit := by
  refine xF mixed [] [] trivial trivial Try.func28 ?_
  rintro a0 out H
  have G := True.intro
  have Y := Try.results28
  simp only [preref1_Digit] at H
  refine xS ?_
  refine xr0 ?_
  refine then_normal ?_
  refine w_cut preref1_Digit_j1 (fun s => [(2, .c (.d (.v (.bool s))))]) (fun s => []) [] out ?_ ?_
  · rcases bsplit H with ⟨hp1, H⟩ | ⟨hp1, H⟩
    · obtain ⟨F, G, hq1⟩ := xH Y G hp1
      refine xR ?_
      exact cut_at H (xK ⟨[], []⟩)
    · obtain ⟨F, G, hq1⟩ := xH Y G hp1
      refine xR ?_
      exact cut_at H (xK ⟨[], []⟩)
  · rintro x1 H
    rw [preref1_Digit_j1] at H
    replace H := Option.some.inj H
    refine xS ?_
    subst H
    exact xN
theorem preref1_Digit_c (a0 : UInt8) (r : Bool) (H : preref1_Digit a0 = some r) : PC pf_preref1_Digit [dU a0] (dB r) := PF.c (a := a0) H
noncomputable def preref1_Number_j1 (a0 : List UInt8) : Int → Option (List UInt8)
  | x1 => if (0 : Int) ≤ 0 ∧ 0 ≤ x1 ∧ x1 ≤ (a0.length : Int) then some (List.take x1.toNat a0) else none
noncomputable def preref1_Number_j4 (a0 : List UInt8) (x2 : Int) : Bool → Option (Int ⊕ (List UInt8))
  | x5 => if x5 = true then inrO (preref1_Number_j1 a0 x2) else some (.inl (IntKind.i64.wrap (x2 + 1)))
noncomputable def preref1_Number_j3 (a0 : List UInt8) (x2 : Int) : (UInt8 × Bool) → Option (Int ⊕ (List UInt8))
  | (x3, x4) => if (!x4) = true then if (!eqI (x3.toNat : Int) 46) = true then (preref1_Letter x3).bind fun r1 => if (!r1) = true then (preref1_Digit x3).bind fun r2 => preref1_Number_j4 a0 x2 (!r2) else preref1_Number_j4 a0 x2 false else preref1_Number_j4 a0 x2 false else preref1_Number_j4 a0 x2 false
noncomputable def preref1_Number_b2 (a0 : List UInt8) : Int → Option (Int ⊕ (List UInt8))
  | x2 => if (ltI x2 (a0.length : Int)) = true then if (0 : Int) ≤ x2 ∧ x2.toNat < a0.length then if (eqI ((a0.getD x2.toNat 0).toNat : Int) 43) = true then if (ltI 0 x2) = true then if (0 : Int) ≤ (IntKind.i64.wrap (x2 - 1)) ∧ (IntKind.i64.wrap (x2 - 1)).toNat < a0.length then if (eqI ((a0.getD ((IntKind.i64.wrap (x2 - 1)).toNat) 0).toNat : Int) 101) = true then preref1_Number_j3 a0 x2 ((a0.getD x2.toNat 0), true) else if (0 : Int) ≤ (IntKind.i64.wrap (x2 - 1)) ∧ (IntKind.i64.wrap (x2 - 1)).toNat < a0.length then preref1_Number_j3 a0 x2 ((a0.getD x2.toNat 0), eqI ((a0.getD ((IntKind.i64.wrap (x2 - 1)).toNat) 0).toNat : Int) 69) else none else none else preref1_Number_j3 a0 x2 ((a0.getD x2.toNat 0), false) else if (eqI ((a0.getD x2.toNat 0).toNat : Int) 45) = true then if (ltI 0 x2) = true then if (0 : Int) ≤ (IntKind.i64.wrap (x2 - 1)) ∧ (IntKind.i64.wrap (x2 - 1)).toNat < a0.length then if (eqI ((a0.getD ((IntKind.i64.wrap (x2 - 1)).toNat) 0).toNat : Int) 101) = true then preref1_Number_j3 a0 x2 ((a0.getD x2.toNat 0), true) else if (0 : Int) ≤ (IntKind.i64.wrap (x2 - 1)) ∧ (IntKind.i64.wrap (x2 - 1)).toNat < a0.length then preref1_Number_j3 a0 x2 ((a0.getD x2.toNat 0), eqI ((a0.getD ((IntKind.i64.wrap (x2 - 1)).toNat) 0).toNat : Int) 69) else none else none else preref1_Number_j3 a0 x2 ((a0.getD x2.toNat 0), false) else preref1_Number_j3 a0 x2 ((a0.getD x2.toNat 0), false) else none else inrO (preref1_Number_j1 a0 x2)
noncomputable def preref1_Number (a0 : List UInt8) : Option (List UInt8) :=
  loopO (preref1_Number_b2 a0) 0
noncomputable def pf_preref1_Number : PF := PF.of (E1 dS) (fun a => preref1_Number a) dS
set_option maxRecDepth 100000 in
set_option maxHeartbeats 4000000 in
theorem preref1_Number_ok : PureOk Try.prog 29 pf_preref1_Number := by
  refine xF mixed [(27, pf_preref1_Letter), (28, pf_preref1_Digit)] [] ⟨⟨call_27, preref1_Letter_ok⟩, ⟨call_28, preref1_Digit_ok⟩, trivial⟩ trivial Try.func29 ?_
  rintro a0 out H
  have G := True.intro
  have Y := xZ y_9 <| Try.results29
  simp only [preref1_Number] at H
  refine xS ?_
  refine xr ?_
  refine xr0 ?_
  refine then_normal ?_
  refine w_cut (preref1_Number_j1 a0) (fun s => [(0, .c (.d (.v (str a0)))), (3, .c (.d (.v (.int .i64 s))))]) (fun s => []) [] out ?_ ?_
  · refine xS ?_
    refine w_loop (preref1_Number_b2 a0) (fun s => [(0, .c (.d (.v (str a0)))), (3, .c (.d (.v (.int .i64 s))))]) (fun s => []) [] H (xK ⟨[], []⟩) ?_
    rintro n1 x2 o1 H hF1
    rw [preref1_Number_b2] at H
    refine xS ?_
    refine xr ?_
    rcases bsplit H with ⟨hp1, H⟩ | ⟨hp1, H⟩
    · obtain ⟨F, G, hq1⟩ := xH Y G hp1
      refine xT ?_
      obtain ⟨hg2, H⟩ := gsplit H
      refine xr0 ?_
      refine then_normal ?_
      refine w_cut (preref1_Number_j3 a0 x2) (fun s => [(0, .c (.d (.v (str a0)))), (3, .c (.d (.v (.int .i64 x2)))), (4, .c (.d (.v (.int .u8 (s.1.toNat : Int))))), (5, .c (.d (.v (.bool s.2))))]) (fun s => []) [] o1 ?_ ?_
      · rcases bsplit H with ⟨hp6, H⟩ | ⟨hp6, H⟩
        · obtain ⟨F, G, hq6⟩ := xH Y G hp6
          rcases bsplit H with ⟨hp7, H⟩ | ⟨hp7, H⟩
          · obtain ⟨F, G, hq7⟩ := xH F G hp7
            obtain ⟨hg3, H⟩ := gsplit H
            rcases bsplit H with ⟨hp8, H⟩ | ⟨hp8, H⟩
            · obtain ⟨F, G, hq8⟩ := xH F G hp8
              refine xR ?_
              exact cut_at H (xK ⟨[], []⟩)
            · obtain ⟨F, G, hq8⟩ := xH F G hp8
              obtain ⟨hg4, H⟩ := gsplit H
              refine xR ?_
              exact cut_at H (xK ⟨[], []⟩)
          · obtain ⟨F, G, hq7⟩ := xH F G hp7
            refine xR ?_
            exact cut_at H (xK ⟨[], []⟩)
        · obtain ⟨F, G, hq6⟩ := xH Y G hp6
          rcases bsplit H with ⟨hp9, H⟩ | ⟨hp9, H⟩
          · obtain ⟨F, G, hq9⟩ := xH F G hp9
            rcases bsplit H with ⟨hp10, H⟩ | ⟨hp10, H⟩
            · obtain ⟨F, G, hq10⟩ := xH F G hp10
              obtain ⟨hg5, H⟩ := gsplit H
              rcases bsplit H with ⟨hp11, H⟩ | ⟨hp11, H⟩
              · obtain ⟨F, G, hq11⟩ := xH F G hp11
                refine xR ?_
                exact cut_at H (xK ⟨[], []⟩)
              · obtain ⟨F, G, hq11⟩ := xH F G hp11
                obtain ⟨hg6, H⟩ := gsplit H
                refine xR ?_
                exact cut_at H (xK ⟨[], []⟩)
            · obtain ⟨F, G, hq10⟩ := xH F G hp10
              refine xR ?_
              exact cut_at H (xK ⟨[], []⟩)
          · obtain ⟨F, G, hq9⟩ := xH F G hp9
            refine xR ?_
            exact cut_at H (xK ⟨[], []⟩)
      · rintro ⟨x3, x4⟩ H
        rw [preref1_Number_j3] at H
        refine w_seq ?_
        refine w_cut (preref1_Number_j4 a0 x2) (fun s => [(0, .c (.d (.v (str a0)))), (3, .c (.d (.v (.int .i64 x2)))), (52, .c (.d (.v (.bool s))))]) (fun s => []) [] o1 ?_ ?_
        · rcases bsplit H with ⟨hp3, H⟩ | ⟨hp3, H⟩
          · obtain ⟨F, G, hq3⟩ := xH Y G hp3
            rcases bsplit H with ⟨hp4, H⟩ | ⟨hp4, H⟩
            · obtain ⟨F, G, hq4⟩ := xH F G hp4
              obtain ⟨r1, hr1, H⟩ := osplit H
              have F := xCf F (preref1_Letter_c x3 r1 hr1)
              rcases bsplit H with ⟨hp5, H⟩ | ⟨hp5, H⟩
              · obtain ⟨F, G, hq5⟩ := xH F G hp5
                obtain ⟨r2, hr2, H⟩ := osplit H
                have F := xCf F (preref1_Digit_c x3 r2 hr2)
                refine xR ?_
                exact cut_at H (xK ⟨[], []⟩)
              · obtain ⟨F, G, hq5⟩ := xH F G hp5
                refine xR ?_
                exact cut_at H (xK ⟨[], []⟩)
            · obtain ⟨F, G, hq4⟩ := xH F G hp4
              refine xR ?_
              exact cut_at H (xK ⟨[], []⟩)
          · obtain ⟨F, G, hq3⟩ := xH Y G hp3
            refine xR ?_
            exact cut_at H (xK ⟨[], []⟩)
        · rintro x5 H
          rw [preref1_Number_j4] at H
          rcases bsplit H with ⟨hp2, H⟩ | ⟨hp2, H⟩
          · obtain ⟨F, G, hq2⟩ := xH Y G hp2
            replace H := inrO_fin H hF1
            refine xT ?_
            exact cut_at H (xK ⟨[], []⟩)
          · obtain ⟨F, G, hq2⟩ := xH Y G hp2
            refine xE ?_
            refine xr ?_
            exact round_at (inl_fin H hF1) (xK ⟨[], []⟩)
    · obtain ⟨F, G, hq1⟩ := xH Y G hp1
      replace H := inrO_fin H hF1
      refine xE ?_
      exact cut_at H (xK ⟨[], []⟩)
  · rintro x1 H
    rw [preref1_Number_j1] at H
    refine xS ?_
    obtain ⟨hg1, H⟩ := gsplit H
    replace H := Option.some.inj H
    refine xr ?_
    subst H
    exact xN
theorem preref1_Number_c (a0 : List UInt8) (r : (List UInt8)) (H : preref1_Number a0 = some r) : PC pf_preref1_Number [dS a0] (dS r) := PF.c (a := a0) H
noncomputable def preref1_Quoted_j2 : Int → Option (Int ⊕ (List UInt8))
  | x2 => some (.inl (IntKind.i64.wrap (x2 + 1)))
noncomputable def preref1_Quoted_j3 (x1 : Int) : Bool → Option (Int ⊕ (List UInt8))
  | x3 => if x3 = true then preref1_Quoted_j2 (IntKind.i64.wrap (x1 + 1)) else preref1_Quoted_j2 x1
noncomputable def preref1_Quoted_b1 (a0 : List UInt8) : Int → Option (Int ⊕ (List UInt8))
  | x1 => if (ltI x1 (a0.length : Int)) = true then if (0 : Int) ≤ x1 ∧ x1.toNat < a0.length then if (eqI ((a0.getD x1.toNat 0).toNat : Int) 10) = true then inrO (some []) else if (0 : Int) ≤ x1 ∧ x1.toNat < a0.length then if 0 < a0.length then if (eqI ((a0.getD x1.toNat 0).toNat : Int) ((a0.getD 0 0).toNat : Int)) = true then if (0 : Int) ≤ 0 ∧ 0 ≤ (IntKind.i64.wrap (x1 + 1)) ∧ (IntKind.i64.wrap (x1 + 1)) ≤ (a0.length : Int) then inrO (some (List.take ((IntKind.i64.wrap (x1 + 1)).toNat) a0)) else none else if (0 : Int) ≤ x1 ∧ x1.toNat < a0.length then if (eqI ((a0.getD x1.toNat 0).toNat : Int) 92) = true then if (ltI (IntKind.i64.wrap (x1 + 1)) (a0.length : Int)) = true then if (0 : Int) ≤ (IntKind.i64.wrap (x1 + 1)) ∧ (IntKind.i64.wrap (x1 + 1)).toNat < a0.length then preref1_Quoted_j3 x1 (!eqI ((a0.getD ((IntKind.i64.wrap (x1 + 1)).toNat) 0).toNat : Int) 10) else none else preref1_Quoted_j3 x1 false else preref1_Quoted_j3 x1 false else none else none else none else none else inrO (some [])
noncomputable def preref1_Quoted (a0 : List UInt8) : Option (List UInt8) :=
  loopO (preref1_Quoted_b1 a0) 1
noncomputable def pf_preref1_Quoted : PF := PF.of (E1 dS) (fun a => preref1_Quoted a) dS
set_option maxRecDepth 100000 in
set_option maxHeartbeats 4000000 in
theorem preref1_Quoted_ok : PureOk Try.prog 30 pf_preref1_Quoted := by
  refine xF mixed [] [] trivial trivial Try.func30 ?_
  rintro a0 out H
  have G := True.intro
  have Y := xZ y_9 <| Try.results30
  simp only [preref1_Quoted] at H
  refine xS ?_
  refine xr ?_
  refine xr ?_
  refine w_loop (preref1_Quoted_b1 a0) (fun s => [(0, .c (.d (.v (str a0)))), (3, .c (.d (.v (.int .i64 s))))]) (fun s => []) [] H (xK ⟨[], []⟩) ?_
  rintro n1 x1 o1 H hF1
  rw [preref1_Quoted_b1] at H
  refine xS ?_
  refine xr ?_
  rcases bsplit H with ⟨hp1, H⟩ | ⟨hp1, H⟩
  · obtain ⟨F, G, hq1⟩ := xH Y G hp1
    refine xT0 ?_
    refine w_skip ?_
    refine then_normal ?_
    refine w_cut preref1_Quoted_j2 (fun s => [(0, .c (.d (.v (str a0)))), (3, .c (.d (.v (.int .i64 s))))]) (fun s => []) [] o1 ?_ ?_
    · refine xS ?_
      obtain ⟨hg1, H⟩ := gsplit H
      refine xr ?_
      rcases bsplit H with ⟨hp2, H⟩ | ⟨hp2, H⟩
      · obtain ⟨F, G, hq2⟩ := xH Y G hp2
        refine xT ?_
        replace H := inrO_fin H hF1
        replace H := Option.some.inj H
        refine xr ?_
        subst H
        exact xN
      · obtain ⟨F, G, hq2⟩ := xH Y G hp2
        refine xE ?_
        obtain ⟨hg2, H⟩ := gsplit H
        obtain ⟨hg3, H⟩ := gsplit H
        refine xr ?_
        rcases bsplit H with ⟨hp3, H⟩ | ⟨hp3, H⟩
        · obtain ⟨F, G, hq3⟩ := xH Y G hp3
          refine xT ?_
          obtain ⟨hg4, H⟩ := gsplit H
          replace H := inrO_fin H hF1
          replace H := Option.some.inj H
          refine xr ?_
          subst H
          exact xN
        · obtain ⟨F, G, hq3⟩ := xH Y G hp3
          refine xE0 ?_
          refine w_skip ?_
          refine then_normal ?_
          refine w_cut (preref1_Quoted_j3 x1) (fun s => [(0, .c (.d (.v (str a0)))), (3, .c (.d (.v (.int .i64 x1)))), (41, .c (.d (.v (.bool s))))]) (fun s => []) [] o1 ?_ ?_
          · obtain ⟨hg5, H⟩ := gsplit H
            rcases bsplit H with ⟨hp5, H⟩ | ⟨hp5, H⟩
            · obtain ⟨F, G, hq5⟩ := xH Y G hp5
              rcases bsplit H with ⟨hp6, H⟩ | ⟨hp6, H⟩
              · obtain ⟨F, G, hq6⟩ := xH F G hp6
                obtain ⟨hg6, H⟩ := gsplit H
                refine xR ?_
                exact cut_at H (xK ⟨[], []⟩)
              · obtain ⟨F, G, hq6⟩ := xH F G hp6
                refine xR ?_
                exact cut_at H (xK ⟨[], []⟩)
            · obtain ⟨F, G, hq5⟩ := xH Y G hp5
              refine xR ?_
              exact cut_at H (xK ⟨[], []⟩)
          · rintro x3 H
            rw [preref1_Quoted_j3] at H
            rcases bsplit H with ⟨hp4, H⟩ | ⟨hp4, H⟩
            · obtain ⟨F, G, hq4⟩ := xH Y G hp4
              refine xT ?_
              refine xr ?_
              exact cut_at H (xK ⟨[], []⟩)
            · obtain ⟨F, G, hq4⟩ := xH Y G hp4
              refine xE ?_
              exact cut_at H (xK ⟨[], []⟩)
    · rintro x2 H
      rw [preref1_Quoted_j2] at H
      refine xr ?_
      exact round_at (inl_fin H hF1) (xK ⟨[], []⟩)
  · obtain ⟨F, G, hq1⟩ := xH Y G hp1
    replace H := inrO_fin H hF1
    refine xE ?_
    replace H := Option.some.inj H
    refine xr ?_
    subst H
    exact xN
theorem preref1_Quoted_c (a0 : List UInt8) (r : (List UInt8)) (H : preref1_Quoted a0 = some r) : PC pf_preref1_Quoted [dS a0] (dS r) := PF.c (a := a0) H
noncomputable def preref1_Signs  : Option (List (List UInt8)) :=
  some [[46, 46, 46], [60, 60, 61], [62, 62, 61], [45, 62], [43, 43], [45, 45], [60, 60], [62, 62], [60, 61], [62, 61], [61, 61], [33, 61], [38, 38], [124, 124], [43, 61], [45, 61], [42, 61], [47, 61], [37, 61], [38, 61], [124, 61], [94, 61], [35, 35], [91], [93], [40], [41], [123], [125], [46], [38], [42], [43], [45], [126], [33], [47], [37], [60], [62], [94], [124], [63], [58], [59], [61], [44], [35]]
noncomputable def pf_preref1_Signs : PF := PF.of E0 (fun _ => preref1_Signs) (dL 1 dS)
set_option maxRecDepth 100000 in
set_option maxHeartbeats 4000000 in
theorem preref1_Signs_ok : PureOk Try.prog 40 pf_preref1_Signs := by
  refine xF mixed [] [] trivial trivial Try.func40 ?_
  rintro _ out H
  have G := True.intro
  have Y := xZ y_9 <| xZ y_35 <| Try.results40
  simp only [preref1_Signs] at H
  refine xS ?_
  refine xr ?_
  replace H := Option.some.inj H
  refine xr ?_
  subst H
  exact xN
theorem preref1_Signs_c  (r : (List (List UInt8))) (H : preref1_Signs  = some r) : PC pf_preref1_Signs [] ((dL 1 dS) r) := PF.c (a := ()) H
noncomputable def preref1_Sign_j4 (x5 : Int) (x6 : Int) : (List UInt8) → Option (((List UInt8) × Int × Int) ⊕ (((List UInt8) × Int) ⊕ (List UInt8)))
  | x7 => some (.inl (x7, x5, IntKind.i64.wrap (x6 + 1)))
noncomputable def preref1_Sign_b3 (a0 : List UInt8) (x2 : Int) (r1 : (List (List UInt8))) : ((List UInt8) × Int × Int) → Option (((List UInt8) × Int × Int) ⊕ (((List UInt8) × Int) ⊕ (List UInt8)))
  | (x4, x5, x6) => if (ltI x6 x5) = true then if (0 : Int) ≤ x6 ∧ x6.toNat < r1.length then if (0 : Int) ≤ 0 ∧ 0 ≤ x2 ∧ x2 ≤ (a0.length : Int) then if (eqS (r1.getD x6.toNat default) (List.take x2.toNat a0)) = true then preref1_Sign_j4 x5 x6 (r1.getD x6.toNat default) else preref1_Sign_j4 x5 x6 x4 else none else none else inrO (some (.inl (x4, IntKind.i64.wrap (x2 + 1))))
noncomputable def preref1_Sign_j2 (a0 : List UInt8) (x1 : List UInt8) (x2 : Int) : Bool → Option (((List UInt8) × Int) ⊕ (List UInt8))
  | x3 => if x3 = true then (preref1_Signs).bind fun r1 => loopO (preref1_Sign_b3 a0 x2 r1) (x1, (r1.length : Int), 0) else inrO (some x1)
noncomputable def preref1_Sign_b1 (a0 : List UInt8) : ((List UInt8) × Int) → Option (((List UInt8) × Int) ⊕ (List UInt8))
  | (x1, x2) => if (leI x2 3) = true then preref1_Sign_j2 a0 x1 x2 (leI x2 (a0.length : Int)) else preref1_Sign_j2 a0 x1 x2 false
noncomputable def preref1_Sign (a0 : List UInt8) : Option (List UInt8) :=
  loopO (preref1_Sign_b1 a0) ([], 1)
noncomputable def pf_preref1_Sign : PF := PF.of (E1 dS) (fun a => preref1_Sign a) dS
set_option maxRecDepth 100000 in
set_option maxHeartbeats 4000000 in
theorem preref1_Sign_ok : PureOk Try.prog 31 pf_preref1_Sign := by
  refine xF mixed [(40, pf_preref1_Signs)] [] ⟨⟨call_40, preref1_Signs_ok⟩, trivial⟩ trivial Try.func31 ?_
  rintro a0 out H
  have G := True.intro
  have Y := xZ y_9 <| xZ y_35 <| Try.results31
  simp only [preref1_Sign] at H
  refine xS ?_
  refine xr ?_
  refine xr ?_
  refine xr ?_
  refine w_loop (preref1_Sign_b1 a0) (fun s => [(0, .c (.d (.v (str a0)))), (3, .c (.d (.v (str s.1)))), (4, .c (.d (.v (.int .i64 s.2))))]) (fun s => []) [] H (xK ⟨[], []⟩) ?_
  rintro n1 ⟨x1, x2⟩ o1 H hF1
  rw [preref1_Sign_b1] at H
  refine w_seq ?_
  refine w_cut (preref1_Sign_j2 a0 x1 x2) (fun s => [(0, .c (.d (.v (str a0)))), (3, .c (.d (.v (str x1)))), (4, .c (.d (.v (.int .i64 x2)))), (14, .c (.d (.v (.bool s))))]) (fun s => []) [] o1 ?_ ?_
  · rcases bsplit H with ⟨hp4, H⟩ | ⟨hp4, H⟩
    · obtain ⟨F, G, hq4⟩ := xH Y G hp4
      refine xR ?_
      exact cut_at H (xK ⟨[], []⟩)
    · obtain ⟨F, G, hq4⟩ := xH Y G hp4
      refine xR ?_
      exact cut_at H (xK ⟨[], []⟩)
  · rintro x3 H
    rw [preref1_Sign_j2] at H
    rcases bsplit H with ⟨hp1, H⟩ | ⟨hp1, H⟩
    · obtain ⟨F, G, hq1⟩ := xH Y G hp1
      refine xT ?_
      obtain ⟨r1, hr1, H⟩ := osplit H
      have F := xC Y (preref1_Signs_c  r1 hr1)
      refine xR ?_
      refine w_loop (preref1_Sign_b3 a0 x2 r1) (fun s => [(0, .c (.d (.v (str a0)))), (3, .c (.d (.v (str s.1)))), (4, .c (.d (.v (.int .i64 x2)))), (17, .c (.d (.sl 1 (List.map dS r1)))), (18, .c (.d (.v (.int .i64 s.2.1)))), (19, .c (.d (.v (.int .i64 s.2.2))))]) (fun s => []) [] H (xK ⟨[], []⟩) ?_
      rintro n2 ⟨x4, x5, x6⟩ o2 H hF2
      rw [preref1_Sign_b3] at H
      refine xS ?_
      refine xr ?_
      rcases bsplit H with ⟨hp2, H⟩ | ⟨hp2, H⟩
      · obtain ⟨F, G, hq2⟩ := xH Y G hp2
        refine xT0 ?_
        refine w_skip ?_
        refine then_normal ?_
        refine w_cut (preref1_Sign_j4 x5 x6) (fun s => [(0, .c (.d (.v (str a0)))), (3, .c (.d (.v (str s)))), (4, .c (.d (.v (.int .i64 x2)))), (17, .c (.d (.sl 1 (List.map dS r1)))), (18, .c (.d (.v (.int .i64 x5)))), (19, .c (.d (.v (.int .i64 x6))))]) (fun s => []) [] o2 ?_ ?_
        · refine xS ?_
          obtain ⟨hg1, H⟩ := gsplit H
          have F := xZ Y (map_getD dS r1 x6.toNat default default (by omega))
          refine xR ?_
          obtain ⟨hg2, H⟩ := gsplit H
          refine xr ?_
          rcases bsplit H with ⟨hp3, H⟩ | ⟨hp3, H⟩
          · obtain ⟨F, G, hq3⟩ := xH Y G hp3
            refine xT ?_
            refine xr ?_
            exact cut_at H (xK ⟨[], []⟩)
          · obtain ⟨F, G, hq3⟩ := xH Y G hp3
            refine xE ?_
            exact cut_at H (xK ⟨[], []⟩)
        · rintro x7 H
          rw [preref1_Sign_j4] at H
          refine xr ?_
          exact round_at (inl_fin H hF2) (xK ⟨[], []⟩)
      · obtain ⟨F, G, hq2⟩ := xH Y G hp2
        replace H := inrO_fin H hF2
        refine xE ?_
        refine xr ?_
        exact round_at (inl_fin H hF1) (xK ⟨[], []⟩)
    · obtain ⟨F, G, hq1⟩ := xH Y G hp1
      replace H := inrO_fin H hF1
      refine xE ?_
      replace H := Option.some.inj H
      refine xr ?_
      subst H
      exact xN
theorem preref1_Sign_c (a0 : List UInt8) (r : (List UInt8)) (H : preref1_Sign a0 = some r) : PC pf_preref1_Sign [dS a0] (dS r) := PF.c (a := a0) H
noncomputable def preref1_Piece_j1 (a0 : List UInt8) : Unit → Option (Int × (List UInt8))
  | () => (preref1_Sign a0).bind fun r1 => if (!eqS r1 []) = true then some (5, r1) else if (0 : Int) ≤ 0 ∧ 0 ≤ 1 ∧ 1 ≤ (a0.length : Int) then some (6, List.take 1 a0) else none
noncomputable def preref1_Piece_j3 (a0 : List UInt8) (x1 : Int) : Bool → Option (Int ⊕ (Int × (List UInt8)))
  | x2 => if x2 = true then some (.inl (IntKind.i64.wrap (x1 + 1))) else inrO (if (0 : Int) ≤ 0 ∧ 0 ≤ x1 ∧ x1 ≤ (a0.length : Int) then some (1, List.take x1.toNat a0) else none)
noncomputable def preref1_Piece_b2 (a0 : List UInt8) : Int → Option (Int ⊕ (Int × (List UInt8)))
  | x1 => if (ltI x1 (a0.length : Int)) = true then if (0 : Int) ≤ x1 ∧ x1.toNat < a0.length then (preref1_Letter (a0.getD x1.toNat 0)).bind fun r3 => if r3 = true then preref1_Piece_j3 a0 x1 true else if (0 : Int) ≤ x1 ∧ x1.toNat < a0.length then (preref1_Digit (a0.getD x1.toNat 0)).bind fun r4 => preref1_Piece_j3 a0 x1 r4 else none else none else preref1_Piece_j3 a0 x1 false
noncomputable def preref1_Piece_j7 (a0 : List UInt8) (x6 : Int) : Bool → Option (Int ⊕ (Int × (List UInt8)))
  | x7 => if x7 = true then if (0 : Int) ≤ x6 ∧ x6.toNat < a0.length then if (eqI ((a0.getD x6.toNat 0).toNat : Int) 62) = true then if (0 : Int) ≤ 0 ∧ 0 ≤ (IntKind.i64.wrap (x6 + 1)) ∧ (IntKind.i64.wrap (x6 + 1)) ≤ (a0.length : Int) then inrO (some (7, List.take ((IntKind.i64.wrap (x6 + 1)).toNat) a0)) else none else some (.inl (IntKind.i64.wrap (x6 + 1))) else none else inrO (preref1_Piece_j1 a0 ())
noncomputable def preref1_Piece_b6 (a0 : List UInt8) : Int → Option (Int ⊕ (Int × (List UInt8)))
  | x6 => if (ltI x6 (a0.length : Int)) = true then if (0 : Int) ≤ x6 ∧ x6.toNat < a0.length then preref1_Piece_j7 a0 x6 (!eqI ((a0.getD x6.toNat 0).toNat : Int) 10) else none else preref1_Piece_j7 a0 x6 false
noncomputable def preref1_Piece_j5 (a0 : List UInt8) : Bool → Option (Int × (List UInt8))
  | x5 => if x5 = true then loopO (preref1_Piece_b6 a0) 1 else preref1_Piece_j1 a0 ()
noncomputable def preref1_Piece_j4 (a0 : List UInt8) (a1 : Bool) : (UInt8 × Bool) → Option (Int × (List UInt8))
  | (x3, x4) => if x4 = true then (preref1_Number a0).bind fun r5 => some (2, r5) else if (eqI (x3.toNat : Int) 34) = true then (preref1_Quoted a0).bind fun r6 => some (4, r6) else if (eqI (x3.toNat : Int) 39) = true then (preref1_Quoted a0).bind fun r7 => some (3, r7) else if (eqI (x3.toNat : Int) 60) = true then preref1_Piece_j5 a0 a1 else preref1_Piece_j5 a0 false
noncomputable def preref1_Piece (a0 : List UInt8) (a1 : Bool) : Option (Int × (List UInt8)) :=
  if 0 < a0.length then (preref1_Letter (a0.getD 0 0)).bind fun r2 => if r2 = true then loopO (preref1_Piece_b2 a0) 0 else (preref1_Digit (a0.getD 0 0)).bind fun r8 => if r8 = true then preref1_Piece_j4 a0 a1 ((a0.getD 0 0), true) else if (eqI ((a0.getD 0 0).toNat : Int) 46) = true then if (ltI 1 (a0.length : Int)) = true then if 1 < a0.length then (preref1_Digit (a0.getD 1 0)).bind fun r9 => preref1_Piece_j4 a0 a1 ((a0.getD 0 0), r9) else none else preref1_Piece_j4 a0 a1 ((a0.getD 0 0), false) else preref1_Piece_j4 a0 a1 ((a0.getD 0 0), false) else none
noncomputable def pf_preref1_Piece : PF := PF.of (E2 dS dB) (fun a => preref1_Piece a.1 a.2) (T2 dI dS)
set_option maxRecDepth 100000 in
set_option maxHeartbeats 4000000 in
theorem preref1_Piece_ok : PureOk Try.prog 17 pf_preref1_Piece := by
  refine xF mixed [(31, pf_preref1_Sign), (27, pf_preref1_Letter), (28, pf_preref1_Digit), (29, pf_preref1_Number), (30, pf_preref1_Quoted)] [] ⟨⟨call_31, preref1_Sign_ok⟩, ⟨call_27, preref1_Letter_ok⟩, ⟨call_28, preref1_Digit_ok⟩, ⟨call_29, preref1_Number_ok⟩, ⟨call_30, preref1_Quoted_ok⟩, trivial⟩ trivial Try.func17 ?_
  rintro ⟨a0, a1⟩ out H
  have G := True.intro
  have Y := xZ y_9 <| Try.results17
  simp only [preref1_Piece] at H
  refine xS ?_
  refine xr0 ?_
  refine then_normal ?_
  refine w_cut (preref1_Piece_j1 a0) (fun s => [(0, .c (.d (.v (str a0))))]) (fun s => []) [] out ?_ ?_
  · refine xS ?_
    obtain ⟨hg2, H⟩ := gsplit H
    refine xr ?_
    obtain ⟨r2, hr2, H⟩ := osplit H
    have F := xC Y (preref1_Letter_c (a0.getD 0 0) r2 hr2)
    refine xR ?_
    rcases bsplit H with ⟨hp2, H⟩ | ⟨hp2, H⟩
    · obtain ⟨F, G, hq2⟩ := xH Y G hp2
      refine xT ?_
      refine xr ?_
      refine w_loop (preref1_Piece_b2 a0) (fun s => [(0, .c (.d (.v (str a0)))), (7, .c (.d (.v (.int .i64 s))))]) (fun s => []) [] H (xK ⟨[], []⟩) ?_
      rintro n1 x1 o1 H hF1
      rw [preref1_Piece_b2] at H
      refine w_seq ?_
      refine w_cut (preref1_Piece_j3 a0 x1) (fun s => [(0, .c (.d (.v (str a0)))), (7, .c (.d (.v (.int .i64 x1)))), (30, .c (.d (.v (.bool s))))]) (fun s => []) [] o1 ?_ ?_
      · rcases bsplit H with ⟨hp4, H⟩ | ⟨hp4, H⟩
        · obtain ⟨F, G, hq4⟩ := xH Y G hp4
          obtain ⟨hg4, H⟩ := gsplit H
          obtain ⟨r3, hr3, H⟩ := osplit H
          have F := xCf F (preref1_Letter_c (a0.getD x1.toNat 0) r3 hr3)
          rcases bsplit H with ⟨hp5, H⟩ | ⟨hp5, H⟩
          · obtain ⟨F, G, hq5⟩ := xH F G hp5
            refine xR ?_
            exact cut_at H (xK ⟨[], []⟩)
          · obtain ⟨F, G, hq5⟩ := xH F G hp5
            obtain ⟨hg5, H⟩ := gsplit H
            obtain ⟨r4, hr4, H⟩ := osplit H
            have F := xCf F (preref1_Digit_c (a0.getD x1.toNat 0) r4 hr4)
            refine xR ?_
            exact cut_at H (xK ⟨[], []⟩)
        · obtain ⟨F, G, hq4⟩ := xH Y G hp4
          refine xR ?_
          exact cut_at H (xK ⟨[], []⟩)
      · rintro x2 H
        rw [preref1_Piece_j3] at H
        rcases bsplit H with ⟨hp3, H⟩ | ⟨hp3, H⟩
        · obtain ⟨F, G, hq3⟩ := xH Y G hp3
          refine xT ?_
          refine xr ?_
          exact round_at (inl_fin H hF1) (xK ⟨[], []⟩)
        · obtain ⟨F, G, hq3⟩ := xH Y G hp3
          replace H := inrO_fin H hF1
          refine xE ?_
          obtain ⟨hg3, H⟩ := gsplit H
          replace H := Option.some.inj H
          refine xr ?_
          subst H
          exact xN
    · obtain ⟨F, G, hq2⟩ := xH Y G hp2
      refine xE0 ?_
      refine w_cut (preref1_Piece_j4 a0 a1) (fun s => [(0, .c (.d (.v (str a0)))), (1, .c (.d (.v (.bool a1)))), (6, .c (.d (.v (.int .u8 (s.1.toNat : Int))))), (36, .c (.d (.v (.bool s.2))))]) (fun s => []) [] out ?_ ?_
      · obtain ⟨r8, hr8, H⟩ := osplit H
        have F := xC Y (preref1_Digit_c (a0.getD 0 0) r8 hr8)
        rcases bsplit H with ⟨hp14, H⟩ | ⟨hp14, H⟩
        · obtain ⟨F, G, hq14⟩ := xH F G hp14
          refine xR ?_
          exact cut_at H (xK ⟨[], []⟩)
        · obtain ⟨F, G, hq14⟩ := xH F G hp14
          rcases bsplit H with ⟨hp15, H⟩ | ⟨hp15, H⟩
          · obtain ⟨F, G, hq15⟩ := xH F G hp15
            rcases bsplit H with ⟨hp16, H⟩ | ⟨hp16, H⟩
            · obtain ⟨F, G, hq16⟩ := xH F G hp16
              obtain ⟨hg9, H⟩ := gsplit H
              obtain ⟨r9, hr9, H⟩ := osplit H
              have F := xCf F (preref1_Digit_c (a0.getD 1 0) r9 hr9)
              refine xR ?_
              exact cut_at H (xK ⟨[], []⟩)
            · obtain ⟨F, G, hq16⟩ := xH F G hp16
              refine xR ?_
              exact cut_at H (xK ⟨[], []⟩)
          · obtain ⟨F, G, hq15⟩ := xH F G hp15
            refine xR ?_
            exact cut_at H (xK ⟨[], []⟩)
      · rintro ⟨x3, x4⟩ H
        rw [preref1_Piece_j4] at H
        rcases bsplit H with ⟨hp6, H⟩ | ⟨hp6, H⟩
        · obtain ⟨F, G, hq6⟩ := xH Y G hp6
          refine xT ?_
          obtain ⟨r5, hr5, H⟩ := osplit H
          have F := xC Y (preref1_Number_c a0 r5 hr5)
          replace H := Option.some.inj H
          refine xR ?_
          subst H
          exact xN
        · obtain ⟨F, G, hq6⟩ := xH Y G hp6
          refine xE ?_
          refine xr ?_
          rcases bsplit H with ⟨hp7, H⟩ | ⟨hp7, H⟩
          · obtain ⟨F, G, hq7⟩ := xH Y G hp7
            refine xT ?_
            obtain ⟨r6, hr6, H⟩ := osplit H
            have F := xC Y (preref1_Quoted_c a0 r6 hr6)
            replace H := Option.some.inj H
            refine xR ?_
            subst H
            exact xN
          · obtain ⟨F, G, hq7⟩ := xH Y G hp7
            refine xE ?_
            refine xr ?_
            rcases bsplit H with ⟨hp8, H⟩ | ⟨hp8, H⟩
            · obtain ⟨F, G, hq8⟩ := xH Y G hp8
              refine xT ?_
              obtain ⟨r7, hr7, H⟩ := osplit H
              have F := xC Y (preref1_Quoted_c a0 r7 hr7)
              replace H := Option.some.inj H
              refine xR ?_
              subst H
              exact xN
            · obtain ⟨F, G, hq8⟩ := xH Y G hp8
              refine xE0 ?_
              refine w_cut (preref1_Piece_j5 a0) (fun s => [(0, .c (.d (.v (str a0)))), (65, .c (.d (.v (.bool s))))]) (fun s => []) [] out ?_ ?_
              · rcases bsplit H with ⟨hp13, H⟩ | ⟨hp13, H⟩
                · obtain ⟨F, G, hq13⟩ := xH Y G hp13
                  refine xR ?_
                  exact cut_at H (xK ⟨[], []⟩)
                · obtain ⟨F, G, hq13⟩ := xH Y G hp13
                  refine xR ?_
                  exact cut_at H (xK ⟨[], []⟩)
              · rintro x5 H
                rw [preref1_Piece_j5] at H
                rcases bsplit H with ⟨hp9, H⟩ | ⟨hp9, H⟩
                · obtain ⟨F, G, hq9⟩ := xH Y G hp9
                  refine xT ?_
                  refine xr ?_
                  refine w_loop (preref1_Piece_b6 a0) (fun s => [(0, .c (.d (.v (str a0)))), (8, .c (.d (.v (.int .i64 s))))]) (fun s => []) [] H (xK ⟨[], []⟩) ?_
                  rintro n2 x6 o2 H hF2
                  rw [preref1_Piece_b6] at H
                  refine w_seq ?_
                  refine w_cut (preref1_Piece_j7 a0 x6) (fun s => [(0, .c (.d (.v (str a0)))), (8, .c (.d (.v (.int .i64 x6)))), (80, .c (.d (.v (.bool s))))]) (fun s => []) [] o2 ?_ ?_
                  · rcases bsplit H with ⟨hp12, H⟩ | ⟨hp12, H⟩
                    · obtain ⟨F, G, hq12⟩ := xH Y G hp12
                      obtain ⟨hg8, H⟩ := gsplit H
                      refine xR ?_
                      exact cut_at H (xK ⟨[], []⟩)
                    · obtain ⟨F, G, hq12⟩ := xH Y G hp12
                      refine xR ?_
                      exact cut_at H (xK ⟨[], []⟩)
                  · rintro x7 H
                    rw [preref1_Piece_j7] at H
                    rcases bsplit H with ⟨hp10, H⟩ | ⟨hp10, H⟩
                    · obtain ⟨F, G, hq10⟩ := xH Y G hp10
                      refine xT ?_
                      obtain ⟨hg6, H⟩ := gsplit H
                      refine xr ?_
                      rcases bsplit H with ⟨hp11, H⟩ | ⟨hp11, H⟩
                      · obtain ⟨F, G, hq11⟩ := xH Y G hp11
                        refine xT ?_
                        obtain ⟨hg7, H⟩ := gsplit H
                        replace H := inrO_fin H hF2
                        replace H := Option.some.inj H
                        refine xr ?_
                        subst H
                        exact xN
                      · obtain ⟨F, G, hq11⟩ := xH Y G hp11
                        refine xE ?_
                        refine xr ?_
                        exact round_at (inl_fin H hF2) (xK ⟨[], []⟩)
                    · obtain ⟨F, G, hq10⟩ := xH Y G hp10
                      replace H := inrO_fin H hF2
                      refine xE ?_
                      exact cut_at H (xK ⟨[], []⟩)
                · obtain ⟨F, G, hq9⟩ := xH Y G hp9
                  refine xE ?_
                  exact cut_at H (xK ⟨[], []⟩)
  · rintro ⟨⟩ H
    rw [preref1_Piece_j1] at H
    refine xS ?_
    obtain ⟨r1, hr1, H⟩ := osplit H
    have F := xC Y (preref1_Sign_c a0 r1 hr1)
    refine xR ?_
    refine xr ?_
    rcases bsplit H with ⟨hp1, H⟩ | ⟨hp1, H⟩
    · obtain ⟨F, G, hq1⟩ := xH Y G hp1
      refine xT ?_
      replace H := Option.some.inj H
      refine xr ?_
      subst H
      exact xN
    · obtain ⟨F, G, hq1⟩ := xH Y G hp1
      refine xE ?_
      obtain ⟨hg1, H⟩ := gsplit H
      replace H := Option.some.inj H
      refine xr ?_
      subst H
      exact xN
theorem preref1_Piece_c (a0 : List UInt8) (a1 : Bool) (r : Int × (List UInt8)) (H : preref1_Piece a0 a1 = some r) : PC pf_preref1_Piece [dS a0, dB a1] (T2 dI dS r) := PF.c (a := (a0, a1)) H
noncomputable def preref1_Line_j3 (x2 : Int) : Int → Option ((Int × Int) ⊕ Int)
  | x4 => some (.inl (x4, IntKind.i64.wrap (x2 + 1)))
noncomputable def preref1_Line_j2 (a0 : List UInt8) (x1 : Int) (x2 : Int) : Bool → Option ((Int × Int) ⊕ Int)
  | x3 => if x3 = true then if (0 : Int) ≤ x2 ∧ x2.toNat < a0.length then if (eqI ((a0.getD x2.toNat 0).toNat : Int) 10) = true then preref1_Line_j3 x2 (IntKind.i64.wrap (x1 + 1)) else preref1_Line_j3 x2 x1 else none else inrO (some x1)
noncomputable def preref1_Line_b1 (a0 : List UInt8) (a1 : Int) : (Int × Int) → Option ((Int × Int) ⊕ Int)
  | (x1, x2) => if (ltI x2 a1) = true then preref1_Line_j2 a0 x1 x2 (ltI x2 (a0.length : Int)) else preref1_Line_j2 a0 x1 x2 false
noncomputable def preref1_Line (a0 : List UInt8) (a1 : Int) : Option Int :=
  loopO (preref1_Line_b1 a0 a1) (1, 0)
noncomputable def pf_preref1_Line : PF := PF.of (E2 dS dI) (fun a => preref1_Line a.1 a.2) dI
set_option maxRecDepth 100000 in
set_option maxHeartbeats 4000000 in
theorem preref1_Line_ok : PureOk Try.prog 18 pf_preref1_Line := by
  refine xF mixed [] [] trivial trivial Try.func18 ?_
  rintro ⟨a0, a1⟩ out H
  have G := True.intro
  have Y := xZ y_9 <| Try.results18
  simp only [preref1_Line] at H
  refine xS ?_
  refine xr ?_
  refine xr ?_
  refine xr ?_
  refine w_loop (preref1_Line_b1 a0 a1) (fun s => [(0, .c (.d (.v (str a0)))), (1, .c (.d (.v (.int .i64 a1)))), (5, .c (.d (.v (.int .i64 s.1)))), (6, .c (.d (.v (.int .i64 s.2))))]) (fun s => []) [] H (xK ⟨[], []⟩) ?_
  rintro n1 ⟨x1, x2⟩ o1 H hF1
  rw [preref1_Line_b1] at H
  refine w_seq ?_
  refine w_cut (preref1_Line_j2 a0 x1 x2) (fun s => [(0, .c (.d (.v (str a0)))), (1, .c (.d (.v (.int .i64 a1)))), (5, .c (.d (.v (.int .i64 x1)))), (6, .c (.d (.v (.int .i64 x2)))), (15, .c (.d (.v (.bool s))))]) (fun s => []) [] o1 ?_ ?_
  · rcases bsplit H with ⟨hp3, H⟩ | ⟨hp3, H⟩
    · obtain ⟨F, G, hq3⟩ := xH Y G hp3
      refine xR ?_
      exact cut_at H (xK ⟨[], []⟩)
    · obtain ⟨F, G, hq3⟩ := xH Y G hp3
      refine xR ?_
      exact cut_at H (xK ⟨[], []⟩)
  · rintro x3 H
    rw [preref1_Line_j2] at H
    rcases bsplit H with ⟨hp1, H⟩ | ⟨hp1, H⟩
    · obtain ⟨F, G, hq1⟩ := xH Y G hp1
      refine xT0 ?_
      refine w_skip ?_
      refine then_normal ?_
      refine w_cut (preref1_Line_j3 x2) (fun s => [(0, .c (.d (.v (str a0)))), (1, .c (.d (.v (.int .i64 a1)))), (5, .c (.d (.v (.int .i64 s)))), (6, .c (.d (.v (.int .i64 x2))))]) (fun s => []) [] o1 ?_ ?_
      · refine xS ?_
        obtain ⟨hg1, H⟩ := gsplit H
        refine xr ?_
        rcases bsplit H with ⟨hp2, H⟩ | ⟨hp2, H⟩
        · obtain ⟨F, G, hq2⟩ := xH Y G hp2
          refine xT ?_
          refine xr ?_
          exact cut_at H (xK ⟨[], []⟩)
        · obtain ⟨F, G, hq2⟩ := xH Y G hp2
          refine xE ?_
          exact cut_at H (xK ⟨[], []⟩)
      · rintro x4 H
        rw [preref1_Line_j3] at H
        refine xr ?_
        exact round_at (inl_fin H hF1) (xK ⟨[], []⟩)
    · obtain ⟨F, G, hq1⟩ := xH Y G hp1
      replace H := inrO_fin H hF1
      refine xE ?_
      replace H := Option.some.inj H
      refine xr ?_
      subst H
      exact xN
theorem preref1_Line_c (a0 : List UInt8) (a1 : Int) (r : Int) (H : preref1_Line a0 a1 = some r) : PC pf_preref1_Line [dS a0, dI a1] (dI r) := PF.c (a := (a0, a1)) H
noncomputable def preref1_Tokens_j3 (a0 : Int) (a1 : List UInt8) (r1 : Spliced) (x1 : List Token) (r2 : Int × Bool) (x3 : Int) (x4 : Bool) : Bool → Option (((List Token) × Int) ⊕ ((List Token) × Fault))
  | x5 => if (0 : Int) ≤ x3 ∧ x3 ≤ (r1.Text.length : Int) ∧ (r1.Text.length : Int) ≤ (r1.Text.length : Int) then (preref1_Piece (List.drop x3.toNat r1.Text) x5).bind fun r3 => if (eqS r3.2 []) = true then if (0 : Int) ≤ x3 ∧ x3.toNat < r1.At.length then inrO (some (([] : List Token), (⟨9, a0, (r1.At.getD x3.toNat default)⟩ : Fault))) else none else if (0 : Int) ≤ x3 ∧ x3.toNat < r1.At.length then if (0 : Int) ≤ (IntKind.i64.wrap ((IntKind.i64.wrap (x3 + (r3.2.length : Int))) - 1)) ∧ (IntKind.i64.wrap ((IntKind.i64.wrap (x3 + (r3.2.length : Int))) - 1)).toNat < r1.At.length then if (0 : Int) ≤ x3 ∧ x3.toNat < r1.At.length then (preref1_Line a1 (r1.At.getD x3.toNat default)).bind fun r4 => if (x1.length + [(⟨r3.1, r3.2, ltI 0 r2.1, x4, a0, (r1.At.getD x3.toNat default), IntKind.i64.wrap ((r1.At.getD ((IntKind.i64.wrap ((IntKind.i64.wrap (x3 + (r3.2.length : Int))) - 1)).toNat) default) + 1), r4, ([] : List (List UInt8)), ([] : List Call), 0⟩ : Token)].length) * 120 ≤ 140737488355328 then some (.inl (x1 ++ [(⟨r3.1, r3.2, ltI 0 r2.1, x4, a0, (r1.At.getD x3.toNat default), IntKind.i64.wrap ((r1.At.getD ((IntKind.i64.wrap ((IntKind.i64.wrap (x3 + (r3.2.length : Int))) - 1)).toNat) default) + 1), r4, ([] : List (List UInt8)), ([] : List Call), 0⟩ : Token)], IntKind.i64.wrap (x3 + (r3.2.length : Int)))) else none else none else none else none else none
noncomputable def preref1_Tokens_j2 (a0 : Int) (a1 : List UInt8) (r1 : Spliced) (x1 : List Token) (r2 : Int × Bool) : (Int × Bool) → Option (((List Token) × Int) ⊕ ((List Token) × Fault))
  | (x3, x4) => if (!x4) = true then if (leI 2 (x1.length : Int)) = true then if (0 : Int) ≤ (IntKind.i64.wrap ((x1.length : Int) - 1)) ∧ (IntKind.i64.wrap ((x1.length : Int) - 1)).toNat < x1.length then if (eqS ((x1.getD ((IntKind.i64.wrap ((x1.length : Int) - 1)).toNat) default).Text) [105, 110, 99, 108, 117, 100, 101]) = true then if (0 : Int) ≤ (IntKind.i64.wrap ((x1.length : Int) - 1)) ∧ (IntKind.i64.wrap ((x1.length : Int) - 1)).toNat < x1.length then if (!((x1.getD ((IntKind.i64.wrap ((x1.length : Int) - 1)).toNat) default).First)) = true then if (0 : Int) ≤ (IntKind.i64.wrap ((x1.length : Int) - 2)) ∧ (IntKind.i64.wrap ((x1.length : Int) - 2)).toNat < x1.length then if (eqS ((x1.getD ((IntKind.i64.wrap ((x1.length : Int) - 2)).toNat) default).Text) [35]) = true then if (0 : Int) ≤ (IntKind.i64.wrap ((x1.length : Int) - 2)) ∧ (IntKind.i64.wrap ((x1.length : Int) - 2)).toNat < x1.length then preref1_Tokens_j3 a0 a1 r1 x1 r2 x3 x4 ((x1.getD ((IntKind.i64.wrap ((x1.length : Int) - 2)).toNat) default).First) else none else preref1_Tokens_j3 a0 a1 r1 x1 r2 x3 x4 false else none else preref1_Tokens_j3 a0 a1 r1 x1 r2 x3 x4 false else none else preref1_Tokens_j3 a0 a1 r1 x1 r2 x3 x4 false else none else preref1_Tokens_j3 a0 a1 r1 x1 r2 x3 x4 false else preref1_Tokens_j3 a0 a1 r1 x1 r2 x3 x4 false
noncomputable def preref1_Tokens_b1 (a0 : Int) (a1 : List UInt8) (r1 : Spliced) : ((List Token) × Int) → Option (((List Token) × Int) ⊕ ((List Token) × Fault))
  | (x1, x2) => if (0 : Int) ≤ x2 ∧ x2 ≤ (r1.Text.length : Int) ∧ (r1.Text.length : Int) ≤ (r1.Text.length : Int) then (preref1_Skip (List.drop x2.toNat r1.Text)).bind fun r2 => if (ltI r2.1 0) = true then if (0 : Int) ≤ (IntKind.i64.wrap ((IntKind.i64.wrap (x2 - 1)) - r2.1)) ∧ (IntKind.i64.wrap ((IntKind.i64.wrap (x2 - 1)) - r2.1)).toNat < r1.At.length then inrO (some (([] : List Token), (⟨9, a0, (r1.At.getD ((IntKind.i64.wrap ((IntKind.i64.wrap (x2 - 1)) - r2.1)).toNat) default)⟩ : Fault))) else none else if (leI (r1.Text.length : Int) (IntKind.i64.wrap (x2 + r2.1))) = true then inrO (some (x1, (⟨0, (-1), 0⟩ : Fault))) else if r2.2 = true then preref1_Tokens_j2 a0 a1 r1 x1 r2 (IntKind.i64.wrap (x2 + r2.1), true) else preref1_Tokens_j2 a0 a1 r1 x1 r2 (IntKind.i64.wrap (x2 + r2.1), eqI (x1.length : Int) 0) else none
noncomputable def preref1_Tokens (a0 : Int) (a1 : List UInt8) : Option ((List Token) × Fault) :=
  if (ltI 3000 (a1.length : Int)) = true then some (([] : List Token), (⟨4, a0, 0⟩ : Fault)) else (preref1_Splice a1).bind fun r1 => loopO (preref1_Tokens_b1 a0 a1 r1) (([] : List Token), 0)
noncomputable def pf_preref1_Tokens : PF := PF.of (E2 dI dS) (fun a => preref1_Tokens a.1 a.2) (T2 (dL 11 d_Token) d_Fault)
set_option maxRecDepth 100000 in
set_option maxHeartbeats 4000000 in
theorem preref1_Tokens_ok : PureOk Try.prog 12 pf_preref1_Tokens := by
  refine xF mixed [(15, pf_preref1_Splice), (16, pf_preref1_Skip), (17, pf_preref1_Piece), (18, pf_preref1_Line)] [] ⟨⟨call_15, preref1_Splice_ok⟩, ⟨call_16, preref1_Skip_ok⟩, ⟨call_17, preref1_Piece_ok⟩, ⟨call_18, preref1_Line_ok⟩, trivial⟩ trivial Try.func12 ?_
  rintro ⟨a0, a1⟩ out H
  have G := True.intro
  have Y := xZ y_3 <| xZ y_4 <| xZ y_9 <| xZ y_23 <| xZ y_28 <| xZ y_30 <| xZ y_35 <| xZ y_36 <| xZ y_38 <| xZ y_53 <| xZ y_55 <| xZ Try.results12 <| xZ d_Call.eq_1 <| xZ d_Token.eq_1 <| xZ d_Spliced.eq_1 <| d_Fault.eq_1
  simp only [preref1_Tokens] at H
  refine xS ?_
  refine xr ?_
  refine xr ?_
  rcases bsplit H with ⟨hp1, H⟩ | ⟨hp1, H⟩
  · obtain ⟨F, G, hq1⟩ := xH Y G hp1
    refine xT ?_
    replace H := Option.some.inj H
    refine xr ?_
    subst H
    exact xN
  · obtain ⟨F, G, hq1⟩ := xH Y G hp1
    refine xE ?_
    obtain ⟨r1, hr1, H⟩ := osplit H
    have F := xC Y (preref1_Splice_c a1 r1 hr1)
    refine xR ?_
    refine xr ?_
    refine xr ?_
    refine w_loop (preref1_Tokens_b1 a0 a1 r1) (fun s => [(0, .c (.d (.v (.int .i64 a0)))), (1, .c (.d (.v (str a1)))), (5, .c (.pt 1 0)), (6, .c (.pt 2 0)), (7, .c (.sl 11 (List.map d_Token s.1) 3)), (8, .c (.d (.v (.int .i64 s.2))))]) (fun s => [[.d (.v (.int .i64 0)), .d (.v (.int .i64 0)), .d (.v (.int .i64 0))], [.d (.v (str r1.Text)), .d (.sl 1 (List.map dI r1.At))]]) [38] H (xK ⟨[1,2], [0]⟩) ?_
    rintro n1 ⟨x1, x2⟩ o1 H hF1
    rw [preref1_Tokens_b1] at H
    refine xS ?_
    obtain ⟨hg1, H⟩ := gsplit H
    obtain ⟨r2, hr2, H⟩ := osplit H
    have F := xC Y (preref1_Skip_c (List.drop x2.toNat r1.Text) r2 hr2)
    refine xR ?_
    refine xr ?_
    rcases bsplit H with ⟨hp2, H⟩ | ⟨hp2, H⟩
    · obtain ⟨F, G, hq2⟩ := xH Y G hp2
      refine xT ?_
      obtain ⟨hg2, H⟩ := gsplit H
      have F := xZ Y (map_getD dI r1.At ((IntKind.i64.wrap ((IntKind.i64.wrap (x2 - 1)) - r2.1)).toNat) default default (by omega))
      replace H := inrO_fin H hF1
      replace H := Option.some.inj H
      refine xR ?_
      subst H
      exact xN
    · obtain ⟨F, G, hq2⟩ := xH Y G hp2
      refine xE ?_
      refine xr ?_
      refine xr ?_
      rcases bsplit H with ⟨hp3, H⟩ | ⟨hp3, H⟩
      · obtain ⟨F, G, hq3⟩ := xH Y G hp3
        refine xT ?_
        replace H := inrO_fin H hF1
        replace H := Option.some.inj H
        refine xr ?_
        subst H
        exact xN
      · obtain ⟨F, G, hq3⟩ := xH Y G hp3
        refine xE0 ?_
        refine w_skip ?_
        refine then_normal ?_
        refine w_cut (preref1_Tokens_j2 a0 a1 r1 x1 r2) (fun s => [(0, .c (.d (.v (.int .i64 a0)))), (1, .c (.d (.v (str a1)))), (5, .c (.pt 1 0)), (6, .c (.pt 2 0)), (7, .c (.sl 11 (List.map d_Token x1) 3)), (8, .c (.d (.v (.int .i64 s.1)))), (9, .c (.d (.v (.int .i64 r2.1)))), (11, .c (.d (.v (.bool s.2))))]) (fun s => [[.d (.v (.int .i64 0)), .d (.v (.int .i64 0)), .d (.v (.int .i64 0))], [.d (.v (str r1.Text)), .d (.sl 1 (List.map dI r1.At))]]) [38] o1 ?_ ?_
        · rcases bsplit H with ⟨hp10, H⟩ | ⟨hp10, H⟩
          · obtain ⟨F, G, hq10⟩ := xH Y G hp10
            refine xR ?_
            exact cut_at H (xK ⟨[1,2], [3]⟩)
          · obtain ⟨F, G, hq10⟩ := xH Y G hp10
            refine xR ?_
            exact cut_at H (xK ⟨[1,2], [3]⟩)
        · rintro ⟨x3, x4⟩ H
          rw [preref1_Tokens_j2] at H
          refine xS ?_
          refine xr0 ?_
          refine then_normal ?_
          refine w_cut (preref1_Tokens_j3 a0 a1 r1 x1 r2 x3 x4) (fun s => [(0, .c (.d (.v (.int .i64 a0)))), (1, .c (.d (.v (str a1)))), (5, .c (.pt 1 0)), (6, .c (.pt 2 0)), (7, .c (.sl 11 (List.map d_Token x1) 3)), (8, .c (.d (.v (.int .i64 x3)))), (9, .c (.d (.v (.int .i64 r2.1)))), (11, .c (.d (.v (.bool x4)))), (13, .c (.d (.v (.bool s))))]) (fun s => [[.d (.v (.int .i64 0)), .d (.v (.int .i64 0)), .d (.v (.int .i64 0))], [.d (.v (str r1.Text)), .d (.sl 1 (List.map dI r1.At))]]) [38] o1 ?_ ?_
          · rcases bsplit H with ⟨hp5, H⟩ | ⟨hp5, H⟩
            · obtain ⟨F, G, hq5⟩ := xH Y G hp5
              rcases bsplit H with ⟨hp6, H⟩ | ⟨hp6, H⟩
              · obtain ⟨F, G, hq6⟩ := xH F G hp6
                obtain ⟨hg9, H⟩ := gsplit H
                have F := xZ F (map_getD d_Token x1 ((IntKind.i64.wrap ((x1.length : Int) - 1)).toNat) default default (by omega))
                rcases bsplit H with ⟨hp7, H⟩ | ⟨hp7, H⟩
                · obtain ⟨F, G, hq7⟩ := xH F G hp7
                  obtain ⟨hg10, H⟩ := gsplit H
                  have F := xZ F (map_getD d_Token x1 ((IntKind.i64.wrap ((x1.length : Int) - 1)).toNat) default default (by omega))
                  rcases bsplit H with ⟨hp8, H⟩ | ⟨hp8, H⟩
                  · obtain ⟨F, G, hq8⟩ := xH F G hp8
                    obtain ⟨hg11, H⟩ := gsplit H
                    have F := xZ F (map_getD d_Token x1 ((IntKind.i64.wrap ((x1.length : Int) - 2)).toNat) default default (by omega))
                    rcases bsplit H with ⟨hp9, H⟩ | ⟨hp9, H⟩
                    · obtain ⟨F, G, hq9⟩ := xH F G hp9
                      obtain ⟨hg12, H⟩ := gsplit H
                      have F := xZ F (map_getD d_Token x1 ((IntKind.i64.wrap ((x1.length : Int) - 2)).toNat) default default (by omega))
                      refine xR ?_
                      exact cut_at H (xK ⟨[1,2], [3]⟩)
                    · obtain ⟨F, G, hq9⟩ := xH F G hp9
                      refine xR ?_
                      exact cut_at H (xK ⟨[1,2], [3]⟩)
                  · obtain ⟨F, G, hq8⟩ := xH F G hp8
                    refine xR ?_
                    exact cut_at H (xK ⟨[1,2], [3]⟩)
                · obtain ⟨F, G, hq7⟩ := xH F G hp7
                  refine xR ?_
                  exact cut_at H (xK ⟨[1,2], [3]⟩)
              · obtain ⟨F, G, hq6⟩ := xH F G hp6
                refine xR ?_
                exact cut_at H (xK ⟨[1,2], [3]⟩)
            · obtain ⟨F, G, hq5⟩ := xH Y G hp5
              refine xR ?_
              exact cut_at H (xK ⟨[1,2], [3]⟩)
          · rintro x5 H
            rw [preref1_Tokens_j3] at H
            refine xS ?_
            obtain ⟨hg3, H⟩ := gsplit H
            obtain ⟨r3, hr3, H⟩ := osplit H
            have F := xC Y (preref1_Piece_c (List.drop x3.toNat r1.Text) x5 r3 hr3)
            refine xR ?_
            refine xr ?_
            rcases bsplit H with ⟨hp4, H⟩ | ⟨hp4, H⟩
            · obtain ⟨F, G, hq4⟩ := xH Y G hp4
              refine xT ?_
              obtain ⟨hg4, H⟩ := gsplit H
              have F := xZ Y (map_getD dI r1.At x3.toNat default default (by omega))
              replace H := inrO_fin H hF1
              replace H := Option.some.inj H
              refine xR ?_
              subst H
              exact xN
            · obtain ⟨F, G, hq4⟩ := xH Y G hp4
              refine xE ?_
              obtain ⟨hg5, H⟩ := gsplit H
              have F := xZ Y (map_getD dI r1.At x3.toNat default default (by omega))
              obtain ⟨hg6, H⟩ := gsplit H
              have F := xZ F (map_getD dI r1.At ((IntKind.i64.wrap ((IntKind.i64.wrap (x3 + (r3.2.length : Int))) - 1)).toNat) default default (by omega))
              obtain ⟨hg7, H⟩ := gsplit H
              have F := xZ F (map_getD dI r1.At x3.toNat default default (by omega))
              obtain ⟨r4, hr4, H⟩ := osplit H
              have F := xCf F (preref1_Line_c a1 (r1.At.getD x3.toNat default) r4 hr4)
              obtain ⟨hg8, H⟩ := gsplit H
              have F := xZ F (all_map one_Token [(⟨r3.1, r3.2, ltI 0 r2.1, x4, a0, (r1.At.getD x3.toNat default), IntKind.i64.wrap ((r1.At.getD ((IntKind.i64.wrap ((IntKind.i64.wrap (x3 + (r3.2.length : Int))) - 1)).toNat) default) + 1), r4, ([] : List (List UInt8)), ([] : List Call), 0⟩ : Token)])
              refine xR ?_
              refine xr ?_
              exact round_at (inl_fin H hF1) (xK ⟨[1,2], [4]⟩)
theorem preref1_Tokens_c (a0 : Int) (a1 : List UInt8) (r : (List Token) × Fault) (H : preref1_Tokens a0 a1 = some r) : PC pf_preref1_Tokens [dI a0, dS a1] (T2 (dL 11 d_Token) d_Fault r) := PF.c (a := (a0, a1)) H
noncomputable def prelaw9_toks (a0 : List UInt8) : Option (List Token) :=
  (preref1_Tokens 0 a0).bind fun r1 => some r1.1
noncomputable def pf_prelaw9_toks : PF := PF.of (E1 dS) (fun a => prelaw9_toks a) (dL 11 d_Token)
set_option maxRecDepth 100000 in
set_option maxHeartbeats 4000000 in
theorem prelaw9_toks_ok : PureOk Try.prog 6 pf_prelaw9_toks := by
  refine xF mixed [(12, pf_preref1_Tokens)] [] ⟨⟨call_12, preref1_Tokens_ok⟩, trivial⟩ trivial Try.func6 ?_
  rintro a0 out H
  have G := True.intro
  have Y := xZ y_30 <| xZ Try.results6 <| xZ d_Call.eq_1 <| xZ d_Token.eq_1 <| d_Fault.eq_1
  simp only [prelaw9_toks] at H
  refine xS ?_
  refine xr ?_
  obtain ⟨r1, hr1, H⟩ := osplit H
  have F := xC Y (preref1_Tokens_c 0 a0 r1 hr1)
  refine xR ?_
  replace H := Option.some.inj H
  refine xr ?_
  subst H
  exact xN
theorem prelaw9_toks_c (a0 : List UInt8) (r : (List Token)) (H : prelaw9_toks a0 = some r) : PC pf_prelaw9_toks [dS a0] ((dL 11 d_Token) r) := PF.c (a := a0) H
noncomputable def prelaw9_alive_j1 : Bool → Option Bool
  | x1 => some x1
noncomputable def prelaw9_alive  : Option Bool :=
  (prelaw9_toks [116, 121, 112, 101, 100, 101, 102, 32, 105, 110, 116, 32, 84, 59, 32, 84, 32, 102, 40, 84, 32, 97, 41, 32, 123, 32, 105, 102, 32, 40, 97, 41, 32, 114, 101, 116, 117, 114, 110, 32, 97, 32, 43, 32, 49, 59, 32, 84, 32, 42, 112, 59, 32, 112, 32, 61, 32, 50, 59, 32, 125]).bind fun r1 => (tree_Parse r1).bind fun r2 => if (eqI r2.2.2.1 0) = true then if (eqI ((r2.2.2.2.2.2.length : Nat) : Int) 2) = true then if 1 < r2.2.2.2.2.2.length then if 1 < r2.2.2.2.2.2.length then if (eqI ((r2.2.2.2.2.2.getD 1 default).Kind) 3) = true then if 1 < r2.2.2.2.2.2.length then if 1 < r2.2.2.2.2.2.length then if (eqI (((r2.2.2.2.2.2.getD 1 default).Kids).length : Int) 4) = true then if 1 < r2.2.2.2.2.2.length then if 1 < r2.2.2.2.2.2.length then if 3 < ((r2.2.2.2.2.2.getD 1 default).Kids).length then if (eqI (((((r2.2.2.2.2.2.getD 1 default).Kids).getD 3 default).Kids).length : Int) 3) = true then (tree_Key [119, 104, 105, 108, 101]).bind fun r3 => if r3 = true then (tree_Key [84]).bind fun r4 => prelaw9_alive_j1 (!r4) else prelaw9_alive_j1 false else prelaw9_alive_j1 false else none else none else none else prelaw9_alive_j1 false else none else none else prelaw9_alive_j1 false else none else none else prelaw9_alive_j1 false else prelaw9_alive_j1 false
noncomputable def pf_prelaw9_alive : PF := PF.of E0 (fun _ => prelaw9_alive) dB
set_option maxRecDepth 100000 in
set_option maxHeartbeats 4000000 in
theorem prelaw9_alive_ok : PureOk Try.prog 5 pf_prelaw9_alive := by
  refine xF mixed [(6, pf_prelaw9_toks), (9, pf_tree_Key)] [(7, true, S_tree_Parse)] ⟨⟨call_6, prelaw9_toks_ok⟩, ⟨call_9, tree_Key_ok⟩, trivial⟩ ⟨tree_Parse_k, trivial⟩ Try.func5 ?_
  rintro _ out H
  have G := True.intro
  have Y := xZ y_3 <| xZ y_25 <| xZ y_27 <| xZ y_28 <| xZ y_30 <| xZ Try.results5 <| xZ d_Call.eq_1 <| xZ d_Token.eq_1 <| xZ d_Fault.eq_1 <| xZ dq_Node <| g_tree_Parse.eq_1
  simp only [prelaw9_alive] at H
  refine xS ?_
  refine xr ?_
  obtain ⟨r1, hr1, H⟩ := osplit H
  have F := xC Y (prelaw9_toks_c [116, 121, 112, 101, 100, 101, 102, 32, 105, 110, 116, 32, 84, 59, 32, 84, 32, 102, 40, 84, 32, 97, 41, 32, 123, 32, 105, 102, 32, 40, 97, 41, 32, 114, 101, 116, 117, 114, 110, 32, 97, 32, 43, 32, 49, 59, 32, 84, 32, 42, 112, 59, 32, 112, 32, 61, 32, 50, 59, 32, 125] r1 hr1)
  obtain ⟨r2, hr2, H⟩ := osplit H
  have F := F
  refine xQ ?_
  refine xs 1 ?_
  refine xc ⟨[], []⟩ (tabG 0 (tree_Parse_c r1 r2 hr2)) ?_
  refine xs 7 ?_
  refine xl ?_
  refine  ?_
  refine then_normal ?_
  refine w_cut prelaw9_alive_j1 (fun s => [(0, .c (.d (.v (.bool s))))]) (fun s => []) [] out ?_ ?_
  · rcases bsplit H with ⟨hp1, H⟩ | ⟨hp1, H⟩
    · obtain ⟨F, G, hq1⟩ := xH Y G hp1
      rcases bsplit H with ⟨hp2, H⟩ | ⟨hp2, H⟩
      · obtain ⟨F, G, hq2⟩ := xH F G hp2
        obtain ⟨hg1, H⟩ := gsplit H
        obtain ⟨hg, H⟩ := gsplit H
        have F := xZ F (map_getD d_Node r2.2.2.2.2.2 1 default default (by omega))
        rcases bsplit H with ⟨hp3, H⟩ | ⟨hp3, H⟩
        · obtain ⟨F, G, hq3⟩ := xH F G hp3
          obtain ⟨hg2, H⟩ := gsplit H
          obtain ⟨hg, H⟩ := gsplit H
          have F := xZ F (map_getD d_Node r2.2.2.2.2.2 1 default default (by omega))
          rcases bsplit H with ⟨hp4, H⟩ | ⟨hp4, H⟩
          · obtain ⟨F, G, hq4⟩ := xH F G hp4
            obtain ⟨hg3, H⟩ := gsplit H
            obtain ⟨hg, H⟩ := gsplit H
            have F := xZ F (map_getD d_Node r2.2.2.2.2.2 1 default default (by omega))
            obtain ⟨hg4, H⟩ := gsplit H
            have F := xZ F (map_getD d_Node ((r2.2.2.2.2.2.getD 1 default).Kids) 3 default default (by omega))
            rcases bsplit H with ⟨hp5, H⟩ | ⟨hp5, H⟩
            · obtain ⟨F, G, hq5⟩ := xH F G hp5
              obtain ⟨r3, hr3, H⟩ := osplit H
              have F := xCf F (tree_Key_c [119, 104, 105, 108, 101] r3 hr3)
              rcases bsplit H with ⟨hp6, H⟩ | ⟨hp6, H⟩
              · obtain ⟨F, G, hq6⟩ := xH F G hp6
                obtain ⟨r4, hr4, H⟩ := osplit H
                have F := xCf F (tree_Key_c [84] r4 hr4)
                refine xR ?_
                exact cut_at H (xK ⟨[], []⟩)
              · obtain ⟨F, G, hq6⟩ := xH F G hp6
                refine xR ?_
                exact cut_at H (xK ⟨[], []⟩)
            · obtain ⟨F, G, hq5⟩ := xH F G hp5
              refine xR ?_
              exact cut_at H (xK ⟨[], []⟩)
          · obtain ⟨F, G, hq4⟩ := xH F G hp4
            refine xR ?_
            exact cut_at H (xK ⟨[], []⟩)
        · obtain ⟨F, G, hq3⟩ := xH F G hp3
          refine xR ?_
          exact cut_at H (xK ⟨[], []⟩)
      · obtain ⟨F, G, hq2⟩ := xH F G hp2
        refine xR ?_
        exact cut_at H (xK ⟨[], []⟩)
    · obtain ⟨F, G, hq1⟩ := xH Y G hp1
      refine xR ?_
      exact cut_at H (xK ⟨[], []⟩)
  · rintro x1 H
    rw [prelaw9_alive_j1] at H
    replace H := Option.some.inj H
    refine xS ?_
    subst H
    exact xN
theorem prelaw9_alive_c  (r : Bool) (H : prelaw9_alive  = some r) : PC pf_prelaw9_alive [] (dB r) := PF.c (a := ()) H
end Go.Proofs.Ytppomhjhokbacaa
