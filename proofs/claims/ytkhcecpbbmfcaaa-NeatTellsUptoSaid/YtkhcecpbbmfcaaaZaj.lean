/- Functions of data for functions of the program. Written by dec3.py. -/
import Derived.Test.YtkhcecpbbmfcaaaZah
set_option linter.unusedVariables false
set_option linter.unusedSimpArgs false
namespace Go.Proofs.Ytkhcecpbbmfcaaa
open Go.RowKit
noncomputable def splice_joins_j2 : Bool → Option Int
  | x2 => if x2 = true then some 3 else some 0
noncomputable def splice_joins_j1 (a0 : List UInt8) : Bool → Option Int
  | x1 => if x1 = true then some 2 else if (leI 3 (a0.length : Int)) = true then if (0 : Int) ≤ 0 ∧ 0 ≤ 3 ∧ 3 ≤ (a0.length : Int) then splice_joins_j2 (eqS (List.take 3 a0) [92, 13, 10]) else none else splice_joins_j2 false
noncomputable def splice_joins (a0 : List UInt8) : Option Int :=
  if (leI 2 (a0.length : Int)) = true then if (0 : Int) ≤ 0 ∧ 0 ≤ 2 ∧ 2 ≤ (a0.length : Int) then splice_joins_j1 a0 (eqS (List.take 2 a0) [92, 10]) else none else splice_joins_j1 a0 false
noncomputable def pf_splice_joins : PF := PF.of (E1 dS) (fun a => splice_joins a) dI
set_option maxRecDepth 100000 in
set_option maxHeartbeats 4000000 in
theorem splice_joins_ok : PureOk Try.prog 78 pf_splice_joins := by
  refine xF mixed [] [] trivial trivial Try.func78 ?_
  rintro a0 out H
  have G := True.intro
  have Y := xZ y_9 <| Try.results78
  simp only [splice_joins] at H
  refine xS ?_
  refine xr0 ?_
  refine then_normal ?_
  refine w_seq ?_
  refine w_block ?_
  refine w_cut (splice_joins_j1 a0) (fun s => [(0, .c (.d (.v (str a0)))), (3, .c (.d (.v (.bool s))))]) (fun s => []) [] out ?_ ?_
  · rcases bsplit H with ⟨hp4, H⟩ | ⟨hp4, H⟩
    · obtain ⟨F, G, hq4⟩ := xH Y G hp4
      obtain ⟨hg2, H⟩ := gsplit H
      refine xR ?_
      exact cut_at H (xK ⟨[], []⟩)
    · obtain ⟨F, G, hq4⟩ := xH Y G hp4
      refine xR ?_
      exact cut_at H (xK ⟨[], []⟩)
  · rintro x1 H
    rw [splice_joins_j1] at H
    rcases bsplit H with ⟨hp1, H⟩ | ⟨hp1, H⟩
    · obtain ⟨F, G, hq1⟩ := xH Y G hp1
      refine xT ?_
      replace H := Option.some.inj H
      refine xr ?_
      subst H
      exact xN
    · obtain ⟨F, G, hq1⟩ := xH Y G hp1
      refine xE0 ?_
      refine w_cut splice_joins_j2 (fun s => [(12, .c (.d (.v (.bool s))))]) (fun s => []) [] out ?_ ?_
      · rcases bsplit H with ⟨hp3, H⟩ | ⟨hp3, H⟩
        · obtain ⟨F, G, hq3⟩ := xH Y G hp3
          obtain ⟨hg1, H⟩ := gsplit H
          refine xR ?_
          exact cut_at H (xK ⟨[], []⟩)
        · obtain ⟨F, G, hq3⟩ := xH Y G hp3
          refine xR ?_
          exact cut_at H (xK ⟨[], []⟩)
      · rintro x2 H
        rw [splice_joins_j2] at H
        rcases bsplit H with ⟨hp2, H⟩ | ⟨hp2, H⟩
        · obtain ⟨F, G, hq2⟩ := xH Y G hp2
          refine xT ?_
          replace H := Option.some.inj H
          refine xr ?_
          subst H
          exact xN
        · obtain ⟨F, G, hq2⟩ := xH Y G hp2
          refine xE ?_
          replace H := Option.some.inj H
          refine xr ?_
          subst H
          exact xN
theorem splice_joins_c (a0 : List UInt8) (r : Int) (H : splice_joins a0 = some r) : PC pf_splice_joins [dS a0] (dI r) := PF.c (a := a0) H
noncomputable def preref1_Splice_j2 (x2 : List UInt8) : (Int × (List UInt8) × (List Int)) → Option ((Int × (List UInt8) × (List UInt8) × (List Int)) ⊕ Spliced)
  | (x5, x6, x7) => some (.inl (IntKind.i64.wrap (x5 + 1), x2, x6, x7))
noncomputable def preref1_Splice_j5 (x1 : Int) (x2 : List UInt8) (x3 : List UInt8) (x4 : List Int) (x8 : List UInt8) : Bool → Option ((Int × (List UInt8) × (List UInt8) × (List Int)) ⊕ Spliced)
  | x11 => if x11 = true then preref1_Splice_j2 x2 (x1, x3, x4) else if (0 : Int) ≤ 0 ∧ 0 ≤ 1 ∧ 1 ≤ (x8.length : Int) then if x3.length + (List.take 1 x8).length ≤ 9223372036854775807 then if (x4.length + [x1].length) * 8 ≤ 140737488355328 then preref1_Splice_j2 x2 (x1, x3 ++ (List.take 1 x8), x4 ++ [x1]) else none else none else none
noncomputable def preref1_Splice_j4 (x1 : Int) (x2 : List UInt8) (x3 : List UInt8) (x4 : List Int) (x8 : List UInt8) : Bool → Option ((Int × (List UInt8) × (List UInt8) × (List Int)) ⊕ Spliced)
  | x10 => if x10 = true then preref1_Splice_j2 x2 (IntKind.i64.wrap (x1 + 2), x3, x4) else if (ltI 1 (x8.length : Int)) = true then if 0 < x8.length then if (eqI ((x8.getD 0 0).toNat : Int) 13) = true then if 1 < x8.length then preref1_Splice_j5 x1 x2 x3 x4 x8 (eqI ((x8.getD 1 0).toNat : Int) 10) else none else preref1_Splice_j5 x1 x2 x3 x4 x8 false else none else preref1_Splice_j5 x1 x2 x3 x4 x8 false
noncomputable def preref1_Splice_j3 (x1 : Int) (x2 : List UInt8) (x3 : List UInt8) (x4 : List Int) : ((List UInt8) × Bool) → Option ((Int × (List UInt8) × (List UInt8) × (List Int)) ⊕ Spliced)
  | (x8, x9) => if x9 = true then preref1_Splice_j2 x2 (IntKind.i64.wrap (x1 + 1), x3, x4) else if (ltI 2 (x8.length : Int)) = true then if 0 < x8.length then if (eqI ((x8.getD 0 0).toNat : Int) 92) = true then if 1 < x8.length then if (eqI ((x8.getD 1 0).toNat : Int) 13) = true then if 2 < x8.length then preref1_Splice_j4 x1 x2 x3 x4 x8 (eqI ((x8.getD 2 0).toNat : Int) 10) else none else preref1_Splice_j4 x1 x2 x3 x4 x8 false else none else preref1_Splice_j4 x1 x2 x3 x4 x8 false else none else preref1_Splice_j4 x1 x2 x3 x4 x8 false
noncomputable def preref1_Splice_b1 (a0 : List UInt8) : (Int × (List UInt8) × (List UInt8) × (List Int)) → Option ((Int × (List UInt8) × (List UInt8) × (List Int)) ⊕ Spliced)
  | (x1, x2, x3, x4) => if (ltI x1 (a0.length : Int)) = true then if (0 : Int) ≤ x1 ∧ x1 ≤ (a0.length : Int) ∧ (a0.length : Int) ≤ (a0.length : Int) then if (ltI 1 ((List.drop x1.toNat a0).length : Int)) = true then if 0 < (List.drop x1.toNat a0).length then if (eqI (((List.drop x1.toNat a0).getD 0 0).toNat : Int) 92) = true then if 1 < (List.drop x1.toNat a0).length then preref1_Splice_j3 x1 x2 x3 x4 (List.drop x1.toNat a0, eqI (((List.drop x1.toNat a0).getD 1 0).toNat : Int) 10) else none else preref1_Splice_j3 x1 x2 x3 x4 (List.drop x1.toNat a0, false) else none else preref1_Splice_j3 x1 x2 x3 x4 (List.drop x1.toNat a0, false) else none else inrO (if (x4.length + [(a0.length : Int)].length) * 8 ≤ 140737488355328 then some (⟨x3, x4 ++ [(a0.length : Int)]⟩ : Spliced) else none)
noncomputable def preref1_Splice (a0 : List UInt8) : Option Spliced :=
  loopO (preref1_Splice_b1 a0) (0, [], [], ([] : List Int))
noncomputable def pf_preref1_Splice : PF := PF.of (E1 dS) (fun a => preref1_Splice a) d_Spliced
set_option maxRecDepth 100000 in
set_option maxHeartbeats 4000000 in
theorem preref1_Splice_ok : PureOk Try.prog 57 pf_preref1_Splice := by
  refine xF mixed [] [] trivial trivial Try.func57 ?_
  rintro a0 out H
  have G := True.intro
  have Y := xZ y_3 <| xZ y_9 <| xZ y_88 <| xZ y_90 <| xZ Try.results57 <| d_Spliced.eq_1
  simp only [preref1_Splice] at H
  refine xS ?_
  refine xr ?_
  refine xr ?_
  refine xr ?_
  refine w_loop (preref1_Splice_b1 a0) (fun s => [(0, .c (.d (.v (str a0)))), (2, .c (.pt 1 0)), (3, .c (.pt 2 0)), (4, .c (.d (.v (.int .i64 s.1))))]) (fun s => [[.d (.v (str s.2.1)), .sl 1 [] 0], [.d (.v (str s.2.2.1)), .sl 1 (List.map dI s.2.2.2) 3]]) [3] H (xK ⟨[1,2], [0]⟩) ?_
  rintro n1 ⟨x1, x2, x3, x4⟩ o1 H hF1
  rw [preref1_Splice_b1] at H
  refine xS ?_
  refine xr ?_
  rcases bsplit H with ⟨hp1, H⟩ | ⟨hp1, H⟩
  · obtain ⟨F, G, hq1⟩ := xH Y G hp1
    refine xT0 ?_
    refine w_skip ?_
    refine then_normal ?_
    refine w_cut (preref1_Splice_j2 x2) (fun s => [(0, .c (.d (.v (str a0)))), (2, .c (.pt 1 0)), (3, .c (.pt 2 0)), (4, .c (.d (.v (.int .i64 s.1))))]) (fun s => [[.d (.v (str x2)), .sl 1 [] 0], [.d (.v (str s.2.1)), .sl 1 (List.map dI s.2.2) 3]]) [3] o1 ?_ ?_
    · refine xS ?_
      obtain ⟨hg1, H⟩ := gsplit H
      refine xr0 ?_
      refine then_normal ?_
      refine w_seq ?_
      refine w_cut (preref1_Splice_j3 x1 x2 x3 x4) (fun s => [(0, .c (.d (.v (str a0)))), (2, .c (.pt 1 0)), (3, .c (.pt 2 0)), (4, .c (.d (.v (.int .i64 x1)))), (5, .c (.d (.v (str s.1)))), (27, .c (.d (.v (.bool s.2))))]) (fun s => [[.d (.v (str x2)), .sl 1 [] 0], [.d (.v (str x3)), .sl 1 (List.map dI x4) 3]]) [3] o1 ?_ ?_
      · rcases bsplit H with ⟨hp10, H⟩ | ⟨hp10, H⟩
        · obtain ⟨F, G, hq10⟩ := xH Y G hp10
          obtain ⟨hg10, H⟩ := gsplit H
          rcases bsplit H with ⟨hp11, H⟩ | ⟨hp11, H⟩
          · obtain ⟨F, G, hq11⟩ := xH F G hp11
            obtain ⟨hg11, H⟩ := gsplit H
            refine xR ?_
            exact cut_at H (xK ⟨[1,2], [3]⟩)
          · obtain ⟨F, G, hq11⟩ := xH F G hp11
            refine xR ?_
            exact cut_at H (xK ⟨[1,2], [3]⟩)
        · obtain ⟨F, G, hq10⟩ := xH Y G hp10
          refine xR ?_
          exact cut_at H (xK ⟨[1,2], [3]⟩)
      · rintro ⟨x8, x9⟩ H
        rw [preref1_Splice_j3] at H
        rcases bsplit H with ⟨hp2, H⟩ | ⟨hp2, H⟩
        · obtain ⟨F, G, hq2⟩ := xH Y G hp2
          refine xT ?_
          refine xr ?_
          exact cut_at H (xK ⟨[1,2], [3]⟩)
        · obtain ⟨F, G, hq2⟩ := xH Y G hp2
          refine xE0 ?_
          refine w_skip ?_
          refine then_normal ?_
          refine w_seq ?_
          refine w_cut (preref1_Splice_j4 x1 x2 x3 x4 x8) (fun s => [(0, .c (.d (.v (str a0)))), (2, .c (.pt 1 0)), (3, .c (.pt 2 0)), (4, .c (.d (.v (.int .i64 x1)))), (5, .c (.d (.v (str x8)))), (47, .c (.d (.v (.bool s))))]) (fun s => [[.d (.v (str x2)), .sl 1 [] 0], [.d (.v (str x3)), .sl 1 (List.map dI x4) 3]]) [3] o1 ?_ ?_
          · rcases bsplit H with ⟨hp7, H⟩ | ⟨hp7, H⟩
            · obtain ⟨F, G, hq7⟩ := xH Y G hp7
              obtain ⟨hg7, H⟩ := gsplit H
              rcases bsplit H with ⟨hp8, H⟩ | ⟨hp8, H⟩
              · obtain ⟨F, G, hq8⟩ := xH F G hp8
                obtain ⟨hg8, H⟩ := gsplit H
                rcases bsplit H with ⟨hp9, H⟩ | ⟨hp9, H⟩
                · obtain ⟨F, G, hq9⟩ := xH F G hp9
                  obtain ⟨hg9, H⟩ := gsplit H
                  refine xR ?_
                  exact cut_at H (xK ⟨[1,2], [3]⟩)
                · obtain ⟨F, G, hq9⟩ := xH F G hp9
                  refine xR ?_
                  exact cut_at H (xK ⟨[1,2], [3]⟩)
              · obtain ⟨F, G, hq8⟩ := xH F G hp8
                refine xR ?_
                exact cut_at H (xK ⟨[1,2], [3]⟩)
            · obtain ⟨F, G, hq7⟩ := xH Y G hp7
              refine xR ?_
              exact cut_at H (xK ⟨[1,2], [3]⟩)
          · rintro x10 H
            rw [preref1_Splice_j4] at H
            rcases bsplit H with ⟨hp3, H⟩ | ⟨hp3, H⟩
            · obtain ⟨F, G, hq3⟩ := xH Y G hp3
              refine xT ?_
              refine xr ?_
              exact cut_at H (xK ⟨[1,2], [3]⟩)
            · obtain ⟨F, G, hq3⟩ := xH Y G hp3
              refine xE0 ?_
              refine w_skip ?_
              refine then_normal ?_
              refine w_seq ?_
              refine w_cut (preref1_Splice_j5 x1 x2 x3 x4 x8) (fun s => [(0, .c (.d (.v (str a0)))), (2, .c (.pt 1 0)), (3, .c (.pt 2 0)), (4, .c (.d (.v (.int .i64 x1)))), (5, .c (.d (.v (str x8)))), (62, .c (.d (.v (.bool s))))]) (fun s => [[.d (.v (str x2)), .sl 1 [] 0], [.d (.v (str x3)), .sl 1 (List.map dI x4) 3]]) [3] o1 ?_ ?_
              · rcases bsplit H with ⟨hp5, H⟩ | ⟨hp5, H⟩
                · obtain ⟨F, G, hq5⟩ := xH Y G hp5
                  obtain ⟨hg5, H⟩ := gsplit H
                  rcases bsplit H with ⟨hp6, H⟩ | ⟨hp6, H⟩
                  · obtain ⟨F, G, hq6⟩ := xH F G hp6
                    obtain ⟨hg6, H⟩ := gsplit H
                    refine xR ?_
                    exact cut_at H (xK ⟨[1,2], [3]⟩)
                  · obtain ⟨F, G, hq6⟩ := xH F G hp6
                    refine xR ?_
                    exact cut_at H (xK ⟨[1,2], [3]⟩)
                · obtain ⟨F, G, hq5⟩ := xH Y G hp5
                  refine xR ?_
                  exact cut_at H (xK ⟨[1,2], [3]⟩)
              · rintro x11 H
                rw [preref1_Splice_j5] at H
                rcases bsplit H with ⟨hp4, H⟩ | ⟨hp4, H⟩
                · obtain ⟨F, G, hq4⟩ := xH Y G hp4
                  refine xT ?_
                  exact cut_at H (xK ⟨[1,2], [3]⟩)
                · obtain ⟨F, G, hq4⟩ := xH Y G hp4
                  refine xE ?_
                  obtain ⟨hg2, H⟩ := gsplit H
                  obtain ⟨hg3, H⟩ := gsplit H
                  refine xr ?_
                  obtain ⟨hg4, H⟩ := gsplit H
                  have F := xZ Y (all_map one_dI [x1])
                  refine xR ?_
                  exact cut_at H (xK ⟨[1,2], [4]⟩)
    · rintro ⟨x5, x6, x7⟩ H
      rw [preref1_Splice_j2] at H
      refine xr ?_
      exact round_at (inl_fin H hF1) (xK ⟨[1,2], [3]⟩)
  · obtain ⟨F, G, hq1⟩ := xH Y G hp1
    replace H := inrO_fin H hF1
    refine xE ?_
    obtain ⟨hg12, H⟩ := gsplit H
    have F := xZ Y (all_map one_dI [(a0.length : Int)])
    refine xR ?_
    replace H := Option.some.inj H
    refine xr ?_
    subst H
    exact xN
theorem preref1_Splice_c (a0 : List UInt8) (r : Spliced) (H : preref1_Splice a0 = some r) : PC pf_preref1_Splice [dS a0] (d_Spliced r) := PF.c (a := a0) H
noncomputable def preref1_Skip_j5 (x2 : Bool) (x7 : Int) : Bool → Option (Int ⊕ ((Int × Bool) ⊕ (Int × Bool)))
  | x8 => if x8 = true then some (.inl (IntKind.i64.wrap (x7 + 1))) else inrO (some (.inl (x7, x2)))
noncomputable def preref1_Skip_b4 (a0 : List UInt8) (x2 : Bool) : Int → Option (Int ⊕ ((Int × Bool) ⊕ (Int × Bool)))
  | x7 => if (ltI x7 (a0.length : Int)) = true then if (0 : Int) ≤ x7 ∧ x7.toNat < a0.length then preref1_Skip_j5 x2 x7 (!eqI ((a0.getD x7.toNat 0).toNat : Int) 10) else none else preref1_Skip_j5 x2 x7 false
noncomputable def preref1_Skip_j7 (a0 : List UInt8) (x1 : Int) (x2 : Bool) (x9 : Int) : Bool → Option (Int ⊕ ((Int × Bool) ⊕ (Int × Bool)))
  | x10 => if x10 = true then some (.inl (IntKind.i64.wrap (x9 + 1))) else inrO (if (leI (a0.length : Int) (IntKind.i64.wrap (x9 + 1))) = true then inrO (some (IntKind.i64.wrap ((-1) - x1), x2)) else some (.inl (IntKind.i64.wrap (x9 + 2), x2)))
noncomputable def preref1_Skip_b6 (a0 : List UInt8) (x1 : Int) (x2 : Bool) : Int → Option (Int ⊕ ((Int × Bool) ⊕ (Int × Bool)))
  | x9 => if (ltI (IntKind.i64.wrap (x9 + 1)) (a0.length : Int)) = true then if (0 : Int) ≤ x9 ∧ x9 ≤ (IntKind.i64.wrap (x9 + 2)) ∧ (IntKind.i64.wrap (x9 + 2)) ≤ (a0.length : Int) then preref1_Skip_j7 a0 x1 x2 x9 (!eqS (List.take ((IntKind.i64.wrap (x9 + 2)).toNat - x9.toNat) (List.drop x9.toNat a0)) [42, 47]) else none else preref1_Skip_j7 a0 x1 x2 x9 false
noncomputable def preref1_Skip_j3 (a0 : List UInt8) (x1 : Int) (x2 : Bool) (x4 : List UInt8) : (UInt8 × Bool) → Option ((Int × Bool) ⊕ (Int × Bool))
  | (x5, x6) => if x6 = true then some (.inl (IntKind.i64.wrap (x1 + 1), x2)) else if (eqI (x5.toNat : Int) 10) = true then some (.inl (IntKind.i64.wrap (x1 + 1), true)) else if (eqS x4 [47, 47]) = true then loopO (preref1_Skip_b4 a0 x2) x1 else if (eqS x4 [47, 42]) = true then loopO (preref1_Skip_b6 a0 x1 x2) (IntKind.i64.wrap (x1 + 2)) else inrO (some (x1, x2))
noncomputable def preref1_Skip_j2 (a0 : List UInt8) (x1 : Int) (x2 : Bool) : (UInt8 × (List UInt8)) → Option ((Int × Bool) ⊕ (Int × Bool))
  | (x3, x4) => if (eqI (x3.toNat : Int) 32) = true then preref1_Skip_j3 a0 x1 x2 x4 (x3, true) else if (eqI (x3.toNat : Int) 9) = true then preref1_Skip_j3 a0 x1 x2 x4 (x3, true) else preref1_Skip_j3 a0 x1 x2 x4 (x3, eqI (x3.toNat : Int) 13)
noncomputable def preref1_Skip_b1 (a0 : List UInt8) : (Int × Bool) → Option ((Int × Bool) ⊕ (Int × Bool))
  | (x1, x2) => if (ltI x1 (a0.length : Int)) = true then if (0 : Int) ≤ x1 ∧ x1.toNat < a0.length then if (ltI (IntKind.i64.wrap (x1 + 1)) (a0.length : Int)) = true then if (0 : Int) ≤ x1 ∧ x1 ≤ (IntKind.i64.wrap (x1 + 2)) ∧ (IntKind.i64.wrap (x1 + 2)) ≤ (a0.length : Int) then preref1_Skip_j2 a0 x1 x2 ((a0.getD x1.toNat 0), List.take ((IntKind.i64.wrap (x1 + 2)).toNat - x1.toNat) (List.drop x1.toNat a0)) else none else preref1_Skip_j2 a0 x1 x2 ((a0.getD x1.toNat 0), []) else none else inrO (some (x1, x2))
noncomputable def preref1_Skip (a0 : List UInt8) : Option (Int × Bool) :=
  loopO (preref1_Skip_b1 a0) (0, false)
noncomputable def pf_preref1_Skip : PF := PF.of (E1 dS) (fun a => preref1_Skip a) (T2 dI dB)
set_option maxRecDepth 100000 in
set_option maxHeartbeats 4000000 in
theorem preref1_Skip_ok : PureOk Try.prog 58 pf_preref1_Skip := by
  refine xF mixed [] [] trivial trivial Try.func58 ?_
  rintro a0 out H
  have G := True.intro
  have Y := xZ y_9 <| Try.results58
  simp only [preref1_Skip] at H
  refine xS ?_
  refine xr ?_
  refine xr ?_
  refine w_loop (preref1_Skip_b1 a0) (fun s => [(0, .c (.d (.v (str a0)))), (4, .c (.d (.v (.int .i64 s.1)))), (5, .c (.d (.v (.bool s.2))))]) (fun s => []) [] H (xK ⟨[], []⟩) ?_
  rintro n1 ⟨x1, x2⟩ o1 H hF1
  rw [preref1_Skip_b1] at H
  refine xS ?_
  refine xr ?_
  rcases bsplit H with ⟨hp1, H⟩ | ⟨hp1, H⟩
  · obtain ⟨F, G, hq1⟩ := xH Y G hp1
    refine xT ?_
    obtain ⟨hg1, H⟩ := gsplit H
    refine xr ?_
    refine xr0 ?_
    refine then_normal ?_
    refine w_cut (preref1_Skip_j2 a0 x1 x2) (fun s => [(0, .c (.d (.v (str a0)))), (4, .c (.d (.v (.int .i64 x1)))), (5, .c (.d (.v (.bool x2)))), (6, .c (.d (.v (.int .u8 (s.1.toNat : Int))))), (7, .c (.d (.v (str s.2))))]) (fun s => []) [] o1 ?_ ?_
    · refine xS ?_
      refine xr ?_
      rcases bsplit H with ⟨hp13, H⟩ | ⟨hp13, H⟩
      · obtain ⟨F, G, hq13⟩ := xH Y G hp13
        refine xT ?_
        obtain ⟨hg4, H⟩ := gsplit H
        refine xr ?_
        exact cut_at H (xK ⟨[], []⟩)
      · obtain ⟨F, G, hq13⟩ := xH Y G hp13
        refine xE ?_
        exact cut_at H (xK ⟨[], []⟩)
    · rintro ⟨x3, x4⟩ H
      rw [preref1_Skip_j2] at H
      refine w_block ?_
      refine w_cut (preref1_Skip_j3 a0 x1 x2 x4) (fun s => [(0, .c (.d (.v (str a0)))), (4, .c (.d (.v (.int .i64 x1)))), (5, .c (.d (.v (.bool x2)))), (6, .c (.d (.v (.int .u8 (s.1.toNat : Int))))), (7, .c (.d (.v (str x4)))), (28, .c (.d (.v (.bool s.2))))]) (fun s => []) [] o1 ?_ ?_
      · rcases bsplit H with ⟨hp11, H⟩ | ⟨hp11, H⟩
        · obtain ⟨F, G, hq11⟩ := xH Y G hp11
          refine xR ?_
          exact cut_at H (xK ⟨[], []⟩)
        · obtain ⟨F, G, hq11⟩ := xH Y G hp11
          rcases bsplit H with ⟨hp12, H⟩ | ⟨hp12, H⟩
          · obtain ⟨F, G, hq12⟩ := xH F G hp12
            refine xR ?_
            exact cut_at H (xK ⟨[], []⟩)
          · obtain ⟨F, G, hq12⟩ := xH F G hp12
            refine xR ?_
            exact cut_at H (xK ⟨[], []⟩)
      · rintro ⟨x5, x6⟩ H
        rw [preref1_Skip_j3] at H
        rcases bsplit H with ⟨hp2, H⟩ | ⟨hp2, H⟩
        · obtain ⟨F, G, hq2⟩ := xH Y G hp2
          refine xT ?_
          refine xr ?_
          exact round_at (inl_fin H hF1) (xK ⟨[], []⟩)
        · obtain ⟨F, G, hq2⟩ := xH Y G hp2
          refine xE ?_
          refine xr ?_
          rcases bsplit H with ⟨hp3, H⟩ | ⟨hp3, H⟩
          · obtain ⟨F, G, hq3⟩ := xH Y G hp3
            refine xT ?_
            refine xr ?_
            refine xr ?_
            exact round_at (inl_fin H hF1) (xK ⟨[], []⟩)
          · obtain ⟨F, G, hq3⟩ := xH Y G hp3
            refine xE ?_
            refine xr ?_
            rcases bsplit H with ⟨hp4, H⟩ | ⟨hp4, H⟩
            · obtain ⟨F, G, hq4⟩ := xH Y G hp4
              refine xT ?_
              refine w_loop (preref1_Skip_b4 a0 x2) (fun s => [(0, .c (.d (.v (str a0)))), (4, .c (.d (.v (.int .i64 s)))), (5, .c (.d (.v (.bool x2))))]) (fun s => []) [] H (xK ⟨[], []⟩) ?_
              rintro n2 x7 o2 H hF2
              rw [preref1_Skip_b4] at H
              refine w_seq ?_
              refine w_cut (preref1_Skip_j5 x2 x7) (fun s => [(0, .c (.d (.v (str a0)))), (4, .c (.d (.v (.int .i64 x7)))), (5, .c (.d (.v (.bool x2)))), (58, .c (.d (.v (.bool s))))]) (fun s => []) [] o2 ?_ ?_
              · rcases bsplit H with ⟨hp6, H⟩ | ⟨hp6, H⟩
                · obtain ⟨F, G, hq6⟩ := xH Y G hp6
                  obtain ⟨hg2, H⟩ := gsplit H
                  refine xR ?_
                  exact cut_at H (xK ⟨[], []⟩)
                · obtain ⟨F, G, hq6⟩ := xH Y G hp6
                  refine xR ?_
                  exact cut_at H (xK ⟨[], []⟩)
              · rintro x8 H
                rw [preref1_Skip_j5] at H
                rcases bsplit H with ⟨hp5, H⟩ | ⟨hp5, H⟩
                · obtain ⟨F, G, hq5⟩ := xH Y G hp5
                  refine xT ?_
                  refine xr ?_
                  exact round_at (inl_fin H hF2) (xK ⟨[], []⟩)
                · obtain ⟨F, G, hq5⟩ := xH Y G hp5
                  replace H := inrO_fin H hF2
                  refine xE ?_
                  exact round_at (inl_fin H hF1) (xK ⟨[], []⟩)
            · obtain ⟨F, G, hq4⟩ := xH Y G hp4
              refine xE ?_
              refine xr ?_
              rcases bsplit H with ⟨hp7, H⟩ | ⟨hp7, H⟩
              · obtain ⟨F, G, hq7⟩ := xH Y G hp7
                refine xT ?_
                refine xr ?_
                refine w_loop (preref1_Skip_b6 a0 x1 x2) (fun s => [(0, .c (.d (.v (str a0)))), (4, .c (.d (.v (.int .i64 x1)))), (5, .c (.d (.v (.bool x2)))), (8, .c (.d (.v (.int .i64 s))))]) (fun s => []) [] H (xK ⟨[], []⟩) ?_
                rintro n3 x9 o3 H hF3
                rw [preref1_Skip_b6] at H
                refine w_seq ?_
                refine w_cut (preref1_Skip_j7 a0 x1 x2 x9) (fun s => [(0, .c (.d (.v (str a0)))), (4, .c (.d (.v (.int .i64 x1)))), (5, .c (.d (.v (.bool x2)))), (8, .c (.d (.v (.int .i64 x9)))), (78, .c (.d (.v (.bool s))))]) (fun s => []) [] o3 ?_ ?_
                · rcases bsplit H with ⟨hp10, H⟩ | ⟨hp10, H⟩
                  · obtain ⟨F, G, hq10⟩ := xH Y G hp10
                    obtain ⟨hg3, H⟩ := gsplit H
                    refine xR ?_
                    exact cut_at H (xK ⟨[], []⟩)
                  · obtain ⟨F, G, hq10⟩ := xH Y G hp10
                    refine xR ?_
                    exact cut_at H (xK ⟨[], []⟩)
                · rintro x10 H
                  rw [preref1_Skip_j7] at H
                  rcases bsplit H with ⟨hp8, H⟩ | ⟨hp8, H⟩
                  · obtain ⟨F, G, hq8⟩ := xH Y G hp8
                    refine xT ?_
                    refine xr ?_
                    exact round_at (inl_fin H hF3) (xK ⟨[], []⟩)
                  · obtain ⟨F, G, hq8⟩ := xH Y G hp8
                    replace H := inrO_fin H hF3
                    refine xE ?_
                    refine xr ?_
                    rcases bsplit H with ⟨hp9, H⟩ | ⟨hp9, H⟩
                    · obtain ⟨F, G, hq9⟩ := xH Y G hp9
                      refine xT ?_
                      replace H := inrO_fin H hF1
                      replace H := Option.some.inj H
                      refine xr ?_
                      subst H
                      exact xN
                    · obtain ⟨F, G, hq9⟩ := xH Y G hp9
                      refine xE ?_
                      refine xr ?_
                      exact round_at (inl_fin H hF1) (xK ⟨[], []⟩)
              · obtain ⟨F, G, hq7⟩ := xH Y G hp7
                refine xE ?_
                replace H := inrO_fin H hF1
                replace H := Option.some.inj H
                refine xr ?_
                subst H
                exact xN
  · obtain ⟨F, G, hq1⟩ := xH Y G hp1
    replace H := inrO_fin H hF1
    refine xE ?_
    replace H := Option.some.inj H
    refine xr ?_
    subst H
    exact xN
theorem preref1_Skip_c (a0 : List UInt8) (r : Int × Bool) (H : preref1_Skip a0 = some r) : PC pf_preref1_Skip [dS a0] (T2 dI dB r) := PF.c (a := a0) H
noncomputable def preref1_Line_j3 (x2 : Int) : Int → Option ((Int × Int) ⊕ Int)
  | x4 => some (.inl (x4, IntKind.i64.wrap (x2 + 1)))
noncomputable def preref1_Line_j2 (a0 : List UInt8) (x1 : Int) (x2 : Int) : Bool → Option ((Int × Int) ⊕ Int)
  | x3 => if x3 = true then if (0 : Int) ≤ x2 ∧ x2.toNat < a0.length then if (eqI ((a0.getD x2.toNat 0).toNat : Int) 10) = true then preref1_Line_j3 x2 (IntKind.i64.wrap (x1 + 1)) else preref1_Line_j3 x2 x1 else none else inrO (some x1)
noncomputable def preref1_Line_b1 (a0 : List UInt8) (a1 : Int) : (Int × Int) → Option ((Int × Int) ⊕ Int)
  | (x1, x2) => if (ltI x2 a1) = true then preref1_Line_j2 a0 x1 x2 (ltI x2 (a0.length : Int)) else preref1_Line_j2 a0 x1 x2 false
noncomputable def preref1_Line (a0 : List UInt8) (a1 : Int) : Option Int :=
  loopO (preref1_Line_b1 a0 a1) (1, 0)
noncomputable def pf_preref1_Line : PF := PF.of (E2 dS dI) (fun a => preref1_Line a.1 a.2) dI
set_option maxRecDepth 100000 in
set_option maxHeartbeats 4000000 in
theorem preref1_Line_ok : PureOk Try.prog 60 pf_preref1_Line := by
  refine xF mixed [] [] trivial trivial Try.func60 ?_
  rintro ⟨a0, a1⟩ out H
  have G := True.intro
  have Y := xZ y_9 <| Try.results60
  simp only [preref1_Line] at H
  refine xS ?_
  refine xr ?_
  refine xr ?_
  refine xr ?_
  refine w_loop (preref1_Line_b1 a0 a1) (fun s => [(0, .c (.d (.v (str a0)))), (1, .c (.d (.v (.int .i64 a1)))), (5, .c (.d (.v (.int .i64 s.1)))), (6, .c (.d (.v (.int .i64 s.2))))]) (fun s => []) [] H (xK ⟨[], []⟩) ?_
  rintro n1 ⟨x1, x2⟩ o1 H hF1
  rw [preref1_Line_b1] at H
  refine w_seq ?_
  refine w_cut (preref1_Line_j2 a0 x1 x2) (fun s => [(0, .c (.d (.v (str a0)))), (1, .c (.d (.v (.int .i64 a1)))), (5, .c (.d (.v (.int .i64 x1)))), (6, .c (.d (.v (.int .i64 x2)))), (15, .c (.d (.v (.bool s))))]) (fun s => []) [] o1 ?_ ?_
  · rcases bsplit H with ⟨hp3, H⟩ | ⟨hp3, H⟩
    · obtain ⟨F, G, hq3⟩ := xH Y G hp3
      refine xR ?_
      exact cut_at H (xK ⟨[], []⟩)
    · obtain ⟨F, G, hq3⟩ := xH Y G hp3
      refine xR ?_
      exact cut_at H (xK ⟨[], []⟩)
  · rintro x3 H
    rw [preref1_Line_j2] at H
    rcases bsplit H with ⟨hp1, H⟩ | ⟨hp1, H⟩
    · obtain ⟨F, G, hq1⟩ := xH Y G hp1
      refine xT0 ?_
      refine w_skip ?_
      refine then_normal ?_
      refine w_cut (preref1_Line_j3 x2) (fun s => [(0, .c (.d (.v (str a0)))), (1, .c (.d (.v (.int .i64 a1)))), (5, .c (.d (.v (.int .i64 s)))), (6, .c (.d (.v (.int .i64 x2))))]) (fun s => []) [] o1 ?_ ?_
      · refine xS ?_
        obtain ⟨hg1, H⟩ := gsplit H
        refine xr ?_
        rcases bsplit H with ⟨hp2, H⟩ | ⟨hp2, H⟩
        · obtain ⟨F, G, hq2⟩ := xH Y G hp2
          refine xT ?_
          refine xr ?_
          exact cut_at H (xK ⟨[], []⟩)
        · obtain ⟨F, G, hq2⟩ := xH Y G hp2
          refine xE ?_
          exact cut_at H (xK ⟨[], []⟩)
      · rintro x4 H
        rw [preref1_Line_j3] at H
        refine xr ?_
        exact round_at (inl_fin H hF1) (xK ⟨[], []⟩)
    · obtain ⟨F, G, hq1⟩ := xH Y G hp1
      replace H := inrO_fin H hF1
      refine xE ?_
      replace H := Option.some.inj H
      refine xr ?_
      subst H
      exact xN
theorem preref1_Line_c (a0 : List UInt8) (a1 : Int) (r : Int) (H : preref1_Line a0 a1 = some r) : PC pf_preref1_Line [dS a0, dI a1] (dI r) := PF.c (a := (a0, a1)) H
noncomputable def macro_Builtin_j1 : Bool → Option Bool
  | x1 => some x1
noncomputable def macro_Builtin (a0 : List UInt8) : Option Bool :=
  if (eqS a0 [95, 95, 76, 73, 78, 69, 95, 95]) = true then macro_Builtin_j1 true else if (eqS a0 [95, 95, 70, 73, 76, 69, 95, 95]) = true then macro_Builtin_j1 true else macro_Builtin_j1 (eqS a0 [100, 101, 102, 105, 110, 101, 100])
noncomputable def pf_macro_Builtin : PF := PF.of (E1 dS) (fun a => macro_Builtin a) dB
set_option maxRecDepth 100000 in
set_option maxHeartbeats 4000000 in
theorem macro_Builtin_ok : PureOk Try.prog 23 pf_macro_Builtin := by
  refine xF mixed [] [] trivial trivial Try.func23 ?_
  rintro a0 out H
  have G := True.intro
  have Y := Try.results23
  simp only [macro_Builtin] at H
  refine xS ?_
  refine xr0 ?_
  refine then_normal ?_
  refine w_cut macro_Builtin_j1 (fun s => [(2, .c (.d (.v (.bool s))))]) (fun s => []) [] out ?_ ?_
  · rcases bsplit H with ⟨hp1, H⟩ | ⟨hp1, H⟩
    · obtain ⟨F, G, hq1⟩ := xH Y G hp1
      refine xR ?_
      exact cut_at H (xK ⟨[], []⟩)
    · obtain ⟨F, G, hq1⟩ := xH Y G hp1
      rcases bsplit H with ⟨hp2, H⟩ | ⟨hp2, H⟩
      · obtain ⟨F, G, hq2⟩ := xH F G hp2
        refine xR ?_
        exact cut_at H (xK ⟨[], []⟩)
      · obtain ⟨F, G, hq2⟩ := xH F G hp2
        refine xR ?_
        exact cut_at H (xK ⟨[], []⟩)
  · rintro x1 H
    rw [macro_Builtin_j1] at H
    replace H := Option.some.inj H
    refine xS ?_
    subst H
    exact xN
theorem macro_Builtin_c (a0 : List UInt8) (r : Bool) (H : macro_Builtin a0 = some r) : PC pf_macro_Builtin [dS a0] (dB r) := PF.c (a := a0) H
noncomputable def macro_at (a0 : List Token) (a1 : Int) (a2 : Int) : Option Fault :=
  if (ltI a1 (a0.length : Int)) = true then if (0 : Int) ≤ a1 ∧ a1.toNat < a0.length then if (0 : Int) ≤ a1 ∧ a1.toNat < a0.length then some (⟨a2, (a0.getD a1.toNat default).File, (a0.getD a1.toNat default).At⟩ : Fault) else none else none else if (ltI 0 (a0.length : Int)) = true then if (0 : Int) ≤ (IntKind.i64.wrap ((a0.length : Int) - 1)) ∧ (IntKind.i64.wrap ((a0.length : Int) - 1)).toNat < a0.length then if (0 : Int) ≤ (IntKind.i64.wrap ((a0.length : Int) - 1)) ∧ (IntKind.i64.wrap ((a0.length : Int) - 1)).toNat < a0.length then some (⟨a2, (a0.getD ((IntKind.i64.wrap ((a0.length : Int) - 1)).toNat) default).File, (a0.getD ((IntKind.i64.wrap ((a0.length : Int) - 1)).toNat) default).End⟩ : Fault) else none else none else some (⟨a2, (-1), 0⟩ : Fault)
noncomputable def pf_macro_at : PF := PF.of (E3 (dL 11 d_Token) dI dI) (fun a => macro_at a.1 a.2.1 a.2.2) d_Fault
set_option maxRecDepth 100000 in
set_option maxHeartbeats 4000000 in
theorem macro_at_ok : PureOk Try.prog 42 pf_macro_at := by
  refine xF mixed [] [] trivial trivial Try.func42 ?_
  rintro ⟨a0, a1, a2⟩ out H
  have G := True.intro
  have Y := xZ y_3 <| xZ y_22 <| xZ y_24 <| xZ y_30 <| xZ y_45 <| xZ Try.results42 <| xZ d_Call.eq_1 <| xZ d_Token.eq_1 <| d_Fault.eq_1
  simp only [macro_at] at H
  refine xS ?_
  refine xr ?_
  refine xr ?_
  rcases bsplit H with ⟨hp1, H⟩ | ⟨hp1, H⟩
  · obtain ⟨F, G, hq1⟩ := xH Y G hp1
    refine xT ?_
    obtain ⟨hg1, H⟩ := gsplit H
    have F := xZ Y (map_getD d_Token a0 a1.toNat default default (by omega))
    obtain ⟨hg2, H⟩ := gsplit H
    have F := xZ F (map_getD d_Token a0 a1.toNat default default (by omega))
    replace H := Option.some.inj H
    refine xR ?_
    subst H
    exact xN
  · obtain ⟨F, G, hq1⟩ := xH Y G hp1
    refine xE ?_
    refine xr ?_
    rcases bsplit H with ⟨hp2, H⟩ | ⟨hp2, H⟩
    · obtain ⟨F, G, hq2⟩ := xH Y G hp2
      refine xT ?_
      obtain ⟨hg3, H⟩ := gsplit H
      have F := xZ Y (map_getD d_Token a0 ((IntKind.i64.wrap ((a0.length : Int) - 1)).toNat) default default (by omega))
      obtain ⟨hg4, H⟩ := gsplit H
      have F := xZ F (map_getD d_Token a0 ((IntKind.i64.wrap ((a0.length : Int) - 1)).toNat) default default (by omega))
      replace H := Option.some.inj H
      refine xR ?_
      subst H
      exact xN
    · obtain ⟨F, G, hq2⟩ := xH Y G hp2
      refine xE ?_
      replace H := Option.some.inj H
      refine xr ?_
      subst H
      exact xN
theorem macro_at_c (a0 : List Token) (a1 : Int) (a2 : Int) (r : Fault) (H : macro_at a0 a1 a2 = some r) : PC pf_macro_at [(dL 11 d_Token) a0, dI a1, dI a2] (d_Fault r) := PF.c (a := (a0, a1, a2)) H
noncomputable def macro_Parse_1 (a0 : Fault) : Option (Macro × Fault) :=
  some ((⟨[], false, ([] : List (List UInt8)), false, ([] : List Token)⟩ : Macro), a0)
noncomputable def pf_macro_Parse_1 : PF := PF.of (E1 d_Fault) (fun a => macro_Parse_1 a) (T2 d_Macro d_Fault)
set_option maxRecDepth 100000 in
set_option maxHeartbeats 4000000 in
theorem macro_Parse_1_ok : PureOk Try.prog 41 pf_macro_Parse_1 := by
  refine xFl mixed [1] [] [] trivial trivial Try.func41 ?_
  rintro a0 out H
  have G := True.intro
  have Y := xZ y_4 <| xZ y_9 <| xZ y_24 <| xZ y_28 <| xZ y_30 <| xZ y_32 <| xZ Try.results41 <| xZ d_Call.eq_1 <| xZ d_Token.eq_1 <| xZ d_Fault.eq_1 <| d_Macro.eq_1
  simp only [macro_Parse_1] at H
  refine xS ?_
  refine xr ?_
  have F := Y
  refine xX 4 0 [5] trivial ?_
  refine xsX 1 ?_
  refine xaX ?_
  refine xbX ?_
  refine xbX ?_
  refine xlX ?_
  replace H := Option.some.inj H
  refine xS ?_
  subst H
  exact xN
theorem macro_Parse_1_c (a0 : Fault) (r : Macro × Fault) (H : macro_Parse_1 a0 = some r) : PC pf_macro_Parse_1 [d_Fault a0] (T2 d_Macro d_Fault r) := PF.c (a := a0) H
noncomputable def slices_Index_s_string_string_b1 (a0 : List (List UInt8)) (a1 : List UInt8) : (Int × Int) → Option ((Int × Int) ⊕ Int)
  | (x1, x2) => if (ltI x2 x1) = true then if (0 : Int) ≤ x2 ∧ x2.toNat < a0.length then if (eqS a1 (a0.getD x2.toNat default)) = true then inrO (some x2) else some (.inl (x1, IntKind.i64.wrap (x2 + 1))) else none else inrO (some (-1))
noncomputable def slices_Index_s_string_string (a0 : List (List UInt8)) (a1 : List UInt8) : Option Int :=
  loopO (slices_Index_s_string_string_b1 a0 a1) ((a0.length : Int), 0)
noncomputable def pf_slices_Index_s_string_string : PF := PF.of (E2 (dL 1 dS) dS) (fun a => slices_Index_s_string_string a.1 a.2) dI
set_option maxRecDepth 100000 in
set_option maxHeartbeats 4000000 in
theorem slices_Index_s_string_string_ok : PureOk Try.prog 93 pf_slices_Index_s_string_string := by
  refine xF mixed [] [] trivial trivial Try.func93 ?_
  rintro ⟨a0, a1⟩ out H
  have G := True.intro
  have Y := xZ y_9 <| xZ y_28 <| Try.results93
  simp only [slices_Index_s_string_string] at H
  refine xS ?_
  refine xr ?_
  refine xr ?_
  refine w_loop (slices_Index_s_string_string_b1 a0 a1) (fun s => [(0, .c (.d (.sl 1 (List.map dS a0)))), (1, .c (.d (.v (str a1)))), (7, .c (.d (.v (.int .i64 s.1)))), (8, .c (.d (.v (.int .i64 s.2))))]) (fun s => []) [] H (xK ⟨[], []⟩) ?_
  rintro n1 ⟨x1, x2⟩ o1 H hF1
  rw [slices_Index_s_string_string_b1] at H
  refine xS ?_
  refine xr ?_
  rcases bsplit H with ⟨hp1, H⟩ | ⟨hp1, H⟩
  · obtain ⟨F, G, hq1⟩ := xH Y G hp1
    refine xT ?_
    refine xr ?_
    obtain ⟨hg1, H⟩ := gsplit H
    have F := xZ Y (map_getD dS a0 x2.toNat default default (by omega))
    refine xR ?_
    rcases bsplit H with ⟨hp2, H⟩ | ⟨hp2, H⟩
    · obtain ⟨F, G, hq2⟩ := xH Y G hp2
      refine xT ?_
      replace H := inrO_fin H hF1
      replace H := Option.some.inj H
      refine xr ?_
      subst H
      exact xN
    · obtain ⟨F, G, hq2⟩ := xH Y G hp2
      refine xE ?_
      refine xr ?_
      exact round_at (inl_fin H hF1) (xK ⟨[], []⟩)
  · obtain ⟨F, G, hq1⟩ := xH Y G hp1
    replace H := inrO_fin H hF1
    refine xE ?_
    replace H := Option.some.inj H
    refine xr ?_
    subst H
    exact xN
theorem slices_Index_s_string_string_c (a0 : List (List UInt8)) (a1 : List UInt8) (r : Int) (H : slices_Index_s_string_string a0 a1 = some r) : PC pf_slices_Index_s_string_string [(dL 1 dS) a0, dS a1] (dI r) := PF.c (a := (a0, a1)) H
noncomputable def slices_Contains_s_string_string (a0 : List (List UInt8)) (a1 : List UInt8) : Option Bool :=
  (slices_Index_s_string_string a0 a1).bind fun r1 => some (leI 0 r1)
noncomputable def pf_slices_Contains_s_string_string : PF := PF.of (E2 (dL 1 dS) dS) (fun a => slices_Contains_s_string_string a.1 a.2) dB
set_option maxRecDepth 100000 in
set_option maxHeartbeats 4000000 in
theorem slices_Contains_s_string_string_ok : PureOk Try.prog 72 pf_slices_Contains_s_string_string := by
  refine xF mixed [(93, pf_slices_Index_s_string_string)] [] ⟨⟨call_93, slices_Index_s_string_string_ok⟩, trivial⟩ trivial Try.func72 ?_
  rintro ⟨a0, a1⟩ out H
  have G := True.intro
  have Y := Try.results72
  simp only [slices_Contains_s_string_string] at H
  refine xS ?_
  refine xr ?_
  obtain ⟨r1, hr1, H⟩ := osplit H
  have F := xC Y (slices_Index_s_string_string_c a0 a1 r1 hr1)
  replace H := Option.some.inj H
  refine xR ?_
  subst H
  exact xN
theorem slices_Contains_s_string_string_c (a0 : List (List UInt8)) (a1 : List UInt8) (r : Bool) (H : slices_Contains_s_string_string a0 a1 = some r) : PC pf_slices_Contains_s_string_string [(dL 1 dS) a0, dS a1] (dB r) := PF.c (a := (a0, a1)) H
end Go.Proofs.Ytkhcecpbbmfcaaa
