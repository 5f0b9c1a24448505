/- Functions of data for functions of the program: splice_Lines, preref1_Line, splice_Where, preref1_Splice. Written by dec.py. -/
import Derived.Test.YtgkacglpjmndbaaQa
namespace Go.Proofs.Ytgkacglpjmndbaa
open Go.RowKit
set_option linter.unusedVariables false
set_option linter.unusedSimpArgs false

noncomputable def splice_Lines_j2 (x2 : Int) (x3 : Int) : Int → Option ((Int × Int × Int) ⊕ Int)
  | x4 => some (.inl (x4, x2, IntKind.i64.wrap (x3 + 1)))
noncomputable def splice_Lines_b1 (a0 : List UInt8) : (Int × Int × Int) → Option ((Int × Int × Int) ⊕ Int)
  | (x1, x2, x3) => if (ltI x3 x2) = true then if (0 : Int) ≤ x3 ∧ x3.toNat < a0.length then if (eqI ((a0.getD x3.toNat 0).toNat : Int) 10) = true then splice_Lines_j2 x2 x3 (IntKind.i64.wrap (x1 + 1)) else splice_Lines_j2 x2 x3 x1 else none else inrO (some x1)
noncomputable def splice_Lines (a0 : List UInt8) (a1 : Int) : Option Int :=
  loopO (splice_Lines_b1 a0) (1, (if (a0.length : Int) < (if 0 > a1 then 0 else a1) then (a0.length : Int) else (if 0 > a1 then 0 else a1)), 0)
noncomputable def pf_splice_Lines : PF := PF.of (E2 dS dI) (fun a => splice_Lines a.1 a.2) dI
set_option maxRecDepth 100000 in
set_option maxHeartbeats 4000000 in
theorem splice_Lines_ok : PureOk Try.prog 17 pf_splice_Lines := by
  refine xF mixed [] [] trivial trivial Try.func17 ?_
  rintro ⟨a0, a1⟩ out H
  have G := True.intro
  have Y := xZ y_3 <| xZ y_9 <| Try.results17
  simp only [splice_Lines] at H
  refine xS ?_
  refine xr ?_
  refine xr ?_
  refine xr ?_
  refine w_loop (splice_Lines_b1 a0) (fun s => [(0, .c (.d (.v (str a0)))), (5, .c (.d (.v (.int .i64 s.1)))), (11, .c (.d (.v (.int .i64 s.2.1)))), (12, .c (.d (.v (.int .i64 s.2.2))))]) (fun s => []) [] H (xK ⟨[], []⟩) ?_
  rintro n1 ⟨x1, x2, x3⟩ o1 H hF1
  rw [splice_Lines_b1] at H
  refine xS ?_
  refine xr ?_
  rcases bsplit H with ⟨hp1, H⟩ | ⟨hp1, H⟩
  · obtain ⟨F, G, hq1⟩ := xH Y G hp1
    refine xT0 ?_
    refine w_skip ?_
    refine then_normal ?_
    refine w_cut (splice_Lines_j2 x2 x3) (fun s => [(0, .c (.d (.v (str a0)))), (5, .c (.d (.v (.int .i64 s)))), (11, .c (.d (.v (.int .i64 x2)))), (12, .c (.d (.v (.int .i64 x3))))]) (fun s => []) [] o1 ?_ ?_
    · refine xS ?_
      refine xr ?_
      obtain ⟨hg1, H⟩ := gsplit H
      refine xr ?_
      rcases bsplit H with ⟨hp2, H⟩ | ⟨hp2, H⟩
      · obtain ⟨F, G, hq2⟩ := xH Y G hp2
        refine xT ?_
        refine xr ?_
        exact cut_at H (xK ⟨[], []⟩)
      · obtain ⟨F, G, hq2⟩ := xH Y G hp2
        refine xE ?_
        exact cut_at H (xK ⟨[], []⟩)
    · rintro x4 H
      rw [splice_Lines_j2] at H
      refine xr ?_
      exact round_at (inl_fin H hF1) (xK ⟨[], []⟩)
  · obtain ⟨F, G, hq1⟩ := xH Y G hp1
    replace H := inrO_fin H hF1
    refine xE ?_
    refine xr ?_
    cases H
    exact xN
theorem splice_Lines_c (a0 : List UInt8) (a1 : Int) (r : Int) (H : splice_Lines a0 a1 = some r) : PC pf_splice_Lines [dS a0, dI a1] (dI r) := PF.c (a := (a0, a1)) H
noncomputable def preref1_Line_j3 (x2 : Int) : Int → Option ((Int × Int) ⊕ Int)
  | x4 => some (.inl (x4, IntKind.i64.wrap (x2 + 1)))
noncomputable def preref1_Line_j2 (a0 : List UInt8) (x1 : Int) (x2 : Int) : Bool → Option ((Int × Int) ⊕ Int)
  | x3 => if x3 = true then if (0 : Int) ≤ x2 ∧ x2.toNat < a0.length then if (eqI ((a0.getD x2.toNat 0).toNat : Int) 10) = true then preref1_Line_j3 x2 (IntKind.i64.wrap (x1 + 1)) else preref1_Line_j3 x2 x1 else none else inrO (some x1)
noncomputable def preref1_Line_b1 (a0 : List UInt8) (a1 : Int) : (Int × Int) → Option ((Int × Int) ⊕ Int)
  | (x1, x2) => if (ltI x2 a1) = true then preref1_Line_j2 a0 x1 x2 (ltI x2 (a0.length : Int)) else preref1_Line_j2 a0 x1 x2 false
noncomputable def preref1_Line (a0 : List UInt8) (a1 : Int) : Option Int :=
  loopO (preref1_Line_b1 a0 a1) (1, 0)
noncomputable def pf_preref1_Line : PF := PF.of (E2 dS dI) (fun a => preref1_Line a.1 a.2) dI
set_option maxRecDepth 100000 in
set_option maxHeartbeats 4000000 in
theorem preref1_Line_ok : PureOk Try.prog 18 pf_preref1_Line := by
  refine xF mixed [] [] trivial trivial Try.func18 ?_
  rintro ⟨a0, a1⟩ out H
  have G := True.intro
  have Y := xZ y_9 <| Try.results18
  simp only [preref1_Line] at H
  refine xS ?_
  refine xr ?_
  refine xr ?_
  refine xr ?_
  refine w_loop (preref1_Line_b1 a0 a1) (fun s => [(0, .c (.d (.v (str a0)))), (1, .c (.d (.v (.int .i64 a1)))), (5, .c (.d (.v (.int .i64 s.1)))), (6, .c (.d (.v (.int .i64 s.2))))]) (fun s => []) [] H (xK ⟨[], []⟩) ?_
  rintro n1 ⟨x1, x2⟩ o1 H hF1
  rw [preref1_Line_b1] at H
  refine w_seq ?_
  refine w_cut (preref1_Line_j2 a0 x1 x2) (fun s => [(0, .c (.d (.v (str a0)))), (1, .c (.d (.v (.int .i64 a1)))), (5, .c (.d (.v (.int .i64 x1)))), (6, .c (.d (.v (.int .i64 x2)))), (15, .c (.d (.v (.bool s))))]) (fun s => []) [] o1 ?_ ?_
  · rcases bsplit H with ⟨hp3, H⟩ | ⟨hp3, H⟩
    · obtain ⟨F, G, hq3⟩ := xH Y G hp3
      refine xR ?_
      exact cut_at H (xK ⟨[], []⟩)
    · obtain ⟨F, G, hq3⟩ := xH Y G hp3
      refine xR ?_
      exact cut_at H (xK ⟨[], []⟩)
  · rintro x3 H
    rw [preref1_Line_j2] at H
    rcases bsplit H with ⟨hp1, H⟩ | ⟨hp1, H⟩
    · obtain ⟨F, G, hq1⟩ := xH Y G hp1
      refine xT0 ?_
      refine w_skip ?_
      refine then_normal ?_
      refine w_cut (preref1_Line_j3 x2) (fun s => [(0, .c (.d (.v (str a0)))), (1, .c (.d (.v (.int .i64 a1)))), (5, .c (.d (.v (.int .i64 s)))), (6, .c (.d (.v (.int .i64 x2))))]) (fun s => []) [] o1 ?_ ?_
      · refine xS ?_
        obtain ⟨hg1, H⟩ := gsplit H
        refine xr ?_
        rcases bsplit H with ⟨hp2, H⟩ | ⟨hp2, H⟩
        · obtain ⟨F, G, hq2⟩ := xH Y G hp2
          refine xT ?_
          refine xr ?_
          exact cut_at H (xK ⟨[], []⟩)
        · obtain ⟨F, G, hq2⟩ := xH Y G hp2
          refine xE ?_
          exact cut_at H (xK ⟨[], []⟩)
      · rintro x4 H
        rw [preref1_Line_j3] at H
        refine xr ?_
        exact round_at (inl_fin H hF1) (xK ⟨[], []⟩)
    · obtain ⟨F, G, hq1⟩ := xH Y G hp1
      replace H := inrO_fin H hF1
      refine xE ?_
      refine xr ?_
      cases H
      exact xN
theorem preref1_Line_c (a0 : List UInt8) (a1 : Int) (r : Int) (H : preref1_Line a0 a1 = some r) : PC pf_preref1_Line [dS a0, dI a1] (dI r) := PF.c (a := (a0, a1)) H
noncomputable def splice_Where_j1 (a0 : Spliced) (a1 : Int) : Bool → Option Int
  | x1 => if x1 = true then some (-1) else if (0 : Int) ≤ a1 ∧ a1.toNat < a0.At.length then some (a0.At.getD a1.toNat default) else none
noncomputable def splice_Where (a0 : Spliced) (a1 : Int) : Option Int :=
  if (ltI a1 0) = true then splice_Where_j1 a0 a1 true else splice_Where_j1 a0 a1 (leI (a0.At.length : Int) a1)
noncomputable def pf_splice_Where : PF := PF.of (E2 d_Spliced dI) (fun a => splice_Where a.1 a.2) dI
set_option maxRecDepth 100000 in
set_option maxHeartbeats 4000000 in
theorem splice_Where_ok : PureOk Try.prog 19 pf_splice_Where := by
  refine xF mixed [] [] trivial trivial Try.func19 ?_
  rintro ⟨a0, a1⟩ out H
  have G := True.intro
  have Y := xZ y_3 <| xZ y_22 <| xZ y_24 <| xZ Try.results19 <| d_Spliced.eq_1
  simp only [splice_Where] at H
  refine xS ?_
  refine xr0 ?_
  refine then_normal ?_
  refine w_seq ?_
  refine w_cut (splice_Where_j1 a0 a1) (fun s => [(1, .c (.d (.v (.int .i64 a1)))), (2, .c (.pt 1 0)), (13, .c (.d (.v (.bool s))))]) (fun s => [[.d (.v (str a0.Text)), .d (.sl 1 (List.map dI a0.At))]]) [] out ?_ ?_
  · rcases bsplit H with ⟨hp2, H⟩ | ⟨hp2, H⟩
    · obtain ⟨F, G, hq2⟩ := xH Y G hp2
      refine xR ?_
      exact cut_at H (xK ⟨[1], []⟩)
    · obtain ⟨F, G, hq2⟩ := xH Y G hp2
      refine xR ?_
      exact cut_at H (xK ⟨[1], []⟩)
  · rintro x1 H
    rw [splice_Where_j1] at H
    rcases bsplit H with ⟨hp1, H⟩ | ⟨hp1, H⟩
    · obtain ⟨F, G, hq1⟩ := xH Y G hp1
      refine xT ?_
      refine xr ?_
      cases H
      exact xN
    · obtain ⟨F, G, hq1⟩ := xH Y G hp1
      refine xE ?_
      obtain ⟨hg1, H⟩ := gsplit H
      have F := xZ Y (map_getD dI a0.At a1.toNat default default (by omega))
      refine xR ?_
      cases H
      exact xN
theorem splice_Where_c (a0 : Spliced) (a1 : Int) (r : Int) (H : splice_Where a0 a1 = some r) : PC pf_splice_Where [d_Spliced a0, dI a1] (dI r) := PF.c (a := (a0, a1)) H
noncomputable def preref1_Splice_j2 (x2 : List UInt8) : (Int × (List UInt8) × (List Int)) → Option ((Int × (List UInt8) × (List UInt8) × (List Int)) ⊕ Spliced)
  | (x5, x6, x7) => some (.inl (IntKind.i64.wrap (x5 + 1), x2, x6, x7))
noncomputable def preref1_Splice_j5 (x1 : Int) (x2 : List UInt8) (x3 : List UInt8) (x4 : List Int) (x8 : List UInt8) : Bool → Option ((Int × (List UInt8) × (List UInt8) × (List Int)) ⊕ Spliced)
  | x11 => if x11 = true then preref1_Splice_j2 x2 (x1, x3, x4) else if (0 : Int) ≤ 0 ∧ 0 ≤ 1 ∧ 1 ≤ (x8.length : Int) then if x3.length + (List.take 1 x8).length ≤ 9223372036854775807 then if (x4.length + [x1].length) * 8 ≤ 140737488355328 then preref1_Splice_j2 x2 (x1, x3 ++ (List.take 1 x8), x4 ++ [x1]) else none else none else none
noncomputable def preref1_Splice_j4 (x1 : Int) (x2 : List UInt8) (x3 : List UInt8) (x4 : List Int) (x8 : List UInt8) : Bool → Option ((Int × (List UInt8) × (List UInt8) × (List Int)) ⊕ Spliced)
  | x10 => if x10 = true then preref1_Splice_j2 x2 (IntKind.i64.wrap (x1 + 2), x3, x4) else if (ltI 1 (x8.length : Int)) = true then if 0 < x8.length then if (eqI ((x8.getD 0 0).toNat : Int) 13) = true then if 1 < x8.length then preref1_Splice_j5 x1 x2 x3 x4 x8 (eqI ((x8.getD 1 0).toNat : Int) 10) else none else preref1_Splice_j5 x1 x2 x3 x4 x8 false else none else preref1_Splice_j5 x1 x2 x3 x4 x8 false
noncomputable def preref1_Splice_j3 (x1 : Int) (x2 : List UInt8) (x3 : List UInt8) (x4 : List Int) : ((List UInt8) × Bool) → Option ((Int × (List UInt8) × (List UInt8) × (List Int)) ⊕ Spliced)
  | (x8, x9) => if x9 = true then preref1_Splice_j2 x2 (IntKind.i64.wrap (x1 + 1), x3, x4) else if (ltI 2 (x8.length : Int)) = true then if 0 < x8.length then if (eqI ((x8.getD 0 0).toNat : Int) 92) = true then if 1 < x8.length then if (eqI ((x8.getD 1 0).toNat : Int) 13) = true then if 2 < x8.length then preref1_Splice_j4 x1 x2 x3 x4 x8 (eqI ((x8.getD 2 0).toNat : Int) 10) else none else preref1_Splice_j4 x1 x2 x3 x4 x8 false else none else preref1_Splice_j4 x1 x2 x3 x4 x8 false else none else preref1_Splice_j4 x1 x2 x3 x4 x8 false
noncomputable def preref1_Splice_b1 (a0 : List UInt8) : (Int × (List UInt8) × (List UInt8) × (List Int)) → Option ((Int × (List UInt8) × (List UInt8) × (List Int)) ⊕ Spliced)
  | (x1, x2, x3, x4) => if (ltI x1 (a0.length : Int)) = true then if (0 : Int) ≤ x1 ∧ x1 ≤ (a0.length : Int) ∧ (a0.length : Int) ≤ (a0.length : Int) then if (ltI 1 ((List.drop x1.toNat a0).length : Int)) = true then if 0 < (List.drop x1.toNat a0).length then if (eqI (((List.drop x1.toNat a0).getD 0 0).toNat : Int) 92) = true then if 1 < (List.drop x1.toNat a0).length then preref1_Splice_j3 x1 x2 x3 x4 (List.drop x1.toNat a0, eqI (((List.drop x1.toNat a0).getD 1 0).toNat : Int) 10) else none else preref1_Splice_j3 x1 x2 x3 x4 (List.drop x1.toNat a0, false) else none else preref1_Splice_j3 x1 x2 x3 x4 (List.drop x1.toNat a0, false) else none else inrO (if (x4.length + [(a0.length : Int)].length) * 8 ≤ 140737488355328 then some (⟨x3, x4 ++ [(a0.length : Int)]⟩ : Spliced) else none)
noncomputable def preref1_Splice (a0 : List UInt8) : Option Spliced :=
  loopO (preref1_Splice_b1 a0) (0, [], [], ([] : List Int))
noncomputable def pf_preref1_Splice : PF := PF.of (E1 dS) (fun a => preref1_Splice a) d_Spliced
set_option maxRecDepth 100000 in
set_option maxHeartbeats 4000000 in
theorem preref1_Splice_ok : PureOk Try.prog 16 pf_preref1_Splice := by
  refine xF mixed [] [] trivial trivial Try.func16 ?_
  rintro a0 out H
  have G := True.intro
  have Y := xZ y_3 <| xZ y_9 <| xZ y_22 <| xZ y_24 <| xZ Try.results16 <| d_Spliced.eq_1
  simp only [preref1_Splice] at H
  refine xS ?_
  refine xr ?_
  refine xr ?_
  refine xr ?_
  refine w_loop (preref1_Splice_b1 a0) (fun s => [(0, .c (.d (.v (str a0)))), (2, .c (.pt 1 0)), (3, .c (.pt 2 0)), (4, .c (.d (.v (.int .i64 s.1))))]) (fun s => [[.d (.v (str s.2.1)), .sl 1 [] 0], [.d (.v (str s.2.2.1)), .sl 1 (List.map dI s.2.2.2) 3]]) [3] H (xK ⟨[1,2], [0]⟩) ?_
  rintro n1 ⟨x1, x2, x3, x4⟩ o1 H hF1
  rw [preref1_Splice_b1] at H
  refine xS ?_
  refine xr ?_
  rcases bsplit H with ⟨hp1, H⟩ | ⟨hp1, H⟩
  · obtain ⟨F, G, hq1⟩ := xH Y G hp1
    refine xT0 ?_
    refine w_skip ?_
    refine then_normal ?_
    refine w_cut (preref1_Splice_j2 x2) (fun s => [(0, .c (.d (.v (str a0)))), (2, .c (.pt 1 0)), (3, .c (.pt 2 0)), (4, .c (.d (.v (.int .i64 s.1))))]) (fun s => [[.d (.v (str x2)), .sl 1 [] 0], [.d (.v (str s.2.1)), .sl 1 (List.map dI s.2.2) 3]]) [3] o1 ?_ ?_
    · refine xS ?_
      obtain ⟨hg1, H⟩ := gsplit H
      refine xr0 ?_
      refine then_normal ?_
      refine w_seq ?_
      refine w_cut (preref1_Splice_j3 x1 x2 x3 x4) (fun s => [(0, .c (.d (.v (str a0)))), (2, .c (.pt 1 0)), (3, .c (.pt 2 0)), (4, .c (.d (.v (.int .i64 x1)))), (5, .c (.d (.v (str s.1)))), (27, .c (.d (.v (.bool s.2))))]) (fun s => [[.d (.v (str x2)), .sl 1 [] 0], [.d (.v (str x3)), .sl 1 (List.map dI x4) 3]]) [3] o1 ?_ ?_
      · rcases bsplit H with ⟨hp10, H⟩ | ⟨hp10, H⟩
        · obtain ⟨F, G, hq10⟩ := xH Y G hp10
          obtain ⟨hg10, H⟩ := gsplit H
          rcases bsplit H with ⟨hp11, H⟩ | ⟨hp11, H⟩
          · obtain ⟨F, G, hq11⟩ := xH F G hp11
            obtain ⟨hg11, H⟩ := gsplit H
            refine xR ?_
            exact cut_at H (xK ⟨[1,2], [3]⟩)
          · obtain ⟨F, G, hq11⟩ := xH F G hp11
            refine xR ?_
            exact cut_at H (xK ⟨[1,2], [3]⟩)
        · obtain ⟨F, G, hq10⟩ := xH Y G hp10
          refine xR ?_
          exact cut_at H (xK ⟨[1,2], [3]⟩)
      · rintro ⟨x8, x9⟩ H
        rw [preref1_Splice_j3] at H
        rcases bsplit H with ⟨hp2, H⟩ | ⟨hp2, H⟩
        · obtain ⟨F, G, hq2⟩ := xH Y G hp2
          refine xT ?_
          refine xr ?_
          exact cut_at H (xK ⟨[1,2], [3]⟩)
        · obtain ⟨F, G, hq2⟩ := xH Y G hp2
          refine xE0 ?_
          refine w_skip ?_
          refine then_normal ?_
          refine w_seq ?_
          refine w_cut (preref1_Splice_j4 x1 x2 x3 x4 x8) (fun s => [(0, .c (.d (.v (str a0)))), (2, .c (.pt 1 0)), (3, .c (.pt 2 0)), (4, .c (.d (.v (.int .i64 x1)))), (5, .c (.d (.v (str x8)))), (47, .c (.d (.v (.bool s))))]) (fun s => [[.d (.v (str x2)), .sl 1 [] 0], [.d (.v (str x3)), .sl 1 (List.map dI x4) 3]]) [3] o1 ?_ ?_
          · rcases bsplit H with ⟨hp7, H⟩ | ⟨hp7, H⟩
            · obtain ⟨F, G, hq7⟩ := xH Y G hp7
              obtain ⟨hg7, H⟩ := gsplit H
              rcases bsplit H with ⟨hp8, H⟩ | ⟨hp8, H⟩
              · obtain ⟨F, G, hq8⟩ := xH F G hp8
                obtain ⟨hg8, H⟩ := gsplit H
                rcases bsplit H with ⟨hp9, H⟩ | ⟨hp9, H⟩
                · obtain ⟨F, G, hq9⟩ := xH F G hp9
                  obtain ⟨hg9, H⟩ := gsplit H
                  refine xR ?_
                  exact cut_at H (xK ⟨[1,2], [3]⟩)
                · obtain ⟨F, G, hq9⟩ := xH F G hp9
                  refine xR ?_
                  exact cut_at H (xK ⟨[1,2], [3]⟩)
              · obtain ⟨F, G, hq8⟩ := xH F G hp8
                refine xR ?_
                exact cut_at H (xK ⟨[1,2], [3]⟩)
            · obtain ⟨F, G, hq7⟩ := xH Y G hp7
              refine xR ?_
              exact cut_at H (xK ⟨[1,2], [3]⟩)
          · rintro x10 H
            rw [preref1_Splice_j4] at H
            rcases bsplit H with ⟨hp3, H⟩ | ⟨hp3, H⟩
            · obtain ⟨F, G, hq3⟩ := xH Y G hp3
              refine xT ?_
              refine xr ?_
              exact cut_at H (xK ⟨[1,2], [3]⟩)
            · obtain ⟨F, G, hq3⟩ := xH Y G hp3
              refine xE0 ?_
              refine w_skip ?_
              refine then_normal ?_
              refine w_seq ?_
              refine w_cut (preref1_Splice_j5 x1 x2 x3 x4 x8) (fun s => [(0, .c (.d (.v (str a0)))), (2, .c (.pt 1 0)), (3, .c (.pt 2 0)), (4, .c (.d (.v (.int .i64 x1)))), (5, .c (.d (.v (str x8)))), (62, .c (.d (.v (.bool s))))]) (fun s => [[.d (.v (str x2)), .sl 1 [] 0], [.d (.v (str x3)), .sl 1 (List.map dI x4) 3]]) [3] o1 ?_ ?_
              · rcases bsplit H with ⟨hp5, H⟩ | ⟨hp5, H⟩
                · obtain ⟨F, G, hq5⟩ := xH Y G hp5
                  obtain ⟨hg5, H⟩ := gsplit H
                  rcases bsplit H with ⟨hp6, H⟩ | ⟨hp6, H⟩
                  · obtain ⟨F, G, hq6⟩ := xH F G hp6
                    obtain ⟨hg6, H⟩ := gsplit H
                    refine xR ?_
                    exact cut_at H (xK ⟨[1,2], [3]⟩)
                  · obtain ⟨F, G, hq6⟩ := xH F G hp6
                    refine xR ?_
                    exact cut_at H (xK ⟨[1,2], [3]⟩)
                · obtain ⟨F, G, hq5⟩ := xH Y G hp5
                  refine xR ?_
                  exact cut_at H (xK ⟨[1,2], [3]⟩)
              · rintro x11 H
                rw [preref1_Splice_j5] at H
                rcases bsplit H with ⟨hp4, H⟩ | ⟨hp4, H⟩
                · obtain ⟨F, G, hq4⟩ := xH Y G hp4
                  refine xT ?_
                  exact cut_at H (xK ⟨[1,2], [3]⟩)
                · obtain ⟨F, G, hq4⟩ := xH Y G hp4
                  refine xE ?_
                  obtain ⟨hg2, H⟩ := gsplit H
                  obtain ⟨hg3, H⟩ := gsplit H
                  refine xr ?_
                  obtain ⟨hg4, H⟩ := gsplit H
                  have F := xZ Y (all_map one_dI [x1])
                  refine xR ?_
                  exact cut_at H (xK ⟨[1,2], [4]⟩)
    · rintro ⟨x5, x6, x7⟩ H
      rw [preref1_Splice_j2] at H
      refine xr ?_
      exact round_at (inl_fin H hF1) (xK ⟨[1,2], [3]⟩)
  · obtain ⟨F, G, hq1⟩ := xH Y G hp1
    replace H := inrO_fin H hF1
    refine xE ?_
    obtain ⟨hg12, H⟩ := gsplit H
    have F := xZ Y (all_map one_dI [(a0.length : Int)])
    refine xR ?_
    refine xr ?_
    cases H
    exact xN
theorem preref1_Splice_c (a0 : List UInt8) (r : Spliced) (H : preref1_Splice a0 = some r) : PC pf_preref1_Splice [dS a0] (d_Spliced r) := PF.c (a := a0) H
end Go.Proofs.Ytgkacglpjmndbaa
