/- Functions of data for functions of the program: splice_joins, splice_Text. Written by dec.py. -/
import Derived.Test.YtgkacglpjmndbaaQp
namespace Go.Proofs.Ytgkacglpjmndbaa
open Go.RowKit
set_option linter.unusedVariables false
set_option linter.unusedSimpArgs false

noncomputable def splice_joins_j2 : Bool → Option Int
  | x2 => if x2 = true then some 3 else some 0
noncomputable def splice_joins_j1 (a0 : List UInt8) : Bool → Option Int
  | x1 => if x1 = true then some 2 else if (leI 3 (a0.length : Int)) = true then if (0 : Int) ≤ 0 ∧ 0 ≤ 3 ∧ 3 ≤ (a0.length : Int) then splice_joins_j2 (eqS (List.take 3 a0) [92, 13, 10]) else none else splice_joins_j2 false
noncomputable def splice_joins (a0 : List UInt8) : Option Int :=
  if (leI 2 (a0.length : Int)) = true then if (0 : Int) ≤ 0 ∧ 0 ≤ 2 ∧ 2 ≤ (a0.length : Int) then splice_joins_j1 a0 (eqS (List.take 2 a0) [92, 10]) else none else splice_joins_j1 a0 false
noncomputable def pf_splice_joins : PF := PF.of (E1 dS) (fun a => splice_joins a) dI
set_option maxRecDepth 100000 in
set_option maxHeartbeats 4000000 in
theorem splice_joins_ok : PureOk Try.prog 58 pf_splice_joins := by
  refine xF mixed [] [] trivial trivial Try.func58 ?_
  rintro a0 out H
  have G := True.intro
  have Y := xZ y_9 <| Try.results58
  simp only [splice_joins] at H
  refine xS ?_
  refine xr0 ?_
  refine then_normal ?_
  refine w_seq ?_
  refine w_block ?_
  refine w_cut (splice_joins_j1 a0) (fun s => [(0, .c (.d (.v (str a0)))), (3, .c (.d (.v (.bool s))))]) (fun s => []) [] out ?_ ?_
  · rcases bsplit H with ⟨hp4, H⟩ | ⟨hp4, H⟩
    · obtain ⟨F, G, hq4⟩ := xH Y G hp4
      obtain ⟨hg2, H⟩ := gsplit H
      refine xR ?_
      exact cut_at H (xK ⟨[], []⟩)
    · obtain ⟨F, G, hq4⟩ := xH Y G hp4
      refine xR ?_
      exact cut_at H (xK ⟨[], []⟩)
  · rintro x1 H
    rw [splice_joins_j1] at H
    rcases bsplit H with ⟨hp1, H⟩ | ⟨hp1, H⟩
    · obtain ⟨F, G, hq1⟩ := xH Y G hp1
      refine xT ?_
      refine xr ?_
      cases H
      exact xN
    · obtain ⟨F, G, hq1⟩ := xH Y G hp1
      refine xE0 ?_
      refine w_cut splice_joins_j2 (fun s => [(12, .c (.d (.v (.bool s))))]) (fun s => []) [] out ?_ ?_
      · rcases bsplit H with ⟨hp3, H⟩ | ⟨hp3, H⟩
        · obtain ⟨F, G, hq3⟩ := xH Y G hp3
          obtain ⟨hg1, H⟩ := gsplit H
          refine xR ?_
          exact cut_at H (xK ⟨[], []⟩)
        · obtain ⟨F, G, hq3⟩ := xH Y G hp3
          refine xR ?_
          exact cut_at H (xK ⟨[], []⟩)
      · rintro x2 H
        rw [splice_joins_j2] at H
        rcases bsplit H with ⟨hp2, H⟩ | ⟨hp2, H⟩
        · obtain ⟨F, G, hq2⟩ := xH Y G hp2
          refine xT ?_
          refine xr ?_
          cases H
          exact xN
        · obtain ⟨F, G, hq2⟩ := xH Y G hp2
          refine xE ?_
          refine xr ?_
          cases H
          exact xN
theorem splice_joins_c (a0 : List UInt8) (r : Int) (H : splice_joins a0 = some r) : PC pf_splice_joins [dS a0] (dI r) := PF.c (a := a0) H
noncomputable def splice_Text_j2 (a0 : List UInt8) (x1 : List UInt8) (x2 : List Int) (x3 : Int) (x4 : List UInt8) : Bool → Option (((List UInt8) × (List Int) × Int × (List UInt8)) ⊕ Spliced)
  | x5 => if x5 = true then some (.inl (x1, x2, IntKind.i64.wrap (x3 + 1), x4)) else if (0 : Int) ≤ x3 ∧ x3.toNat < a0.length then if (x1.length + [(a0.getD x3.toNat 0)].length) * 1 ≤ 140737488355328 then if (x2.length + [x3].length) * 8 ≤ 140737488355328 then some (.inl (x1 ++ [(a0.getD x3.toNat 0)], x2 ++ [x3], IntKind.i64.wrap (x3 + 1), x4)) else none else none else none
noncomputable def splice_Text_b1 (a0 : List UInt8) : ((List UInt8) × (List Int) × Int × (List UInt8)) → Option (((List UInt8) × (List Int) × Int × (List UInt8)) ⊕ Spliced)
  | (x1, x2, x3, x4) => if (ltI x3 (a0.length : Int)) = true then if (0 : Int) ≤ x3 ∧ x3 ≤ (a0.length : Int) ∧ (a0.length : Int) ≤ (a0.length : Int) then (splice_joins (List.drop x3.toNat a0)).bind fun r1 => if (ltI 0 r1) = true then if (0 : Int) ≤ x3 ∧ x3 ≤ (a0.length : Int) ∧ (a0.length : Int) ≤ (a0.length : Int) then (splice_joins (List.drop x3.toNat a0)).bind fun r2 => some (.inl (x1, x2, IntKind.i64.wrap (x3 + r2), x4)) else none else if (0 : Int) ≤ x3 ∧ x3.toNat < a0.length then if (eqI ((a0.getD x3.toNat 0).toNat : Int) 13) = true then if (ltI (IntKind.i64.wrap (x3 + 1)) (a0.length : Int)) = true then if (0 : Int) ≤ (IntKind.i64.wrap (x3 + 1)) ∧ (IntKind.i64.wrap (x3 + 1)).toNat < a0.length then splice_Text_j2 a0 x1 x2 x3 x4 (eqI ((a0.getD ((IntKind.i64.wrap (x3 + 1)).toNat) 0).toNat : Int) 10) else none else splice_Text_j2 a0 x1 x2 x3 x4 false else splice_Text_j2 a0 x1 x2 x3 x4 false else none else none else inrO (if (x2.length + [(a0.length : Int)].length) * 8 ≤ 140737488355328 then some (⟨x1, x2 ++ [(a0.length : Int)]⟩ : Spliced) else none)
noncomputable def splice_Text (a0 : List UInt8) : Option Spliced :=
  loopO (splice_Text_b1 a0) (([] : List UInt8), ([] : List Int), 0, [])
noncomputable def pf_splice_Text : PF := PF.of (E1 dS) (fun a => splice_Text a) d_Spliced
set_option maxRecDepth 100000 in
set_option maxHeartbeats 4000000 in
theorem splice_Text_ok : PureOk Try.prog 15 pf_splice_Text := by
  refine xF mixed [(58, pf_splice_joins)] [] ⟨⟨call_58, splice_joins_ok⟩, trivial⟩ trivial Try.func15 ?_
  rintro a0 out H
  have G := True.intro
  have Y := xZ y_3 <| xZ y_5 <| xZ y_9 <| xZ y_22 <| xZ y_24 <| xZ y_74 <| xZ Try.results15 <| d_Spliced.eq_1
  simp only [splice_Text] at H
  refine xS ?_
  refine xr ?_
  refine xr ?_
  refine xr ?_
  refine xr ?_
  refine w_loop (splice_Text_b1 a0) (fun s => [(0, .c (.d (.v (str a0)))), (2, .c (.pt 1 0)), (3, .c (.sl 1 (List.map dU s.1) 2)), (4, .c (.sl 1 (List.map dI s.2.1) 3)), (5, .c (.d (.v (.int .i64 s.2.2.1))))]) (fun s => [[.d (.v (str s.2.2.2)), .sl 1 [] 0]]) [5, 3] H (xK ⟨[1], [0,0]⟩) ?_
  rintro n1 ⟨x1, x2, x3, x4⟩ o1 H hF1
  rw [splice_Text_b1] at H
  refine xS ?_
  refine xr ?_
  rcases bsplit H with ⟨hp1, H⟩ | ⟨hp1, H⟩
  · obtain ⟨F, G, hq1⟩ := xH Y G hp1
    refine xT ?_
    obtain ⟨hg1, H⟩ := gsplit H
    obtain ⟨r1, hr1, H⟩ := osplit H
    have F := xC Y (splice_joins_c (List.drop x3.toNat a0) r1 hr1)
    refine xR ?_
    rcases bsplit H with ⟨hp2, H⟩ | ⟨hp2, H⟩
    · obtain ⟨F, G, hq2⟩ := xH Y G hp2
      refine xT ?_
      obtain ⟨hg2, H⟩ := gsplit H
      obtain ⟨r2, hr2, H⟩ := osplit H
      have F := xC Y (splice_joins_c (List.drop x3.toNat a0) r2 hr2)
      refine xR ?_
      exact round_at (inl_fin H hF1) (xK ⟨[1], [2,3]⟩)
    · obtain ⟨F, G, hq2⟩ := xH Y G hp2
      refine xE0 ?_
      refine w_cut (splice_Text_j2 a0 x1 x2 x3 x4) (fun s => [(0, .c (.d (.v (str a0)))), (2, .c (.pt 1 0)), (3, .c (.sl 1 (List.map dU x1) 2)), (4, .c (.sl 1 (List.map dI x2) 3)), (5, .c (.d (.v (.int .i64 x3)))), (22, .c (.d (.v (.bool s))))]) (fun s => [[.d (.v (str x4)), .sl 1 [] 0]]) [5, 3] o1 ?_ ?_
      · obtain ⟨hg6, H⟩ := gsplit H
        rcases bsplit H with ⟨hp4, H⟩ | ⟨hp4, H⟩
        · obtain ⟨F, G, hq4⟩ := xH Y G hp4
          rcases bsplit H with ⟨hp5, H⟩ | ⟨hp5, H⟩
          · obtain ⟨F, G, hq5⟩ := xH F G hp5
            obtain ⟨hg7, H⟩ := gsplit H
            refine xR ?_
            exact cut_at H (xK ⟨[1], [2,3]⟩)
          · obtain ⟨F, G, hq5⟩ := xH F G hp5
            refine xR ?_
            exact cut_at H (xK ⟨[1], [2,3]⟩)
        · obtain ⟨F, G, hq4⟩ := xH Y G hp4
          refine xR ?_
          exact cut_at H (xK ⟨[1], [2,3]⟩)
      · rintro x5 H
        rw [splice_Text_j2] at H
        rcases bsplit H with ⟨hp3, H⟩ | ⟨hp3, H⟩
        · obtain ⟨F, G, hq3⟩ := xH Y G hp3
          refine xT ?_
          refine xr ?_
          exact round_at (inl_fin H hF1) (xK ⟨[1], [2,3]⟩)
        · obtain ⟨F, G, hq3⟩ := xH Y G hp3
          refine xE ?_
          obtain ⟨hg3, H⟩ := gsplit H
          obtain ⟨hg4, H⟩ := gsplit H
          have F := xZ Y (all_map one_dU [(a0.getD x3.toNat 0)])
          obtain ⟨hg5, H⟩ := gsplit H
          have F := xZ F (all_map one_dI [x3])
          refine xR ?_
          refine xr ?_
          exact round_at (inl_fin H hF1) (xK ⟨[1], [4,5]⟩)
  · obtain ⟨F, G, hq1⟩ := xH Y G hp1
    replace H := inrO_fin H hF1
    refine xE ?_
    obtain ⟨hg8, H⟩ := gsplit H
    have F := xZ Y (all_map one_dI [(a0.length : Int)])
    refine xR ?_
    cases H
    exact xN
theorem splice_Text_c (a0 : List UInt8) (r : Spliced) (H : splice_Text a0 = some r) : PC pf_splice_Text [dS a0] (d_Spliced r) := PF.c (a := a0) H
end Go.Proofs.Ytgkacglpjmndbaa
