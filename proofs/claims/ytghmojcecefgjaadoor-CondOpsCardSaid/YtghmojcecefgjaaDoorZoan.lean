/- Functions of data for functions of the program. Written by dec3.py. -/
import Derived.Test.YtghmojcecefgjaaDoorZoah
import Derived.Test.YtghmojcecefgjaaDoorZoal
set_option linter.unusedVariables false
set_option linter.unusedSimpArgs false
namespace Go.Proofs.YtghmojcecefgjaaDoor
open Go.RowKit
noncomputable def cond_Num_j4 (r1 : Int × Bool) : Bool → Option (Int × Bool)
  | x5 => if x5 = true then some (0, false) else some (r1.1, true)
noncomputable def cond_Num_j3 : ((List UInt8) × Int) → Option (Int × Bool)
  | (x3, x4) => (strconv_ParseInt x3 x4 64).bind fun r1 => if (!r1.2) = true then cond_Num_j4 r1 true else if 0 < x3.length then if (eqI ((x3.getD 0 0).toNat : Int) 43) = true then cond_Num_j4 r1 true else if 0 < x3.length then cond_Num_j4 r1 (eqI ((x3.getD 0 0).toNat : Int) 45) else none else none
noncomputable def cond_Num_j6 (x1 : List UInt8) : Bool → Option (Int × Bool)
  | x7 => if x7 = true then if (0 : Int) ≤ 1 ∧ 1 ≤ (x1.length : Int) ∧ (x1.length : Int) ≤ (x1.length : Int) then cond_Num_j3 (List.drop 1 x1, 8) else none else cond_Num_j3 (x1, 10)
noncomputable def cond_Num_j5 (x1 : List UInt8) : Bool → Option (Int × Bool)
  | x6 => if x6 = true then if (0 : Int) ≤ 2 ∧ 2 ≤ (x1.length : Int) ∧ (x1.length : Int) ≤ (x1.length : Int) then cond_Num_j3 (List.drop 2 x1, 16) else none else if (ltI 1 (x1.length : Int)) = true then if 0 < x1.length then cond_Num_j6 x1 (eqI ((x1.getD 0 0).toNat : Int) 48) else none else cond_Num_j6 x1 false
noncomputable def cond_Num_j2 (x1 : List UInt8) : Bool → Option ((List UInt8) ⊕ (Int × Bool))
  | x2 => if x2 = true then if (0 : Int) ≤ 0 ∧ 0 ≤ (IntKind.i64.wrap ((x1.length : Int) - 1)) ∧ (IntKind.i64.wrap ((x1.length : Int) - 1)) ≤ (x1.length : Int) then some (.inl (List.take ((IntKind.i64.wrap ((x1.length : Int) - 1)).toNat) x1)) else none else inrO (if (ltI 2 (x1.length : Int)) = true then if (0 : Int) ≤ 0 ∧ 0 ≤ 2 ∧ 2 ≤ (x1.length : Int) then if (eqS (List.take 2 x1) [48, 120]) = true then cond_Num_j5 x1 true else if (0 : Int) ≤ 0 ∧ 0 ≤ 2 ∧ 2 ≤ (x1.length : Int) then cond_Num_j5 x1 (eqS (List.take 2 x1) [48, 88]) else none else none else cond_Num_j5 x1 false)
noncomputable def cond_Num_b1 : (List UInt8) → Option ((List UInt8) ⊕ (Int × Bool))
  | x1 => if (ltI 1 (x1.length : Int)) = true then if (0 : Int) ≤ (IntKind.i64.wrap ((x1.length : Int) - 1)) ∧ (IntKind.i64.wrap ((x1.length : Int) - 1)).toNat < x1.length then if (eqI ((x1.getD ((IntKind.i64.wrap ((x1.length : Int) - 1)).toNat) 0).toNat : Int) 76) = true then cond_Num_j2 x1 true else if (0 : Int) ≤ (IntKind.i64.wrap ((x1.length : Int) - 1)) ∧ (IntKind.i64.wrap ((x1.length : Int) - 1)).toNat < x1.length then if (eqI ((x1.getD ((IntKind.i64.wrap ((x1.length : Int) - 1)).toNat) 0).toNat : Int) 85) = true then cond_Num_j2 x1 true else if (0 : Int) ≤ (IntKind.i64.wrap ((x1.length : Int) - 1)) ∧ (IntKind.i64.wrap ((x1.length : Int) - 1)).toNat < x1.length then if (eqI ((x1.getD ((IntKind.i64.wrap ((x1.length : Int) - 1)).toNat) 0).toNat : Int) 108) = true then cond_Num_j2 x1 true else if (0 : Int) ≤ (IntKind.i64.wrap ((x1.length : Int) - 1)) ∧ (IntKind.i64.wrap ((x1.length : Int) - 1)).toNat < x1.length then cond_Num_j2 x1 (eqI ((x1.getD ((IntKind.i64.wrap ((x1.length : Int) - 1)).toNat) 0).toNat : Int) 117) else none else none else none else none else cond_Num_j2 x1 false
noncomputable def cond_Num (a0 : List UInt8) : Option (Int × Bool) :=
  loopO cond_Num_b1 a0
noncomputable def pf_cond_Num : PF := PF.of (E1 dS) (fun a => cond_Num a) (T2 dI dB)
set_option maxRecDepth 100000 in
set_option maxHeartbeats 4000000 in
theorem cond_Num_ok : PureOk Tryd.prog 10 pf_cond_Num := by
  refine xF mixed [(27, pf_strconv_ParseInt)] [] ⟨⟨call_27, strconv_ParseInt_ok⟩, trivial⟩ trivial Tryd.func10 ?_
  rintro a0 out H
  have G := True.intro
  have Y := xZ y_9 <| xZ y_65 <| Tryd.results10
  simp only [cond_Num] at H
  refine xS ?_
  refine xr ?_
  refine w_loop cond_Num_b1 (fun s => [(0, .c (.d (.v (str s))))]) (fun s => []) [] H (xK ⟨[], []⟩) ?_
  rintro n1 x1 o1 H hF1
  rw [cond_Num_b1] at H
  refine w_seq ?_
  refine w_cut (cond_Num_j2 x1) (fun s => [(0, .c (.d (.v (str x1)))), (41, .c (.d (.v (.bool s))))]) (fun s => []) [] o1 ?_ ?_
  · rcases bsplit H with ⟨hp10, H⟩ | ⟨hp10, H⟩
    · obtain ⟨F, G, hq10⟩ := xH Y G hp10
      obtain ⟨hg9, H⟩ := gsplit H
      rcases bsplit H with ⟨hp11, H⟩ | ⟨hp11, H⟩
      · obtain ⟨F, G, hq11⟩ := xH F G hp11
        refine xR ?_
        exact cut_at H (xK ⟨[], []⟩)
      · obtain ⟨F, G, hq11⟩ := xH F G hp11
        obtain ⟨hg10, H⟩ := gsplit H
        rcases bsplit H with ⟨hp12, H⟩ | ⟨hp12, H⟩
        · obtain ⟨F, G, hq12⟩ := xH F G hp12
          refine xR ?_
          exact cut_at H (xK ⟨[], []⟩)
        · obtain ⟨F, G, hq12⟩ := xH F G hp12
          obtain ⟨hg11, H⟩ := gsplit H
          rcases bsplit H with ⟨hp13, H⟩ | ⟨hp13, H⟩
          · obtain ⟨F, G, hq13⟩ := xH F G hp13
            refine xR ?_
            exact cut_at H (xK ⟨[], []⟩)
          · obtain ⟨F, G, hq13⟩ := xH F G hp13
            obtain ⟨hg12, H⟩ := gsplit H
            refine xR ?_
            exact cut_at H (xK ⟨[], []⟩)
    · obtain ⟨F, G, hq10⟩ := xH Y G hp10
      refine xR ?_
      exact cut_at H (xK ⟨[], []⟩)
  · rintro x2 H
    rw [cond_Num_j2] at H
    rcases bsplit H with ⟨hp1, H⟩ | ⟨hp1, H⟩
    · obtain ⟨F, G, hq1⟩ := xH Y G hp1
      refine xT ?_
      obtain ⟨hg1, H⟩ := gsplit H
      refine xr ?_
      exact round_at (inl_fin H hF1) (xK ⟨[], []⟩)
    · obtain ⟨F, G, hq1⟩ := xH Y G hp1
      replace H := inrO_fin H hF1
      refine xE ?_
      refine xr0 ?_
      refine then_normal ?_
      refine w_cut cond_Num_j3 (fun s => [(0, .c (.d (.v (str s.1)))), (4, .c (.d (.v (.int .i64 s.2))))]) (fun s => []) [] out ?_ ?_
      · refine w_block ?_
        refine w_cut (cond_Num_j5 x1) (fun s => [(0, .c (.d (.v (str x1)))), (4, .c (.d (.v (.int .i64 10)))), (47, .c (.d (.v (.bool s))))]) (fun s => []) [] out ?_ ?_
        · rcases bsplit H with ⟨hp8, H⟩ | ⟨hp8, H⟩
          · obtain ⟨F, G, hq8⟩ := xH Y G hp8
            obtain ⟨hg7, H⟩ := gsplit H
            rcases bsplit H with ⟨hp9, H⟩ | ⟨hp9, H⟩
            · obtain ⟨F, G, hq9⟩ := xH F G hp9
              refine xR ?_
              exact cut_at H (xK ⟨[], []⟩)
            · obtain ⟨F, G, hq9⟩ := xH F G hp9
              obtain ⟨hg8, H⟩ := gsplit H
              refine xR ?_
              exact cut_at H (xK ⟨[], []⟩)
          · obtain ⟨F, G, hq8⟩ := xH Y G hp8
            refine xR ?_
            exact cut_at H (xK ⟨[], []⟩)
        · rintro x6 H
          rw [cond_Num_j5] at H
          rcases bsplit H with ⟨hp5, H⟩ | ⟨hp5, H⟩
          · obtain ⟨F, G, hq5⟩ := xH Y G hp5
            refine xT ?_
            obtain ⟨hg4, H⟩ := gsplit H
            refine xr ?_
            exact cut_at H (xK ⟨[], []⟩)
          · obtain ⟨F, G, hq5⟩ := xH Y G hp5
            refine xE0 ?_
            refine w_cut (cond_Num_j6 x1) (fun s => [(0, .c (.d (.v (str x1)))), (4, .c (.d (.v (.int .i64 10)))), (63, .c (.d (.v (.bool s))))]) (fun s => []) [] out ?_ ?_
            · rcases bsplit H with ⟨hp7, H⟩ | ⟨hp7, H⟩
              · obtain ⟨F, G, hq7⟩ := xH Y G hp7
                obtain ⟨hg6, H⟩ := gsplit H
                refine xR ?_
                exact cut_at H (xK ⟨[], []⟩)
              · obtain ⟨F, G, hq7⟩ := xH Y G hp7
                refine xR ?_
                exact cut_at H (xK ⟨[], []⟩)
            · rintro x7 H
              rw [cond_Num_j6] at H
              rcases bsplit H with ⟨hp6, H⟩ | ⟨hp6, H⟩
              · obtain ⟨F, G, hq6⟩ := xH Y G hp6
                refine xT ?_
                obtain ⟨hg5, H⟩ := gsplit H
                refine xr ?_
                exact cut_at H (xK ⟨[], []⟩)
              · obtain ⟨F, G, hq6⟩ := xH Y G hp6
                refine xE ?_
                exact cut_at H (xK ⟨[], []⟩)
      · rintro ⟨x3, x4⟩ H
        rw [cond_Num_j3] at H
        refine xS ?_
        obtain ⟨r1, hr1, H⟩ := osplit H
        have F := xC Y (strconv_ParseInt_c x3 x4 64 r1 hr1)
        refine xR0 ?_
        refine then_normal ?_
        refine w_seq ?_
        refine w_cut (cond_Num_j4 r1) (fun s => [(5, .c (.d (.v (.int .i64 r1.1)))), (91, .c (.d (.v (.bool s))))]) (fun s => []) [] out ?_ ?_
        · rcases bsplit H with ⟨hp3, H⟩ | ⟨hp3, H⟩
          · obtain ⟨F, G, hq3⟩ := xH Y G hp3
            refine xR ?_
            exact cut_at H (xK ⟨[], []⟩)
          · obtain ⟨F, G, hq3⟩ := xH Y G hp3
            obtain ⟨hg2, H⟩ := gsplit H
            rcases bsplit H with ⟨hp4, H⟩ | ⟨hp4, H⟩
            · obtain ⟨F, G, hq4⟩ := xH F G hp4
              refine xR ?_
              exact cut_at H (xK ⟨[], []⟩)
            · obtain ⟨F, G, hq4⟩ := xH F G hp4
              obtain ⟨hg3, H⟩ := gsplit H
              refine xR ?_
              exact cut_at H (xK ⟨[], []⟩)
        · rintro x5 H
          rw [cond_Num_j4] at H
          rcases bsplit H with ⟨hp2, H⟩ | ⟨hp2, H⟩
          · obtain ⟨F, G, hq2⟩ := xH Y G hp2
            refine xT ?_
            replace H := Option.some.inj H
            refine xr ?_
            subst H
            exact xN
          · obtain ⟨F, G, hq2⟩ := xH Y G hp2
            refine xE ?_
            replace H := Option.some.inj H
            refine xr ?_
            subst H
            exact xN
theorem cond_Num_c (a0 : List UInt8) (r : Int × Bool) (H : cond_Num a0 = some r) : PC pf_cond_Num [dS a0] (T2 dI dB r) := PF.c (a := a0) H
end Go.Proofs.YtghmojcecefgjaaDoor
