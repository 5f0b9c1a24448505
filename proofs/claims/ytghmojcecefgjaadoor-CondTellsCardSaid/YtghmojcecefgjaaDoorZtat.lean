/- Functions of data for functions of the program. Written by dec3.py. -/
import Derived.Test.YtghmojcecefgjaaDoorZtah
import Derived.Test.YtghmojcecefgjaaDoorZtaq
set_option linter.unusedVariables false
set_option linter.unusedSimpArgs false
namespace Go.Proofs.YtghmojcecefgjaaDoor
open Go.RowKit
noncomputable def preref4_Num_j5 (x3 : Int) (x4 : Int) (x5 : Int) (x6 : Int) (x7 : Int) : Bool → Option ((Int × Int × Int) ⊕ (Int × Bool))
  | x8 => if x8 = true then inrO (some (0, false)) else some (.inl (IntKind.i64.wrap ((IntKind.i64.wrap (x3 * x4)) + x7), x5, IntKind.i64.wrap (x6 + 1)))
noncomputable def preref4_Num_j4 (x3 : Int) (x4 : Int) (x5 : Int) (x6 : Int) : Int → Option ((Int × Int × Int) ⊕ (Int × Bool))
  | x7 => if (leI x3 x7) = true then preref4_Num_j5 x3 x4 x5 x6 x7 true else if x3 ≠ 0 then preref4_Num_j5 x3 x4 x5 x6 x7 (ltI (IntKind.i64.wrap (Int.tdiv (IntKind.i64.wrap (9223372036854775807 - x7)) x3)) x4) else none
noncomputable def preref4_Num_j8 (x3 : Int) (x4 : Int) (x5 : Int) (x6 : Int) : (UInt8 × Bool) → Option ((Int × Int × Int) ⊕ (Int × Bool))
  | (x13, x14) => if x14 = true then preref4_Num_j4 x3 x4 x5 x6 (IntKind.i64.wrap ((IntKind.i64.wrap (IntKind.u8.wrap ((x13.toNat : Int) - 65))) + 10)) else preref4_Num_j4 x3 x4 x5 x6 99
noncomputable def preref4_Num_j7 (x3 : Int) (x4 : Int) (x5 : Int) (x6 : Int) : (UInt8 × Bool) → Option ((Int × Int × Int) ⊕ (Int × Bool))
  | (x11, x12) => if x12 = true then preref4_Num_j4 x3 x4 x5 x6 (IntKind.i64.wrap ((IntKind.i64.wrap (IntKind.u8.wrap ((x11.toNat : Int) - 97))) + 10)) else if (leI 65 (x11.toNat : Int)) = true then preref4_Num_j8 x3 x4 x5 x6 (x11, leI (x11.toNat : Int) 70) else preref4_Num_j8 x3 x4 x5 x6 (x11, false)
noncomputable def preref4_Num_j6 (x3 : Int) (x4 : Int) (x5 : Int) (x6 : Int) : (UInt8 × Bool) → Option ((Int × Int × Int) ⊕ (Int × Bool))
  | (x9, x10) => if x10 = true then preref4_Num_j4 x3 x4 x5 x6 (IntKind.i64.wrap (IntKind.u8.wrap ((x9.toNat : Int) - 48))) else if (leI 97 (x9.toNat : Int)) = true then preref4_Num_j7 x3 x4 x5 x6 (x9, leI (x9.toNat : Int) 102) else preref4_Num_j7 x3 x4 x5 x6 (x9, false)
noncomputable def preref4_Num_b3 (x2 : List UInt8) (x3 : Int) : (Int × Int × Int) → Option ((Int × Int × Int) ⊕ (Int × Bool))
  | (x4, x5, x6) => if (ltI x6 x5) = true then if (0 : Int) ≤ x6 ∧ x6.toNat < x2.length then if (leI 48 ((x2.getD x6.toNat default).toNat : Int)) = true then preref4_Num_j6 x3 x4 x5 x6 ((x2.getD x6.toNat default), leI ((x2.getD x6.toNat default).toNat : Int) 57) else preref4_Num_j6 x3 x4 x5 x6 ((x2.getD x6.toNat default), false) else none else inrO (some (x4, ltI 0 (x2.length : Int)))
noncomputable def preref4_Num_j2 : ((List UInt8) × Int) → Option (Int × Bool)
  | (x2, x3) => loopO (preref4_Num_b3 x2 x3) (0, (x2.length : Int), 0)
noncomputable def preref4_Num_j10 (x1 : List UInt8) : Bool → Option (Int × Bool)
  | x16 => if x16 = true then if (0 : Int) ≤ 1 ∧ 1 ≤ (x1.length : Int) ∧ (x1.length : Int) ≤ (x1.length : Int) then preref4_Num_j2 (List.drop 1 x1, 8) else none else preref4_Num_j2 (x1, 10)
noncomputable def preref4_Num_j9 (x1 : List UInt8) : Bool → Option (Int × Bool)
  | x15 => if x15 = true then if (0 : Int) ≤ 2 ∧ 2 ≤ (x1.length : Int) ∧ (x1.length : Int) ≤ (x1.length : Int) then preref4_Num_j2 (List.drop 2 x1, 16) else none else if (ltI 1 (x1.length : Int)) = true then if 0 < x1.length then preref4_Num_j10 x1 (eqI ((x1.getD 0 0).toNat : Int) 48) else none else preref4_Num_j10 x1 false
noncomputable def preref4_Num_j1 : (List UInt8) → Option (Int × Bool)
  | x1 => if (ltI 2 (x1.length : Int)) = true then if 0 < x1.length then if (eqI ((x1.getD 0 0).toNat : Int) 48) = true then if 1 < x1.length then if (eqI ((x1.getD 1 0).toNat : Int) 120) = true then preref4_Num_j9 x1 true else if 1 < x1.length then preref4_Num_j9 x1 (eqI ((x1.getD 1 0).toNat : Int) 88) else none else none else preref4_Num_j9 x1 false else none else preref4_Num_j9 x1 false
noncomputable def preref4_Num_j12 (x17 : List UInt8) : Bool → Option ((List UInt8) ⊕ (Int × Bool))
  | x18 => if x18 = true then inrO (preref4_Num_j1 x17) else if (0 : Int) ≤ 0 ∧ 0 ≤ (IntKind.i64.wrap ((x17.length : Int) - 1)) ∧ (IntKind.i64.wrap ((x17.length : Int) - 1)) ≤ (x17.length : Int) then some (.inl (List.take ((IntKind.i64.wrap ((x17.length : Int) - 1)).toNat) x17)) else none
noncomputable def preref4_Num_b11 : (List UInt8) → Option ((List UInt8) ⊕ (Int × Bool))
  | x17 => if (ltI 1 (x17.length : Int)) = true then if (0 : Int) ≤ (IntKind.i64.wrap ((x17.length : Int) - 1)) ∧ (IntKind.i64.wrap ((x17.length : Int) - 1)).toNat < x17.length then if (!eqI ((x17.getD ((IntKind.i64.wrap ((x17.length : Int) - 1)).toNat) 0).toNat : Int) 117) = true then if (!eqI ((x17.getD ((IntKind.i64.wrap ((x17.length : Int) - 1)).toNat) 0).toNat : Int) 85) = true then if (!eqI ((x17.getD ((IntKind.i64.wrap ((x17.length : Int) - 1)).toNat) 0).toNat : Int) 108) = true then preref4_Num_j12 x17 (!eqI ((x17.getD ((IntKind.i64.wrap ((x17.length : Int) - 1)).toNat) 0).toNat : Int) 76) else preref4_Num_j12 x17 false else preref4_Num_j12 x17 false else preref4_Num_j12 x17 false else none else inrO (preref4_Num_j1 x17)
noncomputable def preref4_Num (a0 : List UInt8) : Option (Int × Bool) :=
  loopO preref4_Num_b11 a0
noncomputable def pf_preref4_Num : PF := PF.of (E1 dS) (fun a => preref4_Num a) (T2 dI dB)
set_option maxRecDepth 100000 in
set_option maxHeartbeats 4000000 in
theorem preref4_Num_ok : PureOk Tryd.prog 11 pf_preref4_Num := by
  refine xF mixed [] [] trivial trivial Tryd.func11 ?_
  rintro a0 out H
  have G := True.intro
  have Y := xZ y_3 <| xZ y_5 <| xZ y_9 <| xZ y_68 <| Tryd.results11
  simp only [preref4_Num] at H
  refine xS ?_
  refine xr0 ?_
  refine then_normal ?_
  refine w_cut preref4_Num_j1 (fun s => [(0, .c (.d (.v (str s))))]) (fun s => []) [] out ?_ ?_
  · refine xS ?_
    refine w_loop preref4_Num_b11 (fun s => [(0, .c (.d (.v (str s))))]) (fun s => []) [] H (xK ⟨[], []⟩) ?_
    rintro n2 x17 o2 H hF2
    rw [preref4_Num_b11] at H
    refine xS ?_
    refine xr ?_
    rcases bsplit H with ⟨hp16, H⟩ | ⟨hp16, H⟩
    · obtain ⟨F, G, hq16⟩ := xH Y G hp16
      refine xT ?_
      obtain ⟨hg9, H⟩ := gsplit H
      refine xr0 ?_
      refine then_normal ?_
      refine w_seq ?_
      refine w_cut (preref4_Num_j12 x17) (fun s => [(0, .c (.d (.v (str x17)))), (31, .c (.d (.v (.bool s))))]) (fun s => []) [] o2 ?_ ?_
      · rcases bsplit H with ⟨hp18, H⟩ | ⟨hp18, H⟩
        · obtain ⟨F, G, hq18⟩ := xH Y G hp18
          rcases bsplit H with ⟨hp19, H⟩ | ⟨hp19, H⟩
          · obtain ⟨F, G, hq19⟩ := xH F G hp19
            rcases bsplit H with ⟨hp20, H⟩ | ⟨hp20, H⟩
            · obtain ⟨F, G, hq20⟩ := xH F G hp20
              refine xR ?_
              exact cut_at H (xK ⟨[], []⟩)
            · obtain ⟨F, G, hq20⟩ := xH F G hp20
              refine xR ?_
              exact cut_at H (xK ⟨[], []⟩)
          · obtain ⟨F, G, hq19⟩ := xH F G hp19
            refine xR ?_
            exact cut_at H (xK ⟨[], []⟩)
        · obtain ⟨F, G, hq18⟩ := xH Y G hp18
          refine xR ?_
          exact cut_at H (xK ⟨[], []⟩)
      · rintro x18 H
        rw [preref4_Num_j12] at H
        rcases bsplit H with ⟨hp17, H⟩ | ⟨hp17, H⟩
        · obtain ⟨F, G, hq17⟩ := xH Y G hp17
          replace H := inrO_fin H hF2
          refine xT ?_
          exact cut_at H (xK ⟨[], []⟩)
        · obtain ⟨F, G, hq17⟩ := xH Y G hp17
          refine xE ?_
          obtain ⟨hg10, H⟩ := gsplit H
          refine xr ?_
          exact round_at (inl_fin H hF2) (xK ⟨[], []⟩)
    · obtain ⟨F, G, hq16⟩ := xH Y G hp16
      replace H := inrO_fin H hF2
      refine xE ?_
      exact cut_at H (xK ⟨[], []⟩)
  · rintro x1 H
    rw [preref4_Num_j1] at H
    refine xS ?_
    refine xr0 ?_
    refine then_normal ?_
    refine w_cut preref4_Num_j2 (fun s => [(0, .c (.d (.v (str s.1)))), (5, .c (.d (.v (.int .i64 s.2))))]) (fun s => []) [] out ?_ ?_
    · refine w_cut (preref4_Num_j9 x1) (fun s => [(0, .c (.d (.v (str x1)))), (5, .c (.d (.v (.int .i64 10)))), (54, .c (.d (.v (.bool s))))]) (fun s => []) [] out ?_ ?_
      · rcases bsplit H with ⟨hp13, H⟩ | ⟨hp13, H⟩
        · obtain ⟨F, G, hq13⟩ := xH Y G hp13
          obtain ⟨hg6, H⟩ := gsplit H
          rcases bsplit H with ⟨hp14, H⟩ | ⟨hp14, H⟩
          · obtain ⟨F, G, hq14⟩ := xH F G hp14
            obtain ⟨hg7, H⟩ := gsplit H
            rcases bsplit H with ⟨hp15, H⟩ | ⟨hp15, H⟩
            · obtain ⟨F, G, hq15⟩ := xH F G hp15
              refine xR ?_
              exact cut_at H (xK ⟨[], []⟩)
            · obtain ⟨F, G, hq15⟩ := xH F G hp15
              obtain ⟨hg8, H⟩ := gsplit H
              refine xR ?_
              exact cut_at H (xK ⟨[], []⟩)
          · obtain ⟨F, G, hq14⟩ := xH F G hp14
            refine xR ?_
            exact cut_at H (xK ⟨[], []⟩)
        · obtain ⟨F, G, hq13⟩ := xH Y G hp13
          refine xR ?_
          exact cut_at H (xK ⟨[], []⟩)
      · rintro x15 H
        rw [preref4_Num_j9] at H
        rcases bsplit H with ⟨hp10, H⟩ | ⟨hp10, H⟩
        · obtain ⟨F, G, hq10⟩ := xH Y G hp10
          refine xT ?_
          obtain ⟨hg3, H⟩ := gsplit H
          refine xr ?_
          exact cut_at H (xK ⟨[], []⟩)
        · obtain ⟨F, G, hq10⟩ := xH Y G hp10
          refine xE0 ?_
          refine w_cut (preref4_Num_j10 x1) (fun s => [(0, .c (.d (.v (str x1)))), (5, .c (.d (.v (.int .i64 10)))), (64, .c (.d (.v (.bool s))))]) (fun s => []) [] out ?_ ?_
          · rcases bsplit H with ⟨hp12, H⟩ | ⟨hp12, H⟩
            · obtain ⟨F, G, hq12⟩ := xH Y G hp12
              obtain ⟨hg5, H⟩ := gsplit H
              refine xR ?_
              exact cut_at H (xK ⟨[], []⟩)
            · obtain ⟨F, G, hq12⟩ := xH Y G hp12
              refine xR ?_
              exact cut_at H (xK ⟨[], []⟩)
          · rintro x16 H
            rw [preref4_Num_j10] at H
            rcases bsplit H with ⟨hp11, H⟩ | ⟨hp11, H⟩
            · obtain ⟨F, G, hq11⟩ := xH Y G hp11
              refine xT ?_
              obtain ⟨hg4, H⟩ := gsplit H
              refine xr ?_
              exact cut_at H (xK ⟨[], []⟩)
            · obtain ⟨F, G, hq11⟩ := xH Y G hp11
              refine xE ?_
              exact cut_at H (xK ⟨[], []⟩)
    · rintro ⟨x2, x3⟩ H
      rw [preref4_Num_j2] at H
      refine xS ?_
      refine xr ?_
      refine xr ?_
      refine w_loop (preref4_Num_b3 x2 x3) (fun s => [(0, .c (.d (.v (str x2)))), (5, .c (.d (.v (.int .i64 x3)))), (6, .c (.d (.v (.int .i64 s.1)))), (68, .c (.d (.sl 1 (List.map dU x2)))), (69, .c (.d (.v (.int .i64 s.2.1)))), (70, .c (.d (.v (.int .i64 s.2.2))))]) (fun s => []) [] H (xK ⟨[], []⟩) ?_
      rintro n1 ⟨x4, x5, x6⟩ o1 H hF1
      rw [preref4_Num_b3] at H
      refine xS ?_
      refine xr ?_
      rcases bsplit H with ⟨hp1, H⟩ | ⟨hp1, H⟩
      · obtain ⟨F, G, hq1⟩ := xH Y G hp1
        refine xT ?_
        obtain ⟨hg1, H⟩ := gsplit H
        have F := xZ Y (map_getD dU x2 x6.toNat default default (by omega))
        refine xR ?_
        refine xr0 ?_
        refine then_normal ?_
        refine w_cut (preref4_Num_j4 x3 x4 x5 x6) (fun s => [(0, .c (.d (.v (str x2)))), (5, .c (.d (.v (.int .i64 x3)))), (6, .c (.d (.v (.int .i64 x4)))), (9, .c (.d (.v (.int .i64 s)))), (68, .c (.d (.sl 1 (List.map dU x2)))), (69, .c (.d (.v (.int .i64 x5)))), (70, .c (.d (.v (.int .i64 x6))))]) (fun s => []) [] o1 ?_ ?_
        · refine w_block ?_
          refine w_cut (preref4_Num_j6 x3 x4 x5 x6) (fun s => [(0, .c (.d (.v (str x2)))), (5, .c (.d (.v (.int .i64 x3)))), (6, .c (.d (.v (.int .i64 x4)))), (8, .c (.d (.v (.int .u8 (s.1.toNat : Int))))), (9, .c (.d (.v (.int .i64 99)))), (68, .c (.d (.sl 1 (List.map dU x2)))), (69, .c (.d (.v (.int .i64 x5)))), (70, .c (.d (.v (.int .i64 x6)))), (74, .c (.d (.v (.bool s.2))))]) (fun s => []) [] o1 ?_ ?_
          · rcases bsplit H with ⟨hp9, H⟩ | ⟨hp9, H⟩
            · obtain ⟨F, G, hq9⟩ := xH Y G hp9
              refine xR ?_
              exact cut_at H (xK ⟨[], []⟩)
            · obtain ⟨F, G, hq9⟩ := xH Y G hp9
              refine xR ?_
              exact cut_at H (xK ⟨[], []⟩)
          · rintro ⟨x9, x10⟩ H
            rw [preref4_Num_j6] at H
            rcases bsplit H with ⟨hp4, H⟩ | ⟨hp4, H⟩
            · obtain ⟨F, G, hq4⟩ := xH Y G hp4
              refine xT ?_
              refine xr ?_
              exact cut_at H (xK ⟨[], []⟩)
            · obtain ⟨F, G, hq4⟩ := xH Y G hp4
              refine xE0 ?_
              refine w_cut (preref4_Num_j7 x3 x4 x5 x6) (fun s => [(0, .c (.d (.v (str x2)))), (5, .c (.d (.v (.int .i64 x3)))), (6, .c (.d (.v (.int .i64 x4)))), (8, .c (.d (.v (.int .u8 (s.1.toNat : Int))))), (9, .c (.d (.v (.int .i64 99)))), (68, .c (.d (.sl 1 (List.map dU x2)))), (69, .c (.d (.v (.int .i64 x5)))), (70, .c (.d (.v (.int .i64 x6)))), (84, .c (.d (.v (.bool s.2))))]) (fun s => []) [] o1 ?_ ?_
              · rcases bsplit H with ⟨hp8, H⟩ | ⟨hp8, H⟩
                · obtain ⟨F, G, hq8⟩ := xH Y G hp8
                  refine xR ?_
                  exact cut_at H (xK ⟨[], []⟩)
                · obtain ⟨F, G, hq8⟩ := xH Y G hp8
                  refine xR ?_
                  exact cut_at H (xK ⟨[], []⟩)
              · rintro ⟨x11, x12⟩ H
                rw [preref4_Num_j7] at H
                rcases bsplit H with ⟨hp5, H⟩ | ⟨hp5, H⟩
                · obtain ⟨F, G, hq5⟩ := xH Y G hp5
                  refine xT ?_
                  refine xr ?_
                  exact cut_at H (xK ⟨[], []⟩)
                · obtain ⟨F, G, hq5⟩ := xH Y G hp5
                  refine xE0 ?_
                  refine w_cut (preref4_Num_j8 x3 x4 x5 x6) (fun s => [(0, .c (.d (.v (str x2)))), (5, .c (.d (.v (.int .i64 x3)))), (6, .c (.d (.v (.int .i64 x4)))), (8, .c (.d (.v (.int .u8 (s.1.toNat : Int))))), (9, .c (.d (.v (.int .i64 99)))), (68, .c (.d (.sl 1 (List.map dU x2)))), (69, .c (.d (.v (.int .i64 x5)))), (70, .c (.d (.v (.int .i64 x6)))), (95, .c (.d (.v (.bool s.2))))]) (fun s => []) [] o1 ?_ ?_
                  · rcases bsplit H with ⟨hp7, H⟩ | ⟨hp7, H⟩
                    · obtain ⟨F, G, hq7⟩ := xH Y G hp7
                      refine xR ?_
                      exact cut_at H (xK ⟨[], []⟩)
                    · obtain ⟨F, G, hq7⟩ := xH Y G hp7
                      refine xR ?_
                      exact cut_at H (xK ⟨[], []⟩)
                  · rintro ⟨x13, x14⟩ H
                    rw [preref4_Num_j8] at H
                    rcases bsplit H with ⟨hp6, H⟩ | ⟨hp6, H⟩
                    · obtain ⟨F, G, hq6⟩ := xH Y G hp6
                      refine xT ?_
                      refine xr ?_
                      exact cut_at H (xK ⟨[], []⟩)
                    · obtain ⟨F, G, hq6⟩ := xH Y G hp6
                      refine xE ?_
                      exact cut_at H (xK ⟨[], []⟩)
        · rintro x7 H
          rw [preref4_Num_j4] at H
          refine w_seq ?_
          refine w_cut (preref4_Num_j5 x3 x4 x5 x6 x7) (fun s => [(0, .c (.d (.v (str x2)))), (5, .c (.d (.v (.int .i64 x3)))), (6, .c (.d (.v (.int .i64 x4)))), (9, .c (.d (.v (.int .i64 x7)))), (68, .c (.d (.sl 1 (List.map dU x2)))), (69, .c (.d (.v (.int .i64 x5)))), (70, .c (.d (.v (.int .i64 x6)))), (116, .c (.d (.v (.bool s))))]) (fun s => []) [] o1 ?_ ?_
          · rcases bsplit H with ⟨hp3, H⟩ | ⟨hp3, H⟩
            · obtain ⟨F, G, hq3⟩ := xH Y G hp3
              refine xR ?_
              exact cut_at H (xK ⟨[], []⟩)
            · obtain ⟨F, G, hq3⟩ := xH Y G hp3
              obtain ⟨hg2, H⟩ := gsplit H
              refine xR ?_
              exact cut_at H (xK ⟨[], []⟩)
          · rintro x8 H
            rw [preref4_Num_j5] at H
            rcases bsplit H with ⟨hp2, H⟩ | ⟨hp2, H⟩
            · obtain ⟨F, G, hq2⟩ := xH Y G hp2
              refine xT ?_
              replace H := inrO_fin H hF1
              replace H := Option.some.inj H
              refine xr ?_
              subst H
              exact xN
            · obtain ⟨F, G, hq2⟩ := xH Y G hp2
              refine xE ?_
              refine xr ?_
              refine xr ?_
              exact round_at (inl_fin H hF1) (xK ⟨[], []⟩)
      · obtain ⟨F, G, hq1⟩ := xH Y G hp1
        replace H := inrO_fin H hF1
        refine xE ?_
        replace H := Option.some.inj H
        refine xr ?_
        subst H
        exact xN
theorem preref4_Num_c (a0 : List UInt8) (r : Int × Bool) (H : preref4_Num a0 = some r) : PC pf_preref4_Num [dS a0] (T2 dI dB r) := PF.c (a := a0) H
noncomputable def preref4_Char_j2 : Unit → Option (Int × Bool)
  | () => some (0, false)
noncomputable def preref4_Char_j4 (a0 : List UInt8) : Bool → Option (Int × Bool)
  | x3 => if x3 = true then if 2 < a0.length then some (IntKind.i64.wrap ((a0.getD 2 0).toNat : Int), true) else none else preref4_Char_j2 ()
noncomputable def preref4_Char_j3 (a0 : List UInt8) : Bool → Option (Int × Bool)
  | x2 => if x2 = true then if 2 < a0.length then if (eqI ((a0.getD 2 0).toNat : Int) 110) = true then some (10, true) else if (eqI ((a0.getD 2 0).toNat : Int) 116) = true then some (9, true) else if (eqI ((a0.getD 2 0).toNat : Int) 48) = true then some (0, true) else if (eqI ((a0.getD 2 0).toNat : Int) 92) = true then preref4_Char_j4 a0 true else if (eqI ((a0.getD 2 0).toNat : Int) 39) = true then preref4_Char_j4 a0 true else preref4_Char_j4 a0 (eqI ((a0.getD 2 0).toNat : Int) 34) else none else preref4_Char_j2 ()
noncomputable def preref4_Char_j1 (a0 : List UInt8) : Bool → Option (Int × Bool)
  | x1 => if x1 = true then if 1 < a0.length then some (IntKind.i64.wrap ((a0.getD 1 0).toNat : Int), true) else none else if (eqI (a0.length : Int) 4) = true then if 1 < a0.length then preref4_Char_j3 a0 (eqI ((a0.getD 1 0).toNat : Int) 92) else none else preref4_Char_j3 a0 false
noncomputable def preref4_Char (a0 : List UInt8) : Option (Int × Bool) :=
  if (eqI (a0.length : Int) 3) = true then if 1 < a0.length then if (!eqI ((a0.getD 1 0).toNat : Int) 92) = true then if 1 < a0.length then preref4_Char_j1 a0 (!eqI ((a0.getD 1 0).toNat : Int) 39) else none else preref4_Char_j1 a0 false else none else preref4_Char_j1 a0 false
noncomputable def pf_preref4_Char : PF := PF.of (E1 dS) (fun a => preref4_Char a) (T2 dI dB)
set_option maxRecDepth 100000 in
set_option maxHeartbeats 4000000 in
theorem preref4_Char_ok : PureOk Tryd.prog 13 pf_preref4_Char := by
  refine xF mixed [] [] trivial trivial Tryd.func13 ?_
  rintro a0 out H
  have G := True.intro
  have Y := xZ y_3 <| xZ y_5 <| xZ y_9 <| Tryd.results13
  simp only [preref4_Char] at H
  refine xS ?_
  refine xr0 ?_
  refine then_normal ?_
  refine w_seq ?_
  refine w_cut (preref4_Char_j1 a0) (fun s => [(0, .c (.d (.v (str a0)))), (16, .c (.d (.v (.bool s))))]) (fun s => []) [] out ?_ ?_
  · rcases bsplit H with ⟨hp10, H⟩ | ⟨hp10, H⟩
    · obtain ⟨F, G, hq10⟩ := xH Y G hp10
      obtain ⟨hg5, H⟩ := gsplit H
      rcases bsplit H with ⟨hp11, H⟩ | ⟨hp11, H⟩
      · obtain ⟨F, G, hq11⟩ := xH F G hp11
        obtain ⟨hg6, H⟩ := gsplit H
        refine xR ?_
        exact cut_at H (xK ⟨[], []⟩)
      · obtain ⟨F, G, hq11⟩ := xH F G hp11
        refine xR ?_
        exact cut_at H (xK ⟨[], []⟩)
    · obtain ⟨F, G, hq10⟩ := xH Y G hp10
      refine xR ?_
      exact cut_at H (xK ⟨[], []⟩)
  · rintro x1 H
    rw [preref4_Char_j1] at H
    rcases bsplit H with ⟨hp1, H⟩ | ⟨hp1, H⟩
    · obtain ⟨F, G, hq1⟩ := xH Y G hp1
      refine xT ?_
      obtain ⟨hg1, H⟩ := gsplit H
      replace H := Option.some.inj H
      refine xr ?_
      subst H
      exact xN
    · obtain ⟨F, G, hq1⟩ := xH Y G hp1
      refine xE0 ?_
      refine w_skip ?_
      refine then_normal ?_
      refine w_cut preref4_Char_j2 (fun s => []) (fun s => []) [] out ?_ ?_
      · refine w_cut (preref4_Char_j3 a0) (fun s => [(0, .c (.d (.v (str a0)))), (27, .c (.d (.v (.bool s))))]) (fun s => []) [] out ?_ ?_
        · rcases bsplit H with ⟨hp9, H⟩ | ⟨hp9, H⟩
          · obtain ⟨F, G, hq9⟩ := xH Y G hp9
            obtain ⟨hg4, H⟩ := gsplit H
            refine xR ?_
            exact cut_at H (xK ⟨[], []⟩)
          · obtain ⟨F, G, hq9⟩ := xH Y G hp9
            refine xR ?_
            exact cut_at H (xK ⟨[], []⟩)
        · rintro x2 H
          rw [preref4_Char_j3] at H
          rcases bsplit H with ⟨hp2, H⟩ | ⟨hp2, H⟩
          · obtain ⟨F, G, hq2⟩ := xH Y G hp2
            refine xT ?_
            obtain ⟨hg2, H⟩ := gsplit H
            refine xr ?_
            refine xr ?_
            rcases bsplit H with ⟨hp3, H⟩ | ⟨hp3, H⟩
            · obtain ⟨F, G, hq3⟩ := xH Y G hp3
              refine xT ?_
              replace H := Option.some.inj H
              refine xr ?_
              subst H
              exact xN
            · obtain ⟨F, G, hq3⟩ := xH Y G hp3
              refine xE ?_
              refine xr ?_
              rcases bsplit H with ⟨hp4, H⟩ | ⟨hp4, H⟩
              · obtain ⟨F, G, hq4⟩ := xH Y G hp4
                refine xT ?_
                replace H := Option.some.inj H
                refine xr ?_
                subst H
                exact xN
              · obtain ⟨F, G, hq4⟩ := xH Y G hp4
                refine xE ?_
                refine xr ?_
                rcases bsplit H with ⟨hp5, H⟩ | ⟨hp5, H⟩
                · obtain ⟨F, G, hq5⟩ := xH Y G hp5
                  refine xT ?_
                  replace H := Option.some.inj H
                  refine xr ?_
                  subst H
                  exact xN
                · obtain ⟨F, G, hq5⟩ := xH Y G hp5
                  refine xE0 ?_
                  refine w_cut (preref4_Char_j4 a0) (fun s => [(0, .c (.d (.v (str a0)))), (36, .c (.d (.v (.bool s))))]) (fun s => []) [] out ?_ ?_
                  · refine xS ?_
                    refine xr ?_
                    rcases bsplit H with ⟨hp7, H⟩ | ⟨hp7, H⟩
                    · obtain ⟨F, G, hq7⟩ := xH Y G hp7
                      refine xT ?_
                      exact cut_at H (xK ⟨[], []⟩)
                    · obtain ⟨F, G, hq7⟩ := xH Y G hp7
                      refine xE ?_
                      refine xr ?_
                      rcases bsplit H with ⟨hp8, H⟩ | ⟨hp8, H⟩
                      · obtain ⟨F, G, hq8⟩ := xH Y G hp8
                        refine xT ?_
                        exact cut_at H (xK ⟨[], []⟩)
                      · obtain ⟨F, G, hq8⟩ := xH Y G hp8
                        refine xE ?_
                        refine xr ?_
                        exact cut_at H (xK ⟨[], []⟩)
                  · rintro x3 H
                    rw [preref4_Char_j4] at H
                    rcases bsplit H with ⟨hp6, H⟩ | ⟨hp6, H⟩
                    · obtain ⟨F, G, hq6⟩ := xH Y G hp6
                      refine xT ?_
                      obtain ⟨hg3, H⟩ := gsplit H
                      replace H := Option.some.inj H
                      refine xr ?_
                      subst H
                      exact xN
                    · obtain ⟨F, G, hq6⟩ := xH Y G hp6
                      refine xE ?_
                      exact cut_at H (xK ⟨[], []⟩)
          · obtain ⟨F, G, hq2⟩ := xH Y G hp2
            refine xE ?_
            exact cut_at H (xK ⟨[], []⟩)
      · rintro ⟨⟩ H
        rw [preref4_Char_j2] at H
        refine xS ?_
        replace H := Option.some.inj H
        refine xr ?_
        subst H
        exact xN
theorem preref4_Char_c (a0 : List UInt8) (r : Int × Bool) (H : preref4_Char a0 = some r) : PC pf_preref4_Char [dS a0] (T2 dI dB r) := PF.c (a := a0) H
end Go.Proofs.YtghmojcecefgjaaDoor
