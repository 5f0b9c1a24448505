/- Functions of data for functions of the program. Written by dec3.py. -/
import Derived.Test.YtjgimofnepechaaGreatDoorZah
set_option linter.unusedVariables false
set_option linter.unusedSimpArgs false
set_option maxHeartbeats 4000000
set_option maxRecDepth 100000
namespace Go.Proofs.YtjgimofnepechaaGreatDoor
open Go.RowKit
noncomputable def JY (x2 : List UInt8) : (Int × (List UInt8) × (List Int)) → Option ((Int × (List UInt8) × (List UInt8) × (List Int)) ⊕ Spliced)
 | (x5, x6, x7) => some (.inl (IntKind.i64.wrap (x5 + 1), x2, x6, x7))
noncomputable def Kf (x1 : Int) (x2 : List UInt8) (x3 : List UInt8) (x4 : List Int) (x8 : List UInt8) : Bool → Option ((Int × (List UInt8) × (List UInt8) × (List Int)) ⊕ Spliced)
 | x11 => if x11 = true then JY x2 (x1, x3, x4) else if (0 : Int) ≤ 0 ∧ 0 ≤ 1 ∧ 1 ≤ (x8.length : Int) then if x3.length + (List.take 1 x8).length ≤ 9223372036854775807 then if (x4.length + [x1].length) * 8 ≤ 140737488355328 then JY x2 (x1, x3 ++ (List.take 1 x8), x4 ++ [x1]) else none else none else none
noncomputable def JX (x1 : Int) (x2 : List UInt8) (x3 : List UInt8) (x4 : List Int) (x8 : List UInt8) : Bool → Option ((Int × (List UInt8) × (List UInt8) × (List Int)) ⊕ Spliced)
 | x10 => if x10 = true then JY x2 (IntKind.i64.wrap (x1 + 2), x3, x4) else if (ltI 1 (x8.length : Int)) = true then if 0 < x8.length then if (eqI ((x8.getD 0 0).toNat : Int) 13) = true then if 1 < x8.length then Kf x1 x2 x3 x4 x8 (eqI ((x8.getD 1 0).toNat : Int) 10) else none else Kf x1 x2 x3 x4 x8 false else none else Kf x1 x2 x3 x4 x8 false
noncomputable def Kg (x1 : Int) (x2 : List UInt8) (x3 : List UInt8) (x4 : List Int) : ((List UInt8) × Bool) → Option ((Int × (List UInt8) × (List UInt8) × (List Int)) ⊕ Spliced)
 | (x8, x9) => if x9 = true then JY x2 (IntKind.i64.wrap (x1 + 1), x3, x4) else if (ltI 2 (x8.length : Int)) = true then if 0 < x8.length then if (eqI ((x8.getD 0 0).toNat : Int) 92) = true then if 1 < x8.length then if (eqI ((x8.getD 1 0).toNat : Int) 13) = true then if 2 < x8.length then JX x1 x2 x3 x4 x8 (eqI ((x8.getD 2 0).toNat : Int) 10) else none else JX x1 x2 x3 x4 x8 false else none else JX x1 x2 x3 x4 x8 false else none else JX x1 x2 x3 x4 x8 false
noncomputable def XH (a0 : List UInt8) : (Int × (List UInt8) × (List UInt8) × (List Int)) → Option ((Int × (List UInt8) × (List UInt8) × (List Int)) ⊕ Spliced)
 | (x1, x2, x3, x4) => if (ltI x1 (a0.length : Int)) = true then if (0 : Int) ≤ x1 ∧ x1 ≤ (a0.length : Int) ∧ (a0.length : Int) ≤ (a0.length : Int) then if (ltI 1 ((List.drop x1.toNat a0).length : Int)) = true then if 0 < (List.drop x1.toNat a0).length then if (eqI (((List.drop x1.toNat a0).getD 0 0).toNat : Int) 92) = true then if 1 < (List.drop x1.toNat a0).length then Kg x1 x2 x3 x4 (List.drop x1.toNat a0, eqI (((List.drop x1.toNat a0).getD 1 0).toNat : Int) 10) else none else Kg x1 x2 x3 x4 (List.drop x1.toNat a0, false) else none else Kg x1 x2 x3 x4 (List.drop x1.toNat a0, false) else none else inrO (if (x4.length + [(a0.length : Int)].length) * 8 ≤ 140737488355328 then some (⟨x3, x4 ++ [(a0.length : Int)]⟩ : Spliced) else none)
noncomputable def XR (a0 : List UInt8) : Option Spliced :=
 loopO (XH a0) (0, [], [], ([] : List Int))
noncomputable def Jbj : PF := PF.of (E1 dS) (fun a => XR a) d_Spliced
theorem Jeo : PureOk Tryz.prog 29 Jbj := by
 refine xF mixed [] [] trivial trivial Tryz.func29 ?_
 rintro a0 out H
 have G := True.intro
 have Y := xZ y_3 <| xZ y_9 <| xZ y_68 <| xZ y_70 <| xZ Tryz.results29 <| d_Spliced.eq_1
 simp only [XR] at H
 refine xS ?_
 refine xr ?_
 refine xr ?_
 refine xr ?_
 refine w_loop (XH a0) (fun s => [(0, .c (.d (.v (str a0)))), (2, .c (.pt 1 0)), (3, .c (.pt 2 0)), (4, .c (.d (.v (.int .i64 s.1))))]) (fun s => [[.d (.v (str s.2.1)), .sl 1 [] 0], [.d (.v (str s.2.2.1)), .sl 1 (List.map dI s.2.2.2) 3]]) [3] H (xK ⟨[1,2], [0]⟩) ?_
 rintro n1 ⟨x1, x2, x3, x4⟩ o1 H hF1
 rw [XH] at H
 refine xS ?_
 refine xr ?_
 rcases bsplit H with ⟨hp1, H⟩ | ⟨hp1, H⟩
 ·obtain ⟨F, G, hq1⟩ := xH Y G hp1
  refine xT0 ?_
  refine w_skip ?_
  refine then_normal ?_
  refine w_cut (JY x2) (fun s => [(0, .c (.d (.v (str a0)))), (2, .c (.pt 1 0)), (3, .c (.pt 2 0)), (4, .c (.d (.v (.int .i64 s.1))))]) (fun s => [[.d (.v (str x2)), .sl 1 [] 0], [.d (.v (str s.2.1)), .sl 1 (List.map dI s.2.2) 3]]) [3] o1 ?_ ?_
  ·refine xS ?_
   obtain ⟨hg1, H⟩ := gsplit H
   refine xr0 ?_
   refine then_normal ?_
   refine w_seq ?_
   refine w_cut (Kg x1 x2 x3 x4) (fun s => [(0, .c (.d (.v (str a0)))), (2, .c (.pt 1 0)), (3, .c (.pt 2 0)), (4, .c (.d (.v (.int .i64 x1)))), (5, .c (.d (.v (str s.1)))), (27, .c (.d (.v (.bool s.2))))]) (fun s => [[.d (.v (str x2)), .sl 1 [] 0], [.d (.v (str x3)), .sl 1 (List.map dI x4) 3]]) [3] o1 ?_ ?_
   ·rcases bsplit H with ⟨hp10, H⟩ | ⟨hp10, H⟩
    ·obtain ⟨F, G, hq10⟩ := xH Y G hp10
     obtain ⟨hg10, H⟩ := gsplit H
     rcases bsplit H with ⟨hp11, H⟩ | ⟨hp11, H⟩
     ·obtain ⟨F, G, hq11⟩ := xH F G hp11
      obtain ⟨hg11, H⟩ := gsplit H
      refine xR ?_
      exact cut_at H (xK ⟨[1,2], [3]⟩)
     ·obtain ⟨F, G, hq11⟩ := xH F G hp11
      refine xR ?_
      exact cut_at H (xK ⟨[1,2], [3]⟩)
    ·obtain ⟨F, G, hq10⟩ := xH Y G hp10
     refine xR ?_
     exact cut_at H (xK ⟨[1,2], [3]⟩)
   ·rintro ⟨x8, x9⟩ H
    rw [Kg] at H
    rcases bsplit H with ⟨hp2, H⟩ | ⟨hp2, H⟩
    ·obtain ⟨F, G, hq2⟩ := xH Y G hp2
     refine xT ?_
     refine xr ?_
     exact cut_at H (xK ⟨[1,2], [3]⟩)
    ·obtain ⟨F, G, hq2⟩ := xH Y G hp2
     refine xE0 ?_
     refine w_skip ?_
     refine then_normal ?_
     refine w_seq ?_
     refine w_cut (JX x1 x2 x3 x4 x8) (fun s => [(0, .c (.d (.v (str a0)))), (2, .c (.pt 1 0)), (3, .c (.pt 2 0)), (4, .c (.d (.v (.int .i64 x1)))), (5, .c (.d (.v (str x8)))), (47, .c (.d (.v (.bool s))))]) (fun s => [[.d (.v (str x2)), .sl 1 [] 0], [.d (.v (str x3)), .sl 1 (List.map dI x4) 3]]) [3] o1 ?_ ?_
     ·rcases bsplit H with ⟨hp7, H⟩ | ⟨hp7, H⟩
      ·obtain ⟨F, G, hq7⟩ := xH Y G hp7
       obtain ⟨hg7, H⟩ := gsplit H
       rcases bsplit H with ⟨hp8, H⟩ | ⟨hp8, H⟩
       ·obtain ⟨F, G, hq8⟩ := xH F G hp8
        obtain ⟨hg8, H⟩ := gsplit H
        rcases bsplit H with ⟨hp9, H⟩ | ⟨hp9, H⟩
        ·obtain ⟨F, G, hq9⟩ := xH F G hp9
         obtain ⟨hg9, H⟩ := gsplit H
         refine xR ?_
         exact cut_at H (xK ⟨[1,2], [3]⟩)
        ·obtain ⟨F, G, hq9⟩ := xH F G hp9
         refine xR ?_
         exact cut_at H (xK ⟨[1,2], [3]⟩)
       ·obtain ⟨F, G, hq8⟩ := xH F G hp8
        refine xR ?_
        exact cut_at H (xK ⟨[1,2], [3]⟩)
      ·obtain ⟨F, G, hq7⟩ := xH Y G hp7
       refine xR ?_
       exact cut_at H (xK ⟨[1,2], [3]⟩)
     ·rintro x10 H
      rw [JX] at H
      rcases bsplit H with ⟨hp3, H⟩ | ⟨hp3, H⟩
      ·obtain ⟨F, G, hq3⟩ := xH Y G hp3
       refine xT ?_
       refine xr ?_
       exact cut_at H (xK ⟨[1,2], [3]⟩)
      ·obtain ⟨F, G, hq3⟩ := xH Y G hp3
       refine xE0 ?_
       refine w_skip ?_
       refine then_normal ?_
       refine w_seq ?_
       refine w_cut (Kf x1 x2 x3 x4 x8) (fun s => [(0, .c (.d (.v (str a0)))), (2, .c (.pt 1 0)), (3, .c (.pt 2 0)), (4, .c (.d (.v (.int .i64 x1)))), (5, .c (.d (.v (str x8)))), (62, .c (.d (.v (.bool s))))]) (fun s => [[.d (.v (str x2)), .sl 1 [] 0], [.d (.v (str x3)), .sl 1 (List.map dI x4) 3]]) [3] o1 ?_ ?_
       ·rcases bsplit H with ⟨hp5, H⟩ | ⟨hp5, H⟩
        ·obtain ⟨F, G, hq5⟩ := xH Y G hp5
         obtain ⟨hg5, H⟩ := gsplit H
         rcases bsplit H with ⟨hp6, H⟩ | ⟨hp6, H⟩
         ·obtain ⟨F, G, hq6⟩ := xH F G hp6
          obtain ⟨hg6, H⟩ := gsplit H
          refine xR ?_
          exact cut_at H (xK ⟨[1,2], [3]⟩)
         ·obtain ⟨F, G, hq6⟩ := xH F G hp6
          refine xR ?_
          exact cut_at H (xK ⟨[1,2], [3]⟩)
        ·obtain ⟨F, G, hq5⟩ := xH Y G hp5
         refine xR ?_
         exact cut_at H (xK ⟨[1,2], [3]⟩)
       ·rintro x11 H
        rw [Kf] at H
        rcases bsplit H with ⟨hp4, H⟩ | ⟨hp4, H⟩
        ·obtain ⟨F, G, hq4⟩ := xH Y G hp4
         refine xT ?_
         exact cut_at H (xK ⟨[1,2], [3]⟩)
        ·obtain ⟨F, G, hq4⟩ := xH Y G hp4
         refine xE ?_
         obtain ⟨hg2, H⟩ := gsplit H
         obtain ⟨hg3, H⟩ := gsplit H
         refine xr ?_
         obtain ⟨hg4, H⟩ := gsplit H
         have F := xZ Y (all_map one_dI [x1])
         refine xR ?_
         exact cut_at H (xK ⟨[1,2], [4]⟩)
  ·rintro ⟨x5, x6, x7⟩ H
   rw [JY] at H
   refine xr ?_
   exact round_at (inl_fin H hF1) (xK ⟨[1,2], [3]⟩)
 ·obtain ⟨F, G, hq1⟩ := xH Y G hp1
  replace H := inrO_fin H hF1
  refine xE ?_
  obtain ⟨hg12, H⟩ := gsplit H
  have F := xZ Y (all_map one_dI [(a0.length : Int)])
  refine xR ?_
  replace H := Option.some.inj H
  refine xr ?_
  subst H
  exact xN
theorem JeE (a0 : List UInt8) (r : Spliced) (H : XR a0 = some r) : PC Jbj [dS a0] (d_Spliced r) := PF.c (a := a0) H
noncomputable def Zn (x2 : Bool) (x7 : Int) : Bool → Option (Int ⊕ ((Int × Bool) ⊕ (Int × Bool)))
 | x8 => if x8 = true then some (.inl (IntKind.i64.wrap (x7 + 1))) else inrO (some (.inl (x7, x2)))
noncomputable def Zv (a0 : List UInt8) (x2 : Bool) : Int → Option (Int ⊕ ((Int × Bool) ⊕ (Int × Bool)))
 | x7 => if (ltI x7 (a0.length : Int)) = true then if (0 : Int) ≤ x7 ∧ x7.toNat < a0.length then Zn x2 x7 (!eqI ((a0.getD x7.toNat 0).toNat : Int) 10) else none else Zn x2 x7 false
noncomputable def Zu (a0 : List UInt8) (x1 : Int) (x2 : Bool) (x9 : Int) : Bool → Option (Int ⊕ ((Int × Bool) ⊕ (Int × Bool)))
 | x10 => if x10 = true then some (.inl (IntKind.i64.wrap (x9 + 1))) else inrO (if (leI (a0.length : Int) (IntKind.i64.wrap (x9 + 1))) = true then inrO (some (IntKind.i64.wrap ((-1) - x1), x2)) else some (.inl (IntKind.i64.wrap (x9 + 2), x2)))
noncomputable def Zr (a0 : List UInt8) (x1 : Int) (x2 : Bool) : Int → Option (Int ⊕ ((Int × Bool) ⊕ (Int × Bool)))
 | x9 => if (ltI (IntKind.i64.wrap (x9 + 1)) (a0.length : Int)) = true then if (0 : Int) ≤ x9 ∧ x9 ≤ (IntKind.i64.wrap (x9 + 2)) ∧ (IntKind.i64.wrap (x9 + 2)) ≤ (a0.length : Int) then Zu a0 x1 x2 x9 (!eqS (List.take ((IntKind.i64.wrap (x9 + 2)).toNat - x9.toNat) (List.drop x9.toNat a0)) [42, 47]) else none else Zu a0 x1 x2 x9 false
noncomputable def JQ (a0 : List UInt8) (x1 : Int) (x2 : Bool) (x4 : List UInt8) : (UInt8 × Bool) → Option ((Int × Bool) ⊕ (Int × Bool))
 | (x5, x6) => if x6 = true then some (.inl (IntKind.i64.wrap (x1 + 1), x2)) else if (eqI (x5.toNat : Int) 10) = true then some (.inl (IntKind.i64.wrap (x1 + 1), true)) else if (eqS x4 [47, 47]) = true then loopO (Zv a0 x2) x1 else if (eqS x4 [47, 42]) = true then loopO (Zr a0 x1 x2) (IntKind.i64.wrap (x1 + 2)) else inrO (some (x1, x2))
noncomputable def Xq (a0 : List UInt8) (x1 : Int) (x2 : Bool) : (UInt8 × (List UInt8)) → Option ((Int × Bool) ⊕ (Int × Bool))
 | (x3, x4) => if (eqI (x3.toNat : Int) 32) = true then JQ a0 x1 x2 x4 (x3, true) else if (eqI (x3.toNat : Int) 9) = true then JQ a0 x1 x2 x4 (x3, true) else JQ a0 x1 x2 x4 (x3, eqI (x3.toNat : Int) 13)
noncomputable def J2 (a0 : List UInt8) : (Int × Bool) → Option ((Int × Bool) ⊕ (Int × Bool))
 | (x1, x2) => if (ltI x1 (a0.length : Int)) = true then if (0 : Int) ≤ x1 ∧ x1.toNat < a0.length then if (ltI (IntKind.i64.wrap (x1 + 1)) (a0.length : Int)) = true then if (0 : Int) ≤ x1 ∧ x1 ≤ (IntKind.i64.wrap (x1 + 2)) ∧ (IntKind.i64.wrap (x1 + 2)) ≤ (a0.length : Int) then Xq a0 x1 x2 ((a0.getD x1.toNat 0), List.take ((IntKind.i64.wrap (x1 + 2)).toNat - x1.toNat) (List.drop x1.toNat a0)) else none else Xq a0 x1 x2 ((a0.getD x1.toNat 0), []) else none else inrO (some (x1, x2))
noncomputable def ZK (a0 : List UInt8) : Option (Int × Bool) :=
 loopO (J2 a0) (0, false)
noncomputable def Jcd : PF := PF.of (E1 dS) (fun a => ZK a) (T2 dI dB)
theorem JeH : PureOk Tryz.prog 30 Jcd := by
 refine xF mixed [] [] trivial trivial Tryz.func30 ?_
 rintro a0 out H
 have G := True.intro
 have Y := xZ y_9 <| Tryz.results30
 simp only [ZK] at H
 refine xS ?_
 refine xr ?_
 refine xr ?_
 refine w_loop (J2 a0) (fun s => [(0, .c (.d (.v (str a0)))), (4, .c (.d (.v (.int .i64 s.1)))), (5, .c (.d (.v (.bool s.2))))]) (fun s => []) [] H (xK ⟨[], []⟩) ?_
 rintro n1 ⟨x1, x2⟩ o1 H hF1
 rw [J2] at H
 refine xS ?_
 refine xr ?_
 rcases bsplit H with ⟨hp1, H⟩ | ⟨hp1, H⟩
 ·obtain ⟨F, G, hq1⟩ := xH Y G hp1
  refine xT ?_
  obtain ⟨hg1, H⟩ := gsplit H
  refine xr ?_
  refine xr0 ?_
  refine then_normal ?_
  refine w_cut (Xq a0 x1 x2) (fun s => [(0, .c (.d (.v (str a0)))), (4, .c (.d (.v (.int .i64 x1)))), (5, .c (.d (.v (.bool x2)))), (6, .c (.d (.v (.int .u8 (s.1.toNat : Int))))), (7, .c (.d (.v (str s.2))))]) (fun s => []) [] o1 ?_ ?_
  ·refine xS ?_
   refine xr ?_
   rcases bsplit H with ⟨hp13, H⟩ | ⟨hp13, H⟩
   ·obtain ⟨F, G, hq13⟩ := xH Y G hp13
    refine xT ?_
    obtain ⟨hg4, H⟩ := gsplit H
    refine xr ?_
    exact cut_at H (xK ⟨[], []⟩)
   ·obtain ⟨F, G, hq13⟩ := xH Y G hp13
    refine xE ?_
    exact cut_at H (xK ⟨[], []⟩)
  ·rintro ⟨x3, x4⟩ H
   rw [Xq] at H
   refine w_block ?_
   refine w_cut (JQ a0 x1 x2 x4) (fun s => [(0, .c (.d (.v (str a0)))), (4, .c (.d (.v (.int .i64 x1)))), (5, .c (.d (.v (.bool x2)))), (6, .c (.d (.v (.int .u8 (s.1.toNat : Int))))), (7, .c (.d (.v (str x4)))), (28, .c (.d (.v (.bool s.2))))]) (fun s => []) [] o1 ?_ ?_
   ·rcases bsplit H with ⟨hp11, H⟩ | ⟨hp11, H⟩
    ·obtain ⟨F, G, hq11⟩ := xH Y G hp11
     refine xR ?_
     exact cut_at H (xK ⟨[], []⟩)
    ·obtain ⟨F, G, hq11⟩ := xH Y G hp11
     rcases bsplit H with ⟨hp12, H⟩ | ⟨hp12, H⟩
     ·obtain ⟨F, G, hq12⟩ := xH F G hp12
      refine xR ?_
      exact cut_at H (xK ⟨[], []⟩)
     ·obtain ⟨F, G, hq12⟩ := xH F G hp12
      refine xR ?_
      exact cut_at H (xK ⟨[], []⟩)
   ·rintro ⟨x5, x6⟩ H
    rw [JQ] at H
    rcases bsplit H with ⟨hp2, H⟩ | ⟨hp2, H⟩
    ·obtain ⟨F, G, hq2⟩ := xH Y G hp2
     refine xT ?_
     refine xr ?_
     exact round_at (inl_fin H hF1) (xK ⟨[], []⟩)
    ·obtain ⟨F, G, hq2⟩ := xH Y G hp2
     refine xE ?_
     refine xr ?_
     rcases bsplit H with ⟨hp3, H⟩ | ⟨hp3, H⟩
     ·obtain ⟨F, G, hq3⟩ := xH Y G hp3
      refine xT ?_
      refine xr ?_
      refine xr ?_
      exact round_at (inl_fin H hF1) (xK ⟨[], []⟩)
     ·obtain ⟨F, G, hq3⟩ := xH Y G hp3
      refine xE ?_
      refine xr ?_
      rcases bsplit H with ⟨hp4, H⟩ | ⟨hp4, H⟩
      ·obtain ⟨F, G, hq4⟩ := xH Y G hp4
       refine xT ?_
       refine w_loop (Zv a0 x2) (fun s => [(0, .c (.d (.v (str a0)))), (4, .c (.d (.v (.int .i64 s)))), (5, .c (.d (.v (.bool x2))))]) (fun s => []) [] H (xK ⟨[], []⟩) ?_
       rintro n2 x7 o2 H hF2
       rw [Zv] at H
       refine w_seq ?_
       refine w_cut (Zn x2 x7) (fun s => [(0, .c (.d (.v (str a0)))), (4, .c (.d (.v (.int .i64 x7)))), (5, .c (.d (.v (.bool x2)))), (58, .c (.d (.v (.bool s))))]) (fun s => []) [] o2 ?_ ?_
       ·rcases bsplit H with ⟨hp6, H⟩ | ⟨hp6, H⟩
        ·obtain ⟨F, G, hq6⟩ := xH Y G hp6
         obtain ⟨hg2, H⟩ := gsplit H
         refine xR ?_
         exact cut_at H (xK ⟨[], []⟩)
        ·obtain ⟨F, G, hq6⟩ := xH Y G hp6
         refine xR ?_
         exact cut_at H (xK ⟨[], []⟩)
       ·rintro x8 H
        rw [Zn] at H
        rcases bsplit H with ⟨hp5, H⟩ | ⟨hp5, H⟩
        ·obtain ⟨F, G, hq5⟩ := xH Y G hp5
         refine xT ?_
         refine xr ?_
         exact round_at (inl_fin H hF2) (xK ⟨[], []⟩)
        ·obtain ⟨F, G, hq5⟩ := xH Y G hp5
         replace H := inrO_fin H hF2
         refine xE ?_
         exact round_at (inl_fin H hF1) (xK ⟨[], []⟩)
      ·obtain ⟨F, G, hq4⟩ := xH Y G hp4
       refine xE ?_
       refine xr ?_
       rcases bsplit H with ⟨hp7, H⟩ | ⟨hp7, H⟩
       ·obtain ⟨F, G, hq7⟩ := xH Y G hp7
        refine xT ?_
        refine xr ?_
        refine w_loop (Zr a0 x1 x2) (fun s => [(0, .c (.d (.v (str a0)))), (4, .c (.d (.v (.int .i64 x1)))), (5, .c (.d (.v (.bool x2)))), (8, .c (.d (.v (.int .i64 s))))]) (fun s => []) [] H (xK ⟨[], []⟩) ?_
        rintro n3 x9 o3 H hF3
        rw [Zr] at H
        refine w_seq ?_
        refine w_cut (Zu a0 x1 x2 x9) (fun s => [(0, .c (.d (.v (str a0)))), (4, .c (.d (.v (.int .i64 x1)))), (5, .c (.d (.v (.bool x2)))), (8, .c (.d (.v (.int .i64 x9)))), (78, .c (.d (.v (.bool s))))]) (fun s => []) [] o3 ?_ ?_
        ·rcases bsplit H with ⟨hp10, H⟩ | ⟨hp10, H⟩
         ·obtain ⟨F, G, hq10⟩ := xH Y G hp10
          obtain ⟨hg3, H⟩ := gsplit H
          refine xR ?_
          exact cut_at H (xK ⟨[], []⟩)
         ·obtain ⟨F, G, hq10⟩ := xH Y G hp10
          refine xR ?_
          exact cut_at H (xK ⟨[], []⟩)
        ·rintro x10 H
         rw [Zu] at H
         rcases bsplit H with ⟨hp8, H⟩ | ⟨hp8, H⟩
         ·obtain ⟨F, G, hq8⟩ := xH Y G hp8
          refine xT ?_
          refine xr ?_
          exact round_at (inl_fin H hF3) (xK ⟨[], []⟩)
         ·obtain ⟨F, G, hq8⟩ := xH Y G hp8
          replace H := inrO_fin H hF3
          refine xE ?_
          refine xr ?_
          rcases bsplit H with ⟨hp9, H⟩ | ⟨hp9, H⟩
          ·obtain ⟨F, G, hq9⟩ := xH Y G hp9
           refine xT ?_
           replace H := inrO_fin H hF1
           replace H := Option.some.inj H
           refine xr ?_
           subst H
           exact xN
          ·obtain ⟨F, G, hq9⟩ := xH Y G hp9
           refine xE ?_
           refine xr ?_
           exact round_at (inl_fin H hF1) (xK ⟨[], []⟩)
       ·obtain ⟨F, G, hq7⟩ := xH Y G hp7
        refine xE ?_
        replace H := inrO_fin H hF1
        replace H := Option.some.inj H
        refine xr ?_
        subst H
        exact xN
 ·obtain ⟨F, G, hq1⟩ := xH Y G hp1
  replace H := inrO_fin H hF1
  refine xE ?_
  replace H := Option.some.inj H
  refine xr ?_
  subst H
  exact xN
theorem Jfa (a0 : List UInt8) (r : Int × Bool) (H : ZK a0 = some r) : PC Jcd [dS a0] (T2 dI dB r) := PF.c (a := a0) H
noncomputable def JF : Bool → Option Bool
 | x1 => some x1
noncomputable def KJ (a0 : UInt8) : Option Bool :=
 if (leI 97 (a0.toNat : Int)) = true then if (leI (a0.toNat : Int) 122) = true then JF true else if (leI 65 (a0.toNat : Int)) = true then if (leI (a0.toNat : Int) 90) = true then JF true else JF (eqI (a0.toNat : Int) 95) else JF (eqI (a0.toNat : Int) 95) else if (leI 65 (a0.toNat : Int)) = true then if (leI (a0.toNat : Int) 90) = true then JF true else JF (eqI (a0.toNat : Int) 95) else JF (eqI (a0.toNat : Int) 95)
noncomputable def ZF : PF := PF.of (E1 dU) (fun a => KJ a) dB
theorem JcQ : PureOk Tryz.prog 52 ZF := by
 refine xF mixed [] [] trivial trivial Tryz.func52 ?_
 rintro a0 out H
 have G := True.intro
 have Y := Tryz.results52
 simp only [KJ] at H
 refine xS ?_
 refine xr0 ?_
 refine then_normal ?_
 refine w_cut JF (fun s => [(2, .c (.d (.v (.bool s))))]) (fun s => []) [] out ?_ ?_
 ·rcases bsplit H with ⟨hp1, H⟩ | ⟨hp1, H⟩
  ·obtain ⟨F, G, hq1⟩ := xH Y G hp1
   rcases bsplit H with ⟨hp2, H⟩ | ⟨hp2, H⟩
   ·obtain ⟨F, G, hq2⟩ := xH F G hp2
    refine xR ?_
    exact cut_at H (xK ⟨[], []⟩)
   ·obtain ⟨F, G, hq2⟩ := xH F G hp2
    rcases bsplit H with ⟨hp3, H⟩ | ⟨hp3, H⟩
    ·obtain ⟨F, G, hq3⟩ := xH F G hp3
     rcases bsplit H with ⟨hp4, H⟩ | ⟨hp4, H⟩
     ·obtain ⟨F, G, hq4⟩ := xH F G hp4
      refine xR ?_
      exact cut_at H (xK ⟨[], []⟩)
     ·obtain ⟨F, G, hq4⟩ := xH F G hp4
      refine xR ?_
      exact cut_at H (xK ⟨[], []⟩)
    ·obtain ⟨F, G, hq3⟩ := xH F G hp3
     refine xR ?_
     exact cut_at H (xK ⟨[], []⟩)
  ·obtain ⟨F, G, hq1⟩ := xH Y G hp1
   rcases bsplit H with ⟨hp5, H⟩ | ⟨hp5, H⟩
   ·obtain ⟨F, G, hq5⟩ := xH F G hp5
    rcases bsplit H with ⟨hp6, H⟩ | ⟨hp6, H⟩
    ·obtain ⟨F, G, hq6⟩ := xH F G hp6
     refine xR ?_
     exact cut_at H (xK ⟨[], []⟩)
    ·obtain ⟨F, G, hq6⟩ := xH F G hp6
     refine xR ?_
     exact cut_at H (xK ⟨[], []⟩)
   ·obtain ⟨F, G, hq5⟩ := xH F G hp5
    refine xR ?_
    exact cut_at H (xK ⟨[], []⟩)
 ·rintro x1 H
  rw [JF] at H
  replace H := Option.some.inj H
  refine xS ?_
  subst H
  exact xN
theorem JbN (a0 : UInt8) (r : Bool) (H : KJ a0 = some r) : PC ZF [dU a0] (dB r) := PF.c (a := a0) H
noncomputable def X2 : Bool → Option Bool
 | x1 => some x1
noncomputable def KD (a0 : UInt8) : Option Bool :=
 if (leI 48 (a0.toNat : Int)) = true then X2 (leI (a0.toNat : Int) 57) else X2 false
noncomputable def Jag : PF := PF.of (E1 dU) (fun a => KD a) dB
theorem Jc7 : PureOk Tryz.prog 53 Jag := by
 refine xF mixed [] [] trivial trivial Tryz.func53 ?_
 rintro a0 out H
 have G := True.intro
 have Y := Tryz.results53
 simp only [KD] at H
 refine xS ?_
 refine xr0 ?_
 refine then_normal ?_
 refine w_cut X2 (fun s => [(2, .c (.d (.v (.bool s))))]) (fun s => []) [] out ?_ ?_
 ·rcases bsplit H with ⟨hp1, H⟩ | ⟨hp1, H⟩
  ·obtain ⟨F, G, hq1⟩ := xH Y G hp1
   refine xR ?_
   exact cut_at H (xK ⟨[], []⟩)
  ·obtain ⟨F, G, hq1⟩ := xH Y G hp1
   refine xR ?_
   exact cut_at H (xK ⟨[], []⟩)
 ·rintro x1 H
  rw [X2] at H
  replace H := Option.some.inj H
  refine xS ?_
  subst H
  exact xN
theorem JaG (a0 : UInt8) (r : Bool) (H : KD a0 = some r) : PC Jag [dU a0] (dB r) := PF.c (a := a0) H
noncomputable def VI (a0 : List UInt8) : Int → Option (List UInt8)
 | x1 => if (0 : Int) ≤ 0 ∧ 0 ≤ x1 ∧ x1 ≤ (a0.length : Int) then some (List.take x1.toNat a0) else none
noncomputable def KW (a0 : List UInt8) (x2 : Int) : Bool → Option (Int ⊕ (List UInt8))
 | x5 => if x5 = true then inrO (VI a0 x2) else some (.inl (IntKind.i64.wrap (x2 + 1)))
noncomputable def JG (a0 : List UInt8) (x2 : Int) : (UInt8 × Bool) → Option (Int ⊕ (List UInt8))
 | (x3, x4) => if (!x4) = true then if (!eqI (x3.toNat : Int) 46) = true then (KJ x3).bind fun r1 => if (!r1) = true then (KD x3).bind fun r2 => KW a0 x2 (!r2) else KW a0 x2 false else KW a0 x2 false else KW a0 x2 false
noncomputable def XC (a0 : List UInt8) : Int → Option (Int ⊕ (List UInt8))
 | x2 => if (ltI x2 (a0.length : Int)) = true then if (0 : Int) ≤ x2 ∧ x2.toNat < a0.length then if (eqI ((a0.getD x2.toNat 0).toNat : Int) 43) = true then if (ltI 0 x2) = true then if (0 : Int) ≤ (IntKind.i64.wrap (x2 - 1)) ∧ (IntKind.i64.wrap (x2 - 1)).toNat < a0.length then if (eqI ((a0.getD ((IntKind.i64.wrap (x2 - 1)).toNat) 0).toNat : Int) 101) = true then JG a0 x2 ((a0.getD x2.toNat 0), true) else if (0 : Int) ≤ (IntKind.i64.wrap (x2 - 1)) ∧ (IntKind.i64.wrap (x2 - 1)).toNat < a0.length then JG a0 x2 ((a0.getD x2.toNat 0), eqI ((a0.getD ((IntKind.i64.wrap (x2 - 1)).toNat) 0).toNat : Int) 69) else none else none else JG a0 x2 ((a0.getD x2.toNat 0), false) else if (eqI ((a0.getD x2.toNat 0).toNat : Int) 45) = true then if (ltI 0 x2) = true then if (0 : Int) ≤ (IntKind.i64.wrap (x2 - 1)) ∧ (IntKind.i64.wrap (x2 - 1)).toNat < a0.length then if (eqI ((a0.getD ((IntKind.i64.wrap (x2 - 1)).toNat) 0).toNat : Int) 101) = true then JG a0 x2 ((a0.getD x2.toNat 0), true) else if (0 : Int) ≤ (IntKind.i64.wrap (x2 - 1)) ∧ (IntKind.i64.wrap (x2 - 1)).toNat < a0.length then JG a0 x2 ((a0.getD x2.toNat 0), eqI ((a0.getD ((IntKind.i64.wrap (x2 - 1)).toNat) 0).toNat : Int) 69) else none else none else JG a0 x2 ((a0.getD x2.toNat 0), false) else JG a0 x2 ((a0.getD x2.toNat 0), false) else none else inrO (VI a0 x2)
noncomputable def XP (a0 : List UInt8) : Option (List UInt8) :=
 loopO (XC a0) 0
noncomputable def Jbp : PF := PF.of (E1 dS) (fun a => XP a) dS
theorem Jee : PureOk Tryz.prog 54 Jbp := by
 refine xF mixed [(52, ZF), (53, Jag)] [] ⟨⟨call_52, JcQ⟩, ⟨call_53, Jc7⟩, trivial⟩ trivial Tryz.func54 ?_
 rintro a0 out H
 have G := True.intro
 have Y := xZ y_9 <| Tryz.results54
 simp only [XP] at H
 refine xS ?_
 refine xr ?_
 refine xr0 ?_
 refine then_normal ?_
 refine w_cut (VI a0) (fun s => [(0, .c (.d (.v (str a0)))), (3, .c (.d (.v (.int .i64 s))))]) (fun s => []) [] out ?_ ?_
 ·refine xS ?_
  refine w_loop (XC a0) (fun s => [(0, .c (.d (.v (str a0)))), (3, .c (.d (.v (.int .i64 s))))]) (fun s => []) [] H (xK ⟨[], []⟩) ?_
  rintro n1 x2 o1 H hF1
  rw [XC] at H
  refine xS ?_
  refine xr ?_
  rcases bsplit H with ⟨hp1, H⟩ | ⟨hp1, H⟩
  ·obtain ⟨F, G, hq1⟩ := xH Y G hp1
   refine xT ?_
   obtain ⟨hg2, H⟩ := gsplit H
   refine xr0 ?_
   refine then_normal ?_
   refine w_cut (JG a0 x2) (fun s => [(0, .c (.d (.v (str a0)))), (3, .c (.d (.v (.int .i64 x2)))), (4, .c (.d (.v (.int .u8 (s.1.toNat : Int))))), (5, .c (.d (.v (.bool s.2))))]) (fun s => []) [] o1 ?_ ?_
   ·rcases bsplit H with ⟨hp6, H⟩ | ⟨hp6, H⟩
    ·obtain ⟨F, G, hq6⟩ := xH Y G hp6
     rcases bsplit H with ⟨hp7, H⟩ | ⟨hp7, H⟩
     ·obtain ⟨F, G, hq7⟩ := xH F G hp7
      obtain ⟨hg3, H⟩ := gsplit H
      rcases bsplit H with ⟨hp8, H⟩ | ⟨hp8, H⟩
      ·obtain ⟨F, G, hq8⟩ := xH F G hp8
       refine xR ?_
       exact cut_at H (xK ⟨[], []⟩)
      ·obtain ⟨F, G, hq8⟩ := xH F G hp8
       obtain ⟨hg4, H⟩ := gsplit H
       refine xR ?_
       exact cut_at H (xK ⟨[], []⟩)
     ·obtain ⟨F, G, hq7⟩ := xH F G hp7
      refine xR ?_
      exact cut_at H (xK ⟨[], []⟩)
    ·obtain ⟨F, G, hq6⟩ := xH Y G hp6
     rcases bsplit H with ⟨hp9, H⟩ | ⟨hp9, H⟩
     ·obtain ⟨F, G, hq9⟩ := xH F G hp9
      rcases bsplit H with ⟨hp10, H⟩ | ⟨hp10, H⟩
      ·obtain ⟨F, G, hq10⟩ := xH F G hp10
       obtain ⟨hg5, H⟩ := gsplit H
       rcases bsplit H with ⟨hp11, H⟩ | ⟨hp11, H⟩
       ·obtain ⟨F, G, hq11⟩ := xH F G hp11
        refine xR ?_
        exact cut_at H (xK ⟨[], []⟩)
       ·obtain ⟨F, G, hq11⟩ := xH F G hp11
        obtain ⟨hg6, H⟩ := gsplit H
        refine xR ?_
        exact cut_at H (xK ⟨[], []⟩)
      ·obtain ⟨F, G, hq10⟩ := xH F G hp10
       refine xR ?_
       exact cut_at H (xK ⟨[], []⟩)
     ·obtain ⟨F, G, hq9⟩ := xH F G hp9
      refine xR ?_
      exact cut_at H (xK ⟨[], []⟩)
   ·rintro ⟨x3, x4⟩ H
    rw [JG] at H
    refine w_seq ?_
    refine w_cut (KW a0 x2) (fun s => [(0, .c (.d (.v (str a0)))), (3, .c (.d (.v (.int .i64 x2)))), (52, .c (.d (.v (.bool s))))]) (fun s => []) [] o1 ?_ ?_
    ·rcases bsplit H with ⟨hp3, H⟩ | ⟨hp3, H⟩
     ·obtain ⟨F, G, hq3⟩ := xH Y G hp3
      rcases bsplit H with ⟨hp4, H⟩ | ⟨hp4, H⟩
      ·obtain ⟨F, G, hq4⟩ := xH F G hp4
       obtain ⟨r1, hr1, H⟩ := osplit H
       have F := xCf F (JbN x3 r1 hr1)
       rcases bsplit H with ⟨hp5, H⟩ | ⟨hp5, H⟩
       ·obtain ⟨F, G, hq5⟩ := xH F G hp5
        obtain ⟨r2, hr2, H⟩ := osplit H
        have F := xCf F (JaG x3 r2 hr2)
        refine xR ?_
        exact cut_at H (xK ⟨[], []⟩)
       ·obtain ⟨F, G, hq5⟩ := xH F G hp5
        refine xR ?_
        exact cut_at H (xK ⟨[], []⟩)
      ·obtain ⟨F, G, hq4⟩ := xH F G hp4
       refine xR ?_
       exact cut_at H (xK ⟨[], []⟩)
     ·obtain ⟨F, G, hq3⟩ := xH Y G hp3
      refine xR ?_
      exact cut_at H (xK ⟨[], []⟩)
    ·rintro x5 H
     rw [KW] at H
     rcases bsplit H with ⟨hp2, H⟩ | ⟨hp2, H⟩
     ·obtain ⟨F, G, hq2⟩ := xH Y G hp2
      replace H := inrO_fin H hF1
      refine xT ?_
      exact cut_at H (xK ⟨[], []⟩)
     ·obtain ⟨F, G, hq2⟩ := xH Y G hp2
      refine xE ?_
      refine xr ?_
      exact round_at (inl_fin H hF1) (xK ⟨[], []⟩)
  ·obtain ⟨F, G, hq1⟩ := xH Y G hp1
   replace H := inrO_fin H hF1
   refine xE ?_
   exact cut_at H (xK ⟨[], []⟩)
 ·rintro x1 H
  rw [VI] at H
  refine xS ?_
  obtain ⟨hg1, H⟩ := gsplit H
  replace H := Option.some.inj H
  refine xr ?_
  subst H
  exact xN
theorem Jez (a0 : List UInt8) (r : (List UInt8)) (H : XP a0 = some r) : PC Jbp [dS a0] (dS r) := PF.c (a := a0) H
noncomputable def XD : Int → Option (Int ⊕ (List UInt8))
 | x2 => some (.inl (IntKind.i64.wrap (x2 + 1)))
noncomputable def VG (x1 : Int) : Bool → Option (Int ⊕ (List UInt8))
 | x3 => if x3 = true then XD (IntKind.i64.wrap (x1 + 1)) else XD x1
noncomputable def XB (a0 : List UInt8) : Int → Option (Int ⊕ (List UInt8))
 | x1 => if (ltI x1 (a0.length : Int)) = true then if (0 : Int) ≤ x1 ∧ x1.toNat < a0.length then if (eqI ((a0.getD x1.toNat 0).toNat : Int) 10) = true then inrO (some []) else if (0 : Int) ≤ x1 ∧ x1.toNat < a0.length then if 0 < a0.length then if (eqI ((a0.getD x1.toNat 0).toNat : Int) ((a0.getD 0 0).toNat : Int)) = true then if (0 : Int) ≤ 0 ∧ 0 ≤ (IntKind.i64.wrap (x1 + 1)) ∧ (IntKind.i64.wrap (x1 + 1)) ≤ (a0.length : Int) then inrO (some (List.take ((IntKind.i64.wrap (x1 + 1)).toNat) a0)) else none else if (0 : Int) ≤ x1 ∧ x1.toNat < a0.length then if (eqI ((a0.getD x1.toNat 0).toNat : Int) 92) = true then if (ltI (IntKind.i64.wrap (x1 + 1)) (a0.length : Int)) = true then if (0 : Int) ≤ (IntKind.i64.wrap (x1 + 1)) ∧ (IntKind.i64.wrap (x1 + 1)).toNat < a0.length then VG x1 (!eqI ((a0.getD ((IntKind.i64.wrap (x1 + 1)).toNat) 0).toNat : Int) 10) else none else VG x1 false else VG x1 false else none else none else none else none else inrO (some [])
noncomputable def V3 (a0 : List UInt8) : Option (List UInt8) :=
 loopO (XB a0) 1
noncomputable def Jbo : PF := PF.of (E1 dS) (fun a => V3 a) dS
theorem Jen : PureOk Tryz.prog 55 Jbo := by
 refine xF mixed [] [] trivial trivial Tryz.func55 ?_
 rintro a0 out H
 have G := True.intro
 have Y := xZ y_9 <| Tryz.results55
 simp only [V3] at H
 refine xS ?_
 refine xr ?_
 refine xr ?_
 refine w_loop (XB a0) (fun s => [(0, .c (.d (.v (str a0)))), (3, .c (.d (.v (.int .i64 s))))]) (fun s => []) [] H (xK ⟨[], []⟩) ?_
 rintro n1 x1 o1 H hF1
 rw [XB] at H
 refine xS ?_
 refine xr ?_
 rcases bsplit H with ⟨hp1, H⟩ | ⟨hp1, H⟩
 ·obtain ⟨F, G, hq1⟩ := xH Y G hp1
  refine xT0 ?_
  refine w_skip ?_
  refine then_normal ?_
  refine w_cut XD (fun s => [(0, .c (.d (.v (str a0)))), (3, .c (.d (.v (.int .i64 s))))]) (fun s => []) [] o1 ?_ ?_
  ·refine xS ?_
   obtain ⟨hg1, H⟩ := gsplit H
   refine xr ?_
   rcases bsplit H with ⟨hp2, H⟩ | ⟨hp2, H⟩
   ·obtain ⟨F, G, hq2⟩ := xH Y G hp2
    refine xT ?_
    replace H := inrO_fin H hF1
    replace H := Option.some.inj H
    refine xr ?_
    subst H
    exact xN
   ·obtain ⟨F, G, hq2⟩ := xH Y G hp2
    refine xE ?_
    obtain ⟨hg2, H⟩ := gsplit H
    obtain ⟨hg3, H⟩ := gsplit H
    refine xr ?_
    rcases bsplit H with ⟨hp3, H⟩ | ⟨hp3, H⟩
    ·obtain ⟨F, G, hq3⟩ := xH Y G hp3
     refine xT ?_
     obtain ⟨hg4, H⟩ := gsplit H
     replace H := inrO_fin H hF1
     replace H := Option.some.inj H
     refine xr ?_
     subst H
     exact xN
    ·obtain ⟨F, G, hq3⟩ := xH Y G hp3
     refine xE0 ?_
     refine w_skip ?_
     refine then_normal ?_
     refine w_cut (VG x1) (fun s => [(0, .c (.d (.v (str a0)))), (3, .c (.d (.v (.int .i64 x1)))), (41, .c (.d (.v (.bool s))))]) (fun s => []) [] o1 ?_ ?_
     ·obtain ⟨hg5, H⟩ := gsplit H
      rcases bsplit H with ⟨hp5, H⟩ | ⟨hp5, H⟩
      ·obtain ⟨F, G, hq5⟩ := xH Y G hp5
       rcases bsplit H with ⟨hp6, H⟩ | ⟨hp6, H⟩
       ·obtain ⟨F, G, hq6⟩ := xH F G hp6
        obtain ⟨hg6, H⟩ := gsplit H
        refine xR ?_
        exact cut_at H (xK ⟨[], []⟩)
       ·obtain ⟨F, G, hq6⟩ := xH F G hp6
        refine xR ?_
        exact cut_at H (xK ⟨[], []⟩)
      ·obtain ⟨F, G, hq5⟩ := xH Y G hp5
       refine xR ?_
       exact cut_at H (xK ⟨[], []⟩)
     ·rintro x3 H
      rw [VG] at H
      rcases bsplit H with ⟨hp4, H⟩ | ⟨hp4, H⟩
      ·obtain ⟨F, G, hq4⟩ := xH Y G hp4
       refine xT ?_
       refine xr ?_
       exact cut_at H (xK ⟨[], []⟩)
      ·obtain ⟨F, G, hq4⟩ := xH Y G hp4
       refine xE ?_
       exact cut_at H (xK ⟨[], []⟩)
  ·rintro x2 H
   rw [XD] at H
   refine xr ?_
   exact round_at (inl_fin H hF1) (xK ⟨[], []⟩)
 ·obtain ⟨F, G, hq1⟩ := xH Y G hp1
  replace H := inrO_fin H hF1
  refine xE ?_
  replace H := Option.some.inj H
  refine xr ?_
  subst H
  exact xN
theorem Jc4 (a0 : List UInt8) (r : (List UInt8)) (H : V3 a0 = some r) : PC Jbo [dS a0] (dS r) := PF.c (a := a0) H
noncomputable def Jap  : Option (List (List UInt8)) :=
 some [[46, 46, 46], [60, 60, 61], [62, 62, 61], [45, 62], [43, 43], [45, 45], [60, 60], [62, 62], [60, 61], [62, 61], [61, 61], [33, 61], [38, 38], [124, 124], [43, 61], [45, 61], [42, 61], [47, 61], [37, 61], [38, 61], [124, 61], [94, 61], [35, 35], [91], [93], [40], [41], [123], [125], [46], [38], [42], [43], [45], [126], [33], [47], [37], [60], [62], [94], [124], [63], [58], [59], [61], [44], [35]]
noncomputable def JbJ : PF := PF.of E0 (fun _ => Jap) (dL 1 dS)
theorem Jeq : PureOk Tryz.prog 74 JbJ := by
 refine xF mixed [] [] trivial trivial Tryz.func74 ?_
 rintro _ out H
 have G := True.intro
 have Y := xZ y_9 <| xZ y_24 <| Tryz.results74
 simp only [Jap] at H
 refine xS ?_
 refine xr ?_
 replace H := Option.some.inj H
 refine xr ?_
 subst H
 exact xN
theorem JeK  (r : (List (List UInt8))) (H : Jap  = some r) : PC JbJ [] ((dL 1 dS) r) := PF.c (a := ()) H
noncomputable def Zt (x5 : Int) (x6 : Int) : (List UInt8) → Option (((List UInt8) × Int × Int) ⊕ (((List UInt8) × Int) ⊕ (List UInt8)))
 | x7 => some (.inl (x7, x5, IntKind.i64.wrap (x6 + 1)))
noncomputable def Xs (a0 : List UInt8) (x2 : Int) (r1 : (List (List UInt8))) : ((List UInt8) × Int × Int) → Option (((List UInt8) × Int × Int) ⊕ (((List UInt8) × Int) ⊕ (List UInt8)))
 | (x4, x5, x6) => if (ltI x6 x5) = true then if (0 : Int) ≤ x6 ∧ x6.toNat < r1.length then if (0 : Int) ≤ 0 ∧ 0 ≤ x2 ∧ x2 ≤ (a0.length : Int) then if (eqS (r1.getD x6.toNat default) (List.take x2.toNat a0)) = true then Zt x5 x6 (r1.getD x6.toNat default) else Zt x5 x6 x4 else none else none else inrO (some (.inl (x4, IntKind.i64.wrap (x2 + 1))))
noncomputable def Xt (a0 : List UInt8) (x1 : List UInt8) (x2 : Int) : Bool → Option (((List UInt8) × Int) ⊕ (List UInt8))
 | x3 => if x3 = true then (Jap).bind fun r1 => loopO (Xs a0 x2 r1) (x1, (r1.length : Int), 0) else inrO (some x1)
noncomputable def Xn (a0 : List UInt8) : ((List UInt8) × Int) → Option (((List UInt8) × Int) ⊕ (List UInt8))
 | (x1, x2) => if (leI x2 3) = true then Xt a0 x1 x2 (leI x2 (a0.length : Int)) else Xt a0 x1 x2 false
noncomputable def ZS (a0 : List UInt8) : Option (List UInt8) :=
 loopO (Xn a0) ([], 1)
noncomputable def Jcb : PF := PF.of (E1 dS) (fun a => ZS a) dS
theorem JeZ : PureOk Tryz.prog 56 Jcb := by
 refine xF mixed [(74, JbJ)] [] ⟨⟨call_74, Jeq⟩, trivial⟩ trivial Tryz.func56 ?_
 rintro a0 out H
 have G := True.intro
 have Y := xZ y_9 <| xZ y_24 <| Tryz.results56
 simp only [ZS] at H
 refine xS ?_
 refine xr ?_
 refine xr ?_
 refine xr ?_
 refine w_loop (Xn a0) (fun s => [(0, .c (.d (.v (str a0)))), (3, .c (.d (.v (str s.1)))), (4, .c (.d (.v (.int .i64 s.2))))]) (fun s => []) [] H (xK ⟨[], []⟩) ?_
 rintro n1 ⟨x1, x2⟩ o1 H hF1
 rw [Xn] at H
 refine w_seq ?_
 refine w_cut (Xt a0 x1 x2) (fun s => [(0, .c (.d (.v (str a0)))), (3, .c (.d (.v (str x1)))), (4, .c (.d (.v (.int .i64 x2)))), (14, .c (.d (.v (.bool s))))]) (fun s => []) [] o1 ?_ ?_
 ·rcases bsplit H with ⟨hp4, H⟩ | ⟨hp4, H⟩
  ·obtain ⟨F, G, hq4⟩ := xH Y G hp4
   refine xR ?_
   exact cut_at H (xK ⟨[], []⟩)
  ·obtain ⟨F, G, hq4⟩ := xH Y G hp4
   refine xR ?_
   exact cut_at H (xK ⟨[], []⟩)
 ·rintro x3 H
  rw [Xt] at H
  rcases bsplit H with ⟨hp1, H⟩ | ⟨hp1, H⟩
  ·obtain ⟨F, G, hq1⟩ := xH Y G hp1
   refine xT ?_
   obtain ⟨r1, hr1, H⟩ := osplit H
   have F := xC Y (JeK  r1 hr1)
   refine xR ?_
   refine w_loop (Xs a0 x2 r1) (fun s => [(0, .c (.d (.v (str a0)))), (3, .c (.d (.v (str s.1)))), (4, .c (.d (.v (.int .i64 x2)))), (17, .c (.d (.sl 1 (List.map dS r1)))), (18, .c (.d (.v (.int .i64 s.2.1)))), (19, .c (.d (.v (.int .i64 s.2.2))))]) (fun s => []) [] H (xK ⟨[], []⟩) ?_
   rintro n2 ⟨x4, x5, x6⟩ o2 H hF2
   rw [Xs] at H
   refine xS ?_
   refine xr ?_
   rcases bsplit H with ⟨hp2, H⟩ | ⟨hp2, H⟩
   ·obtain ⟨F, G, hq2⟩ := xH Y G hp2
    refine xT0 ?_
    refine w_skip ?_
    refine then_normal ?_
    refine w_cut (Zt x5 x6) (fun s => [(0, .c (.d (.v (str a0)))), (3, .c (.d (.v (str s)))), (4, .c (.d (.v (.int .i64 x2)))), (17, .c (.d (.sl 1 (List.map dS r1)))), (18, .c (.d (.v (.int .i64 x5)))), (19, .c (.d (.v (.int .i64 x6))))]) (fun s => []) [] o2 ?_ ?_
    ·refine xS ?_
     obtain ⟨hg1, H⟩ := gsplit H
     have F := xZ Y (map_getD dS r1 x6.toNat default default (by omega))
     refine xR ?_
     obtain ⟨hg2, H⟩ := gsplit H
     refine xr ?_
     rcases bsplit H with ⟨hp3, H⟩ | ⟨hp3, H⟩
     ·obtain ⟨F, G, hq3⟩ := xH Y G hp3
      refine xT ?_
      refine xr ?_
      exact cut_at H (xK ⟨[], []⟩)
     ·obtain ⟨F, G, hq3⟩ := xH Y G hp3
      refine xE ?_
      exact cut_at H (xK ⟨[], []⟩)
    ·rintro x7 H
     rw [Zt] at H
     refine xr ?_
     exact round_at (inl_fin H hF2) (xK ⟨[], []⟩)
   ·obtain ⟨F, G, hq2⟩ := xH Y G hp2
    replace H := inrO_fin H hF2
    refine xE ?_
    refine xr ?_
    exact round_at (inl_fin H hF1) (xK ⟨[], []⟩)
  ·obtain ⟨F, G, hq1⟩ := xH Y G hp1
   replace H := inrO_fin H hF1
   refine xE ?_
   replace H := Option.some.inj H
   refine xr ?_
   subst H
   exact xN
theorem Je6 (a0 : List UInt8) (r : (List UInt8)) (H : ZS a0 = some r) : PC Jcb [dS a0] (dS r) := PF.c (a := a0) H
noncomputable def V5 (a0 : List UInt8) : Unit → Option (Int × (List UInt8))
 | () => (ZS a0).bind fun r1 => if (!eqS r1 []) = true then some (5, r1) else if (0 : Int) ≤ 0 ∧ 0 ≤ 1 ∧ 1 ≤ (a0.length : Int) then some (6, List.take 1 a0) else none
noncomputable def Vi (a0 : List UInt8) (x1 : Int) : Bool → Option (Int ⊕ (Int × (List UInt8)))
 | x2 => if x2 = true then some (.inl (IntKind.i64.wrap (x1 + 1))) else inrO (if (0 : Int) ≤ 0 ∧ 0 ≤ x1 ∧ x1 ≤ (a0.length : Int) then some (1, List.take x1.toNat a0) else none)
noncomputable def V4 (a0 : List UInt8) : Int → Option (Int ⊕ (Int × (List UInt8)))
 | x1 => if (ltI x1 (a0.length : Int)) = true then if (0 : Int) ≤ x1 ∧ x1.toNat < a0.length then (KJ (a0.getD x1.toNat 0)).bind fun r3 => if r3 = true then Vi a0 x1 true else if (0 : Int) ≤ x1 ∧ x1.toNat < a0.length then (KD (a0.getD x1.toNat 0)).bind fun r4 => Vi a0 x1 r4 else none else none else Vi a0 x1 false
noncomputable def XX (a0 : List UInt8) (x6 : Int) : Bool → Option (Int ⊕ (Int × (List UInt8)))
 | x7 => if x7 = true then if (0 : Int) ≤ x6 ∧ x6.toNat < a0.length then if (eqI ((a0.getD x6.toNat 0).toNat : Int) 62) = true then if (0 : Int) ≤ 0 ∧ 0 ≤ (IntKind.i64.wrap (x6 + 1)) ∧ (IntKind.i64.wrap (x6 + 1)) ≤ (a0.length : Int) then inrO (some (7, List.take ((IntKind.i64.wrap (x6 + 1)).toNat) a0)) else none else some (.inl (IntKind.i64.wrap (x6 + 1))) else none else inrO (V5 a0 ())
noncomputable def V7 (a0 : List UInt8) : Int → Option (Int ⊕ (Int × (List UInt8)))
 | x6 => if (ltI x6 (a0.length : Int)) = true then if (0 : Int) ≤ x6 ∧ x6.toNat < a0.length then XX a0 x6 (!eqI ((a0.getD x6.toNat 0).toNat : Int) 10) else none else XX a0 x6 false
noncomputable def J9 (a0 : List UInt8) : Bool → Option (Int × (List UInt8))
 | x5 => if x5 = true then loopO (V7 a0) 1 else V5 a0 ()
noncomputable def Kz (a0 : List UInt8) (a1 : Bool) : (UInt8 × Bool) → Option (Int × (List UInt8))
 | (x3, x4) => if x4 = true then (XP a0).bind fun r5 => some (2, r5) else if (eqI (x3.toNat : Int) 34) = true then (V3 a0).bind fun r6 => some (4, r6) else if (eqI (x3.toNat : Int) 39) = true then (V3 a0).bind fun r7 => some (3, r7) else if (eqI (x3.toNat : Int) 60) = true then J9 a0 a1 else J9 a0 false
noncomputable def Xw (a0 : List UInt8) (a1 : Bool) : Option (Int × (List UInt8)) :=
 if 0 < a0.length then (KJ (a0.getD 0 0)).bind fun r2 => if r2 = true then loopO (V4 a0) 0 else (KD (a0.getD 0 0)).bind fun r8 => if r8 = true then Kz a0 a1 ((a0.getD 0 0), true) else if (eqI ((a0.getD 0 0).toNat : Int) 46) = true then if (ltI 1 (a0.length : Int)) = true then if 1 < a0.length then (KD (a0.getD 1 0)).bind fun r9 => Kz a0 a1 ((a0.getD 0 0), r9) else none else Kz a0 a1 ((a0.getD 0 0), false) else Kz a0 a1 ((a0.getD 0 0), false) else none
noncomputable def JbP : PF := PF.of (E2 dS dB) (fun a => Xw a.1 a.2) (T2 dI dS)
theorem JeC : PureOk Tryz.prog 31 JbP := by
 refine xF mixed [(56, Jcb), (52, ZF), (53, Jag), (54, Jbp), (55, Jbo)] [] ⟨⟨call_56, JeZ⟩, ⟨call_52, JcQ⟩, ⟨call_53, Jc7⟩, ⟨call_54, Jee⟩, ⟨call_55, Jen⟩, trivial⟩ trivial Tryz.func31 ?_
 rintro ⟨a0, a1⟩ out H
 have G := True.intro
 have Y := xZ y_9 <| Tryz.results31
 simp only [Xw] at H
 refine xS ?_
 refine xr0 ?_
 refine then_normal ?_
 refine w_cut (V5 a0) (fun s => [(0, .c (.d (.v (str a0))))]) (fun s => []) [] out ?_ ?_
 ·refine xS ?_
  obtain ⟨hg2, H⟩ := gsplit H
  refine xr ?_
  obtain ⟨r2, hr2, H⟩ := osplit H
  have F := xC Y (JbN (a0.getD 0 0) r2 hr2)
  refine xR ?_
  rcases bsplit H with ⟨hp2, H⟩ | ⟨hp2, H⟩
  ·obtain ⟨F, G, hq2⟩ := xH Y G hp2
   refine xT ?_
   refine xr ?_
   refine w_loop (V4 a0) (fun s => [(0, .c (.d (.v (str a0)))), (7, .c (.d (.v (.int .i64 s))))]) (fun s => []) [] H (xK ⟨[], []⟩) ?_
   rintro n1 x1 o1 H hF1
   rw [V4] at H
   refine w_seq ?_
   refine w_cut (Vi a0 x1) (fun s => [(0, .c (.d (.v (str a0)))), (7, .c (.d (.v (.int .i64 x1)))), (30, .c (.d (.v (.bool s))))]) (fun s => []) [] o1 ?_ ?_
   ·rcases bsplit H with ⟨hp4, H⟩ | ⟨hp4, H⟩
    ·obtain ⟨F, G, hq4⟩ := xH Y G hp4
     obtain ⟨hg4, H⟩ := gsplit H
     obtain ⟨r3, hr3, H⟩ := osplit H
     have F := xCf F (JbN (a0.getD x1.toNat 0) r3 hr3)
     rcases bsplit H with ⟨hp5, H⟩ | ⟨hp5, H⟩
     ·obtain ⟨F, G, hq5⟩ := xH F G hp5
      refine xR ?_
      exact cut_at H (xK ⟨[], []⟩)
     ·obtain ⟨F, G, hq5⟩ := xH F G hp5
      obtain ⟨hg5, H⟩ := gsplit H
      obtain ⟨r4, hr4, H⟩ := osplit H
      have F := xCf F (JaG (a0.getD x1.toNat 0) r4 hr4)
      refine xR ?_
      exact cut_at H (xK ⟨[], []⟩)
    ·obtain ⟨F, G, hq4⟩ := xH Y G hp4
     refine xR ?_
     exact cut_at H (xK ⟨[], []⟩)
   ·rintro x2 H
    rw [Vi] at H
    rcases bsplit H with ⟨hp3, H⟩ | ⟨hp3, H⟩
    ·obtain ⟨F, G, hq3⟩ := xH Y G hp3
     refine xT ?_
     refine xr ?_
     exact round_at (inl_fin H hF1) (xK ⟨[], []⟩)
    ·obtain ⟨F, G, hq3⟩ := xH Y G hp3
     replace H := inrO_fin H hF1
     refine xE ?_
     obtain ⟨hg3, H⟩ := gsplit H
     replace H := Option.some.inj H
     refine xr ?_
     subst H
     exact xN
  ·obtain ⟨F, G, hq2⟩ := xH Y G hp2
   refine xE0 ?_
   refine w_cut (Kz a0 a1) (fun s => [(0, .c (.d (.v (str a0)))), (1, .c (.d (.v (.bool a1)))), (6, .c (.d (.v (.int .u8 (s.1.toNat : Int))))), (36, .c (.d (.v (.bool s.2))))]) (fun s => []) [] out ?_ ?_
   ·obtain ⟨r8, hr8, H⟩ := osplit H
    have F := xC Y (JaG (a0.getD 0 0) r8 hr8)
    rcases bsplit H with ⟨hp14, H⟩ | ⟨hp14, H⟩
    ·obtain ⟨F, G, hq14⟩ := xH F G hp14
     refine xR ?_
     exact cut_at H (xK ⟨[], []⟩)
    ·obtain ⟨F, G, hq14⟩ := xH F G hp14
     rcases bsplit H with ⟨hp15, H⟩ | ⟨hp15, H⟩
     ·obtain ⟨F, G, hq15⟩ := xH F G hp15
      rcases bsplit H with ⟨hp16, H⟩ | ⟨hp16, H⟩
      ·obtain ⟨F, G, hq16⟩ := xH F G hp16
       obtain ⟨hg9, H⟩ := gsplit H
       obtain ⟨r9, hr9, H⟩ := osplit H
       have F := xCf F (JaG (a0.getD 1 0) r9 hr9)
       refine xR ?_
       exact cut_at H (xK ⟨[], []⟩)
      ·obtain ⟨F, G, hq16⟩ := xH F G hp16
       refine xR ?_
       exact cut_at H (xK ⟨[], []⟩)
     ·obtain ⟨F, G, hq15⟩ := xH F G hp15
      refine xR ?_
      exact cut_at H (xK ⟨[], []⟩)
   ·rintro ⟨x3, x4⟩ H
    rw [Kz] at H
    rcases bsplit H with ⟨hp6, H⟩ | ⟨hp6, H⟩
    ·obtain ⟨F, G, hq6⟩ := xH Y G hp6
     refine xT ?_
     obtain ⟨r5, hr5, H⟩ := osplit H
     have F := xC Y (Jez a0 r5 hr5)
     replace H := Option.some.inj H
     refine xR ?_
     subst H
     exact xN
    ·obtain ⟨F, G, hq6⟩ := xH Y G hp6
     refine xE ?_
     refine xr ?_
     rcases bsplit H with ⟨hp7, H⟩ | ⟨hp7, H⟩
     ·obtain ⟨F, G, hq7⟩ := xH Y G hp7
      refine xT ?_
      obtain ⟨r6, hr6, H⟩ := osplit H
      have F := xC Y (Jc4 a0 r6 hr6)
      replace H := Option.some.inj H
      refine xR ?_
      subst H
      exact xN
     ·obtain ⟨F, G, hq7⟩ := xH Y G hp7
      refine xE ?_
      refine xr ?_
      rcases bsplit H with ⟨hp8, H⟩ | ⟨hp8, H⟩
      ·obtain ⟨F, G, hq8⟩ := xH Y G hp8
       refine xT ?_
       obtain ⟨r7, hr7, H⟩ := osplit H
       have F := xC Y (Jc4 a0 r7 hr7)
       replace H := Option.some.inj H
       refine xR ?_
       subst H
       exact xN
      ·obtain ⟨F, G, hq8⟩ := xH Y G hp8
       refine xE0 ?_
       refine w_cut (J9 a0) (fun s => [(0, .c (.d (.v (str a0)))), (65, .c (.d (.v (.bool s))))]) (fun s => []) [] out ?_ ?_
       ·rcases bsplit H with ⟨hp13, H⟩ | ⟨hp13, H⟩
        ·obtain ⟨F, G, hq13⟩ := xH Y G hp13
         refine xR ?_
         exact cut_at H (xK ⟨[], []⟩)
        ·obtain ⟨F, G, hq13⟩ := xH Y G hp13
         refine xR ?_
         exact cut_at H (xK ⟨[], []⟩)
       ·rintro x5 H
        rw [J9] at H
        rcases bsplit H with ⟨hp9, H⟩ | ⟨hp9, H⟩
        ·obtain ⟨F, G, hq9⟩ := xH Y G hp9
         refine xT ?_
         refine xr ?_
         refine w_loop (V7 a0) (fun s => [(0, .c (.d (.v (str a0)))), (8, .c (.d (.v (.int .i64 s))))]) (fun s => []) [] H (xK ⟨[], []⟩) ?_
         rintro n2 x6 o2 H hF2
         rw [V7] at H
         refine w_seq ?_
         refine w_cut (XX a0 x6) (fun s => [(0, .c (.d (.v (str a0)))), (8, .c (.d (.v (.int .i64 x6)))), (80, .c (.d (.v (.bool s))))]) (fun s => []) [] o2 ?_ ?_
         ·rcases bsplit H with ⟨hp12, H⟩ | ⟨hp12, H⟩
          ·obtain ⟨F, G, hq12⟩ := xH Y G hp12
           obtain ⟨hg8, H⟩ := gsplit H
           refine xR ?_
           exact cut_at H (xK ⟨[], []⟩)
          ·obtain ⟨F, G, hq12⟩ := xH Y G hp12
           refine xR ?_
           exact cut_at H (xK ⟨[], []⟩)
         ·rintro x7 H
          rw [XX] at H
          rcases bsplit H with ⟨hp10, H⟩ | ⟨hp10, H⟩
          ·obtain ⟨F, G, hq10⟩ := xH Y G hp10
           refine xT ?_
           obtain ⟨hg6, H⟩ := gsplit H
           refine xr ?_
           rcases bsplit H with ⟨hp11, H⟩ | ⟨hp11, H⟩
           ·obtain ⟨F, G, hq11⟩ := xH Y G hp11
            refine xT ?_
            obtain ⟨hg7, H⟩ := gsplit H
            replace H := inrO_fin H hF2
            replace H := Option.some.inj H
            refine xr ?_
            subst H
            exact xN
           ·obtain ⟨F, G, hq11⟩ := xH Y G hp11
            refine xE ?_
            refine xr ?_
            exact round_at (inl_fin H hF2) (xK ⟨[], []⟩)
          ·obtain ⟨F, G, hq10⟩ := xH Y G hp10
           replace H := inrO_fin H hF2
           refine xE ?_
           exact cut_at H (xK ⟨[], []⟩)
        ·obtain ⟨F, G, hq9⟩ := xH Y G hp9
         refine xE ?_
         exact cut_at H (xK ⟨[], []⟩)
 ·rintro ⟨⟩ H
  rw [V5] at H
  refine xS ?_
  obtain ⟨r1, hr1, H⟩ := osplit H
  have F := xC Y (Je6 a0 r1 hr1)
  refine xR ?_
  refine xr ?_
  rcases bsplit H with ⟨hp1, H⟩ | ⟨hp1, H⟩
  ·obtain ⟨F, G, hq1⟩ := xH Y G hp1
   refine xT ?_
   replace H := Option.some.inj H
   refine xr ?_
   subst H
   exact xN
  ·obtain ⟨F, G, hq1⟩ := xH Y G hp1
   refine xE ?_
   obtain ⟨hg1, H⟩ := gsplit H
   replace H := Option.some.inj H
   refine xr ?_
   subst H
   exact xN
theorem JeM (a0 : List UInt8) (a1 : Bool) (r : Int × (List UInt8)) (H : Xw a0 a1 = some r) : PC JbP [dS a0, dB a1] (T2 dI dS r) := PF.c (a := (a0, a1)) H
noncomputable def Zx (x2 : Int) : Int → Option ((Int × Int) ⊕ Int)
 | x4 => some (.inl (x4, IntKind.i64.wrap (x2 + 1)))
noncomputable def Zs (a0 : List UInt8) (x1 : Int) (x2 : Int) : Bool → Option ((Int × Int) ⊕ Int)
 | x3 => if x3 = true then if (0 : Int) ≤ x2 ∧ x2.toNat < a0.length then if (eqI ((a0.getD x2.toNat 0).toNat : Int) 10) = true then Zx x2 (IntKind.i64.wrap (x1 + 1)) else Zx x2 x1 else none else inrO (some x1)
noncomputable def Zm (a0 : List UInt8) (a1 : Int) : (Int × Int) → Option ((Int × Int) ⊕ Int)
 | (x1, x2) => if (ltI x2 a1) = true then Zs a0 x1 x2 (ltI x2 (a0.length : Int)) else Zs a0 x1 x2 false
noncomputable def ZX (a0 : List UInt8) (a1 : Int) : Option Int :=
 loopO (Zm a0 a1) (1, 0)
noncomputable def Jb8 : PF := PF.of (E2 dS dI) (fun a => ZX a.1 a.2) dI
theorem JeU : PureOk Tryz.prog 32 Jb8 := by
 refine xF mixed [] [] trivial trivial Tryz.func32 ?_
 rintro ⟨a0, a1⟩ out H
 have G := True.intro
 have Y := xZ y_9 <| Tryz.results32
 simp only [ZX] at H
 refine xS ?_
 refine xr ?_
 refine xr ?_
 refine xr ?_
 refine w_loop (Zm a0 a1) (fun s => [(0, .c (.d (.v (str a0)))), (1, .c (.d (.v (.int .i64 a1)))), (5, .c (.d (.v (.int .i64 s.1)))), (6, .c (.d (.v (.int .i64 s.2))))]) (fun s => []) [] H (xK ⟨[], []⟩) ?_
 rintro n1 ⟨x1, x2⟩ o1 H hF1
 rw [Zm] at H
 refine w_seq ?_
 refine w_cut (Zs a0 x1 x2) (fun s => [(0, .c (.d (.v (str a0)))), (1, .c (.d (.v (.int .i64 a1)))), (5, .c (.d (.v (.int .i64 x1)))), (6, .c (.d (.v (.int .i64 x2)))), (15, .c (.d (.v (.bool s))))]) (fun s => []) [] o1 ?_ ?_
 ·rcases bsplit H with ⟨hp3, H⟩ | ⟨hp3, H⟩
  ·obtain ⟨F, G, hq3⟩ := xH Y G hp3
   refine xR ?_
   exact cut_at H (xK ⟨[], []⟩)
  ·obtain ⟨F, G, hq3⟩ := xH Y G hp3
   refine xR ?_
   exact cut_at H (xK ⟨[], []⟩)
 ·rintro x3 H
  rw [Zs] at H
  rcases bsplit H with ⟨hp1, H⟩ | ⟨hp1, H⟩
  ·obtain ⟨F, G, hq1⟩ := xH Y G hp1
   refine xT0 ?_
   refine w_skip ?_
   refine then_normal ?_
   refine w_cut (Zx x2) (fun s => [(0, .c (.d (.v (str a0)))), (1, .c (.d (.v (.int .i64 a1)))), (5, .c (.d (.v (.int .i64 s)))), (6, .c (.d (.v (.int .i64 x2))))]) (fun s => []) [] o1 ?_ ?_
   ·refine xS ?_
    obtain ⟨hg1, H⟩ := gsplit H
    refine xr ?_
    rcases bsplit H with ⟨hp2, H⟩ | ⟨hp2, H⟩
    ·obtain ⟨F, G, hq2⟩ := xH Y G hp2
     refine xT ?_
     refine xr ?_
     exact cut_at H (xK ⟨[], []⟩)
    ·obtain ⟨F, G, hq2⟩ := xH Y G hp2
     refine xE ?_
     exact cut_at H (xK ⟨[], []⟩)
   ·rintro x4 H
    rw [Zx] at H
    refine xr ?_
    exact round_at (inl_fin H hF1) (xK ⟨[], []⟩)
  ·obtain ⟨F, G, hq1⟩ := xH Y G hp1
   replace H := inrO_fin H hF1
   refine xE ?_
   replace H := Option.some.inj H
   refine xr ?_
   subst H
   exact xN
theorem Je7 (a0 : List UInt8) (a1 : Int) (r : Int) (H : ZX a0 a1 = some r) : PC Jb8 [dS a0, dI a1] (dI r) := PF.c (a := (a0, a1)) H
noncomputable def JE (a0 : Int) (a1 : List UInt8) (r1 : Spliced) (x2 : List Token) (r2 : Int × Bool) (x3 : Int) (x4 : Bool) : Bool → Option ((Int × (List Token)) ⊕ ((List Token) × Fault))
 | x5 => if (0 : Int) ≤ x3 ∧ x3 ≤ (r1.Text.length : Int) ∧ (r1.Text.length : Int) ≤ (r1.Text.length : Int) then (Xw (List.drop x3.toNat r1.Text) x5).bind fun r3 => if (eqS r3.2 []) = true then if (0 : Int) ≤ x3 ∧ x3.toNat < r1.At.length then inrO (some (([] : List Token), (⟨9, a0, (r1.At.getD x3.toNat default)⟩ : Fault))) else none else if (0 : Int) ≤ x3 ∧ x3.toNat < r1.At.length then if (0 : Int) ≤ (IntKind.i64.wrap ((IntKind.i64.wrap (x3 + (r3.2.length : Int))) - 1)) ∧ (IntKind.i64.wrap ((IntKind.i64.wrap (x3 + (r3.2.length : Int))) - 1)).toNat < r1.At.length then if (0 : Int) ≤ x3 ∧ x3.toNat < r1.At.length then (ZX a1 (r1.At.getD x3.toNat default)).bind fun r4 => if (x2.length + [(⟨r3.1, r3.2, ltI 0 r2.1, x4, a0, (r1.At.getD x3.toNat default), IntKind.i64.wrap ((r1.At.getD ((IntKind.i64.wrap ((IntKind.i64.wrap (x3 + (r3.2.length : Int))) - 1)).toNat) default) + 1), r4, ([] : List (List UInt8)), ([] : List Call), 0⟩ : Token)].length) * 120 ≤ 140737488355328 then some (.inl (IntKind.i64.wrap (x3 + (r3.2.length : Int)), x2 ++ [(⟨r3.1, r3.2, ltI 0 r2.1, x4, a0, (r1.At.getD x3.toNat default), IntKind.i64.wrap ((r1.At.getD ((IntKind.i64.wrap ((IntKind.i64.wrap (x3 + (r3.2.length : Int))) - 1)).toNat) default) + 1), r4, ([] : List (List UInt8)), ([] : List Call), 0⟩ : Token)])) else none else none else none else none else none
noncomputable def VL (a0 : Int) (a1 : List UInt8) (r1 : Spliced) (x2 : List Token) (r2 : Int × Bool) : (Int × Bool) → Option ((Int × (List Token)) ⊕ ((List Token) × Fault))
 | (x3, x4) => if (!x4) = true then if (leI 2 ((x2.length : Nat) : Int)) = true then if (0 : Int) ≤ (IntKind.i64.wrap (((x2.length : Nat) : Int) - 1)) ∧ (IntKind.i64.wrap (((x2.length : Nat) : Int) - 1)).toNat < x2.length then if (IntKind.i64.wrap (((x2.length : Nat) : Int) - 1)).toNat < x2.length then if (eqS ((x2.getD ((IntKind.i64.wrap (((x2.length : Nat) : Int) - 1)).toNat) default).Text) [105, 110, 99, 108, 117, 100, 101]) = true then if (0 : Int) ≤ (IntKind.i64.wrap (((x2.length : Nat) : Int) - 1)) ∧ (IntKind.i64.wrap (((x2.length : Nat) : Int) - 1)).toNat < x2.length then if (IntKind.i64.wrap (((x2.length : Nat) : Int) - 1)).toNat < x2.length then if (!((x2.getD ((IntKind.i64.wrap (((x2.length : Nat) : Int) - 1)).toNat) default).First)) = true then if (0 : Int) ≤ (IntKind.i64.wrap (((x2.length : Nat) : Int) - 2)) ∧ (IntKind.i64.wrap (((x2.length : Nat) : Int) - 2)).toNat < x2.length then if (IntKind.i64.wrap (((x2.length : Nat) : Int) - 2)).toNat < x2.length then if (eqS ((x2.getD ((IntKind.i64.wrap (((x2.length : Nat) : Int) - 2)).toNat) default).Text) [35]) = true then if (0 : Int) ≤ (IntKind.i64.wrap (((x2.length : Nat) : Int) - 2)) ∧ (IntKind.i64.wrap (((x2.length : Nat) : Int) - 2)).toNat < x2.length then if (IntKind.i64.wrap (((x2.length : Nat) : Int) - 2)).toNat < x2.length then JE a0 a1 r1 x2 r2 x3 x4 ((x2.getD ((IntKind.i64.wrap (((x2.length : Nat) : Int) - 2)).toNat) default).First) else none else none else JE a0 a1 r1 x2 r2 x3 x4 false else none else none else JE a0 a1 r1 x2 r2 x3 x4 false else none else none else JE a0 a1 r1 x2 r2 x3 x4 false else none else none else JE a0 a1 r1 x2 r2 x3 x4 false else JE a0 a1 r1 x2 r2 x3 x4 false
noncomputable def KP (a0 : Int) (a1 : List UInt8) (r1 : Spliced) : (Int × (List Token)) → Option ((Int × (List Token)) ⊕ ((List Token) × Fault))
 | (x1, x2) => if (0 : Int) ≤ x1 ∧ x1 ≤ (r1.Text.length : Int) ∧ (r1.Text.length : Int) ≤ (r1.Text.length : Int) then (ZK (List.drop x1.toNat r1.Text)).bind fun r2 => if (ltI r2.1 0) = true then if (0 : Int) ≤ (IntKind.i64.wrap ((IntKind.i64.wrap (x1 - 1)) - r2.1)) ∧ (IntKind.i64.wrap ((IntKind.i64.wrap (x1 - 1)) - r2.1)).toNat < r1.At.length then inrO (some (([] : List Token), (⟨9, a0, (r1.At.getD ((IntKind.i64.wrap ((IntKind.i64.wrap (x1 - 1)) - r2.1)).toNat) default)⟩ : Fault))) else none else if (leI (r1.Text.length : Int) (IntKind.i64.wrap (x1 + r2.1))) = true then inrO (some (x2, (⟨0, (-1), 0⟩ : Fault))) else if r2.2 = true then VL a0 a1 r1 x2 r2 (IntKind.i64.wrap (x1 + r2.1), true) else VL a0 a1 r1 x2 r2 (IntKind.i64.wrap (x1 + r2.1), eqI ((x2.length : Nat) : Int) 0) else none
noncomputable def Vk (a0 : Int) (a1 : List UInt8) : Option ((List Token) × Fault) :=
 if (ltI 3000 (a1.length : Int)) = true then some (([] : List Token), (⟨4, a0, 0⟩ : Fault)) else (XR a1).bind fun r1 => loopO (KP a0 a1 r1) (0, ([] : List Token))
noncomputable def Jbm : PF := PF.of (E2 dI dS) (fun a => Vk a.1 a.2) (T2 (dL 11 d_Token) d_Fault)
theorem Jeb : PureOk Tryz.prog 20 Jbm := by
 refine xF mixed [(29, Jbj), (30, Jcd), (31, JbP), (32, Jb8)] [] ⟨⟨call_29, Jeo⟩, ⟨call_30, JeH⟩, ⟨call_31, JeC⟩, ⟨call_32, JeU⟩, trivial⟩ trivial Tryz.func20 ?_
 rintro ⟨a0, a1⟩ out H
 have G := True.intro
 have Y := xZ y_3 <| xZ y_4 <| xZ y_9 <| xZ y_24 <| xZ y_25 <| xZ y_27 <| xZ y_29 <| xZ y_37 <| xZ y_39 <| xZ y_68 <| xZ y_70 <| xZ Tryz.results20 <| xZ d_Call.eq_1 <| xZ d_Token.eq_1 <| xZ d_Spliced.eq_1 <| d_Fault.eq_1
 simp only [Vk] at H
 refine xS ?_
 refine xr ?_
 refine xr ?_
 rcases bsplit H with ⟨hp1, H⟩ | ⟨hp1, H⟩
 ·obtain ⟨F, G, hq1⟩ := xH Y G hp1
  refine xT ?_
  replace H := Option.some.inj H
  refine xr ?_
  subst H
  exact xN
 ·obtain ⟨F, G, hq1⟩ := xH Y G hp1
  refine xE ?_
  obtain ⟨r1, hr1, H⟩ := osplit H
  have F := xC Y (JeE a1 r1 hr1)
  refine xR ?_
  refine xr ?_
  refine xr ?_
  refine w_loop (KP a0 a1 r1) (fun s => [(0, .c (.d (.v (.int .i64 a0)))), (1, .c (.d (.v (str a1)))), (5, .c (.pt 1 0)), (6, .c (.pt 2 0)), (7, .c (.os 3 11 0 s.2.length)), (8, .c (.d (.v (.int .i64 s.1))))]) (fun s => [[.d (.v (.int .i64 0)), .d (.v (.int .i64 0)), .d (.v (.int .i64 0))], [.d (.v (str r1.Text)), .d (.sl 1 (List.map dI r1.At))], [.arr 11 (List.map d_Token s.2)]]) [] H (xK ⟨[1,2,0], []⟩) ?_
  rintro n1 ⟨x1, x2⟩ o1 H hF1
  rw [KP] at H
  refine xS ?_
  obtain ⟨hg1, H⟩ := gsplit H
  obtain ⟨r2, hr2, H⟩ := osplit H
  have F := xC Y (Jfa (List.drop x1.toNat r1.Text) r2 hr2)
  refine xR ?_
  refine xr ?_
  rcases bsplit H with ⟨hp2, H⟩ | ⟨hp2, H⟩
  ·obtain ⟨F, G, hq2⟩ := xH Y G hp2
   refine xT ?_
   obtain ⟨hg2, H⟩ := gsplit H
   have F := xZ Y (map_getD dI r1.At ((IntKind.i64.wrap ((IntKind.i64.wrap (x1 - 1)) - r2.1)).toNat) default default (by omega))
   replace H := inrO_fin H hF1
   replace H := Option.some.inj H
   refine xR ?_
   subst H
   exact xN
  ·obtain ⟨F, G, hq2⟩ := xH Y G hp2
   refine xE ?_
   refine xr ?_
   refine xr ?_
   rcases bsplit H with ⟨hp3, H⟩ | ⟨hp3, H⟩
   ·obtain ⟨F, G, hq3⟩ := xH Y G hp3
    refine xT ?_
    replace H := inrO_fin H hF1
    replace H := Option.some.inj H
    refine xr ?_
    subst H
    refine xNf 3 11 (List.map d_Token x2) [] ?_
    exact xN
   ·obtain ⟨F, G, hq3⟩ := xH Y G hp3
    refine xE0 ?_
    refine w_skip ?_
    refine then_normal ?_
    refine w_cut (VL a0 a1 r1 x2 r2) (fun s => [(0, .c (.d (.v (.int .i64 a0)))), (1, .c (.d (.v (str a1)))), (5, .c (.pt 1 0)), (6, .c (.pt 2 0)), (7, .c (.os 3 11 0 x2.length)), (8, .c (.d (.v (.int .i64 s.1)))), (9, .c (.d (.v (.int .i64 r2.1)))), (11, .c (.d (.v (.bool s.2))))]) (fun s => [[.d (.v (.int .i64 0)), .d (.v (.int .i64 0)), .d (.v (.int .i64 0))], [.d (.v (str r1.Text)), .d (.sl 1 (List.map dI r1.At))], [.arr 11 (List.map d_Token x2)]]) [] o1 ?_ ?_
    ·rcases bsplit H with ⟨hp10, H⟩ | ⟨hp10, H⟩
     ·obtain ⟨F, G, hq10⟩ := xH Y G hp10
      refine xR ?_
      exact cut_at H (xK ⟨[1,2,3], []⟩)
     ·obtain ⟨F, G, hq10⟩ := xH Y G hp10
      refine xR ?_
      exact cut_at H (xK ⟨[1,2,3], []⟩)
    ·rintro ⟨x3, x4⟩ H
     rw [VL] at H
     refine xS ?_
     refine xr0 ?_
     refine then_normal ?_
     refine w_cut (JE a0 a1 r1 x2 r2 x3 x4) (fun s => [(0, .c (.d (.v (.int .i64 a0)))), (1, .c (.d (.v (str a1)))), (5, .c (.pt 1 0)), (6, .c (.pt 2 0)), (7, .c (.os 3 11 0 x2.length)), (8, .c (.d (.v (.int .i64 x3)))), (9, .c (.d (.v (.int .i64 r2.1)))), (11, .c (.d (.v (.bool x4)))), (13, .c (.d (.v (.bool s))))]) (fun s => [[.d (.v (.int .i64 0)), .d (.v (.int .i64 0)), .d (.v (.int .i64 0))], [.d (.v (str r1.Text)), .d (.sl 1 (List.map dI r1.At))], [.arr 11 (List.map d_Token x2)]]) [] o1 ?_ ?_
     ·rcases bsplit H with ⟨hp5, H⟩ | ⟨hp5, H⟩
      ·obtain ⟨F, G, hq5⟩ := xH Y G hp5
       rcases bsplit H with ⟨hp6, H⟩ | ⟨hp6, H⟩
       ·obtain ⟨F, G, hq6⟩ := xH F G hp6
        obtain ⟨hg9, H⟩ := gsplit H
        obtain ⟨hg, H⟩ := gsplit H
        have F := xZ F (map_getD d_Token x2 ((IntKind.i64.wrap (((x2.length : Nat) : Int) - 1)).toNat) default default (by omega))
        rcases bsplit H with ⟨hp7, H⟩ | ⟨hp7, H⟩
        ·obtain ⟨F, G, hq7⟩ := xH F G hp7
         obtain ⟨hg10, H⟩ := gsplit H
         obtain ⟨hg, H⟩ := gsplit H
         have F := xZ F (map_getD d_Token x2 ((IntKind.i64.wrap (((x2.length : Nat) : Int) - 1)).toNat) default default (by omega))
         rcases bsplit H with ⟨hp8, H⟩ | ⟨hp8, H⟩
         ·obtain ⟨F, G, hq8⟩ := xH F G hp8
          obtain ⟨hg11, H⟩ := gsplit H
          obtain ⟨hg, H⟩ := gsplit H
          have F := xZ F (map_getD d_Token x2 ((IntKind.i64.wrap (((x2.length : Nat) : Int) - 2)).toNat) default default (by omega))
          rcases bsplit H with ⟨hp9, H⟩ | ⟨hp9, H⟩
          ·obtain ⟨F, G, hq9⟩ := xH F G hp9
           obtain ⟨hg12, H⟩ := gsplit H
           obtain ⟨hg, H⟩ := gsplit H
           have F := xZ F (map_getD d_Token x2 ((IntKind.i64.wrap (((x2.length : Nat) : Int) - 2)).toNat) default default (by omega))
           refine xR ?_
           exact cut_at H (xK ⟨[1,2,3], []⟩)
          ·obtain ⟨F, G, hq9⟩ := xH F G hp9
           refine xR ?_
           exact cut_at H (xK ⟨[1,2,3], []⟩)
         ·obtain ⟨F, G, hq8⟩ := xH F G hp8
          refine xR ?_
          exact cut_at H (xK ⟨[1,2,3], []⟩)
        ·obtain ⟨F, G, hq7⟩ := xH F G hp7
         refine xR ?_
         exact cut_at H (xK ⟨[1,2,3], []⟩)
       ·obtain ⟨F, G, hq6⟩ := xH F G hp6
        refine xR ?_
        exact cut_at H (xK ⟨[1,2,3], []⟩)
      ·obtain ⟨F, G, hq5⟩ := xH Y G hp5
       refine xR ?_
       exact cut_at H (xK ⟨[1,2,3], []⟩)
     ·rintro x5 H
      rw [JE] at H
      refine xS ?_
      obtain ⟨hg3, H⟩ := gsplit H
      obtain ⟨r3, hr3, H⟩ := osplit H
      have F := xC Y (JeM (List.drop x3.toNat r1.Text) x5 r3 hr3)
      refine xR ?_
      refine xr ?_
      rcases bsplit H with ⟨hp4, H⟩ | ⟨hp4, H⟩
      ·obtain ⟨F, G, hq4⟩ := xH Y G hp4
       refine xT ?_
       obtain ⟨hg4, H⟩ := gsplit H
       have F := xZ Y (map_getD dI r1.At x3.toNat default default (by omega))
       replace H := inrO_fin H hF1
       replace H := Option.some.inj H
       refine xR ?_
       subst H
       exact xN
      ·obtain ⟨F, G, hq4⟩ := xH Y G hp4
       refine xE ?_
       obtain ⟨hg5, H⟩ := gsplit H
       have F := xZ Y (map_getD dI r1.At x3.toNat default default (by omega))
       obtain ⟨hg6, H⟩ := gsplit H
       have F := xZ F (map_getD dI r1.At ((IntKind.i64.wrap ((IntKind.i64.wrap (x3 + (r3.2.length : Int))) - 1)).toNat) default default (by omega))
       obtain ⟨hg7, H⟩ := gsplit H
       have F := xZ F (map_getD dI r1.At x3.toNat default default (by omega))
       obtain ⟨r4, hr4, H⟩ := osplit H
       have F := xCf F (Je7 a1 (r1.At.getD x3.toNat default) r4 hr4)
       obtain ⟨hg8, H⟩ := gsplit H
       have F := xZ F (all_map one_Token [(⟨r3.1, r3.2, ltI 0 r2.1, x4, a0, (r1.At.getD x3.toNat default), IntKind.i64.wrap ((r1.At.getD ((IntKind.i64.wrap ((IntKind.i64.wrap (x3 + (r3.2.length : Int))) - 1)).toNat) default) + 1), r4, ([] : List (List UInt8)), ([] : List Call), 0⟩ : Token)])
       have L : [(⟨r3.1, r3.2, ltI 0 r2.1, x4, a0, (r1.At.getD x3.toNat default), IntKind.i64.wrap ((r1.At.getD ((IntKind.i64.wrap ((IntKind.i64.wrap (x3 + (r3.2.length : Int))) - 1)).toNat) default) + 1), r4, ([] : List (List UInt8)), ([] : List Call), 0⟩ : Token)].length = 1 := rfl
       refine xR ?_
       refine xr ?_
       exact round_at (inl_fin H hF1) (xK ⟨[1,2,4], []⟩)
theorem JeD (a0 : Int) (a1 : List UInt8) (r : (List Token) × Fault) (H : Vk a0 a1 = some r) : PC Jbm [dI a0, dS a1] (T2 (dL 11 d_Token) d_Fault r) := PF.c (a := (a0, a1)) H
noncomputable def Xf (a0 : List UInt8) : Option (List Token) :=
 (Vk 0 a0).bind fun r1 => some r1.1
noncomputable def Zl : PF := PF.of (E1 dS) (fun a => Xf a) (dL 11 d_Token)
theorem Jb3 : PureOk Tryz.prog 9 Zl := by
 refine xF mixed [(20, Jbm)] [] ⟨⟨call_20, Jeb⟩, trivial⟩ trivial Tryz.func9 ?_
 rintro a0 out H
 have G := True.intro
 have Y := xZ y_29 <| xZ Tryz.results9 <| xZ d_Call.eq_1 <| xZ d_Token.eq_1 <| d_Fault.eq_1
 simp only [Xf] at H
 refine xS ?_
 refine xr ?_
 obtain ⟨r1, hr1, H⟩ := osplit H
 have F := xC Y (JeD 0 a0 r1 hr1)
 refine xR ?_
 replace H := Option.some.inj H
 refine xr ?_
 subst H
 exact xN
theorem Jcp (a0 : List UInt8) (r : (List Token)) (H : Xf a0 = some r) : PC Zl [dS a0] ((dL 11 d_Token) r) := PF.c (a := a0) H
end Go.Proofs.YtjgimofnepechaaGreatDoor
