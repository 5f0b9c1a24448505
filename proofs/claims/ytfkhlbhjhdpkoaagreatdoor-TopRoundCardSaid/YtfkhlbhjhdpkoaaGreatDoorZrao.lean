/- Functions of data for functions of the program. Written by dec3.py. -/
import Derived.Test.YtfkhlbhjhdpkoaaGreatDoorZral
set_option linter.unusedVariables false
set_option linter.unusedSimpArgs false
set_option maxHeartbeats 4000000
set_option maxRecDepth 100000
namespace Go.Proofs.YtfkhlbhjhdpkoaaGreatDoor
open Go.RowKit
noncomputable def Zc : Bool → Option Int
 | x2 => if x2 = true then some 3 else some 0
noncomputable def Zb (a0 : List UInt8) : Bool → Option Int
 | x1 => if x1 = true then some 2 else if (leI 3 (a0.length : Int)) = true then if (0 : Int) ≤ 0 ∧ 0 ≤ 3 ∧ 3 ≤ (a0.length : Int) then Zc (eqS (List.take 3 a0) [92, 13, 10]) else none else Zc false
noncomputable def XN (a0 : List UInt8) : Option Int :=
 if (leI 2 (a0.length : Int)) = true then if (0 : Int) ≤ 0 ∧ 0 ≤ 2 ∧ 2 ≤ (a0.length : Int) then Zb a0 (eqS (List.take 2 a0) [92, 10]) else none else Zb a0 false
noncomputable def Jbw : PF := PF.of (E1 dS) (fun a => XN a) dI
theorem JeG : PureOk Tryz.prog 67 Jbw := by
 refine xF mixed [] [] trivial trivial Tryz.func67 ?_
 rintro a0 out H
 have G := True.intro
 have Y := xZ y_9 <| Tryz.results67
 simp only [XN] at H
 refine xS ?_
 refine xr0 ?_
 refine then_normal ?_
 refine w_seq ?_
 refine w_block ?_
 refine w_cut (Zb a0) (fun s => [(0, .c (.d (.v (str a0)))), (3, .c (.d (.v (.bool s))))]) (fun s => []) [] out ?_ ?_
 ·rcases bsplit H with ⟨hp4, H⟩ | ⟨hp4, H⟩
  ·obtain ⟨F, G, hq4⟩ := xH Y G hp4
   obtain ⟨hg2, H⟩ := gsplit H
   refine xR ?_
   exact cut_at H (xK ⟨[], []⟩)
  ·obtain ⟨F, G, hq4⟩ := xH Y G hp4
   refine xR ?_
   exact cut_at H (xK ⟨[], []⟩)
 ·rintro x1 H
  rw [Zb] at H
  rcases bsplit H with ⟨hp1, H⟩ | ⟨hp1, H⟩
  ·obtain ⟨F, G, hq1⟩ := xH Y G hp1
   refine xT ?_
   replace H := Option.some.inj H
   refine xr ?_
   subst H
   exact xN
  ·obtain ⟨F, G, hq1⟩ := xH Y G hp1
   refine xE0 ?_
   refine w_cut Zc (fun s => [(12, .c (.d (.v (.bool s))))]) (fun s => []) [] out ?_ ?_
   ·rcases bsplit H with ⟨hp3, H⟩ | ⟨hp3, H⟩
    ·obtain ⟨F, G, hq3⟩ := xH Y G hp3
     obtain ⟨hg1, H⟩ := gsplit H
     refine xR ?_
     exact cut_at H (xK ⟨[], []⟩)
    ·obtain ⟨F, G, hq3⟩ := xH Y G hp3
     refine xR ?_
     exact cut_at H (xK ⟨[], []⟩)
   ·rintro x2 H
    rw [Zc] at H
    rcases bsplit H with ⟨hp2, H⟩ | ⟨hp2, H⟩
    ·obtain ⟨F, G, hq2⟩ := xH Y G hp2
     refine xT ?_
     replace H := Option.some.inj H
     refine xr ?_
     subst H
     exact xN
    ·obtain ⟨F, G, hq2⟩ := xH Y G hp2
     refine xE ?_
     replace H := Option.some.inj H
     refine xr ?_
     subst H
     exact xN
theorem Jde (a0 : List UInt8) (r : Int) (H : XN a0 = some r) : PC Jbw [dS a0] (dI r) := PF.c (a := a0) H
noncomputable def XJ (a0 : List UInt8) (x1 : List UInt8) (x2 : List Int) (x3 : Int) (x4 : List UInt8) : Bool → Option (((List UInt8) × (List Int) × Int × (List UInt8)) ⊕ Spliced)
 | x5 => if x5 = true then some (.inl (x1, x2, IntKind.i64.wrap (x3 + 1), x4)) else if (0 : Int) ≤ x3 ∧ x3.toNat < a0.length then if (x1.length + [(a0.getD x3.toNat 0)].length) * 1 ≤ 140737488355328 then if (x2.length + [x3].length) * 8 ≤ 140737488355328 then some (.inl (x1 ++ [(a0.getD x3.toNat 0)], x2 ++ [x3], IntKind.i64.wrap (x3 + 1), x4)) else none else none else none
noncomputable def ZH (a0 : List UInt8) : ((List UInt8) × (List Int) × Int × (List UInt8)) → Option (((List UInt8) × (List Int) × Int × (List UInt8)) ⊕ Spliced)
 | (x1, x2, x3, x4) => if (ltI x3 (a0.length : Int)) = true then if (0 : Int) ≤ x3 ∧ x3 ≤ (a0.length : Int) ∧ (a0.length : Int) ≤ (a0.length : Int) then (XN (List.drop x3.toNat a0)).bind fun r1 => if (ltI 0 r1) = true then if (0 : Int) ≤ x3 ∧ x3 ≤ (a0.length : Int) ∧ (a0.length : Int) ≤ (a0.length : Int) then (XN (List.drop x3.toNat a0)).bind fun r2 => some (.inl (x1, x2, IntKind.i64.wrap (x3 + r2), x4)) else none else if (0 : Int) ≤ x3 ∧ x3.toNat < a0.length then if (eqI ((a0.getD x3.toNat 0).toNat : Int) 13) = true then if (ltI (IntKind.i64.wrap (x3 + 1)) (a0.length : Int)) = true then if (0 : Int) ≤ (IntKind.i64.wrap (x3 + 1)) ∧ (IntKind.i64.wrap (x3 + 1)).toNat < a0.length then XJ a0 x1 x2 x3 x4 (eqI ((a0.getD ((IntKind.i64.wrap (x3 + 1)).toNat) 0).toNat : Int) 10) else none else XJ a0 x1 x2 x3 x4 false else XJ a0 x1 x2 x3 x4 false else none else none else inrO (if (x2.length + [(a0.length : Int)].length) * 8 ≤ 140737488355328 then some (⟨x1, x2 ++ [(a0.length : Int)]⟩ : Spliced) else none)
noncomputable def Jai (a0 : List UInt8) : Option Spliced :=
 loopO (ZH a0) (([] : List UInt8), ([] : List Int), 0, [])
noncomputable def Jb4 : PF := PF.of (E1 dS) (fun a => Jai a) d_Spliced
theorem Je6 : PureOk Tryz.prog 47 Jb4 := by
 refine xF mixed [(67, Jbw)] [] ⟨⟨call_67, JeG⟩, trivial⟩ trivial Tryz.func47 ?_
 rintro a0 out H
 have G := True.intro
 have Y := xZ y_3 <| xZ y_5 <| xZ y_9 <| xZ y_25 <| xZ y_55 <| xZ y_70 <| xZ Tryz.results47 <| d_Spliced.eq_1
 simp only [Jai] at H
 refine xS ?_
 refine xr ?_
 refine xr ?_
 refine xr ?_
 refine xr ?_
 refine w_loop (ZH a0) (fun s => [(0, .c (.d (.v (str a0)))), (2, .c (.pt 1 0)), (3, .c (.sl 1 (List.map dU s.1) 2)), (4, .c (.sl 1 (List.map dI s.2.1) 3)), (5, .c (.d (.v (.int .i64 s.2.2.1))))]) (fun s => [[.d (.v (str s.2.2.2)), .sl 1 [] 0]]) [5, 3] H (xK ⟨[1], [0,0]⟩) ?_
 rintro n1 ⟨x1, x2, x3, x4⟩ o1 H hF1
 rw [ZH] at H
 refine xS ?_
 refine xr ?_
 rcases bsplit H with ⟨hp1, H⟩ | ⟨hp1, H⟩
 ·obtain ⟨F, G, hq1⟩ := xH Y G hp1
  refine xT ?_
  obtain ⟨hg1, H⟩ := gsplit H
  obtain ⟨r1, hr1, H⟩ := osplit H
  have F := xC Y (Jde (List.drop x3.toNat a0) r1 hr1)
  refine xR ?_
  rcases bsplit H with ⟨hp2, H⟩ | ⟨hp2, H⟩
  ·obtain ⟨F, G, hq2⟩ := xH Y G hp2
   refine xT ?_
   obtain ⟨hg2, H⟩ := gsplit H
   obtain ⟨r2, hr2, H⟩ := osplit H
   have F := xC Y (Jde (List.drop x3.toNat a0) r2 hr2)
   refine xR ?_
   exact round_at (inl_fin H hF1) (xK ⟨[1], [2,3]⟩)
  ·obtain ⟨F, G, hq2⟩ := xH Y G hp2
   refine xE0 ?_
   refine w_cut (XJ a0 x1 x2 x3 x4) (fun s => [(0, .c (.d (.v (str a0)))), (2, .c (.pt 1 0)), (3, .c (.sl 1 (List.map dU x1) 2)), (4, .c (.sl 1 (List.map dI x2) 3)), (5, .c (.d (.v (.int .i64 x3)))), (22, .c (.d (.v (.bool s))))]) (fun s => [[.d (.v (str x4)), .sl 1 [] 0]]) [5, 3] o1 ?_ ?_
   ·obtain ⟨hg6, H⟩ := gsplit H
    rcases bsplit H with ⟨hp4, H⟩ | ⟨hp4, H⟩
    ·obtain ⟨F, G, hq4⟩ := xH Y G hp4
     rcases bsplit H with ⟨hp5, H⟩ | ⟨hp5, H⟩
     ·obtain ⟨F, G, hq5⟩ := xH F G hp5
      obtain ⟨hg7, H⟩ := gsplit H
      refine xR ?_
      exact cut_at H (xK ⟨[1], [2,3]⟩)
     ·obtain ⟨F, G, hq5⟩ := xH F G hp5
      refine xR ?_
      exact cut_at H (xK ⟨[1], [2,3]⟩)
    ·obtain ⟨F, G, hq4⟩ := xH Y G hp4
     refine xR ?_
     exact cut_at H (xK ⟨[1], [2,3]⟩)
   ·rintro x5 H
    rw [XJ] at H
    rcases bsplit H with ⟨hp3, H⟩ | ⟨hp3, H⟩
    ·obtain ⟨F, G, hq3⟩ := xH Y G hp3
     refine xT ?_
     refine xr ?_
     exact round_at (inl_fin H hF1) (xK ⟨[1], [2,3]⟩)
    ·obtain ⟨F, G, hq3⟩ := xH Y G hp3
     refine xE ?_
     obtain ⟨hg3, H⟩ := gsplit H
     obtain ⟨hg4, H⟩ := gsplit H
     have F := xZ Y (all_map one_dU [(a0.getD x3.toNat 0)])
     obtain ⟨hg5, H⟩ := gsplit H
     have F := xZ F (all_map one_dI [x3])
     refine xR ?_
     refine xr ?_
     exact round_at (inl_fin H hF1) (xK ⟨[1], [4,5]⟩)
 ·obtain ⟨F, G, hq1⟩ := xH Y G hp1
  replace H := inrO_fin H hF1
  refine xE ?_
  obtain ⟨hg8, H⟩ := gsplit H
  have F := xZ Y (all_map one_dI [(a0.length : Int)])
  replace H := Option.some.inj H
  refine xR ?_
  subst H
  exact xN
theorem Jfl (a0 : List UInt8) (r : Spliced) (H : Jai a0 = some r) : PC Jb4 [dS a0] (d_Spliced r) := PF.c (a := a0) H
noncomputable def Xv (a0 : UInt8) : Option Bool :=
 some (!eqI (a0.toNat : Int) 10)
noncomputable def Z2 : PF := PF.of (E1 dU) (fun a => Xv a) dB
theorem JdA : PureOk Tryz.prog 69 Z2 := by
 refine xF mixed [] [] trivial trivial Tryz.func69 ?_
 rintro a0 out H
 have G := True.intro
 have Y := Tryz.results69
 simp only [Xv] at H
 refine xS ?_
 refine xr ?_
 replace H := Option.some.inj H
 refine xr ?_
 subst H
 exact xN
theorem JdI (a0 : UInt8) (r : Bool) (H : Xv a0 = some r) : PC Z2 [dU a0] (dB r) := PF.c (a := a0) H
noncomputable def V6 (x1 : Int) : Bool → Option (Int ⊕ Int)
 | x2 => if x2 = true then some (.inl (IntKind.i64.wrap (x1 + 1))) else inrO (some x1)
noncomputable def Zm (a1 : List UInt8) : Int → Option (Int ⊕ Int)
 | x1 => if (ltI x1 (a1.length : Int)) = true then if (0 : Int) ≤ x1 ∧ x1.toNat < a1.length then (Xv (a1.getD x1.toNat 0)).bind fun r1 => V6 x1 r1 else none else V6 x1 false
noncomputable def V9 (a0 : Int) (a1 : List UInt8) (a2 : List Int) (a3 : List UInt8) (a4 : Int) (a5 : Int) (a6 : List Token) : Option Int :=
 loopO (Zm a1) a0
def Xq (a0 : Int) (a1 : List UInt8) (a2 : List Int) (a3 : List UInt8) (a4 : Int) (a5 : Int) (a6 : List Token) (r : Int) : GI :=
 ⟨[.c (.pt 1 0), .c (.d (.v (.int .i64 a0))), .c (.d (.v (.func (.func 69) #[] #[])))], [[.d (.v (str a1)), .d (.sl 1 (List.map dI a2)), .d (.v (str a3)), .d (.v (.int .i64 a4)), .d (.v (.int .i64 a5)), .sl 11 (List.map d_Token a6) 2]], [44], .ret (.c (.d (.v (.int .i64 r)))) [[.d (.v (str a1)), .d (.sl 1 (List.map dI a2)), .d (.v (str a3)), .d (.v (.int .i64 a4)), .d (.v (.int .i64 a5)), .sl 11 (List.map d_Token a6) 2]] [44]⟩
def Xu : GI → Prop := fun g => ∃ (a0 : Int) (a1 : List UInt8) (a2 : List Int) (a3 : List UInt8) (a4 : Int) (a5 : Int) (a6 : List Token) (r : Int), V9 a0 a1 a2 a3 a4 a5 a6 = some r ∧ g = Xq a0 a1 a2 a3 a4 a5 a6 r
theorem Jef (a0 : Int) (a1 : List UInt8) (a2 : List Int) (a3 : List UInt8) (a4 : Int) (a5 : Int) (a6 : List Token) (r : Int) (H : V9 a0 a1 a2 a3 a4 a5 a6 = some r) : Xu (Xq a0 a1 a2 a3 a4 a5 a6 r) := ⟨a0, a1, a2, a3, a4, a5, a6, r, H, rfl⟩
theorem JdU : ∀ g, Xu g → GenOk Tryz.prog 68 g := by
 rintro _ ⟨a0, a1, a2, a3, a4, a5, a6, r, H, rfl⟩
 refine xGn mixed [(69, Z2)] [] [] ⟨⟨call_69, JdA⟩, trivial⟩ trivial trivial Tryz.func68 _ ?_
 have G := True.intro
 have Y := xZ y_9 <| xZ y_70 <| xZ y_99 <| xZ Tryz.results68 <| xZ d_Call.eq_1 <| xZ d_Token.eq_1 <| xZ d_Spliced.eq_1 <| Xq.eq_1
 dsimp only [Xq]
 simp only [V9] at H
 refine xS ?_
 refine xr ?_
 refine w_loop (Zm a1) (fun s => [(0, .c (.pt 1 0)), (1, .c (.d (.v (.int .i64 s)))), (2, .c (.d (.v (.func (.func 69) #[] #[]))))]) (fun s => [[.d (.v (str a1)), .d (.sl 1 (List.map dI a2)), .d (.v (str a3)), .d (.v (.int .i64 a4)), .d (.v (.int .i64 a5)), .sl 11 (List.map d_Token a6) 2]]) [44] H (xK ⟨[1], [2]⟩) ?_
 rintro n1 x1 o1 H hF1
 rw [Zm] at H
 refine w_seq ?_
 refine w_cut (V6 x1) (fun s => [(0, .c (.pt 1 0)), (1, .c (.d (.v (.int .i64 x1)))), (2, .c (.d (.v (.func (.func 69) #[] #[])))), (25, .c (.d (.v (.bool s))))]) (fun s => [[.d (.v (str a1)), .d (.sl 1 (List.map dI a2)), .d (.v (str a3)), .d (.v (.int .i64 a4)), .d (.v (.int .i64 a5)), .sl 11 (List.map d_Token a6) 2]]) [44] o1 ?_ ?_
 ·rcases bsplit H with ⟨hp2, H⟩ | ⟨hp2, H⟩
  ·obtain ⟨F, G, hq2⟩ := xH Y G hp2
   obtain ⟨hg1, H⟩ := gsplit H
   obtain ⟨r1, hr1, H⟩ := osplit H
   have F := xCf F (JdI (a1.getD x1.toNat 0) r1 hr1)
   refine xR ?_
   exact cut_at H (xK ⟨[1], [2]⟩)
  ·obtain ⟨F, G, hq2⟩ := xH Y G hp2
   refine xR ?_
   exact cut_at H (xK ⟨[1], [2]⟩)
 ·rintro x2 H
  rw [V6] at H
  rcases bsplit H with ⟨hp1, H⟩ | ⟨hp1, H⟩
  ·obtain ⟨F, G, hq1⟩ := xH Y G hp1
   refine xT ?_
   refine xr ?_
   exact round_at (inl_fin H hF1) (xK ⟨[1], [2]⟩)
  ·obtain ⟨F, G, hq1⟩ := xH Y G hp1
   replace H := inrO_fin H hF1
   refine xE ?_
   replace H := Option.some.inj H
   refine xr ?_
   subst H
   refine xOr ?_
   refine qDf [] ?_
   exact xO ⟨[1], [2]⟩
theorem Jec : Callable Tryz.prog 68 ∧ (∀ g, Xu g → GenOk Tryz.prog 68 g) ∧ (true = true → ∀ g, Xu g → ∃ val bs ts, g.out = .ret val bs ts) :=
 ⟨call_68, JdU, fun _ => by rintro _ ⟨_, _, _, _, _, _, _, _, _, rfl⟩; exact ⟨_, _, _, rfl⟩⟩
noncomputable def J9 : (Bool × Int) → Option ((Bool × Bool × Int) ⊕ (Bool × Bool × Bool × Int))
 | (x4, x5) => some (.inl (true, x4, x5))
noncomputable def VZ (x3 : Int) : Bool → Option ((Bool × Bool × Int) ⊕ (Bool × Bool × Bool × Int))
 | x8 => J9 (x8, IntKind.i64.wrap (x3 + 1))
noncomputable def V0 (a0 : List UInt8) (x1 : Bool) (x2 : Bool) (x3 : Int) (x12 : Int) : Bool → Option (Int ⊕ ((Bool × Bool × Int) ⊕ (Bool × Bool × Bool × Int)))
 | x13 => if x13 = true then some (.inl (IntKind.i64.wrap (x12 + 1))) else inrO (if (leI (a0.length : Int) (IntKind.i64.wrap (x12 + 1))) = true then inrO (some (x1, x2, false, x3)) else J9 (x2, IntKind.i64.wrap (x12 + 2)))
noncomputable def VQ (a0 : List UInt8) (x1 : Bool) (x2 : Bool) (x3 : Int) : Int → Option (Int ⊕ ((Bool × Bool × Int) ⊕ (Bool × Bool × Bool × Int)))
 | x12 => if (ltI (IntKind.i64.wrap (x12 + 1)) (a0.length : Int)) = true then if (0 : Int) ≤ x12 ∧ x12 ≤ (IntKind.i64.wrap (x12 + 2)) ∧ (IntKind.i64.wrap (x12 + 2)) ≤ (a0.length : Int) then V0 a0 x1 x2 x3 x12 (!eqS (List.take ((IntKind.i64.wrap (x12 + 2)).toNat - x12.toNat) (List.drop x12.toNat a0)) [42, 47]) else none else V0 a0 x1 x2 x3 x12 false
noncomputable def KP (a0 : List UInt8) (x1 : Bool) (x2 : Bool) (x3 : Int) : Bool → Option ((Bool × Bool × Int) ⊕ (Bool × Bool × Bool × Int))
 | x11 => if x11 = true then loopO (VQ a0 x1 x2 x3) (IntKind.i64.wrap (x3 + 2)) else inrO (some (x1, x2, true, x3))
noncomputable def KY (a0 : List UInt8) (a1 : List Int) (a2 : List UInt8) (a3 : Int) (a5 : List Token) (x1 : Bool) (x2 : Bool) (x3 : Int) : (UInt8 × Bool) → Option ((Bool × Bool × Int) ⊕ (Bool × Bool × Bool × Int))
 | (x9, x10) => if x10 = true then (V9 x3 a0 a1 a2 a3 x3 a5).bind fun r1 => J9 (x2, r1) else if (eqI (x9.toNat : Int) 47) = true then if (ltI (IntKind.i64.wrap (x3 + 1)) (a0.length : Int)) = true then if (0 : Int) ≤ (IntKind.i64.wrap (x3 + 1)) ∧ (IntKind.i64.wrap (x3 + 1)).toNat < a0.length then KP a0 x1 x2 x3 (eqI ((a0.getD ((IntKind.i64.wrap (x3 + 1)).toNat) 0).toNat : Int) 42) else none else KP a0 x1 x2 x3 false else KP a0 x1 x2 x3 false
noncomputable def JU (a0 : List UInt8) (a1 : List Int) (a2 : List UInt8) (a3 : Int) (a5 : List Token) (x1 : Bool) (x2 : Bool) (x3 : Int) : (UInt8 × Bool) → Option ((Bool × Bool × Int) ⊕ (Bool × Bool × Bool × Int))
 | (x6, x7) => if x7 = true then if x2 = true then VZ x3 true else VZ x3 (eqI (x6.toNat : Int) 10) else if (eqI (x6.toNat : Int) 47) = true then if (ltI (IntKind.i64.wrap (x3 + 1)) (a0.length : Int)) = true then if (0 : Int) ≤ (IntKind.i64.wrap (x3 + 1)) ∧ (IntKind.i64.wrap (x3 + 1)).toNat < a0.length then KY a0 a1 a2 a3 a5 x1 x2 x3 (x6, eqI ((a0.getD ((IntKind.i64.wrap (x3 + 1)).toNat) 0).toNat : Int) 47) else none else KY a0 a1 a2 a3 a5 x1 x2 x3 (x6, false) else KY a0 a1 a2 a3 a5 x1 x2 x3 (x6, false)
noncomputable def JV (a0 : List UInt8) (a1 : List Int) (a2 : List UInt8) (a3 : Int) (a5 : List Token) : (Bool × Bool × Int) → Option ((Bool × Bool × Int) ⊕ (Bool × Bool × Bool × Int))
 | (x1, x2, x3) => if (ltI x3 (a0.length : Int)) = true then if (0 : Int) ≤ x3 ∧ x3.toNat < a0.length then if (eqI ((a0.getD x3.toNat 0).toNat : Int) 32) = true then JU a0 a1 a2 a3 a5 x1 x2 x3 ((a0.getD x3.toNat 0), true) else if (eqI ((a0.getD x3.toNat 0).toNat : Int) 9) = true then JU a0 a1 a2 a3 a5 x1 x2 x3 ((a0.getD x3.toNat 0), true) else if (eqI ((a0.getD x3.toNat 0).toNat : Int) 10) = true then JU a0 a1 a2 a3 a5 x1 x2 x3 ((a0.getD x3.toNat 0), true) else JU a0 a1 a2 a3 a5 x1 x2 x3 ((a0.getD x3.toNat 0), eqI ((a0.getD x3.toNat 0).toNat : Int) 13) else none else inrO (some (x1, x2, true, x3))
noncomputable def Zl (a0 : List UInt8) (a1 : List Int) (a2 : List UInt8) (a3 : Int) (a4 : Int) (a5 : List Token) : Option (Bool × Bool × Bool × Int) :=
 loopO (JV a0 a1 a2 a3 a5) (false, false, a4)
def Xt (a0 : List UInt8) (a1 : List Int) (a2 : List UInt8) (a3 : Int) (a4 : Int) (a5 : List Token) (r : (Bool × Bool × Bool × Int)) : GI :=
 ⟨[.c (.pt 1 0)], [[.d (.v (str a0)), .d (.sl 1 (List.map dI a1)), .d (.v (str a2)), .d (.v (.int .i64 a3)), .d (.v (.int .i64 a4)), .sl 11 (List.map d_Token a5) 2]], [44], .ret (.tu [(false, [.d (.v (.bool r.1))]), (false, [.d (.v (.bool r.2.1))]), (false, [.d (.v (.bool r.2.2.1))])]) [[.d (.v (str a0)), .d (.sl 1 (List.map dI a1)), .d (.v (str a2)), .d (.v (.int .i64 a3)), .d (.v (.int .i64 r.2.2.2)), .sl 11 (List.map d_Token a5) 2]] [44]⟩
def Xp : GI → Prop := fun g => ∃ (a0 : List UInt8) (a1 : List Int) (a2 : List UInt8) (a3 : Int) (a4 : Int) (a5 : List Token) (r : (Bool × Bool × Bool × Int)), Zl a0 a1 a2 a3 a4 a5 = some r ∧ g = Xt a0 a1 a2 a3 a4 a5 r
theorem Jed (a0 : List UInt8) (a1 : List Int) (a2 : List UInt8) (a3 : Int) (a4 : Int) (a5 : List Token) (r : (Bool × Bool × Bool × Int)) (H : Zl a0 a1 a2 a3 a4 a5 = some r) : Xp (Xt a0 a1 a2 a3 a4 a5 r) := ⟨a0, a1, a2, a3, a4, a5, r, H, rfl⟩
theorem JdV : ∀ g, Xp g → GenOk Tryz.prog 48 g := by
 rintro _ ⟨a0, a1, a2, a3, a4, a5, r, H, rfl⟩
 refine xGn mixed [] [(68, true, Xu)] [] trivial ⟨Jec, trivial⟩ trivial Tryz.func48 _ ?_
 have G := True.intro
 have Y := xZ y_3 <| xZ y_9 <| xZ y_70 <| xZ y_99 <| xZ Tryz.results48 <| xZ d_Call.eq_1 <| xZ d_Token.eq_1 <| xZ d_Spliced.eq_1 <| xZ Xq.eq_1 <| Xt.eq_1
 dsimp only [Xt]
 simp only [Zl] at H
 refine xS ?_
 refine xr ?_
 refine xr ?_
 refine w_loop (JV a0 a1 a2 a3 a5) (fun s => [(0, .c (.pt 1 0)), (2, .c (.d (.v (.bool s.1)))), (3, .c (.d (.v (.bool s.2.1)))), (5, .c (.d (.v (str a0))))]) (fun s => [[.d (.v (str a0)), .d (.sl 1 (List.map dI a1)), .d (.v (str a2)), .d (.v (.int .i64 a3)), .d (.v (.int .i64 s.2.2)), .sl 11 (List.map d_Token a5) 2]]) [44] H (xK ⟨[1], [2]⟩) ?_
 rintro n1 ⟨x1, x2, x3⟩ o1 H hF1
 rw [JV] at H
 refine xS ?_
 refine xr ?_
 rcases bsplit H with ⟨hp1, H⟩ | ⟨hp1, H⟩
 ·obtain ⟨F, G, hq1⟩ := xH Y G hp1
  refine xT0 ?_
  refine w_skip ?_
  refine then_normal ?_
  refine w_block ?_
  refine w_cut J9 (fun s => [(0, .c (.pt 1 0)), (3, .c (.d (.v (.bool s.1)))), (5, .c (.d (.v (str a0))))]) (fun s => [[.d (.v (str a0)), .d (.sl 1 (List.map dI a1)), .d (.v (str a2)), .d (.v (.int .i64 a3)), .d (.v (.int .i64 s.2)), .sl 11 (List.map d_Token a5) 2]]) [44] o1 ?_ ?_
  ·refine xS ?_
   obtain ⟨hg1, H⟩ := gsplit H
   refine xr0 ?_
   refine then_normal ?_
   refine w_block ?_
   refine w_cut (JU a0 a1 a2 a3 a5 x1 x2 x3) (fun s => [(0, .c (.pt 1 0)), (2, .c (.d (.v (.bool x1)))), (3, .c (.d (.v (.bool x2)))), (5, .c (.d (.v (str a0)))), (6, .c (.d (.v (.int .u8 (s.1.toNat : Int))))), (28, .c (.d (.v (.bool s.2))))]) (fun s => [[.d (.v (str a0)), .d (.sl 1 (List.map dI a1)), .d (.v (str a2)), .d (.v (.int .i64 a3)), .d (.v (.int .i64 x3)), .sl 11 (List.map d_Token a5) 2]]) [44] o1 ?_ ?_
   ·rcases bsplit H with ⟨hp13, H⟩ | ⟨hp13, H⟩
    ·obtain ⟨F, G, hq13⟩ := xH Y G hp13
     refine xR ?_
     exact cut_at H (xK ⟨[1], [2]⟩)
    ·obtain ⟨F, G, hq13⟩ := xH Y G hp13
     rcases bsplit H with ⟨hp14, H⟩ | ⟨hp14, H⟩
     ·obtain ⟨F, G, hq14⟩ := xH F G hp14
      refine xR ?_
      exact cut_at H (xK ⟨[1], [2]⟩)
     ·obtain ⟨F, G, hq14⟩ := xH F G hp14
      rcases bsplit H with ⟨hp15, H⟩ | ⟨hp15, H⟩
      ·obtain ⟨F, G, hq15⟩ := xH F G hp15
       refine xR ?_
       exact cut_at H (xK ⟨[1], [2]⟩)
      ·obtain ⟨F, G, hq15⟩ := xH F G hp15
       refine xR ?_
       exact cut_at H (xK ⟨[1], [2]⟩)
   ·rintro ⟨x6, x7⟩ H
    rw [JU] at H
    rcases bsplit H with ⟨hp2, H⟩ | ⟨hp2, H⟩
    ·obtain ⟨F, G, hq2⟩ := xH Y G hp2
     refine xT0 ?_
     refine w_cut (VZ x3) (fun s => [(0, .c (.pt 1 0)), (3, .c (.d (.v (.bool s)))), (5, .c (.d (.v (str a0))))]) (fun s => [[.d (.v (str a0)), .d (.sl 1 (List.map dI a1)), .d (.v (str a2)), .d (.v (.int .i64 a3)), .d (.v (.int .i64 x3)), .sl 11 (List.map d_Token a5) 2]]) [44] o1 ?_ ?_
     ·rcases bsplit H with ⟨hp3, H⟩ | ⟨hp3, H⟩
      ·obtain ⟨F, G, hq3⟩ := xH Y G hp3
       refine xR ?_
       exact cut_at H (xK ⟨[1], [2]⟩)
      ·obtain ⟨F, G, hq3⟩ := xH Y G hp3
       refine xR ?_
       exact cut_at H (xK ⟨[1], [2]⟩)
     ·rintro x8 H
      rw [VZ] at H
      refine xr ?_
      exact cut_at H (xK ⟨[1], [2]⟩)
    ·obtain ⟨F, G, hq2⟩ := xH Y G hp2
     refine xE0 ?_
     refine w_cut (KY a0 a1 a2 a3 a5 x1 x2 x3) (fun s => [(0, .c (.pt 1 0)), (2, .c (.d (.v (.bool x1)))), (3, .c (.d (.v (.bool x2)))), (5, .c (.d (.v (str a0)))), (6, .c (.d (.v (.int .u8 (s.1.toNat : Int))))), (55, .c (.d (.v (.bool s.2))))]) (fun s => [[.d (.v (str a0)), .d (.sl 1 (List.map dI a1)), .d (.v (str a2)), .d (.v (.int .i64 a3)), .d (.v (.int .i64 x3)), .sl 11 (List.map d_Token a5) 2]]) [44] o1 ?_ ?_
     ·rcases bsplit H with ⟨hp11, H⟩ | ⟨hp11, H⟩
      ·obtain ⟨F, G, hq11⟩ := xH Y G hp11
       rcases bsplit H with ⟨hp12, H⟩ | ⟨hp12, H⟩
       ·obtain ⟨F, G, hq12⟩ := xH F G hp12
        obtain ⟨hg4, H⟩ := gsplit H
        refine xR ?_
        exact cut_at H (xK ⟨[1], [2]⟩)
       ·obtain ⟨F, G, hq12⟩ := xH F G hp12
        refine xR ?_
        exact cut_at H (xK ⟨[1], [2]⟩)
      ·obtain ⟨F, G, hq11⟩ := xH Y G hp11
       refine xR ?_
       exact cut_at H (xK ⟨[1], [2]⟩)
     ·rintro ⟨x9, x10⟩ H
      rw [KY] at H
      rcases bsplit H with ⟨hp4, H⟩ | ⟨hp4, H⟩
      ·obtain ⟨F, G, hq4⟩ := xH Y G hp4
       refine xT ?_
       obtain ⟨r1, hr1, H⟩ := osplit H
       have F := Y
       refine xQ ?_
       refine xs 6 ?_
       refine xc ⟨[1], [2]⟩ (tabG 0 (Jef x3 a0 a1 a2 a3 x3 a5 r1 hr1)) ?_
       refine xs 3 ?_
       refine xl ?_
       refine xS ?_
       exact cut_at H (xK ⟨[1], [4]⟩)
      ·obtain ⟨F, G, hq4⟩ := xH Y G hp4
       refine xE0 ?_
       refine w_cut (KP a0 x1 x2 x3) (fun s => [(0, .c (.pt 1 0)), (2, .c (.d (.v (.bool x1)))), (3, .c (.d (.v (.bool x2)))), (5, .c (.d (.v (str a0)))), (87, .c (.d (.v (.bool s))))]) (fun s => [[.d (.v (str a0)), .d (.sl 1 (List.map dI a1)), .d (.v (str a2)), .d (.v (.int .i64 a3)), .d (.v (.int .i64 x3)), .sl 11 (List.map d_Token a5) 2]]) [44] o1 ?_ ?_
       ·rcases bsplit H with ⟨hp9, H⟩ | ⟨hp9, H⟩
        ·obtain ⟨F, G, hq9⟩ := xH Y G hp9
         rcases bsplit H with ⟨hp10, H⟩ | ⟨hp10, H⟩
         ·obtain ⟨F, G, hq10⟩ := xH F G hp10
          obtain ⟨hg3, H⟩ := gsplit H
          refine xR ?_
          exact cut_at H (xK ⟨[1], [2]⟩)
         ·obtain ⟨F, G, hq10⟩ := xH F G hp10
          refine xR ?_
          exact cut_at H (xK ⟨[1], [2]⟩)
        ·obtain ⟨F, G, hq9⟩ := xH Y G hp9
         refine xR ?_
         exact cut_at H (xK ⟨[1], [2]⟩)
       ·rintro x11 H
        rw [KP] at H
        rcases bsplit H with ⟨hp5, H⟩ | ⟨hp5, H⟩
        ·obtain ⟨F, G, hq5⟩ := xH Y G hp5
         refine xT ?_
         refine xr ?_
         refine w_loop (VQ a0 x1 x2 x3) (fun s => [(0, .c (.pt 1 0)), (2, .c (.d (.v (.bool x1)))), (3, .c (.d (.v (.bool x2)))), (5, .c (.d (.v (str a0)))), (7, .c (.d (.v (.int .i64 s))))]) (fun s => [[.d (.v (str a0)), .d (.sl 1 (List.map dI a1)), .d (.v (str a2)), .d (.v (.int .i64 a3)), .d (.v (.int .i64 x3)), .sl 11 (List.map d_Token a5) 2]]) [44] H (xK ⟨[1], [2]⟩) ?_
         rintro n2 x12 o2 H hF2
         rw [VQ] at H
         refine w_seq ?_
         refine w_cut (V0 a0 x1 x2 x3 x12) (fun s => [(0, .c (.pt 1 0)), (2, .c (.d (.v (.bool x1)))), (3, .c (.d (.v (.bool x2)))), (5, .c (.d (.v (str a0)))), (7, .c (.d (.v (.int .i64 x12)))), (127, .c (.d (.v (.bool s))))]) (fun s => [[.d (.v (str a0)), .d (.sl 1 (List.map dI a1)), .d (.v (str a2)), .d (.v (.int .i64 a3)), .d (.v (.int .i64 x3)), .sl 11 (List.map d_Token a5) 2]]) [44] o2 ?_ ?_
         ·rcases bsplit H with ⟨hp8, H⟩ | ⟨hp8, H⟩
          ·obtain ⟨F, G, hq8⟩ := xH Y G hp8
           obtain ⟨hg2, H⟩ := gsplit H
           refine xR ?_
           exact cut_at H (xK ⟨[1], [2]⟩)
          ·obtain ⟨F, G, hq8⟩ := xH Y G hp8
           refine xR ?_
           exact cut_at H (xK ⟨[1], [2]⟩)
         ·rintro x13 H
          rw [V0] at H
          rcases bsplit H with ⟨hp6, H⟩ | ⟨hp6, H⟩
          ·obtain ⟨F, G, hq6⟩ := xH Y G hp6
           refine xT ?_
           refine xr ?_
           exact round_at (inl_fin H hF2) (xK ⟨[1], [2]⟩)
          ·obtain ⟨F, G, hq6⟩ := xH Y G hp6
           replace H := inrO_fin H hF2
           refine xE ?_
           refine xr ?_
           rcases bsplit H with ⟨hp7, H⟩ | ⟨hp7, H⟩
           ·obtain ⟨F, G, hq7⟩ := xH Y G hp7
            refine xT ?_
            replace H := inrO_fin H hF1
            replace H := Option.some.inj H
            refine xr ?_
            subst H
            refine xOr ?_
            refine qDf [] ?_
            exact xO ⟨[1], [2]⟩
           ·obtain ⟨F, G, hq7⟩ := xH Y G hp7
            refine xE ?_
            refine xr ?_
            exact cut_at H (xK ⟨[1], [2]⟩)
        ·obtain ⟨F, G, hq5⟩ := xH Y G hp5
         refine xE ?_
         replace H := inrO_fin H hF1
         replace H := Option.some.inj H
         refine xr ?_
         subst H
         refine xOr ?_
         refine qDf [] ?_
         exact xO ⟨[1], [2]⟩
  ·rintro ⟨x4, x5⟩ H
   rw [J9] at H
   refine xr ?_
   exact round_at (inl_fin H hF1) (xK ⟨[1], [2]⟩)
 ·obtain ⟨F, G, hq1⟩ := xH Y G hp1
  replace H := inrO_fin H hF1
  refine xE ?_
  replace H := Option.some.inj H
  refine xr ?_
  subst H
  refine xOr ?_
  refine qDf [] ?_
  exact xO ⟨[1], [2]⟩
theorem Jeg : Callable Tryz.prog 48 ∧ (∀ g, Xp g → GenOk Tryz.prog 48 g) ∧ (true = true → ∀ g, Xp g → ∃ val bs ts, g.out = .ret val bs ts) :=
 ⟨call_48, JdV, fun _ => by rintro _ ⟨_, _, _, _, _, _, _, _, rfl⟩; exact ⟨_, _, _, rfl⟩⟩
noncomputable def Zg (a0 : Spliced) (a1 : Int) : Bool → Option Int
 | x1 => if x1 = true then some (-1) else if (0 : Int) ≤ a1 ∧ a1.toNat < a0.At.length then some (a0.At.getD a1.toNat default) else none
noncomputable def Vs (a0 : Spliced) (a1 : Int) : Option Int :=
 if (ltI a1 0) = true then Zg a0 a1 true else Zg a0 a1 (leI (a0.At.length : Int) a1)
noncomputable def Jbv : PF := PF.of (E2 d_Spliced dI) (fun a => Vs a.1 a.2) dI
theorem JeA : PureOk Tryz.prog 49 Jbv := by
 refine xF mixed [] [] trivial trivial Tryz.func49 ?_
 rintro ⟨a0, a1⟩ out H
 have G := True.intro
 have Y := xZ y_3 <| xZ y_25 <| xZ y_70 <| xZ Tryz.results49 <| d_Spliced.eq_1
 simp only [Vs] at H
 refine xS ?_
 refine xr0 ?_
 refine then_normal ?_
 refine w_seq ?_
 refine w_cut (Zg a0 a1) (fun s => [(1, .c (.d (.v (.int .i64 a1)))), (2, .c (.pt 1 0)), (13, .c (.d (.v (.bool s))))]) (fun s => [[.d (.v (str a0.Text)), .d (.sl 1 (List.map dI a0.At))]]) [] out ?_ ?_
 ·rcases bsplit H with ⟨hp2, H⟩ | ⟨hp2, H⟩
  ·obtain ⟨F, G, hq2⟩ := xH Y G hp2
   refine xR ?_
   exact cut_at H (xK ⟨[1], []⟩)
  ·obtain ⟨F, G, hq2⟩ := xH Y G hp2
   refine xR ?_
   exact cut_at H (xK ⟨[1], []⟩)
 ·rintro x1 H
  rw [Zg] at H
  rcases bsplit H with ⟨hp1, H⟩ | ⟨hp1, H⟩
  ·obtain ⟨F, G, hq1⟩ := xH Y G hp1
   refine xT ?_
   replace H := Option.some.inj H
   refine xr ?_
   subst H
   exact xN
  ·obtain ⟨F, G, hq1⟩ := xH Y G hp1
   refine xE ?_
   obtain ⟨hg1, H⟩ := gsplit H
   have F := xZ Y (map_getD dI a0.At a1.toNat default default (by omega))
   replace H := Option.some.inj H
   refine xR ?_
   subst H
   exact xN
theorem Jb5 (a0 : Spliced) (a1 : Int) (r : Int) (H : Vs a0 a1 = some r) : PC Jbv [d_Spliced a0, dI a1] (dI r) := PF.c (a := (a0, a1)) H
noncomputable def Ki : Bool → Option Bool
 | x1 => some x1
noncomputable def Zd (a0 : UInt8) : Option Bool :=
 if (leI 97 (a0.toNat : Int)) = true then if (leI (a0.toNat : Int) 122) = true then Ki true else if (leI 65 (a0.toNat : Int)) = true then if (leI (a0.toNat : Int) 90) = true then Ki true else Ki (eqI (a0.toNat : Int) 95) else Ki (eqI (a0.toNat : Int) 95) else if (leI 65 (a0.toNat : Int)) = true then if (leI (a0.toNat : Int) 90) = true then Ki true else Ki (eqI (a0.toNat : Int) 95) else Ki (eqI (a0.toNat : Int) 95)
noncomputable def Jac : PF := PF.of (E1 dU) (fun a => Zd a) dB
theorem Jcl : PureOk Tryz.prog 70 Jac := by
 refine xF mixed [] [] trivial trivial Tryz.func70 ?_
 rintro a0 out H
 have G := True.intro
 have Y := Tryz.results70
 simp only [Zd] at H
 refine xS ?_
 refine xr0 ?_
 refine then_normal ?_
 refine w_cut Ki (fun s => [(2, .c (.d (.v (.bool s))))]) (fun s => []) [] out ?_ ?_
 ·rcases bsplit H with ⟨hp1, H⟩ | ⟨hp1, H⟩
  ·obtain ⟨F, G, hq1⟩ := xH Y G hp1
   rcases bsplit H with ⟨hp2, H⟩ | ⟨hp2, H⟩
   ·obtain ⟨F, G, hq2⟩ := xH F G hp2
    refine xR ?_
    exact cut_at H (xK ⟨[], []⟩)
   ·obtain ⟨F, G, hq2⟩ := xH F G hp2
    rcases bsplit H with ⟨hp3, H⟩ | ⟨hp3, H⟩
    ·obtain ⟨F, G, hq3⟩ := xH F G hp3
     rcases bsplit H with ⟨hp4, H⟩ | ⟨hp4, H⟩
     ·obtain ⟨F, G, hq4⟩ := xH F G hp4
      refine xR ?_
      exact cut_at H (xK ⟨[], []⟩)
     ·obtain ⟨F, G, hq4⟩ := xH F G hp4
      refine xR ?_
      exact cut_at H (xK ⟨[], []⟩)
    ·obtain ⟨F, G, hq3⟩ := xH F G hp3
     refine xR ?_
     exact cut_at H (xK ⟨[], []⟩)
  ·obtain ⟨F, G, hq1⟩ := xH Y G hp1
   rcases bsplit H with ⟨hp5, H⟩ | ⟨hp5, H⟩
   ·obtain ⟨F, G, hq5⟩ := xH F G hp5
    rcases bsplit H with ⟨hp6, H⟩ | ⟨hp6, H⟩
    ·obtain ⟨F, G, hq6⟩ := xH F G hp6
     refine xR ?_
     exact cut_at H (xK ⟨[], []⟩)
    ·obtain ⟨F, G, hq6⟩ := xH F G hp6
     refine xR ?_
     exact cut_at H (xK ⟨[], []⟩)
   ·obtain ⟨F, G, hq5⟩ := xH F G hp5
    refine xR ?_
    exact cut_at H (xK ⟨[], []⟩)
 ·rintro x1 H
  rw [Ki] at H
  replace H := Option.some.inj H
  refine xS ?_
  subst H
  exact xN
theorem Jcx (a0 : UInt8) (r : Bool) (H : Zd a0 = some r) : PC Jac [dU a0] (dB r) := PF.c (a := a0) H
noncomputable def Jaz : Bool → Option Bool
 | x1 => some x1
noncomputable def Zi (a0 : UInt8) : Option Bool :=
 if (leI 48 (a0.toNat : Int)) = true then Jaz (leI (a0.toNat : Int) 57) else Jaz false
noncomputable def Jas : PF := PF.of (E1 dU) (fun a => Zi a) dB
theorem JcH : PureOk Tryz.prog 72 Jas := by
 refine xF mixed [] [] trivial trivial Tryz.func72 ?_
 rintro a0 out H
 have G := True.intro
 have Y := Tryz.results72
 simp only [Zi] at H
 refine xS ?_
 refine xr0 ?_
 refine then_normal ?_
 refine w_cut Jaz (fun s => [(2, .c (.d (.v (.bool s))))]) (fun s => []) [] out ?_ ?_
 ·rcases bsplit H with ⟨hp1, H⟩ | ⟨hp1, H⟩
  ·obtain ⟨F, G, hq1⟩ := xH Y G hp1
   refine xR ?_
   exact cut_at H (xK ⟨[], []⟩)
  ·obtain ⟨F, G, hq1⟩ := xH Y G hp1
   refine xR ?_
   exact cut_at H (xK ⟨[], []⟩)
 ·rintro x1 H
  rw [Jaz] at H
  replace H := Option.some.inj H
  refine xS ?_
  subst H
  exact xN
theorem Jcb (a0 : UInt8) (r : Bool) (H : Zi a0 = some r) : PC Jas [dU a0] (dB r) := PF.c (a := a0) H
noncomputable def V2 : Bool → Option Bool
 | x1 => some x1
noncomputable def Xf (a0 : UInt8) : Option Bool :=
 (Zd a0).bind fun r1 => if r1 = true then V2 true else (Zi a0).bind fun r2 => V2 r2
noncomputable def Jau : PF := PF.of (E1 dU) (fun a => Xf a) dB
theorem JdT : PureOk Tryz.prog 71 Jau := by
 refine xF mixed [(70, Jac), (72, Jas)] [] ⟨⟨call_70, Jcl⟩, ⟨call_72, JcH⟩, trivial⟩ trivial Tryz.func71 ?_
 rintro a0 out H
 have G := True.intro
 have Y := Tryz.results71
 simp only [Xf] at H
 refine xS ?_
 refine xr0 ?_
 refine then_normal ?_
 refine w_cut V2 (fun s => [(2, .c (.d (.v (.bool s))))]) (fun s => []) [] out ?_ ?_
 ·obtain ⟨r1, hr1, H⟩ := osplit H
  have F := xC Y (Jcx a0 r1 hr1)
  rcases bsplit H with ⟨hp1, H⟩ | ⟨hp1, H⟩
  ·obtain ⟨F, G, hq1⟩ := xH F G hp1
   refine xR ?_
   exact cut_at H (xK ⟨[], []⟩)
  ·obtain ⟨F, G, hq1⟩ := xH F G hp1
   obtain ⟨r2, hr2, H⟩ := osplit H
   have F := xCf F (Jcb a0 r2 hr2)
   refine xR ?_
   exact cut_at H (xK ⟨[], []⟩)
 ·rintro x1 H
  rw [V2] at H
  replace H := Option.some.inj H
  refine xS ?_
  subst H
  exact xN
theorem Jem (a0 : UInt8) (r : Bool) (H : Xf a0 = some r) : PC Jau [dU a0] (dB r) := PF.c (a := a0) H
noncomputable def KU (x1 : Int) : Bool → Option (Int ⊕ Int)
 | x2 => if x2 = true then some (.inl (IntKind.i64.wrap (x1 + 1))) else inrO (some x1)
noncomputable def Xc (a1 : List UInt8) : Int → Option (Int ⊕ Int)
 | x1 => if (ltI x1 (a1.length : Int)) = true then if (0 : Int) ≤ x1 ∧ x1.toNat < a1.length then (Xf (a1.getD x1.toNat 0)).bind fun r1 => KU x1 r1 else none else KU x1 false
noncomputable def KX (a0 : Int) (a1 : List UInt8) (a2 : List Int) (a3 : List UInt8) (a4 : Int) (a5 : Int) (a6 : List Token) : Option Int :=
 loopO (Xc a1) a0
def Vn (a0 : Int) (a1 : List UInt8) (a2 : List Int) (a3 : List UInt8) (a4 : Int) (a5 : Int) (a6 : List Token) (r : Int) : GI :=
 ⟨[.c (.pt 1 0), .c (.d (.v (.int .i64 a0))), .c (.d (.v (.func (.func 71) #[] #[])))], [[.d (.v (str a1)), .d (.sl 1 (List.map dI a2)), .d (.v (str a3)), .d (.v (.int .i64 a4)), .d (.v (.int .i64 a5)), .sl 11 (List.map d_Token a6) 2]], [44], .ret (.c (.d (.v (.int .i64 r)))) [[.d (.v (str a1)), .d (.sl 1 (List.map dI a2)), .d (.v (str a3)), .d (.v (.int .i64 a4)), .d (.v (.int .i64 a5)), .sl 11 (List.map d_Token a6) 2]] [44]⟩
def Vr : GI → Prop := fun g => ∃ (a0 : Int) (a1 : List UInt8) (a2 : List Int) (a3 : List UInt8) (a4 : Int) (a5 : Int) (a6 : List Token) (r : Int), KX a0 a1 a2 a3 a4 a5 a6 = some r ∧ g = Vn a0 a1 a2 a3 a4 a5 a6 r
theorem Jdx (a0 : Int) (a1 : List UInt8) (a2 : List Int) (a3 : List UInt8) (a4 : Int) (a5 : Int) (a6 : List Token) (r : Int) (H : KX a0 a1 a2 a3 a4 a5 a6 = some r) : Vr (Vn a0 a1 a2 a3 a4 a5 a6 r) := ⟨a0, a1, a2, a3, a4, a5, a6, r, H, rfl⟩
theorem Jdl : ∀ g, Vr g → GenOk Tryz.prog 68 g := by
 rintro _ ⟨a0, a1, a2, a3, a4, a5, a6, r, H, rfl⟩
 refine xGn mixed [(71, Jau)] [] [] ⟨⟨call_71, JdT⟩, trivial⟩ trivial trivial Tryz.func68 _ ?_
 have G := True.intro
 have Y := xZ y_9 <| xZ y_70 <| xZ y_99 <| xZ Tryz.results68 <| xZ d_Call.eq_1 <| xZ d_Token.eq_1 <| xZ d_Spliced.eq_1 <| Vn.eq_1
 dsimp only [Vn]
 simp only [KX] at H
 refine xS ?_
 refine xr ?_
 refine w_loop (Xc a1) (fun s => [(0, .c (.pt 1 0)), (1, .c (.d (.v (.int .i64 s)))), (2, .c (.d (.v (.func (.func 71) #[] #[]))))]) (fun s => [[.d (.v (str a1)), .d (.sl 1 (List.map dI a2)), .d (.v (str a3)), .d (.v (.int .i64 a4)), .d (.v (.int .i64 a5)), .sl 11 (List.map d_Token a6) 2]]) [44] H (xK ⟨[1], [2]⟩) ?_
 rintro n1 x1 o1 H hF1
 rw [Xc] at H
 refine w_seq ?_
 refine w_cut (KU x1) (fun s => [(0, .c (.pt 1 0)), (1, .c (.d (.v (.int .i64 x1)))), (2, .c (.d (.v (.func (.func 71) #[] #[])))), (25, .c (.d (.v (.bool s))))]) (fun s => [[.d (.v (str a1)), .d (.sl 1 (List.map dI a2)), .d (.v (str a3)), .d (.v (.int .i64 a4)), .d (.v (.int .i64 a5)), .sl 11 (List.map d_Token a6) 2]]) [44] o1 ?_ ?_
 ·rcases bsplit H with ⟨hp2, H⟩ | ⟨hp2, H⟩
  ·obtain ⟨F, G, hq2⟩ := xH Y G hp2
   obtain ⟨hg1, H⟩ := gsplit H
   obtain ⟨r1, hr1, H⟩ := osplit H
   have F := xCf F (Jem (a1.getD x1.toNat 0) r1 hr1)
   refine xR ?_
   exact cut_at H (xK ⟨[1], [2]⟩)
  ·obtain ⟨F, G, hq2⟩ := xH Y G hp2
   refine xR ?_
   exact cut_at H (xK ⟨[1], [2]⟩)
 ·rintro x2 H
  rw [KU] at H
  rcases bsplit H with ⟨hp1, H⟩ | ⟨hp1, H⟩
  ·obtain ⟨F, G, hq1⟩ := xH Y G hp1
   refine xT ?_
   refine xr ?_
   exact round_at (inl_fin H hF1) (xK ⟨[1], [2]⟩)
  ·obtain ⟨F, G, hq1⟩ := xH Y G hp1
   replace H := inrO_fin H hF1
   refine xE ?_
   replace H := Option.some.inj H
   refine xr ?_
   subst H
   refine xOr ?_
   refine qDf [] ?_
   exact xO ⟨[1], [2]⟩
theorem Jdu : Callable Tryz.prog 68 ∧ (∀ g, Vr g → GenOk Tryz.prog 68 g) ∧ (true = true → ∀ g, Vr g → ∃ val bs ts, g.out = .ret val bs ts) :=
 ⟨call_68, Jdl, fun _ => by rintro _ ⟨_, _, _, _, _, _, _, _, _, rfl⟩; exact ⟨_, _, _, rfl⟩⟩
noncomputable def VE (x1 : Int) : Unit → Option (Int ⊕ Int)
 | () => some (.inl (IntKind.i64.wrap (x1 + 1)))
noncomputable def Kx (x1 : Int) : Bool → Option (Int ⊕ Int)
 | x4 => if x4 = true then inrO (some x1) else VE x1 ()
noncomputable def Ju (x1 : Int) : (UInt8 × Bool) → Option (Int ⊕ Int)
 | (x2, x3) => if x3 = true then VE x1 () else if (!eqI (x2.toNat : Int) 46) = true then (Zd x2).bind fun r1 => if (!r1) = true then (Zi x2).bind fun r2 => Kx x1 (!r2) else Kx x1 false else Kx x1 false
noncomputable def Vz (a0 : List UInt8) (a4 : Int) : Int → Option (Int ⊕ Int)
 | x1 => if (ltI x1 (a0.length : Int)) = true then if (0 : Int) ≤ x1 ∧ x1.toNat < a0.length then if (eqI ((a0.getD x1.toNat 0).toNat : Int) 43) = true then if (ltI a4 x1) = true then if (0 : Int) ≤ (IntKind.i64.wrap (x1 - 1)) ∧ (IntKind.i64.wrap (x1 - 1)).toNat < a0.length then if (eqI ((a0.getD ((IntKind.i64.wrap (x1 - 1)).toNat) 0).toNat : Int) 101) = true then Ju x1 ((a0.getD x1.toNat 0), true) else if (0 : Int) ≤ (IntKind.i64.wrap (x1 - 1)) ∧ (IntKind.i64.wrap (x1 - 1)).toNat < a0.length then Ju x1 ((a0.getD x1.toNat 0), eqI ((a0.getD ((IntKind.i64.wrap (x1 - 1)).toNat) 0).toNat : Int) 69) else none else none else Ju x1 ((a0.getD x1.toNat 0), false) else if (eqI ((a0.getD x1.toNat 0).toNat : Int) 45) = true then if (ltI a4 x1) = true then if (0 : Int) ≤ (IntKind.i64.wrap (x1 - 1)) ∧ (IntKind.i64.wrap (x1 - 1)).toNat < a0.length then if (eqI ((a0.getD ((IntKind.i64.wrap (x1 - 1)).toNat) 0).toNat : Int) 101) = true then Ju x1 ((a0.getD x1.toNat 0), true) else if (0 : Int) ≤ (IntKind.i64.wrap (x1 - 1)) ∧ (IntKind.i64.wrap (x1 - 1)).toNat < a0.length then Ju x1 ((a0.getD x1.toNat 0), eqI ((a0.getD ((IntKind.i64.wrap (x1 - 1)).toNat) 0).toNat : Int) 69) else none else none else Ju x1 ((a0.getD x1.toNat 0), false) else Ju x1 ((a0.getD x1.toNat 0), false) else none else inrO (some x1)
noncomputable def VI (a0 : List UInt8) (a1 : List Int) (a2 : List UInt8) (a3 : Int) (a4 : Int) (a5 : List Token) : Option Int :=
 loopO (Vz a0 a4) a4
def VW (a0 : List UInt8) (a1 : List Int) (a2 : List UInt8) (a3 : Int) (a4 : Int) (a5 : List Token) (r : Int) : GI :=
 ⟨[.c (.pt 1 0)], [[.d (.v (str a0)), .d (.sl 1 (List.map dI a1)), .d (.v (str a2)), .d (.v (.int .i64 a3)), .d (.v (.int .i64 a4)), .sl 11 (List.map d_Token a5) 2]], [44], .ret (.c (.d (.v (.int .i64 r)))) [[.d (.v (str a0)), .d (.sl 1 (List.map dI a1)), .d (.v (str a2)), .d (.v (.int .i64 a3)), .d (.v (.int .i64 a4)), .sl 11 (List.map d_Token a5) 2]] [44]⟩
def V7 : GI → Prop := fun g => ∃ (a0 : List UInt8) (a1 : List Int) (a2 : List UInt8) (a3 : Int) (a4 : Int) (a5 : List Token) (r : Int), VI a0 a1 a2 a3 a4 a5 = some r ∧ g = VW a0 a1 a2 a3 a4 a5 r
theorem Jd0 (a0 : List UInt8) (a1 : List Int) (a2 : List UInt8) (a3 : Int) (a4 : Int) (a5 : List Token) (r : Int) (H : VI a0 a1 a2 a3 a4 a5 = some r) : V7 (VW a0 a1 a2 a3 a4 a5 r) := ⟨a0, a1, a2, a3, a4, a5, r, H, rfl⟩
theorem JdJ : ∀ g, V7 g → GenOk Tryz.prog 73 g := by
 rintro _ ⟨a0, a1, a2, a3, a4, a5, r, H, rfl⟩
 refine xGn mixed [(70, Jac), (72, Jas)] [] [] ⟨⟨call_70, Jcl⟩, ⟨call_72, JcH⟩, trivial⟩ trivial trivial Tryz.func73 _ ?_
 have G := True.intro
 have Y := xZ y_3 <| xZ y_9 <| xZ y_70 <| xZ y_99 <| xZ Tryz.results73 <| xZ d_Call.eq_1 <| xZ d_Token.eq_1 <| xZ d_Spliced.eq_1 <| VW.eq_1
 dsimp only [VW]
 simp only [VI] at H
 refine xS ?_
 refine xr ?_
 refine xr ?_
 refine xr ?_
 refine w_loop (Vz a0 a4) (fun s => [(0, .c (.pt 1 0)), (3, .c (.d (.v (str a0)))), (4, .c (.d (.v (.int .i64 s))))]) (fun s => [[.d (.v (str a0)), .d (.sl 1 (List.map dI a1)), .d (.v (str a2)), .d (.v (.int .i64 a3)), .d (.v (.int .i64 a4)), .sl 11 (List.map d_Token a5) 2]]) [44] H (xK ⟨[1], [2]⟩) ?_
 rintro n1 x1 o1 H hF1
 rw [Vz] at H
 refine xS ?_
 refine xr ?_
 rcases bsplit H with ⟨hp1, H⟩ | ⟨hp1, H⟩
 ·obtain ⟨F, G, hq1⟩ := xH Y G hp1
  refine xT0 ?_
  refine w_skip ?_
  refine then_normal ?_
  refine w_block ?_
  refine w_cut (VE x1) (fun s => [(0, .c (.pt 1 0)), (3, .c (.d (.v (str a0)))), (4, .c (.d (.v (.int .i64 x1))))]) (fun s => [[.d (.v (str a0)), .d (.sl 1 (List.map dI a1)), .d (.v (str a2)), .d (.v (.int .i64 a3)), .d (.v (.int .i64 a4)), .sl 11 (List.map d_Token a5) 2]]) [44] o1 ?_ ?_
  ·refine xS ?_
   obtain ⟨hg1, H⟩ := gsplit H
   refine xr0 ?_
   refine then_normal ?_
   refine w_block ?_
   refine w_cut (Ju x1) (fun s => [(0, .c (.pt 1 0)), (3, .c (.d (.v (str a0)))), (4, .c (.d (.v (.int .i64 x1)))), (5, .c (.d (.v (.int .u8 (s.1.toNat : Int))))), (22, .c (.d (.v (.bool s.2))))]) (fun s => [[.d (.v (str a0)), .d (.sl 1 (List.map dI a1)), .d (.v (str a2)), .d (.v (.int .i64 a3)), .d (.v (.int .i64 a4)), .sl 11 (List.map d_Token a5) 2]]) [44] o1 ?_ ?_
   ·rcases bsplit H with ⟨hp6, H⟩ | ⟨hp6, H⟩
    ·obtain ⟨F, G, hq6⟩ := xH Y G hp6
     rcases bsplit H with ⟨hp7, H⟩ | ⟨hp7, H⟩
     ·obtain ⟨F, G, hq7⟩ := xH F G hp7
      obtain ⟨hg2, H⟩ := gsplit H
      rcases bsplit H with ⟨hp8, H⟩ | ⟨hp8, H⟩
      ·obtain ⟨F, G, hq8⟩ := xH F G hp8
       refine xR ?_
       exact cut_at H (xK ⟨[1], [2]⟩)
      ·obtain ⟨F, G, hq8⟩ := xH F G hp8
       obtain ⟨hg3, H⟩ := gsplit H
       refine xR ?_
       exact cut_at H (xK ⟨[1], [2]⟩)
     ·obtain ⟨F, G, hq7⟩ := xH F G hp7
      refine xR ?_
      exact cut_at H (xK ⟨[1], [2]⟩)
    ·obtain ⟨F, G, hq6⟩ := xH Y G hp6
     rcases bsplit H with ⟨hp9, H⟩ | ⟨hp9, H⟩
     ·obtain ⟨F, G, hq9⟩ := xH F G hp9
      rcases bsplit H with ⟨hp10, H⟩ | ⟨hp10, H⟩
      ·obtain ⟨F, G, hq10⟩ := xH F G hp10
       obtain ⟨hg4, H⟩ := gsplit H
       rcases bsplit H with ⟨hp11, H⟩ | ⟨hp11, H⟩
       ·obtain ⟨F, G, hq11⟩ := xH F G hp11
        refine xR ?_
        exact cut_at H (xK ⟨[1], [2]⟩)
       ·obtain ⟨F, G, hq11⟩ := xH F G hp11
        obtain ⟨hg5, H⟩ := gsplit H
        refine xR ?_
        exact cut_at H (xK ⟨[1], [2]⟩)
      ·obtain ⟨F, G, hq10⟩ := xH F G hp10
       refine xR ?_
       exact cut_at H (xK ⟨[1], [2]⟩)
     ·obtain ⟨F, G, hq9⟩ := xH F G hp9
      refine xR ?_
      exact cut_at H (xK ⟨[1], [2]⟩)
   ·rintro ⟨x2, x3⟩ H
    rw [Ju] at H
    rcases bsplit H with ⟨hp2, H⟩ | ⟨hp2, H⟩
    ·obtain ⟨F, G, hq2⟩ := xH Y G hp2
     refine xT ?_
     exact cut_at H (xK ⟨[1], [2]⟩)
    ·obtain ⟨F, G, hq2⟩ := xH Y G hp2
     refine xE0 ?_
     refine w_cut (Kx x1) (fun s => [(0, .c (.pt 1 0)), (3, .c (.d (.v (str a0)))), (4, .c (.d (.v (.int .i64 x1)))), (51, .c (.d (.v (.bool s))))]) (fun s => [[.d (.v (str a0)), .d (.sl 1 (List.map dI a1)), .d (.v (str a2)), .d (.v (.int .i64 a3)), .d (.v (.int .i64 a4)), .sl 11 (List.map d_Token a5) 2]]) [44] o1 ?_ ?_
     ·rcases bsplit H with ⟨hp4, H⟩ | ⟨hp4, H⟩
      ·obtain ⟨F, G, hq4⟩ := xH Y G hp4
       obtain ⟨r1, hr1, H⟩ := osplit H
       have F := xCf F (Jcx x2 r1 hr1)
       rcases bsplit H with ⟨hp5, H⟩ | ⟨hp5, H⟩
       ·obtain ⟨F, G, hq5⟩ := xH F G hp5
        obtain ⟨r2, hr2, H⟩ := osplit H
        have F := xCf F (Jcb x2 r2 hr2)
        refine xR ?_
        exact cut_at H (xK ⟨[1], [2]⟩)
       ·obtain ⟨F, G, hq5⟩ := xH F G hp5
        refine xR ?_
        exact cut_at H (xK ⟨[1], [2]⟩)
      ·obtain ⟨F, G, hq4⟩ := xH Y G hp4
       refine xR ?_
       exact cut_at H (xK ⟨[1], [2]⟩)
     ·rintro x4 H
      rw [Kx] at H
      rcases bsplit H with ⟨hp3, H⟩ | ⟨hp3, H⟩
      ·obtain ⟨F, G, hq3⟩ := xH Y G hp3
       refine xT ?_
       replace H := inrO_fin H hF1
       replace H := Option.some.inj H
       refine xr ?_
       subst H
       refine xOr ?_
       refine qDf [] ?_
       exact xO ⟨[1], [2]⟩
      ·obtain ⟨F, G, hq3⟩ := xH Y G hp3
       refine xE ?_
       exact cut_at H (xK ⟨[1], [2]⟩)
  ·rintro ⟨⟩ H
   rw [VE] at H
   refine xr ?_
   exact round_at (inl_fin H hF1) (xK ⟨[1], [2]⟩)
 ·obtain ⟨F, G, hq1⟩ := xH Y G hp1
  replace H := inrO_fin H hF1
  refine xE ?_
  replace H := Option.some.inj H
  refine xr ?_
  subst H
  refine xOr ?_
  refine qDf [] ?_
  exact xO ⟨[1], [2]⟩
theorem Jd3 : Callable Tryz.prog 73 ∧ (∀ g, V7 g → GenOk Tryz.prog 73 g) ∧ (true = true → ∀ g, V7 g → ∃ val bs ts, g.out = .ret val bs ts) :=
 ⟨call_73, JdJ, fun _ => by rintro _ ⟨_, _, _, _, _, _, _, _, rfl⟩; exact ⟨_, _, _, rfl⟩⟩
noncomputable def Kw : (UInt8 × Int) → Option ((UInt8 × Int) ⊕ Int)
 | (x5, x6) => some (.inl (x5, IntKind.i64.wrap (x6 + 1)))
noncomputable def VB (x2 : Int) : (UInt8 × Bool) → Option ((UInt8 × Int) ⊕ Int)
 | (x7, x8) => if x8 = true then Kw (x7, IntKind.i64.wrap (x2 + 1)) else Kw (x7, x2)
noncomputable def Vx (a1 : List UInt8) (x2 : Int) : (UInt8 × Bool) → Option ((UInt8 × Int) ⊕ Int)
 | (x3, x4) => if x4 = true then if (0 : Int) ≤ x2 ∧ x2.toNat < a1.length then if (eqI ((a1.getD x2.toNat 0).toNat : Int) (x3.toNat : Int)) = true then inrO (some (IntKind.i64.wrap (x2 + 1))) else if (eqI ((a1.getD x2.toNat 0).toNat : Int) 92) = true then if (ltI (IntKind.i64.wrap (x2 + 1)) (a1.length : Int)) = true then if (0 : Int) ≤ (IntKind.i64.wrap (x2 + 1)) ∧ (IntKind.i64.wrap (x2 + 1)).toNat < a1.length then VB x2 (x3, !eqI ((a1.getD ((IntKind.i64.wrap (x2 + 1)).toNat) 0).toNat : Int) 10) else none else VB x2 (x3, false) else Kw (x3, x2) else none else inrO (some (-1))
noncomputable def VA (a1 : List UInt8) : (UInt8 × Int) → Option ((UInt8 × Int) ⊕ Int)
 | (x1, x2) => if (ltI x2 (a1.length : Int)) = true then if (0 : Int) ≤ x2 ∧ x2.toNat < a1.length then Vx a1 x2 (x1, !eqI ((a1.getD x2.toNat 0).toNat : Int) 10) else none else Vx a1 x2 (x1, false)
noncomputable def KL (a0 : UInt8) (a1 : List UInt8) (a2 : List Int) (a3 : List UInt8) (a4 : Int) (a5 : Int) (a6 : List Token) : Option Int :=
 loopO (VA a1) (a0, IntKind.i64.wrap (a5 + 1))
def VS (a0 : UInt8) (a1 : List UInt8) (a2 : List Int) (a3 : List UInt8) (a4 : Int) (a5 : Int) (a6 : List Token) (r : Int) : GI :=
 ⟨[.c (.pt 1 0), .c (.d (.v (.int .u8 (a0.toNat : Int))))], [[.d (.v (str a1)), .d (.sl 1 (List.map dI a2)), .d (.v (str a3)), .d (.v (.int .i64 a4)), .d (.v (.int .i64 a5)), .sl 11 (List.map d_Token a6) 2]], [44], .ret (.c (.d (.v (.int .i64 r)))) [[.d (.v (str a1)), .d (.sl 1 (List.map dI a2)), .d (.v (str a3)), .d (.v (.int .i64 a4)), .d (.v (.int .i64 a5)), .sl 11 (List.map d_Token a6) 2]] [44]⟩
def V1 : GI → Prop := fun g => ∃ (a0 : UInt8) (a1 : List UInt8) (a2 : List Int) (a3 : List UInt8) (a4 : Int) (a5 : Int) (a6 : List Token) (r : Int), KL a0 a1 a2 a3 a4 a5 a6 = some r ∧ g = VS a0 a1 a2 a3 a4 a5 a6 r
theorem Jcf (a0 : UInt8) (a1 : List UInt8) (a2 : List Int) (a3 : List UInt8) (a4 : Int) (a5 : Int) (a6 : List Token) (r : Int) (H : KL a0 a1 a2 a3 a4 a5 a6 = some r) : V1 (VS a0 a1 a2 a3 a4 a5 a6 r) := ⟨a0, a1, a2, a3, a4, a5, a6, r, H, rfl⟩
theorem JdO : ∀ g, V1 g → GenOk Tryz.prog 74 g := by
 rintro _ ⟨a0, a1, a2, a3, a4, a5, a6, r, H, rfl⟩
 refine xGn mixed [] [] [] trivial trivial trivial Tryz.func74 _ ?_
 have G := True.intro
 have Y := xZ y_3 <| xZ y_9 <| xZ y_70 <| xZ y_99 <| xZ Tryz.results74 <| xZ d_Call.eq_1 <| xZ d_Token.eq_1 <| xZ d_Spliced.eq_1 <| VS.eq_1
 dsimp only [VS]
 simp only [KL] at H
 refine xS ?_
 refine xr ?_
 refine xr ?_
 refine xr ?_
 refine w_loop (VA a1) (fun s => [(1, .c (.d (.v (.int .u8 (s.1.toNat : Int))))), (5, .c (.d (.v (str a1)))), (6, .c (.d (.v (.int .i64 s.2))))]) (fun s => [[.d (.v (str a1)), .d (.sl 1 (List.map dI a2)), .d (.v (str a3)), .d (.v (.int .i64 a4)), .d (.v (.int .i64 a5)), .sl 11 (List.map d_Token a6) 2]]) [44] H (xK ⟨[1], [2]⟩) ?_
 rintro n1 ⟨x1, x2⟩ o1 H hF1
 rw [VA] at H
 refine w_seq ?_
 refine w_cut (Vx a1 x2) (fun s => [(1, .c (.d (.v (.int .u8 (s.1.toNat : Int))))), (5, .c (.d (.v (str a1)))), (6, .c (.d (.v (.int .i64 x2)))), (26, .c (.d (.v (.bool s.2))))]) (fun s => [[.d (.v (str a1)), .d (.sl 1 (List.map dI a2)), .d (.v (str a3)), .d (.v (.int .i64 a4)), .d (.v (.int .i64 a5)), .sl 11 (List.map d_Token a6) 2]]) [44] o1 ?_ ?_
 ·rcases bsplit H with ⟨hp6, H⟩ | ⟨hp6, H⟩
  ·obtain ⟨F, G, hq6⟩ := xH Y G hp6
   obtain ⟨hg3, H⟩ := gsplit H
   refine xR ?_
   exact cut_at H (xK ⟨[1], [2]⟩)
  ·obtain ⟨F, G, hq6⟩ := xH Y G hp6
   refine xR ?_
   exact cut_at H (xK ⟨[1], [2]⟩)
 ·rintro ⟨x3, x4⟩ H
  rw [Vx] at H
  rcases bsplit H with ⟨hp1, H⟩ | ⟨hp1, H⟩
  ·obtain ⟨F, G, hq1⟩ := xH Y G hp1
   refine xT0 ?_
   refine w_skip ?_
   refine then_normal ?_
   refine w_cut Kw (fun s => [(1, .c (.d (.v (.int .u8 (s.1.toNat : Int))))), (5, .c (.d (.v (str a1)))), (6, .c (.d (.v (.int .i64 s.2))))]) (fun s => [[.d (.v (str a1)), .d (.sl 1 (List.map dI a2)), .d (.v (str a3)), .d (.v (.int .i64 a4)), .d (.v (.int .i64 a5)), .sl 11 (List.map d_Token a6) 2]]) [44] o1 ?_ ?_
   ·refine xS ?_
    obtain ⟨hg1, H⟩ := gsplit H
    refine xr ?_
    refine xr ?_
    rcases bsplit H with ⟨hp2, H⟩ | ⟨hp2, H⟩
    ·obtain ⟨F, G, hq2⟩ := xH Y G hp2
     refine xT ?_
     replace H := inrO_fin H hF1
     replace H := Option.some.inj H
     refine xr ?_
     subst H
     refine xOr ?_
     refine qDf [] ?_
     exact xO ⟨[1], [2]⟩
    ·obtain ⟨F, G, hq2⟩ := xH Y G hp2
     refine xE ?_
     refine xr ?_
     rcases bsplit H with ⟨hp3, H⟩ | ⟨hp3, H⟩
     ·obtain ⟨F, G, hq3⟩ := xH Y G hp3
      refine xT0 ?_
      refine w_cut (VB x2) (fun s => [(1, .c (.d (.v (.int .u8 (s.1.toNat : Int))))), (5, .c (.d (.v (str a1)))), (6, .c (.d (.v (.int .i64 x2)))), (50, .c (.d (.v (.bool s.2))))]) (fun s => [[.d (.v (str a1)), .d (.sl 1 (List.map dI a2)), .d (.v (str a3)), .d (.v (.int .i64 a4)), .d (.v (.int .i64 a5)), .sl 11 (List.map d_Token a6) 2]]) [44] o1 ?_ ?_
      ·rcases bsplit H with ⟨hp5, H⟩ | ⟨hp5, H⟩
       ·obtain ⟨F, G, hq5⟩ := xH Y G hp5
        obtain ⟨hg2, H⟩ := gsplit H
        refine xR ?_
        exact cut_at H (xK ⟨[1], [2]⟩)
       ·obtain ⟨F, G, hq5⟩ := xH Y G hp5
        refine xR ?_
        exact cut_at H (xK ⟨[1], [2]⟩)
      ·rintro ⟨x7, x8⟩ H
       rw [VB] at H
       rcases bsplit H with ⟨hp4, H⟩ | ⟨hp4, H⟩
       ·obtain ⟨F, G, hq4⟩ := xH Y G hp4
        refine xT ?_
        refine xr ?_
        exact cut_at H (xK ⟨[1], [2]⟩)
       ·obtain ⟨F, G, hq4⟩ := xH Y G hp4
        refine xE ?_
        exact cut_at H (xK ⟨[1], [2]⟩)
     ·obtain ⟨F, G, hq3⟩ := xH Y G hp3
      refine xE ?_
      exact cut_at H (xK ⟨[1], [2]⟩)
   ·rintro ⟨x5, x6⟩ H
    rw [Kw] at H
    refine xr ?_
    exact round_at (inl_fin H hF1) (xK ⟨[1], [2]⟩)
  ·obtain ⟨F, G, hq1⟩ := xH Y G hp1
   replace H := inrO_fin H hF1
   refine xE ?_
   replace H := Option.some.inj H
   refine xr ?_
   subst H
   refine xOr ?_
   refine qDf [] ?_
   exact xO ⟨[1], [2]⟩
theorem JdY : Callable Tryz.prog 74 ∧ (∀ g, V1 g → GenOk Tryz.prog 74 g) ∧ (true = true → ∀ g, V1 g → ∃ val bs ts, g.out = .ret val bs ts) :=
 ⟨call_74, JdO, fun _ => by rintro _ ⟨_, _, _, _, _, _, _, _, _, rfl⟩; exact ⟨_, _, _, rfl⟩⟩
noncomputable def Vy : Bool → Option Bool
 | x1 => some x1
noncomputable def XW (a0 : UInt8) : Option Bool :=
 if (!eqI (a0.toNat : Int) 62) = true then Vy (!eqI (a0.toNat : Int) 10) else Vy false
noncomputable def Jaj : PF := PF.of (E1 dU) (fun a => XW a) dB
theorem JdP : PureOk Tryz.prog 100 Jaj := by
 refine xF mixed [] [] trivial trivial Tryz.func100 ?_
 rintro a0 out H
 have G := True.intro
 have Y := Tryz.results100
 simp only [XW] at H
 refine xS ?_
 refine xr0 ?_
 refine then_normal ?_
 refine w_cut Vy (fun s => [(2, .c (.d (.v (.bool s))))]) (fun s => []) [] out ?_ ?_
 ·rcases bsplit H with ⟨hp1, H⟩ | ⟨hp1, H⟩
  ·obtain ⟨F, G, hq1⟩ := xH Y G hp1
   refine xR ?_
   exact cut_at H (xK ⟨[], []⟩)
  ·obtain ⟨F, G, hq1⟩ := xH Y G hp1
   refine xR ?_
   exact cut_at H (xK ⟨[], []⟩)
 ·rintro x1 H
  rw [Vy] at H
  replace H := Option.some.inj H
  refine xS ?_
  subst H
  exact xN
theorem Jd2 (a0 : UInt8) (r : Bool) (H : XW a0 = some r) : PC Jaj [dU a0] (dB r) := PF.c (a := a0) H
noncomputable def K0 (x1 : Int) : Bool → Option (Int ⊕ Int)
 | x2 => if x2 = true then some (.inl (IntKind.i64.wrap (x1 + 1))) else inrO (some x1)
noncomputable def V8 (a1 : List UInt8) : Int → Option (Int ⊕ Int)
 | x1 => if (ltI x1 (a1.length : Int)) = true then if (0 : Int) ≤ x1 ∧ x1.toNat < a1.length then (XW (a1.getD x1.toNat 0)).bind fun r1 => K0 x1 r1 else none else K0 x1 false
noncomputable def K3 (a0 : Int) (a1 : List UInt8) (a2 : List Int) (a3 : List UInt8) (a4 : Int) (a5 : Int) (a6 : List Token) : Option Int :=
 loopO (V8 a1) a0
def Vp (a0 : Int) (a1 : List UInt8) (a2 : List Int) (a3 : List UInt8) (a4 : Int) (a5 : Int) (a6 : List Token) (r : Int) : GI :=
 ⟨[.c (.pt 1 0), .c (.d (.v (.int .i64 a0))), .c (.d (.v (.func (.func 100) #[] #[])))], [[.d (.v (str a1)), .d (.sl 1 (List.map dI a2)), .d (.v (str a3)), .d (.v (.int .i64 a4)), .d (.v (.int .i64 a5)), .sl 11 (List.map d_Token a6) 2]], [44], .ret (.c (.d (.v (.int .i64 r)))) [[.d (.v (str a1)), .d (.sl 1 (List.map dI a2)), .d (.v (str a3)), .d (.v (.int .i64 a4)), .d (.v (.int .i64 a5)), .sl 11 (List.map d_Token a6) 2]] [44]⟩
def Vm : GI → Prop := fun g => ∃ (a0 : Int) (a1 : List UInt8) (a2 : List Int) (a3 : List UInt8) (a4 : Int) (a5 : Int) (a6 : List Token) (r : Int), K3 a0 a1 a2 a3 a4 a5 a6 = some r ∧ g = Vp a0 a1 a2 a3 a4 a5 a6 r
theorem Jdw (a0 : Int) (a1 : List UInt8) (a2 : List Int) (a3 : List UInt8) (a4 : Int) (a5 : Int) (a6 : List Token) (r : Int) (H : K3 a0 a1 a2 a3 a4 a5 a6 = some r) : Vm (Vp a0 a1 a2 a3 a4 a5 a6 r) := ⟨a0, a1, a2, a3, a4, a5, a6, r, H, rfl⟩
theorem Jdj : ∀ g, Vm g → GenOk Tryz.prog 68 g := by
 rintro _ ⟨a0, a1, a2, a3, a4, a5, a6, r, H, rfl⟩
 refine xGn mixed [(100, Jaj)] [] [] ⟨⟨call_100, JdP⟩, trivial⟩ trivial trivial Tryz.func68 _ ?_
 have G := True.intro
 have Y := xZ y_9 <| xZ y_70 <| xZ y_99 <| xZ Tryz.results68 <| xZ d_Call.eq_1 <| xZ d_Token.eq_1 <| xZ d_Spliced.eq_1 <| Vp.eq_1
 dsimp only [Vp]
 simp only [K3] at H
 refine xS ?_
 refine xr ?_
 refine w_loop (V8 a1) (fun s => [(0, .c (.pt 1 0)), (1, .c (.d (.v (.int .i64 s)))), (2, .c (.d (.v (.func (.func 100) #[] #[]))))]) (fun s => [[.d (.v (str a1)), .d (.sl 1 (List.map dI a2)), .d (.v (str a3)), .d (.v (.int .i64 a4)), .d (.v (.int .i64 a5)), .sl 11 (List.map d_Token a6) 2]]) [44] H (xK ⟨[1], [2]⟩) ?_
 rintro n1 x1 o1 H hF1
 rw [V8] at H
 refine w_seq ?_
 refine w_cut (K0 x1) (fun s => [(0, .c (.pt 1 0)), (1, .c (.d (.v (.int .i64 x1)))), (2, .c (.d (.v (.func (.func 100) #[] #[])))), (25, .c (.d (.v (.bool s))))]) (fun s => [[.d (.v (str a1)), .d (.sl 1 (List.map dI a2)), .d (.v (str a3)), .d (.v (.int .i64 a4)), .d (.v (.int .i64 a5)), .sl 11 (List.map d_Token a6) 2]]) [44] o1 ?_ ?_
 ·rcases bsplit H with ⟨hp2, H⟩ | ⟨hp2, H⟩
  ·obtain ⟨F, G, hq2⟩ := xH Y G hp2
   obtain ⟨hg1, H⟩ := gsplit H
   obtain ⟨r1, hr1, H⟩ := osplit H
   have F := xCf F (Jd2 (a1.getD x1.toNat 0) r1 hr1)
   refine xR ?_
   exact cut_at H (xK ⟨[1], [2]⟩)
  ·obtain ⟨F, G, hq2⟩ := xH Y G hp2
   refine xR ?_
   exact cut_at H (xK ⟨[1], [2]⟩)
 ·rintro x2 H
  rw [K0] at H
  rcases bsplit H with ⟨hp1, H⟩ | ⟨hp1, H⟩
  ·obtain ⟨F, G, hq1⟩ := xH Y G hp1
   refine xT ?_
   refine xr ?_
   exact round_at (inl_fin H hF1) (xK ⟨[1], [2]⟩)
  ·obtain ⟨F, G, hq1⟩ := xH Y G hp1
   replace H := inrO_fin H hF1
   refine xE ?_
   replace H := Option.some.inj H
   refine xr ?_
   subst H
   refine xOr ?_
   refine qDf [] ?_
   exact xO ⟨[1], [2]⟩
theorem Jdy : Callable Tryz.prog 68 ∧ (∀ g, Vm g → GenOk Tryz.prog 68 g) ∧ (true = true → ∀ g, Vm g → ∃ val bs ts, g.out = .ret val bs ts) :=
 ⟨call_68, Jdj, fun _ => by rintro _ ⟨_, _, _, _, _, _, _, _, _, rfl⟩; exact ⟨_, _, _, rfl⟩⟩
noncomputable def Xo (r1 : Int) : Bool → Option Int
 | x2 => if x2 = true then some (IntKind.i64.wrap (r1 + 1)) else some (-1)
noncomputable def Jr (a0 : List UInt8) (a1 : List Int) (a2 : List UInt8) (a3 : Int) (a4 : Int) (a5 : List Token) : Bool → Option Int
 | x1 => if x1 = true then some (-1) else (K3 (IntKind.i64.wrap (a4 + 1)) a0 a1 a2 a3 a4 a5).bind fun r1 => if (ltI r1 (a0.length : Int)) = true then if (0 : Int) ≤ r1 ∧ r1.toNat < a0.length then Xo r1 (eqI ((a0.getD r1.toNat 0).toNat : Int) 62) else none else Xo r1 false
noncomputable def VG (a0 : List UInt8) (a1 : List Int) (a2 : List UInt8) (a3 : Int) (a4 : Int) (a5 : List Token) : Option Int :=
 if (ltI (a5.length : Int) 2) = true then Jr a0 a1 a2 a3 a4 a5 true else if (0 : Int) ≤ (IntKind.i64.wrap ((a5.length : Int) - 1)) ∧ (IntKind.i64.wrap ((a5.length : Int) - 1)).toNat < a5.length then if (!eqS ((a5.getD ((IntKind.i64.wrap ((a5.length : Int) - 1)).toNat) default).Text) [105, 110, 99, 108, 117, 100, 101]) = true then Jr a0 a1 a2 a3 a4 a5 true else if (0 : Int) ≤ (IntKind.i64.wrap ((a5.length : Int) - 1)) ∧ (IntKind.i64.wrap ((a5.length : Int) - 1)).toNat < a5.length then if ((a5.getD ((IntKind.i64.wrap ((a5.length : Int) - 1)).toNat) default).First) = true then Jr a0 a1 a2 a3 a4 a5 true else if (0 : Int) ≤ (IntKind.i64.wrap ((a5.length : Int) - 2)) ∧ (IntKind.i64.wrap ((a5.length : Int) - 2)).toNat < a5.length then if (!((a5.getD ((IntKind.i64.wrap ((a5.length : Int) - 2)).toNat) default).First)) = true then Jr a0 a1 a2 a3 a4 a5 true else if (0 : Int) ≤ (IntKind.i64.wrap ((a5.length : Int) - 2)) ∧ (IntKind.i64.wrap ((a5.length : Int) - 2)).toNat < a5.length then Jr a0 a1 a2 a3 a4 a5 (!eqS ((a5.getD ((IntKind.i64.wrap ((a5.length : Int) - 2)).toNat) default).Text) [35]) else none else none else none else none
def XT (a0 : List UInt8) (a1 : List Int) (a2 : List UInt8) (a3 : Int) (a4 : Int) (a5 : List Token) (r : Int) : GI :=
 ⟨[.c (.pt 1 0)], [[.d (.v (str a0)), .d (.sl 1 (List.map dI a1)), .d (.v (str a2)), .d (.v (.int .i64 a3)), .d (.v (.int .i64 a4)), .sl 11 (List.map d_Token a5) 2]], [44], .ret (.c (.d (.v (.int .i64 r)))) [[.d (.v (str a0)), .d (.sl 1 (List.map dI a1)), .d (.v (str a2)), .d (.v (.int .i64 a3)), .d (.v (.int .i64 a4)), .sl 11 (List.map d_Token a5) 2]] [44]⟩
def XQ : GI → Prop := fun g => ∃ (a0 : List UInt8) (a1 : List Int) (a2 : List UInt8) (a3 : Int) (a4 : Int) (a5 : List Token) (r : Int), VG a0 a1 a2 a3 a4 a5 = some r ∧ g = XT a0 a1 a2 a3 a4 a5 r
theorem JcJ (a0 : List UInt8) (a1 : List Int) (a2 : List UInt8) (a3 : Int) (a4 : Int) (a5 : List Token) (r : Int) (H : VG a0 a1 a2 a3 a4 a5 = some r) : XQ (XT a0 a1 a2 a3 a4 a5 r) := ⟨a0, a1, a2, a3, a4, a5, r, H, rfl⟩
theorem Jeh : ∀ g, XQ g → GenOk Tryz.prog 75 g := by
 rintro _ ⟨a0, a1, a2, a3, a4, a5, r, H, rfl⟩
 refine xGn mixed [] [(68, true, Vm)] [] trivial ⟨Jdy, trivial⟩ trivial Tryz.func75 _ ?_
 have G := True.intro
 have Y := xZ y_3 <| xZ y_4 <| xZ y_9 <| xZ y_24 <| xZ y_44 <| xZ y_70 <| xZ y_99 <| xZ Tryz.results75 <| xZ d_Call.eq_1 <| xZ d_Token.eq_1 <| xZ d_Spliced.eq_1 <| xZ Vp.eq_1 <| XT.eq_1
 dsimp only [XT]
 simp only [VG] at H
 refine xS ?_
 refine xr ?_
 refine xr0 ?_
 refine then_normal ?_
 refine w_seq ?_
 refine w_cut (Jr a0 a1 a2 a3 a4 a5) (fun s => [(0, .c (.pt 1 0)), (58, .c (.d (.v (.bool s))))]) (fun s => [[.d (.v (str a0)), .d (.sl 1 (List.map dI a1)), .d (.v (str a2)), .d (.v (.int .i64 a3)), .d (.v (.int .i64 a4)), .sl 11 (List.map d_Token a5) 2]]) [44] r ?_ ?_
 ·rcases bsplit H with ⟨hp4, H⟩ | ⟨hp4, H⟩
  ·obtain ⟨F, G, hq4⟩ := xH Y G hp4
   refine xR ?_
   exact cut_at H (xK ⟨[1], [2]⟩)
  ·obtain ⟨F, G, hq4⟩ := xH Y G hp4
   obtain ⟨hg2, H⟩ := gsplit H
   have F := xZ F (map_getD d_Token a5 ((IntKind.i64.wrap ((a5.length : Int) - 1)).toNat) default default (by omega))
   rcases bsplit H with ⟨hp5, H⟩ | ⟨hp5, H⟩
   ·obtain ⟨F, G, hq5⟩ := xH F G hp5
    refine xR ?_
    exact cut_at H (xK ⟨[1], [2]⟩)
   ·obtain ⟨F, G, hq5⟩ := xH F G hp5
    obtain ⟨hg3, H⟩ := gsplit H
    have F := xZ F (map_getD d_Token a5 ((IntKind.i64.wrap ((a5.length : Int) - 1)).toNat) default default (by omega))
    rcases bsplit H with ⟨hp6, H⟩ | ⟨hp6, H⟩
    ·obtain ⟨F, G, hq6⟩ := xH F G hp6
     refine xR ?_
     exact cut_at H (xK ⟨[1], [2]⟩)
    ·obtain ⟨F, G, hq6⟩ := xH F G hp6
     obtain ⟨hg4, H⟩ := gsplit H
     have F := xZ F (map_getD d_Token a5 ((IntKind.i64.wrap ((a5.length : Int) - 2)).toNat) default default (by omega))
     rcases bsplit H with ⟨hp7, H⟩ | ⟨hp7, H⟩
     ·obtain ⟨F, G, hq7⟩ := xH F G hp7
      refine xR ?_
      exact cut_at H (xK ⟨[1], [2]⟩)
     ·obtain ⟨F, G, hq7⟩ := xH F G hp7
      obtain ⟨hg5, H⟩ := gsplit H
      have F := xZ F (map_getD d_Token a5 ((IntKind.i64.wrap ((a5.length : Int) - 2)).toNat) default default (by omega))
      refine xR ?_
      exact cut_at H (xK ⟨[1], [2]⟩)
 ·rintro x1 H
  rw [Jr] at H
  rcases bsplit H with ⟨hp1, H⟩ | ⟨hp1, H⟩
  ·obtain ⟨F, G, hq1⟩ := xH Y G hp1
   refine xT ?_
   replace H := Option.some.inj H
   refine xr ?_
   subst H
   refine xOr ?_
   refine qDf [] ?_
   exact xO ⟨[1], [2]⟩
  ·obtain ⟨F, G, hq1⟩ := xH Y G hp1
   refine xE ?_
   obtain ⟨r1, hr1, H⟩ := osplit H
   have F := Y
   refine xQ ?_
   refine xs 6 ?_
   refine xc ⟨[1], [2]⟩ (tabG 0 (Jdw (IntKind.i64.wrap (a4 + 1)) a0 a1 a2 a3 a4 a5 r1 hr1)) ?_
   refine xs 1 ?_
   refine xl ?_
   refine  ?_
   refine then_normal ?_
   refine w_seq ?_
   refine w_cut (Xo r1) (fun s => [(4, .c (.d (.v (.int .i64 r1)))), (83, .c (.d (.v (.bool s))))]) (fun s => [[.d (.v (str a0)), .d (.sl 1 (List.map dI a1)), .d (.v (str a2)), .d (.v (.int .i64 a3)), .d (.v (.int .i64 a4)), .sl 11 (List.map d_Token a5) 2]]) [44] r ?_ ?_
   ·rcases bsplit H with ⟨hp3, H⟩ | ⟨hp3, H⟩
    ·obtain ⟨F, G, hq3⟩ := xH Y G hp3
     obtain ⟨hg1, H⟩ := gsplit H
     refine xR ?_
     exact cut_at H (xK ⟨[1], [4]⟩)
    ·obtain ⟨F, G, hq3⟩ := xH Y G hp3
     refine xR ?_
     exact cut_at H (xK ⟨[1], [4]⟩)
   ·rintro x2 H
    rw [Xo] at H
    rcases bsplit H with ⟨hp2, H⟩ | ⟨hp2, H⟩
    ·obtain ⟨F, G, hq2⟩ := xH Y G hp2
     refine xT ?_
     replace H := Option.some.inj H
     refine xr ?_
     subst H
     refine xOr ?_
     refine qDf [] ?_
     exact xO ⟨[1], [2]⟩
    ·obtain ⟨F, G, hq2⟩ := xH Y G hp2
     refine xE ?_
     replace H := Option.some.inj H
     refine xr ?_
     subst H
     refine xOr ?_
     refine qDf [] ?_
     exact xO ⟨[1], [2]⟩
theorem Jeq : Callable Tryz.prog 75 ∧ (∀ g, XQ g → GenOk Tryz.prog 75 g) ∧ (true = true → ∀ g, XQ g → ∃ val bs ts, g.out = .ret val bs ts) :=
 ⟨call_75, Jeh, fun _ => by rintro _ ⟨_, _, _, _, _, _, _, _, rfl⟩; exact ⟨_, _, _, rfl⟩⟩
noncomputable def Jcg  : Option (List (List UInt8)) :=
 some [[46, 46, 46], [60, 60, 61], [62, 62, 61], [45, 62], [43, 43], [45, 45], [60, 60], [62, 62], [60, 61], [62, 61], [61, 61], [33, 61], [38, 38], [124, 124], [43, 61], [45, 61], [42, 61], [47, 61], [37, 61], [38, 61], [124, 61], [94, 61], [35, 35], [91], [93], [40], [41], [123], [125], [46], [38], [42], [43], [45], [126], [33], [47], [37], [60], [62], [94], [124], [63], [58], [59], [61], [44], [35]]
noncomputable def JcI : PF := PF.of E0 (fun _ => Jcg) (dL 1 dS)
theorem JfA : PureOk Tryz.prog 101 JcI := by
 refine xF mixed [] [] trivial trivial Tryz.func101 ?_
 rintro _ out H
 have G := True.intro
 have Y := xZ y_9 <| xZ y_41 <| Tryz.results101
 simp only [Jcg] at H
 refine xS ?_
 refine xr ?_
 replace H := Option.some.inj H
 refine xr ?_
 subst H
 exact xN
theorem JfH  (r : (List (List UInt8))) (H : Jcg  = some r) : PC JcI [] ((dL 1 dS) r) := PF.c (a := ()) H
noncomputable def Xr (a4 : Int) (x1 : Int) (x2 : Int) : ((List UInt8) × Bool) → Option ((Int × Int) ⊕ Int)
 | (x3, x4) => if x4 = true then inrO (some (IntKind.i64.wrap (a4 + (x3.length : Int)))) else some (.inl (x1, IntKind.i64.wrap (x2 + 1)))
noncomputable def Xs (a0 : List UInt8) (a4 : Int) (r1 : (List (List UInt8))) : (Int × Int) → Option ((Int × Int) ⊕ Int)
 | (x1, x2) => if (ltI x2 x1) = true then if (0 : Int) ≤ x2 ∧ x2.toNat < r1.length then if (leI ((r1.getD x2.toNat default).length : Int) (IntKind.i64.wrap ((a0.length : Int) - a4))) = true then if (0 : Int) ≤ a4 ∧ a4 ≤ (IntKind.i64.wrap (a4 + ((r1.getD x2.toNat default).length : Int))) ∧ (IntKind.i64.wrap (a4 + ((r1.getD x2.toNat default).length : Int))) ≤ (a0.length : Int) then Xr a4 x1 x2 ((r1.getD x2.toNat default), eqS (List.take ((IntKind.i64.wrap (a4 + ((r1.getD x2.toNat default).length : Int))).toNat - a4.toNat) (List.drop a4.toNat a0)) (r1.getD x2.toNat default)) else none else Xr a4 x1 x2 ((r1.getD x2.toNat default), false) else none else inrO (some (-1))
noncomputable def VK (a0 : List UInt8) (a1 : List Int) (a2 : List UInt8) (a3 : Int) (a4 : Int) (a5 : List Token) : Option Int :=
 (Jcg).bind fun r1 => loopO (Xs a0 a4 r1) ((r1.length : Int), 0)
def XS (a0 : List UInt8) (a1 : List Int) (a2 : List UInt8) (a3 : Int) (a4 : Int) (a5 : List Token) (r : Int) : GI :=
 ⟨[.c (.pt 1 0)], [[.d (.v (str a0)), .d (.sl 1 (List.map dI a1)), .d (.v (str a2)), .d (.v (.int .i64 a3)), .d (.v (.int .i64 a4)), .sl 11 (List.map d_Token a5) 2]], [44], .ret (.c (.d (.v (.int .i64 r)))) [[.d (.v (str a0)), .d (.sl 1 (List.map dI a1)), .d (.v (str a2)), .d (.v (.int .i64 a3)), .d (.v (.int .i64 a4)), .sl 11 (List.map d_Token a5) 2]] [44]⟩
def XP : GI → Prop := fun g => ∃ (a0 : List UInt8) (a1 : List Int) (a2 : List UInt8) (a3 : Int) (a4 : Int) (a5 : List Token) (r : Int), VK a0 a1 a2 a3 a4 a5 = some r ∧ g = XS a0 a1 a2 a3 a4 a5 r
theorem Jcw (a0 : List UInt8) (a1 : List Int) (a2 : List UInt8) (a3 : Int) (a4 : Int) (a5 : List Token) (r : Int) (H : VK a0 a1 a2 a3 a4 a5 = some r) : XP (XS a0 a1 a2 a3 a4 a5 r) := ⟨a0, a1, a2, a3, a4, a5, r, H, rfl⟩
theorem Jek : ∀ g, XP g → GenOk Tryz.prog 76 g := by
 rintro _ ⟨a0, a1, a2, a3, a4, a5, r, H, rfl⟩
 refine xGn mixed [(101, JcI)] [] [] ⟨⟨call_101, JfA⟩, trivial⟩ trivial trivial Tryz.func76 _ ?_
 have G := True.intro
 have Y := xZ y_3 <| xZ y_9 <| xZ y_41 <| xZ y_70 <| xZ y_99 <| xZ Tryz.results76 <| xZ d_Call.eq_1 <| xZ d_Token.eq_1 <| xZ d_Spliced.eq_1 <| XS.eq_1
 dsimp only [XS]
 simp only [VK] at H
 refine xS ?_
 refine xr ?_
 obtain ⟨r1, hr1, H⟩ := osplit H
 have F := xC Y (JfH  r1 hr1)
 refine xR ?_
 refine w_loop (Xs a0 a4 r1) (fun s => [(0, .c (.pt 1 0)), (5, .c (.d (.sl 1 (List.map dS r1)))), (6, .c (.d (.v (.int .i64 s.1)))), (7, .c (.d (.v (.int .i64 s.2))))]) (fun s => [[.d (.v (str a0)), .d (.sl 1 (List.map dI a1)), .d (.v (str a2)), .d (.v (.int .i64 a3)), .d (.v (.int .i64 a4)), .sl 11 (List.map d_Token a5) 2]]) [44] H (xK ⟨[1], [2]⟩) ?_
 rintro n1 ⟨x1, x2⟩ o1 H hF1
 rw [Xs] at H
 refine xS ?_
 refine xr ?_
 rcases bsplit H with ⟨hp1, H⟩ | ⟨hp1, H⟩
 ·obtain ⟨F, G, hq1⟩ := xH Y G hp1
  refine xT ?_
  obtain ⟨hg1, H⟩ := gsplit H
  have F := xZ Y (map_getD dS r1 x2.toNat default default (by omega))
  refine xR0 ?_
  refine then_normal ?_
  refine w_cut (Xr a4 x1 x2) (fun s => [(0, .c (.pt 1 0)), (4, .c (.d (.v (str s.1)))), (5, .c (.d (.sl 1 (List.map dS r1)))), (6, .c (.d (.v (.int .i64 x1)))), (7, .c (.d (.v (.int .i64 x2)))), (45, .c (.d (.v (.bool s.2))))]) (fun s => [[.d (.v (str a0)), .d (.sl 1 (List.map dI a1)), .d (.v (str a2)), .d (.v (.int .i64 a3)), .d (.v (.int .i64 a4)), .sl 11 (List.map d_Token a5) 2]]) [44] o1 ?_ ?_
  ·rcases bsplit H with ⟨hp3, H⟩ | ⟨hp3, H⟩
   ·obtain ⟨F, G, hq3⟩ := xH Y G hp3
    obtain ⟨hg2, H⟩ := gsplit H
    refine xR ?_
    exact cut_at H (xK ⟨[1], [2]⟩)
   ·obtain ⟨F, G, hq3⟩ := xH Y G hp3
    refine xR ?_
    exact cut_at H (xK ⟨[1], [2]⟩)
  ·rintro ⟨x3, x4⟩ H
   rw [Xr] at H
   rcases bsplit H with ⟨hp2, H⟩ | ⟨hp2, H⟩
   ·obtain ⟨F, G, hq2⟩ := xH Y G hp2
    refine xT ?_
    replace H := inrO_fin H hF1
    replace H := Option.some.inj H
    refine xr ?_
    subst H
    refine xOr ?_
    refine qDf [] ?_
    exact xO ⟨[1], [2]⟩
   ·obtain ⟨F, G, hq2⟩ := xH Y G hp2
    refine xE ?_
    refine xr ?_
    exact round_at (inl_fin H hF1) (xK ⟨[1], [2]⟩)
 ·obtain ⟨F, G, hq1⟩ := xH Y G hp1
  replace H := inrO_fin H hF1
  refine xE ?_
  replace H := Option.some.inj H
  refine xr ?_
  subst H
  refine xOr ?_
  refine qDf [] ?_
  exact xO ⟨[1], [2]⟩
theorem Jep : Callable Tryz.prog 76 ∧ (∀ g, XP g → GenOk Tryz.prog 76 g) ∧ (true = true → ∀ g, XP g → ∃ val bs ts, g.out = .ret val bs ts) :=
 ⟨call_76, Jek, fun _ => by rintro _ ⟨_, _, _, _, _, _, _, _, rfl⟩; exact ⟨_, _, _, rfl⟩⟩
noncomputable def KM (a1 : List UInt8) (a2 : List Int) (a3 : List UInt8) (a4 : Int) (a5 : Int) (a6 : List Token) : Bool → Option (Int × Int)
 | x3 => if x3 = true then (VG a1 a2 a3 a4 a5 a6).bind fun r6 => some (7, r6) else (VK a1 a2 a3 a4 a5 a6).bind fun r7 => if (ltI 0 r7) = true then (VK a1 a2 a3 a4 a5 a6).bind fun r8 => some (5, r8) else some (6, IntKind.i64.wrap (a5 + 1))
noncomputable def Ka (a0 : Bool) (a1 : List UInt8) (a2 : List Int) (a3 : List UInt8) (a4 : Int) (a5 : Int) (a6 : List Token) : (UInt8 × Bool) → Option (Int × Int)
 | (x1, x2) => if x2 = true then (VI a1 a2 a3 a4 a5 a6).bind fun r3 => some (2, r3) else if (eqI (x1.toNat : Int) 34) = true then (KL x1 a1 a2 a3 a4 a5 a6).bind fun r4 => some (4, r4) else if (eqI (x1.toNat : Int) 39) = true then (KL x1 a1 a2 a3 a4 a5 a6).bind fun r5 => some (3, r5) else if (eqI (x1.toNat : Int) 60) = true then if (!a0) = true then (VG a1 a2 a3 a4 a5 a6).bind fun r9 => KM a1 a2 a3 a4 a5 a6 (ltI 0 r9) else KM a1 a2 a3 a4 a5 a6 false else KM a1 a2 a3 a4 a5 a6 false
noncomputable def Xm (a0 : Bool) (a1 : List UInt8) (a2 : List Int) (a3 : List UInt8) (a4 : Int) (a5 : Int) (a6 : List Token) : Option (Int × Int) :=
 if (0 : Int) ≤ a5 ∧ a5.toNat < a1.length then (Zd (a1.getD a5.toNat 0)).bind fun r1 => if r1 = true then (KX a5 a1 a2 a3 a4 a5 a6).bind fun r2 => some (1, r2) else (Zi (a1.getD a5.toNat 0)).bind fun r10 => if r10 = true then Ka a0 a1 a2 a3 a4 a5 a6 ((a1.getD a5.toNat 0), true) else if (eqI ((a1.getD a5.toNat 0).toNat : Int) 46) = true then if (ltI (IntKind.i64.wrap (a5 + 1)) (a1.length : Int)) = true then if (0 : Int) ≤ (IntKind.i64.wrap (a5 + 1)) ∧ (IntKind.i64.wrap (a5 + 1)).toNat < a1.length then (Zi (a1.getD ((IntKind.i64.wrap (a5 + 1)).toNat) 0)).bind fun r11 => Ka a0 a1 a2 a3 a4 a5 a6 ((a1.getD a5.toNat 0), r11) else none else Ka a0 a1 a2 a3 a4 a5 a6 ((a1.getD a5.toNat 0), false) else Ka a0 a1 a2 a3 a4 a5 a6 ((a1.getD a5.toNat 0), false) else none
def Zh (a0 : Bool) (a1 : List UInt8) (a2 : List Int) (a3 : List UInt8) (a4 : Int) (a5 : Int) (a6 : List Token) (r : (Int × Int)) : GI :=
 ⟨[.c (.pt 1 0), .c (.d (.v (.bool a0)))], [[.d (.v (str a1)), .d (.sl 1 (List.map dI a2)), .d (.v (str a3)), .d (.v (.int .i64 a4)), .d (.v (.int .i64 a5)), .sl 11 (List.map d_Token a6) 2]], [44], .ret (.tu [(false, [.d (.v (.int .i64 r.1))]), (false, [.d (.v (.int .i64 r.2))])]) [[.d (.v (str a1)), .d (.sl 1 (List.map dI a2)), .d (.v (str a3)), .d (.v (.int .i64 a4)), .d (.v (.int .i64 a5)), .sl 11 (List.map d_Token a6) 2]] [44]⟩
def Zq : GI → Prop := fun g => ∃ (a0 : Bool) (a1 : List UInt8) (a2 : List Int) (a3 : List UInt8) (a4 : Int) (a5 : Int) (a6 : List Token) (r : (Int × Int)), Xm a0 a1 a2 a3 a4 a5 a6 = some r ∧ g = Zh a0 a1 a2 a3 a4 a5 a6 r
theorem JeY (a0 : Bool) (a1 : List UInt8) (a2 : List Int) (a3 : List UInt8) (a4 : Int) (a5 : Int) (a6 : List Token) (r : (Int × Int)) (H : Xm a0 a1 a2 a3 a4 a5 a6 = some r) : Zq (Zh a0 a1 a2 a3 a4 a5 a6 r) := ⟨a0, a1, a2, a3, a4, a5, a6, r, H, rfl⟩
theorem Jev : ∀ g, Zq g → GenOk Tryz.prog 50 g := by
 rintro _ ⟨a0, a1, a2, a3, a4, a5, a6, r, H, rfl⟩
 refine xGn mixed [(70, Jac), (72, Jas)] [(68, true, Vr), (73, true, V7), (74, true, V1), (75, true, XQ), (76, true, XP)] [] ⟨⟨call_70, Jcl⟩, ⟨call_72, JcH⟩, trivial⟩ ⟨Jdu, Jd3, JdY, Jeq, Jep, trivial⟩ trivial Tryz.func50 _ ?_
 have G := True.intro
 have Y := xZ y_3 <| xZ y_9 <| xZ y_70 <| xZ y_99 <| xZ Tryz.results50 <| xZ d_Call.eq_1 <| xZ d_Token.eq_1 <| xZ d_Spliced.eq_1 <| xZ Vn.eq_1 <| xZ VW.eq_1 <| xZ VS.eq_1 <| xZ XT.eq_1 <| xZ XS.eq_1 <| Zh.eq_1
 dsimp only [Zh]
 simp only [Xm] at H
 refine xS ?_
 refine xr ?_
 refine xr ?_
 obtain ⟨hg1, H⟩ := gsplit H
 refine xr ?_
 obtain ⟨r1, hr1, H⟩ := osplit H
 have F := xC Y (Jcx (a1.getD a5.toNat 0) r1 hr1)
 refine xR ?_
 rcases bsplit H with ⟨hp1, H⟩ | ⟨hp1, H⟩
 ·obtain ⟨F, G, hq1⟩ := xH Y G hp1
  refine xT ?_
  obtain ⟨r2, hr2, H⟩ := osplit H
  have F := Y
  refine xQ ?_
  refine xs 5 ?_
  refine xc ⟨[1], [2]⟩ (tabG 0 (Jdx a5 a1 a2 a3 a4 a5 a6 r2 hr2)) ?_
  refine xs 2 ?_
  refine xl ?_
  replace H := Option.some.inj H
  refine xS ?_
  subst H
  refine xOr ?_
  refine qDf [] ?_
  exact xO ⟨[1], [4]⟩
 ·obtain ⟨F, G, hq1⟩ := xH Y G hp1
  refine xE0 ?_
  refine w_cut (Ka a0 a1 a2 a3 a4 a5 a6) (fun s => [(0, .c (.pt 1 0)), (1, .c (.d (.v (.bool a0)))), (7, .c (.d (.v (.int .u8 (s.1.toNat : Int))))), (28, .c (.d (.v (.bool s.2))))]) (fun s => [[.d (.v (str a1)), .d (.sl 1 (List.map dI a2)), .d (.v (str a3)), .d (.v (.int .i64 a4)), .d (.v (.int .i64 a5)), .sl 11 (List.map d_Token a6) 2]]) [44] r ?_ ?_
  ·obtain ⟨r10, hr10, H⟩ := osplit H
   have F := xC Y (Jcb (a1.getD a5.toNat 0) r10 hr10)
   rcases bsplit H with ⟨hp9, H⟩ | ⟨hp9, H⟩
   ·obtain ⟨F, G, hq9⟩ := xH F G hp9
    refine xR ?_
    exact cut_at H (xK ⟨[1], [2]⟩)
   ·obtain ⟨F, G, hq9⟩ := xH F G hp9
    rcases bsplit H with ⟨hp10, H⟩ | ⟨hp10, H⟩
    ·obtain ⟨F, G, hq10⟩ := xH F G hp10
     rcases bsplit H with ⟨hp11, H⟩ | ⟨hp11, H⟩
     ·obtain ⟨F, G, hq11⟩ := xH F G hp11
      obtain ⟨hg2, H⟩ := gsplit H
      obtain ⟨r11, hr11, H⟩ := osplit H
      have F := xCf F (Jcb (a1.getD ((IntKind.i64.wrap (a5 + 1)).toNat) 0) r11 hr11)
      refine xR ?_
      exact cut_at H (xK ⟨[1], [2]⟩)
     ·obtain ⟨F, G, hq11⟩ := xH F G hp11
      refine xR ?_
      exact cut_at H (xK ⟨[1], [2]⟩)
    ·obtain ⟨F, G, hq10⟩ := xH F G hp10
     refine xR ?_
     exact cut_at H (xK ⟨[1], [2]⟩)
  ·rintro ⟨x1, x2⟩ H
   rw [Ka] at H
   rcases bsplit H with ⟨hp2, H⟩ | ⟨hp2, H⟩
   ·obtain ⟨F, G, hq2⟩ := xH Y G hp2
    refine xT ?_
    obtain ⟨r3, hr3, H⟩ := osplit H
    have F := Y
    refine xQ ?_
    refine xs 1 ?_
    refine xc ⟨[1], [2]⟩ (tabG 1 (Jd0 a1 a2 a3 a4 a5 a6 r3 hr3)) ?_
    refine xs 2 ?_
    refine xl ?_
    replace H := Option.some.inj H
    refine xS ?_
    subst H
    refine xOr ?_
    refine qDf [] ?_
    exact xO ⟨[1], [4]⟩
   ·obtain ⟨F, G, hq2⟩ := xH Y G hp2
    refine xE ?_
    refine xr ?_
    rcases bsplit H with ⟨hp3, H⟩ | ⟨hp3, H⟩
    ·obtain ⟨F, G, hq3⟩ := xH Y G hp3
     refine xT ?_
     obtain ⟨r4, hr4, H⟩ := osplit H
     have F := Y
     refine xQ ?_
     refine xs 2 ?_
     refine xc ⟨[1], [2]⟩ (tabG 2 (Jcf x1 a1 a2 a3 a4 a5 a6 r4 hr4)) ?_
     refine xs 2 ?_
     refine xl ?_
     replace H := Option.some.inj H
     refine xS ?_
     subst H
     refine xOr ?_
     refine qDf [] ?_
     exact xO ⟨[1], [4]⟩
    ·obtain ⟨F, G, hq3⟩ := xH Y G hp3
     refine xE ?_
     refine xr ?_
     rcases bsplit H with ⟨hp4, H⟩ | ⟨hp4, H⟩
     ·obtain ⟨F, G, hq4⟩ := xH Y G hp4
      refine xT ?_
      obtain ⟨r5, hr5, H⟩ := osplit H
      have F := Y
      refine xQ ?_
      refine xs 2 ?_
      refine xc ⟨[1], [2]⟩ (tabG 2 (Jcf x1 a1 a2 a3 a4 a5 a6 r5 hr5)) ?_
      refine xs 2 ?_
      refine xl ?_
      replace H := Option.some.inj H
      refine xS ?_
      subst H
      refine xOr ?_
      refine qDf [] ?_
      exact xO ⟨[1], [4]⟩
     ·obtain ⟨F, G, hq4⟩ := xH Y G hp4
      refine xE0 ?_
      refine w_cut (KM a1 a2 a3 a4 a5 a6) (fun s => [(0, .c (.pt 1 0)), (69, .c (.d (.v (.bool s))))]) (fun s => [[.d (.v (str a1)), .d (.sl 1 (List.map dI a2)), .d (.v (str a3)), .d (.v (.int .i64 a4)), .d (.v (.int .i64 a5)), .sl 11 (List.map d_Token a6) 2]]) [44] r ?_ ?_
      ·rcases bsplit H with ⟨hp7, H⟩ | ⟨hp7, H⟩
       ·obtain ⟨F, G, hq7⟩ := xH Y G hp7
        rcases bsplit H with ⟨hp8, H⟩ | ⟨hp8, H⟩
        ·obtain ⟨F, G, hq8⟩ := xH F G hp8
         obtain ⟨r9, hr9, H⟩ := osplit H
         have F := F
         refine xQ ?_
         refine xs 8 ?_
         refine xc ⟨[1], [2]⟩ (tabG 3 (JcJ a1 a2 a3 a4 a5 a6 r9 hr9)) ?_
         refine xs 3 ?_
         refine xl ?_
         refine xS ?_
         exact cut_at H (xK ⟨[1], [4]⟩)
        ·obtain ⟨F, G, hq8⟩ := xH F G hp8
         refine xR ?_
         exact cut_at H (xK ⟨[1], [2]⟩)
       ·obtain ⟨F, G, hq7⟩ := xH Y G hp7
        refine xR ?_
        exact cut_at H (xK ⟨[1], [2]⟩)
      ·rintro x3 H
       rw [KM] at H
       rcases bsplit H with ⟨hp5, H⟩ | ⟨hp5, H⟩
       ·obtain ⟨F, G, hq5⟩ := xH Y G hp5
        refine xT ?_
        obtain ⟨r6, hr6, H⟩ := osplit H
        have F := Y
        refine xQ ?_
        refine xs 1 ?_
        refine xc ⟨[1], [2]⟩ (tabG 3 (JcJ a1 a2 a3 a4 a5 a6 r6 hr6)) ?_
        refine xs 2 ?_
        refine xl ?_
        replace H := Option.some.inj H
        refine xS ?_
        subst H
        refine xOr ?_
        refine qDf [] ?_
        exact xO ⟨[1], [4]⟩
       ·obtain ⟨F, G, hq5⟩ := xH Y G hp5
        refine xE ?_
        obtain ⟨r7, hr7, H⟩ := osplit H
        have F := Y
        refine xQ ?_
        refine xs 1 ?_
        refine xc ⟨[1], [2]⟩ (tabG 4 (Jcw a1 a2 a3 a4 a5 a6 r7 hr7)) ?_
        refine xs 2 ?_
        refine xl ?_
        refine xS ?_
        rcases bsplit H with ⟨hp6, H⟩ | ⟨hp6, H⟩
        ·obtain ⟨F, G, hq6⟩ := xH Y G hp6
         refine xT ?_
         obtain ⟨r8, hr8, H⟩ := osplit H
         have F := Y
         refine xQ ?_
         refine xs 1 ?_
         refine xc ⟨[1], [4]⟩ (tabG 4 (Jcw a1 a2 a3 a4 a5 a6 r8 hr8)) ?_
         refine xs 2 ?_
         refine xl ?_
         replace H := Option.some.inj H
         refine xS ?_
         subst H
         refine xOr ?_
         refine qDf [] ?_
         exact xO ⟨[1], [6]⟩
        ·obtain ⟨F, G, hq6⟩ := xH Y G hp6
         refine xE ?_
         replace H := Option.some.inj H
         refine xr ?_
         subst H
         refine xOr ?_
         refine qDf [] ?_
         exact xO ⟨[1], [4]⟩
theorem JeD : Callable Tryz.prog 50 ∧ (∀ g, Zq g → GenOk Tryz.prog 50 g) ∧ (true = true → ∀ g, Zq g → ∃ val bs ts, g.out = .ret val bs ts) :=
 ⟨call_50, Jev, fun _ => by rintro _ ⟨_, _, _, _, _, _, _, _, _, rfl⟩; exact ⟨_, _, _, rfl⟩⟩
noncomputable def Zs (x2 : Int) (x3 : Int) : Int → Option ((Int × Int × Int) ⊕ Int)
 | x4 => some (.inl (x4, x2, IntKind.i64.wrap (x3 + 1)))
noncomputable def Ze (a0 : List UInt8) : (Int × Int × Int) → Option ((Int × Int × Int) ⊕ Int)
 | (x1, x2, x3) => if (ltI x3 x2) = true then if (0 : Int) ≤ x3 ∧ x3.toNat < a0.length then if (eqI ((a0.getD x3.toNat 0).toNat : Int) 10) = true then Zs x2 x3 (IntKind.i64.wrap (x1 + 1)) else Zs x2 x3 x1 else none else inrO (some x1)
noncomputable def ZN (a0 : List UInt8) (a1 : Int) : Option Int :=
 loopO (Ze a0) (1, (if (a0.length : Int) < (if 0 > a1 then 0 else a1) then (a0.length : Int) else (if 0 > a1 then 0 else a1)), 0)
noncomputable def JbE : PF := PF.of (E2 dS dI) (fun a => ZN a.1 a.2) dI
theorem JeK : PureOk Tryz.prog 51 JbE := by
 refine xF mixed [] [] trivial trivial Tryz.func51 ?_
 rintro ⟨a0, a1⟩ out H
 have G := True.intro
 have Y := xZ y_3 <| xZ y_9 <| Tryz.results51
 simp only [ZN] at H
 refine xS ?_
 refine xr ?_
 refine xr ?_
 refine xr ?_
 refine w_loop (Ze a0) (fun s => [(0, .c (.d (.v (str a0)))), (5, .c (.d (.v (.int .i64 s.1)))), (11, .c (.d (.v (.int .i64 s.2.1)))), (12, .c (.d (.v (.int .i64 s.2.2))))]) (fun s => []) [] H (xK ⟨[], []⟩) ?_
 rintro n1 ⟨x1, x2, x3⟩ o1 H hF1
 rw [Ze] at H
 refine xS ?_
 refine xr ?_
 rcases bsplit H with ⟨hp1, H⟩ | ⟨hp1, H⟩
 ·obtain ⟨F, G, hq1⟩ := xH Y G hp1
  refine xT0 ?_
  refine w_skip ?_
  refine then_normal ?_
  refine w_cut (Zs x2 x3) (fun s => [(0, .c (.d (.v (str a0)))), (5, .c (.d (.v (.int .i64 s)))), (11, .c (.d (.v (.int .i64 x2)))), (12, .c (.d (.v (.int .i64 x3))))]) (fun s => []) [] o1 ?_ ?_
  ·refine xS ?_
   refine xr ?_
   obtain ⟨hg1, H⟩ := gsplit H
   refine xr ?_
   rcases bsplit H with ⟨hp2, H⟩ | ⟨hp2, H⟩
   ·obtain ⟨F, G, hq2⟩ := xH Y G hp2
    refine xT ?_
    refine xr ?_
    exact cut_at H (xK ⟨[], []⟩)
   ·obtain ⟨F, G, hq2⟩ := xH Y G hp2
    refine xE ?_
    exact cut_at H (xK ⟨[], []⟩)
  ·rintro x4 H
   rw [Zs] at H
   refine xr ?_
   exact round_at (inl_fin H hF1) (xK ⟨[], []⟩)
 ·obtain ⟨F, G, hq1⟩ := xH Y G hp1
  replace H := inrO_fin H hF1
  refine xE ?_
  replace H := Option.some.inj H
  refine xr ?_
  subst H
  exact xN
theorem Jfh (a0 : List UInt8) (a1 : Int) (r : Int) (H : ZN a0 a1 = some r) : PC JbE [dS a0, dI a1] (dI r) := PF.c (a := (a0, a1)) H
noncomputable def X8 (a0 : Int) (a1 : List UInt8) (r1 : Spliced) (x2 : List Token) (r2 : (Bool × Bool × Bool × Int)) : Bool → Option ((Int × (List Token)) ⊕ ((List Token) × Fault))
 | x3 => (Vs r1 r2.2.2.2).bind fun r4 => (Xm x3 r1.Text r1.At a1 a0 r2.2.2.2 x2).bind fun r5 => if (ltI r5.2 0) = true then inrO (some (([] : List Token), (⟨9, a0, r4⟩ : Fault))) else if (0 : Int) ≤ r2.2.2.2 ∧ r2.2.2.2 ≤ r5.2 ∧ r5.2 ≤ (r1.Text.length : Int) then (Vs r1 (IntKind.i64.wrap (r5.2 - 1))).bind fun r6 => (ZN a1 r4).bind fun r7 => if (x2.length + [(⟨r5.1, List.take (r5.2.toNat - r2.2.2.2.toNat) (List.drop r2.2.2.2.toNat r1.Text), r2.1, x3, a0, r4, IntKind.i64.wrap (r6 + 1), r7, ([] : List (List UInt8)), ([] : List Call), 0⟩ : Token)].length) * 120 ≤ 140737488355328 then some (.inl (r5.2, x2 ++ [(⟨r5.1, List.take (r5.2.toNat - r2.2.2.2.toNat) (List.drop r2.2.2.2.toNat r1.Text), r2.1, x3, a0, r4, IntKind.i64.wrap (r6 + 1), r7, ([] : List (List UInt8)), ([] : List Call), 0⟩ : Token)])) else none else none
noncomputable def X6 (a0 : Int) (a1 : List UInt8) (r1 : Spliced) : (Int × (List Token)) → Option ((Int × (List Token)) ⊕ ((List Token) × Fault))
 | (x1, x2) => (Zl r1.Text r1.At a1 a0 x1 x2).bind fun r2 => if (!r2.2.2.1) = true then (Vs r1 r2.2.2.2).bind fun r3 => inrO (some (([] : List Token), (⟨9, a0, r3⟩ : Fault))) else if (eqI r2.2.2.2 (r1.Text.length : Int)) = true then inrO (some (x2, (⟨0, (-1), 0⟩ : Fault))) else if (eqI (x2.length : Int) 0) = true then X8 a0 a1 r1 x2 r2 true else X8 a0 a1 r1 x2 r2 r2.2.1
noncomputable def JB (a0 : Int) (a1 : List UInt8) : Option ((List Token) × Fault) :=
 if (ltI 3000 (a1.length : Int)) = true then some (([] : List Token), (⟨4, a0, 0⟩ : Fault)) else (Jai a1).bind fun r1 => loopO (X6 a0 a1 r1) (0, ([] : List Token))
noncomputable def Jcm : PF := PF.of (E2 dI dS) (fun a => JB a.1 a.2) (T2 (dL 11 d_Token) d_Fault)
theorem Jft : PureOk Tryz.prog 32 Jcm := by
 refine xF mixed [(47, Jb4), (49, Jbv), (51, JbE)] [(48, true, Xp), (50, true, Zq)] ⟨⟨call_47, Je6⟩, ⟨call_49, JeA⟩, ⟨call_51, JeK⟩, trivial⟩ ⟨Jeg, JeD, trivial⟩ Tryz.func32 ?_
 rintro ⟨a0, a1⟩ out H
 have G := True.intro
 have Y := xZ y_3 <| xZ y_4 <| xZ y_9 <| xZ y_24 <| xZ y_29 <| xZ y_31 <| xZ y_41 <| xZ y_42 <| xZ y_44 <| xZ y_70 <| xZ y_99 <| xZ Tryz.results32 <| xZ d_Call.eq_1 <| xZ d_Token.eq_1 <| xZ d_Spliced.eq_1 <| xZ d_Fault.eq_1 <| xZ Xt.eq_1 <| Zh.eq_1
 simp only [JB] at H
 refine xS ?_
 refine xr ?_
 refine xr ?_
 rcases bsplit H with ⟨hp1, H⟩ | ⟨hp1, H⟩
 ·obtain ⟨F, G, hq1⟩ := xH Y G hp1
  refine xT ?_
  replace H := Option.some.inj H
  refine xr ?_
  subst H
  exact xN
 ·obtain ⟨F, G, hq1⟩ := xH Y G hp1
  refine xE ?_
  obtain ⟨r1, hr1, H⟩ := osplit H
  have F := xC Y (Jfl a1 r1 hr1)
  refine xR ?_
  refine w_loop (X6 a0 a1 r1) (fun s => [(0, .c (.d (.v (.int .i64 a0)))), (1, .c (.d (.v (str a1)))), (5, .c (.pt 1 0)), (6, .c (.pt 2 0))]) (fun s => [[.d (.v (.int .i64 0)), .d (.v (.int .i64 0)), .d (.v (.int .i64 0))], [.d (.v (str r1.Text)), .d (.sl 1 (List.map dI r1.At)), .d (.v (str a1)), .d (.v (.int .i64 a0)), .d (.v (.int .i64 s.1)), .sl 11 (List.map d_Token s.2) 3]]) [44] H (xK ⟨[1,2], [0]⟩) ?_
  rintro n1 ⟨x1, x2⟩ o1 H hF1
  rw [X6] at H
  refine xS ?_
  obtain ⟨r2, hr2, H⟩ := osplit H
  have F := Y
  refine xQ ?_
  refine xs 1 ?_
  refine xc ⟨[2], [3]⟩ (tabG 0 (Jed r1.Text r1.At a1 a0 x1 x2 r2 hr2)) ?_
  refine xs 7 ?_
  refine xl ?_
  refine xS ?_
  refine xr ?_
  rcases bsplit H with ⟨hp2, H⟩ | ⟨hp2, H⟩
  ·obtain ⟨F, G, hq2⟩ := xH Y G hp2
   refine xT ?_
   obtain ⟨r3, hr3, H⟩ := osplit H
   have F := xC Y (Jb5 r1 r2.2.2.2 r3 hr3)
   replace H := inrO_fin H hF1
   replace H := Option.some.inj H
   refine xR ?_
   subst H
   exact xN
  ·obtain ⟨F, G, hq2⟩ := xH Y G hp2
   refine xE ?_
   refine xr ?_
   rcases bsplit H with ⟨hp3, H⟩ | ⟨hp3, H⟩
   ·obtain ⟨F, G, hq3⟩ := xH Y G hp3
    refine xT ?_
    replace H := inrO_fin H hF1
    replace H := Option.some.inj H
    refine xr ?_
    subst H
    exact xN
   ·obtain ⟨F, G, hq3⟩ := xH Y G hp3
    refine xE0 ?_
    refine w_skip ?_
    refine then_normal ?_
    refine w_cut (X8 a0 a1 r1 x2 r2) (fun s => [(0, .c (.d (.v (.int .i64 a0)))), (1, .c (.d (.v (str a1)))), (5, .c (.pt 1 0)), (6, .c (.pt 2 0)), (7, .c (.d (.v (.bool r2.1)))), (10, .c (.d (.v (.bool s))))]) (fun s => [[.d (.v (.int .i64 0)), .d (.v (.int .i64 0)), .d (.v (.int .i64 0))], [.d (.v (str r1.Text)), .d (.sl 1 (List.map dI r1.At)), .d (.v (str a1)), .d (.v (.int .i64 a0)), .d (.v (.int .i64 r2.2.2.2)), .sl 11 (List.map d_Token x2) 3]]) [44] o1 ?_ ?_
    ·rcases bsplit H with ⟨hp5, H⟩ | ⟨hp5, H⟩
     ·obtain ⟨F, G, hq5⟩ := xH Y G hp5
      refine xR ?_
      exact cut_at H (xK ⟨[1,2], [5]⟩)
     ·obtain ⟨F, G, hq5⟩ := xH Y G hp5
      refine xR ?_
      exact cut_at H (xK ⟨[1,2], [5]⟩)
    ·rintro x3 H
     rw [X8] at H
     refine xS ?_
     obtain ⟨r4, hr4, H⟩ := osplit H
     have F := xC Y (Jb5 r1 r2.2.2.2 r4 hr4)
     refine xR ?_
     obtain ⟨r5, hr5, H⟩ := osplit H
     have F := Y
     refine xQ ?_
     refine xs 2 ?_
     refine xc ⟨[2], [3]⟩ (tabG 1 (JeY x3 r1.Text r1.At a1 a0 r2.2.2.2 x2 r5 hr5)) ?_
     refine xs 5 ?_
     refine xl ?_
     refine xS ?_
     refine xr ?_
     rcases bsplit H with ⟨hp4, H⟩ | ⟨hp4, H⟩
     ·obtain ⟨F, G, hq4⟩ := xH Y G hp4
      refine xT ?_
      replace H := inrO_fin H hF1
      replace H := Option.some.inj H
      refine xr ?_
      subst H
      exact xN
     ·obtain ⟨F, G, hq4⟩ := xH Y G hp4
      refine xE ?_
      obtain ⟨hg1, H⟩ := gsplit H
      obtain ⟨r6, hr6, H⟩ := osplit H
      have F := xC Y (Jb5 r1 (IntKind.i64.wrap (r5.2 - 1)) r6 hr6)
      obtain ⟨r7, hr7, H⟩ := osplit H
      have F := xCf F (Jfh a1 r4 r7 hr7)
      obtain ⟨hg2, H⟩ := gsplit H
      have F := xZ F (all_map one_Token [(⟨r5.1, List.take (r5.2.toNat - r2.2.2.2.toNat) (List.drop r2.2.2.2.toNat r1.Text), r2.1, x3, a0, r4, IntKind.i64.wrap (r6 + 1), r7, ([] : List (List UInt8)), ([] : List Call), 0⟩ : Token)])
      refine xR ?_
      refine xr ?_
      exact round_at (inl_fin H hF1) (xK ⟨[1,2], [6]⟩)
theorem Jfw (a0 : Int) (a1 : List UInt8) (r : (List Token) × Fault) (H : JB a0 a1 = some r) : PC Jcm [dI a0, dS a1] (T2 (dL 11 d_Token) d_Fault r) := PF.c (a := (a0, a1)) H
end Go.Proofs.YtfkhlbhjhdpkoaaGreatDoor
