/- Functions of data for functions of the program. Written by dec3.py. -/
import Derived.Test.YtfkhlbhjhdpkoaaGreatDoorZcal
set_option linter.unusedVariables false
set_option linter.unusedSimpArgs false
set_option maxHeartbeats 4000000
set_option maxRecDepth 100000
namespace Go.Proofs.YtfkhlbhjhdpkoaaGreatDoor
open Go.RowKit
noncomputable def ZC : Bool → Option Int
 | x2 => if x2 = true then some 3 else some 0
noncomputable def Zr (a0 : List UInt8) : Bool → Option Int
 | x1 => if x1 = true then some 2 else if (leI 3 (a0.length : Int)) = true then if (0 : Int) ≤ 0 ∧ 0 ≤ 3 ∧ 3 ≤ (a0.length : Int) then ZC (eqS (List.take 3 a0) [92, 13, 10]) else none else ZC false
noncomputable def XR (a0 : List UInt8) : Option Int :=
 if (leI 2 (a0.length : Int)) = true then if (0 : Int) ≤ 0 ∧ 0 ≤ 2 ∧ 2 ≤ (a0.length : Int) then Zr a0 (eqS (List.take 2 a0) [92, 10]) else none else Zr a0 false
noncomputable def JbU : PF := PF.of (E1 dS) (fun a => XR a) dI
theorem Jfv : PureOk Tryz.prog 67 JbU := by
 refine xF mixed [] [] trivial trivial Tryz.func67 ?_
 rintro a0 out H
 have G := True.intro
 have Y := xZ y_9 <| Tryz.results67
 simp only [XR] at H
 refine xS ?_
 refine xr0 ?_
 refine then_normal ?_
 refine w_seq ?_
 refine w_block ?_
 refine w_cut (Zr a0) (fun s => [(0, cS a0), (3, cB s)]) (fun s => []) [] out ?_ ?_
 ·rcases xB Y G H with ⟨p, H, F, G, q⟩ | ⟨p, H, F, G, q⟩
  ·obtain ⟨g, H⟩ := gsplit H
   refine xR ?_
   exact cut_at H (xK ⟨[], []⟩)
  refine xR ?_
  exact cut_at H (xK ⟨[], []⟩)
 rintro x1 H
 rw [Zr] at H
 rcases xB Y G H with ⟨p, H, F, G, q⟩ | ⟨p, H, F, G, q⟩
 ·refine xT ?_
  replace H := oI H
  refine xr ?_
  subst H
  exact xN
 refine xE0 ?_
 refine w_cut ZC (fun s => [(12, cB s)]) (fun s => []) [] out ?_ ?_
 ·rcases xB Y G H with ⟨p, H, F, G, q⟩ | ⟨p, H, F, G, q⟩
  ·obtain ⟨g, H⟩ := gsplit H
   refine xR ?_
   exact cut_at H (xK ⟨[], []⟩)
  refine xR ?_
  exact cut_at H (xK ⟨[], []⟩)
 rintro x2 H
 rw [ZC] at H
 rcases xB Y G H with ⟨p, H, F, G, q⟩ | ⟨p, H, F, G, q⟩
 ·refine xT ?_
  replace H := oI H
  refine xr ?_
  subst H
  exact xN
 refine xE ?_
 replace H := oI H
 refine xr ?_
 subst H
 exact xN
theorem JdN (a0 : List UInt8) (r : Int) (H : XR a0 = some r) : PC JbU [dS a0] (dI r) := PF.c (a := a0) H
noncomputable def XP (a0 x1 : List UInt8) (x2 : List Int) (x3 : Int) (x4 : List UInt8) : Bool → Option Yl
 | x5 => if x5 = true then some (.inl (x1, x2, IntKind.i64.wrap (x3 + 1), x4)) else if (0 : Int) ≤ x3 ∧ x3.toNat < a0.length then if (x1.length + [(a0.getD x3.toNat 0)].length) * 1 ≤ 140737488355328 then if (x2.length + [x3].length) * 8 ≤ 140737488355328 then some (.inl (x1 ++ [(a0.getD x3.toNat 0)], x2 ++ [x3], IntKind.i64.wrap (x3 + 1), x4)) else none else none else none
noncomputable def Z4 (a0 : List UInt8) : ((List UInt8) × (List Int) × Int × (List UInt8)) → Option Yl
 | (x1, x2, x3, x4) => if (ltI x3 (a0.length : Int)) = true then if (0 : Int) ≤ x3 ∧ x3 ≤ (a0.length : Int) ∧ (a0.length : Int) ≤ (a0.length : Int) then (XR (List.drop x3.toNat a0)).bind fun r1 => if (ltI 0 r1) = true then if (0 : Int) ≤ x3 ∧ x3 ≤ (a0.length : Int) ∧ (a0.length : Int) ≤ (a0.length : Int) then (XR (List.drop x3.toNat a0)).bind fun r2 => some (.inl (x1, x2, IntKind.i64.wrap (x3 + r2), x4)) else none else if (0 : Int) ≤ x3 ∧ x3.toNat < a0.length then if (eqI ((a0.getD x3.toNat 0).toNat : Int) 13) = true then if (ltI (IntKind.i64.wrap (x3 + 1)) (a0.length : Int)) = true then if (0 : Int) ≤ (IntKind.i64.wrap (x3 + 1)) ∧ (IntKind.i64.wrap (x3 + 1)).toNat < a0.length then XP a0 x1 x2 x3 x4 (eqI ((a0.getD ((IntKind.i64.wrap (x3 + 1)).toNat) 0).toNat : Int) 10) else none else XP a0 x1 x2 x3 x4 false else XP a0 x1 x2 x3 x4 false else none else none else inrO (if (x2.length + [(a0.length : Int)].length) * 8 ≤ 140737488355328 then some (⟨x1, x2 ++ [(a0.length : Int)]⟩ : Spliced) else none)
noncomputable def JaA (a0 : List UInt8) : Option Spliced :=
 loopO (Z4 a0) (([] : List UInt8), ([] : List Int), 0, [])
noncomputable def Jck : PF := PF.of (E1 dS) (fun a => JaA a) d_Spliced
theorem JfO : PureOk Tryz.prog 47 Jck := by
 refine xF mixed [(67, JbU)] [] ⟨⟨call_67, Jfv⟩, trivial⟩ trivial Tryz.func47 ?_
 rintro a0 out H
 have G := True.intro
 have Y := xZ y_3 <| xZ y_5 <| xZ y_9 <| xZ y_25 <| xZ y_55 <| xZ y_70 <| xZ Tryz.results47 <| d_Spliced.eq_1
 simp only [JaA] at H
 refine xS ?_
 refine xr ?_
 refine xr ?_
 refine xr ?_
 refine xr ?_
 refine w_loop (Z4 a0) (fun s => [(0, cS a0), (2, .c (.pt 1 0)), (3, .c (.sl 1 (List.map dU s.1) 2)), (4, .c (.sl 1 (List.map dI s.2.1) 3)), (5, cI s.2.2.1)]) (fun s => [[kS s.2.2.2, .sl 1 [] 0]]) [5, 3] H (xK ⟨[1], [0,0]⟩) ?_
 rintro n1 ⟨x1, x2, x3, x4⟩ o1 H hF1
 rw [Z4] at H
 refine xS ?_
 refine xr ?_
 rcases xB Y G H with ⟨p, H, F, G, q⟩ | ⟨p, H, F, G, q⟩
 ·refine xT ?_
  obtain ⟨g, H⟩ := gsplit H
  obtain ⟨r1, hr1, H⟩ := osplit H
  have F := xC Y (JdN (List.drop x3.toNat a0) r1 hr1)
  refine xR ?_
  rcases xB Y G H with ⟨p, H, F, G, q⟩ | ⟨p, H, F, G, q⟩
  ·refine xT ?_
   obtain ⟨g, H⟩ := gsplit H
   obtain ⟨r2, hr2, H⟩ := osplit H
   have F := xC Y (JdN (List.drop x3.toNat a0) r2 hr2)
   refine xR ?_
   exact round_at (inl_fin H hF1) (xK ⟨[1], [2,3]⟩)
  refine xE0 ?_
  refine w_cut (XP a0 x1 x2 x3 x4) (fun s => [(0, cS a0), (2, .c (.pt 1 0)), (3, .c (.sl 1 (List.map dU x1) 2)), (4, .c (.sl 1 (List.map dI x2) 3)), (5, cI x3), (22, cB s)]) (fun s => [[kS x4, .sl 1 [] 0]]) [5, 3] o1 ?_ ?_
  ·obtain ⟨g, H⟩ := gsplit H
   rcases xB Y G H with ⟨p, H, F, G, q⟩ | ⟨p, H, F, G, q⟩
   ·rcases xB F G H with ⟨p, H, F, G, q⟩ | ⟨p, H, F, G, q⟩
    ·obtain ⟨g, H⟩ := gsplit H
     refine xR ?_
     exact cut_at H (xK ⟨[1], [2,3]⟩)
    refine xR ?_
    exact cut_at H (xK ⟨[1], [2,3]⟩)
   refine xR ?_
   exact cut_at H (xK ⟨[1], [2,3]⟩)
  rintro x5 H
  rw [XP] at H
  rcases xB Y G H with ⟨p, H, F, G, q⟩ | ⟨p, H, F, G, q⟩
  ·refine xT ?_
   refine xr ?_
   exact round_at (inl_fin H hF1) (xK ⟨[1], [2,3]⟩)
  refine xE ?_
  obtain ⟨g, H⟩ := gsplit H
  obtain ⟨g, H⟩ := gsplit H
  have F := xZ Y (all_map one_dU [(a0.getD x3.toNat 0)])
  obtain ⟨g, H⟩ := gsplit H
  have F := xZ F (all_map one_dI [x3])
  refine xR ?_
  refine xr ?_
  exact round_at (inl_fin H hF1) (xK ⟨[1], [4,5]⟩)
 replace H := inrO_fin H hF1
 refine xE ?_
 obtain ⟨g, H⟩ := gsplit H
 have F := xZ Y (all_map one_dI [(a0.length : Int)])
 replace H := oI H
 refine xR ?_
 subst H
 exact xN
theorem Jf0 (a0 : List UInt8) (r : Spliced) (H : JaA a0 = some r) : PC Jck [dS a0] (d_Spliced r) := PF.c (a := a0) H
noncomputable def Xp (a0 : UInt8) : Option Bool :=
 some (!eqI (a0.toNat : Int) 10)
noncomputable def Jae : PF := PF.of (E1 dU) (fun a => Xp a) dB
theorem Jec : PureOk Tryz.prog 69 Jae := by
 refine xF mixed [] [] trivial trivial Tryz.func69 ?_
 rintro a0 out H
 have G := True.intro
 have Y := Tryz.results69
 simp only [Xp] at H
 refine xS ?_
 refine xr ?_
 replace H := oI H
 refine xr ?_
 subst H
 exact xN
theorem Jeh (a0 : UInt8) (r : Bool) (H : Xp a0 = some r) : PC Jae [dU a0] (dB r) := PF.c (a := a0) H
noncomputable def VN (x1 : Int) : Bool → Option (Int ⊕ Int)
 | x2 => if x2 = true then some (.inl (IntKind.i64.wrap (x1 + 1))) else inrO (some x1)
noncomputable def Zw (a1 : List UInt8) : Int → Option (Int ⊕ Int)
 | x1 => if (ltI x1 (a1.length : Int)) = true then if (0 : Int) ≤ x1 ∧ x1.toNat < a1.length then (Xp (a1.getD x1.toNat 0)).bind fun r1 => VN x1 r1 else none else VN x1 false
noncomputable def Zu (a0 : Int) (a1 : List UInt8) (a2 : List Int) (a3 : List UInt8) (a4 a5 : Int) (a6 : List Token) : Option Int :=
 loopO (Zw a1) a0
def ZI (a0 : Int) (a1 : List UInt8) (a2 : List Int) (a3 : List UInt8) (a4 a5 : Int) (a6 : List Token) (r : Int) : GI :=
 ⟨[.c (.pt 1 0), cI a0, .c (.d (.v (.func (.func 69) #[] #[])))], [[kS a1, .d (.sl 1 (List.map dI a2)), kS a3, kI a4, kI a5, .sl 11 (List.map d_Token a6) 2]], [44], .ret (cI r) [[kS a1, .d (.sl 1 (List.map dI a2)), kS a3, kI a4, kI a5, .sl 11 (List.map d_Token a6) 2]] [44]⟩
def ZM : GI → Prop := Sg7 Zu ZI
theorem JeH : ∀ g, ZM g → GenOk Tryz.prog 68 g := by
 rintro _ ⟨a0, a1, a2, a3, a4, a5, a6, r, H, rfl⟩
 refine xGn mixed [(69, Jae)] [] [] ⟨⟨call_69, Jec⟩, trivial⟩ trivial trivial Tryz.func68 _ ?_
 have G := True.intro
 have Y := xZ y_9 <| xZ y_70 <| xZ y_99 <| xZ Tryz.results68 <| xZ d_Call.eq_1 <| xZ d_Token.eq_1 <| xZ d_Spliced.eq_1 <| ZI.eq_1
 dsimp only [ZI]
 simp only [Zu] at H
 refine xS ?_
 refine xr ?_
 refine w_loop (Zw a1) (fun s => [(0, .c (.pt 1 0)), (1, cI s), (2, .c (.d (.v (.func (.func 69) #[] #[]))))]) (fun s => [[kS a1, .d (.sl 1 (List.map dI a2)), kS a3, kI a4, kI a5, .sl 11 (List.map d_Token a6) 2]]) [44] H (xK ⟨[1], [2]⟩) ?_
 rintro n1 x1 o1 H hF1
 rw [Zw] at H
 refine w_seq ?_
 refine w_cut (VN x1) (fun s => [(0, .c (.pt 1 0)), (1, cI x1), (2, .c (.d (.v (.func (.func 69) #[] #[])))), (25, cB s)]) (fun s => [[kS a1, .d (.sl 1 (List.map dI a2)), kS a3, kI a4, kI a5, .sl 11 (List.map d_Token a6) 2]]) [44] o1 ?_ ?_
 ·rcases xB Y G H with ⟨p, H, F, G, q⟩ | ⟨p, H, F, G, q⟩
  ·obtain ⟨g, H⟩ := gsplit H
   obtain ⟨r1, hr1, H⟩ := osplit H
   have F := xCf F (Jeh (a1.getD x1.toNat 0) r1 hr1)
   refine xR ?_
   exact cut_at H (xK ⟨[1], [2]⟩)
  refine xR ?_
  exact cut_at H (xK ⟨[1], [2]⟩)
 rintro x2 H
 rw [VN] at H
 rcases xB Y G H with ⟨p, H, F, G, q⟩ | ⟨p, H, F, G, q⟩
 ·refine xT ?_
  refine xr ?_
  exact round_at (inl_fin H hF1) (xK ⟨[1], [2]⟩)
 replace H := inrO_fin H hF1
 refine xE ?_
 replace H := oI H
 refine xr ?_
 subst H
 refine xOr ?_
 refine qDf [] ?_
 exact xO ⟨[1], [2]⟩
theorem Je1 : Callable Tryz.prog 68 ∧ (∀ g, ZM g → GenOk Tryz.prog 68 g) ∧ (true = true → ∀ g, ZM g → ∃ val bs ts, g.out = .ret val bs ts) :=
 ⟨call_68, JeH, fun _ => by rintro _ ⟨_, _, _, _, _, _, _, _, _, rfl⟩; exact ⟨_, _, _, rfl⟩⟩
noncomputable def J3 : (Bool × Int) → Option Yo
 | (x4, x5) => some (.inl (true, x4, x5))
noncomputable def VL (x3 : Int) : Bool → Option Yo
 | x8 => J3 (x8, IntKind.i64.wrap (x3 + 1))
noncomputable def VS (a0 : List UInt8) (x1 x2 : Bool) (x3 x12 : Int) : Bool → Option Yn
 | x13 => if x13 = true then some (.inl (IntKind.i64.wrap (x12 + 1))) else inrO (if (leI (a0.length : Int) (IntKind.i64.wrap (x12 + 1))) = true then inrO (some (x1, x2, false, x3)) else J3 (x2, IntKind.i64.wrap (x12 + 2)))
noncomputable def VU (a0 : List UInt8) (x1 x2 : Bool) (x3 : Int) : Int → Option Yn
 | x12 => if (ltI (IntKind.i64.wrap (x12 + 1)) (a0.length : Int)) = true then if (0 : Int) ≤ x12 ∧ x12 ≤ (IntKind.i64.wrap (x12 + 2)) ∧ (IntKind.i64.wrap (x12 + 2)) ≤ (a0.length : Int) then VS a0 x1 x2 x3 x12 (!eqS (List.take ((IntKind.i64.wrap (x12 + 2)).toNat - x12.toNat) (List.drop x12.toNat a0)) [42, 47]) else none else VS a0 x1 x2 x3 x12 false
noncomputable def Kw (a0 : List UInt8) (x1 x2 : Bool) (x3 : Int) : Bool → Option Yo
 | x11 => if x11 = true then loopO (VU a0 x1 x2 x3) (IntKind.i64.wrap (x3 + 2)) else inrO (some (x1, x2, true, x3))
noncomputable def KC (a0 : List UInt8) (a1 : List Int) (a2 : List UInt8) (a3 : Int) (a5 : List Token) (x1 x2 : Bool) (x3 : Int) : YU → Option Yo
 | (x9, x10) => if x10 = true then (Zu x3 a0 a1 a2 a3 x3 a5).bind fun r1 => J3 (x2, r1) else if (eqI (x9.toNat : Int) 47) = true then if (ltI (IntKind.i64.wrap (x3 + 1)) (a0.length : Int)) = true then if (0 : Int) ≤ (IntKind.i64.wrap (x3 + 1)) ∧ (IntKind.i64.wrap (x3 + 1)).toNat < a0.length then Kw a0 x1 x2 x3 (eqI ((a0.getD ((IntKind.i64.wrap (x3 + 1)).toNat) 0).toNat : Int) 42) else none else Kw a0 x1 x2 x3 false else Kw a0 x1 x2 x3 false
noncomputable def JG (a0 : List UInt8) (a1 : List Int) (a2 : List UInt8) (a3 : Int) (a5 : List Token) (x1 x2 : Bool) (x3 : Int) : YU → Option Yo
 | (x6, x7) => if x7 = true then if x2 = true then VL x3 true else VL x3 (eqI (x6.toNat : Int) 10) else if (eqI (x6.toNat : Int) 47) = true then if (ltI (IntKind.i64.wrap (x3 + 1)) (a0.length : Int)) = true then if (0 : Int) ≤ (IntKind.i64.wrap (x3 + 1)) ∧ (IntKind.i64.wrap (x3 + 1)).toNat < a0.length then KC a0 a1 a2 a3 a5 x1 x2 x3 (x6, eqI ((a0.getD ((IntKind.i64.wrap (x3 + 1)).toNat) 0).toNat : Int) 47) else none else KC a0 a1 a2 a3 a5 x1 x2 x3 (x6, false) else KC a0 a1 a2 a3 a5 x1 x2 x3 (x6, false)
noncomputable def JH (a0 : List UInt8) (a1 : List Int) (a2 : List UInt8) (a3 : Int) (a5 : List Token) : (Bool × Bool × Int) → Option Yo
 | (x1, x2, x3) => if (ltI x3 (a0.length : Int)) = true then if (0 : Int) ≤ x3 ∧ x3.toNat < a0.length then if (eqI ((a0.getD x3.toNat 0).toNat : Int) 32) = true then JG a0 a1 a2 a3 a5 x1 x2 x3 ((a0.getD x3.toNat 0), true) else if (eqI ((a0.getD x3.toNat 0).toNat : Int) 9) = true then JG a0 a1 a2 a3 a5 x1 x2 x3 ((a0.getD x3.toNat 0), true) else if (eqI ((a0.getD x3.toNat 0).toNat : Int) 10) = true then JG a0 a1 a2 a3 a5 x1 x2 x3 ((a0.getD x3.toNat 0), true) else JG a0 a1 a2 a3 a5 x1 x2 x3 ((a0.getD x3.toNat 0), eqI ((a0.getD x3.toNat 0).toNat : Int) 13) else none else inrO (some (x1, x2, true, x3))
noncomputable def JaF (a0 : List UInt8) (a1 : List Int) (a2 : List UInt8) (a3 a4 : Int) (a5 : List Token) : Option YE :=
 loopO (JH a0 a1 a2 a3 a5) (false, false, a4)
def ZN (a0 : List UInt8) (a1 : List Int) (a2 : List UInt8) (a3 a4 : Int) (a5 : List Token) (r : YE) : GI :=
 ⟨[.c (.pt 1 0)], [[kS a0, .d (.sl 1 (List.map dI a1)), kS a2, kI a3, kI a4, .sl 11 (List.map d_Token a5) 2]], [44], .ret (.tu [(false, [kB r.1]), (false, [kB r.2.1]), (false, [kB r.2.2.1])]) [[kS a0, .d (.sl 1 (List.map dI a1)), kS a2, kI a3, kI r.2.2.2, .sl 11 (List.map d_Token a5) 2]] [44]⟩
def ZO : GI → Prop := Sg6 JaF ZN
theorem Jey : ∀ g, ZO g → GenOk Tryz.prog 48 g := by
 rintro _ ⟨a0, a1, a2, a3, a4, a5, r, H, rfl⟩
 refine xGn mixed [] [(68, true, ZM)] [] trivial ⟨Je1, trivial⟩ trivial Tryz.func48 _ ?_
 have G := True.intro
 have Y := xZ y_3 <| xZ y_9 <| xZ y_70 <| xZ y_99 <| xZ Tryz.results48 <| xZ d_Call.eq_1 <| xZ d_Token.eq_1 <| xZ d_Spliced.eq_1 <| xZ ZI.eq_1 <| ZN.eq_1
 dsimp only [ZN]
 simp only [JaF] at H
 refine xS ?_
 refine xr ?_
 refine xr ?_
 refine w_loop (JH a0 a1 a2 a3 a5) (fun s => [(0, .c (.pt 1 0)), (2, cB s.1), (3, cB s.2.1), (5, cS a0)]) (fun s => [[kS a0, .d (.sl 1 (List.map dI a1)), kS a2, kI a3, kI s.2.2, .sl 11 (List.map d_Token a5) 2]]) [44] H (xK ⟨[1], [2]⟩) ?_
 rintro n1 ⟨x1, x2, x3⟩ o1 H hF1
 rw [JH] at H
 refine xS ?_
 refine xr ?_
 rcases xB Y G H with ⟨p, H, F, G, q⟩ | ⟨p, H, F, G, q⟩
 ·refine xT0 ?_
  refine w_skip ?_
  refine then_normal ?_
  refine w_block ?_
  refine w_cut J3 (fun s => [(0, .c (.pt 1 0)), (3, cB s.1), (5, cS a0)]) (fun s => [[kS a0, .d (.sl 1 (List.map dI a1)), kS a2, kI a3, kI s.2, .sl 11 (List.map d_Token a5) 2]]) [44] o1 ?_ ?_
  ·refine xS ?_
   obtain ⟨g, H⟩ := gsplit H
   refine xr0 ?_
   refine then_normal ?_
   refine w_block ?_
   refine w_cut (JG a0 a1 a2 a3 a5 x1 x2 x3) (fun s => [(0, .c (.pt 1 0)), (2, cB x1), (3, cB x2), (5, cS a0), (6, .c (.d (.v (.int .u8 (s.1.toNat : Int))))), (28, cB s.2)]) (fun s => [[kS a0, .d (.sl 1 (List.map dI a1)), kS a2, kI a3, kI x3, .sl 11 (List.map d_Token a5) 2]]) [44] o1 ?_ ?_
   ·rcases xB Y G H with ⟨p, H, F, G, q⟩ | ⟨p, H, F, G, q⟩
    ·refine xR ?_
     exact cut_at H (xK ⟨[1], [2]⟩)
    rcases xB F G H with ⟨p, H, F, G, q⟩ | ⟨p, H, F, G, q⟩
    ·refine xR ?_
     exact cut_at H (xK ⟨[1], [2]⟩)
    rcases xB F G H with ⟨p, H, F, G, q⟩ | ⟨p, H, F, G, q⟩
    ·refine xR ?_
     exact cut_at H (xK ⟨[1], [2]⟩)
    refine xR ?_
    exact cut_at H (xK ⟨[1], [2]⟩)
   rintro ⟨x6, x7⟩ H
   rw [JG] at H
   rcases xB Y G H with ⟨p, H, F, G, q⟩ | ⟨p, H, F, G, q⟩
   ·refine xT0 ?_
    refine w_cut (VL x3) (fun s => [(0, .c (.pt 1 0)), (3, cB s), (5, cS a0)]) (fun s => [[kS a0, .d (.sl 1 (List.map dI a1)), kS a2, kI a3, kI x3, .sl 11 (List.map d_Token a5) 2]]) [44] o1 ?_ ?_
    ·rcases xB Y G H with ⟨p, H, F, G, q⟩ | ⟨p, H, F, G, q⟩
     ·refine xR ?_
      exact cut_at H (xK ⟨[1], [2]⟩)
     refine xR ?_
     exact cut_at H (xK ⟨[1], [2]⟩)
    rintro x8 H
    rw [VL] at H
    refine xr ?_
    exact cut_at H (xK ⟨[1], [2]⟩)
   refine xE0 ?_
   refine w_cut (KC a0 a1 a2 a3 a5 x1 x2 x3) (fun s => [(0, .c (.pt 1 0)), (2, cB x1), (3, cB x2), (5, cS a0), (6, .c (.d (.v (.int .u8 (s.1.toNat : Int))))), (55, cB s.2)]) (fun s => [[kS a0, .d (.sl 1 (List.map dI a1)), kS a2, kI a3, kI x3, .sl 11 (List.map d_Token a5) 2]]) [44] o1 ?_ ?_
   ·rcases xB Y G H with ⟨p, H, F, G, q⟩ | ⟨p, H, F, G, q⟩
    ·rcases xB F G H with ⟨p, H, F, G, q⟩ | ⟨p, H, F, G, q⟩
     ·obtain ⟨g, H⟩ := gsplit H
      refine xR ?_
      exact cut_at H (xK ⟨[1], [2]⟩)
     refine xR ?_
     exact cut_at H (xK ⟨[1], [2]⟩)
    refine xR ?_
    exact cut_at H (xK ⟨[1], [2]⟩)
   rintro ⟨x9, x10⟩ H
   rw [KC] at H
   rcases xB Y G H with ⟨p, H, F, G, q⟩ | ⟨p, H, F, G, q⟩
   ·refine xT ?_
    obtain ⟨r1, hr1, H⟩ := osplit H
    have F := Y
    refine xQ ?_
    refine xs 6 ?_
    refine xc ⟨[1], [2]⟩ (tabG 0 (cg7 hr1)) ?_
    refine xs 3 ?_
    refine xl ?_
    refine xS ?_
    exact cut_at H (xK ⟨[1], [4]⟩)
   refine xE0 ?_
   refine w_cut (Kw a0 x1 x2 x3) (fun s => [(0, .c (.pt 1 0)), (2, cB x1), (3, cB x2), (5, cS a0), (87, cB s)]) (fun s => [[kS a0, .d (.sl 1 (List.map dI a1)), kS a2, kI a3, kI x3, .sl 11 (List.map d_Token a5) 2]]) [44] o1 ?_ ?_
   ·rcases xB Y G H with ⟨p, H, F, G, q⟩ | ⟨p, H, F, G, q⟩
    ·rcases xB F G H with ⟨p, H, F, G, q⟩ | ⟨p, H, F, G, q⟩
     ·obtain ⟨g, H⟩ := gsplit H
      refine xR ?_
      exact cut_at H (xK ⟨[1], [2]⟩)
     refine xR ?_
     exact cut_at H (xK ⟨[1], [2]⟩)
    refine xR ?_
    exact cut_at H (xK ⟨[1], [2]⟩)
   rintro x11 H
   rw [Kw] at H
   rcases xB Y G H with ⟨p, H, F, G, q⟩ | ⟨p, H, F, G, q⟩
   ·refine xT ?_
    refine xr ?_
    refine w_loop (VU a0 x1 x2 x3) (fun s => [(0, .c (.pt 1 0)), (2, cB x1), (3, cB x2), (5, cS a0), (7, cI s)]) (fun s => [[kS a0, .d (.sl 1 (List.map dI a1)), kS a2, kI a3, kI x3, .sl 11 (List.map d_Token a5) 2]]) [44] H (xK ⟨[1], [2]⟩) ?_
    rintro n2 x12 o2 H hF2
    rw [VU] at H
    refine w_seq ?_
    refine w_cut (VS a0 x1 x2 x3 x12) (fun s => [(0, .c (.pt 1 0)), (2, cB x1), (3, cB x2), (5, cS a0), (7, cI x12), (127, cB s)]) (fun s => [[kS a0, .d (.sl 1 (List.map dI a1)), kS a2, kI a3, kI x3, .sl 11 (List.map d_Token a5) 2]]) [44] o2 ?_ ?_
    ·rcases xB Y G H with ⟨p, H, F, G, q⟩ | ⟨p, H, F, G, q⟩
     ·obtain ⟨g, H⟩ := gsplit H
      refine xR ?_
      exact cut_at H (xK ⟨[1], [2]⟩)
     refine xR ?_
     exact cut_at H (xK ⟨[1], [2]⟩)
    rintro x13 H
    rw [VS] at H
    rcases xB Y G H with ⟨p, H, F, G, q⟩ | ⟨p, H, F, G, q⟩
    ·refine xT ?_
     refine xr ?_
     exact round_at (inl_fin H hF2) (xK ⟨[1], [2]⟩)
    replace H := inrO_fin H hF2
    refine xE ?_
    refine xr ?_
    rcases xB Y G H with ⟨p, H, F, G, q⟩ | ⟨p, H, F, G, q⟩
    ·refine xT ?_
     replace H := inrO_fin H hF1
     replace H := oI H
     refine xr ?_
     subst H
     refine xOr ?_
     refine qDf [] ?_
     exact xO ⟨[1], [2]⟩
    refine xE ?_
    refine xr ?_
    exact cut_at H (xK ⟨[1], [2]⟩)
   refine xE ?_
   replace H := inrO_fin H hF1
   replace H := oI H
   refine xr ?_
   subst H
   refine xOr ?_
   refine qDf [] ?_
   exact xO ⟨[1], [2]⟩
  rintro ⟨x4, x5⟩ H
  rw [J3] at H
  refine xr ?_
  exact round_at (inl_fin H hF1) (xK ⟨[1], [2]⟩)
 replace H := inrO_fin H hF1
 refine xE ?_
 replace H := oI H
 refine xr ?_
 subst H
 refine xOr ?_
 refine qDf [] ?_
 exact xO ⟨[1], [2]⟩
theorem JeV : Callable Tryz.prog 48 ∧ (∀ g, ZO g → GenOk Tryz.prog 48 g) ∧ (true = true → ∀ g, ZO g → ∃ val bs ts, g.out = .ret val bs ts) :=
 ⟨call_48, Jey, fun _ => by rintro _ ⟨_, _, _, _, _, _, _, _, rfl⟩; exact ⟨_, _, _, rfl⟩⟩
noncomputable def Zs (a0 : Spliced) (a1 : Int) : Bool → Option Int
 | x1 => if x1 = true then some (-1) else if (0 : Int) ≤ a1 ∧ a1.toNat < a0.At.length then some (a0.At.getD a1.toNat default) else none
noncomputable def KN (a0 : Spliced) (a1 : Int) : Option Int :=
 if (ltI a1 0) = true then Zs a0 a1 true else Zs a0 a1 (leI (a0.At.length : Int) a1)
noncomputable def Jb8 : PF := PF.of (E2 d_Spliced dI) (fun a => KN a.1 a.2) dI
theorem Jfg : PureOk Tryz.prog 49 Jb8 := by
 refine xF mixed [] [] trivial trivial Tryz.func49 ?_
 rintro ⟨a0, a1⟩ out H
 have G := True.intro
 have Y := xZ y_3 <| xZ y_25 <| xZ y_70 <| xZ Tryz.results49 <| d_Spliced.eq_1
 simp only [KN] at H
 refine xS ?_
 refine xr0 ?_
 refine then_normal ?_
 refine w_seq ?_
 refine w_cut (Zs a0 a1) (fun s => [(1, cI a1), (2, .c (.pt 1 0)), (13, cB s)]) (fun s => [[kS a0.Text, .d (.sl 1 (List.map dI a0.At))]]) [] out ?_ ?_
 ·rcases xB Y G H with ⟨p, H, F, G, q⟩ | ⟨p, H, F, G, q⟩
  ·refine xR ?_
   exact cut_at H (xK ⟨[1], []⟩)
  refine xR ?_
  exact cut_at H (xK ⟨[1], []⟩)
 rintro x1 H
 rw [Zs] at H
 rcases xB Y G H with ⟨p, H, F, G, q⟩ | ⟨p, H, F, G, q⟩
 ·refine xT ?_
  replace H := oI H
  refine xr ?_
  subst H
  exact xN
 refine xE ?_
 obtain ⟨g, H⟩ := gsplit H
 have F := xZ Y (map_getD dI a0.At a1.toNat default default (by omega))
 replace H := oI H
 refine xR ?_
 subst H
 exact xN
theorem Jco (a0 : Spliced) (a1 r : Int) (H : KN a0 a1 = some r) : PC Jb8 [d_Spliced a0, dI a1] (dI r) := PF.c (a := (a0, a1)) H
noncomputable def J8 : Bool → Option Bool
 | x1 => some x1
noncomputable def ZA (a0 : UInt8) : Option Bool :=
 if (leI 97 (a0.toNat : Int)) = true then if (leI (a0.toNat : Int) 122) = true then J8 true else if (leI 65 (a0.toNat : Int)) = true then if (leI (a0.toNat : Int) 90) = true then J8 true else J8 (eqI (a0.toNat : Int) 95) else J8 (eqI (a0.toNat : Int) 95) else if (leI 65 (a0.toNat : Int)) = true then if (leI (a0.toNat : Int) 90) = true then J8 true else J8 (eqI (a0.toNat : Int) 95) else J8 (eqI (a0.toNat : Int) 95)
noncomputable def Jap : PF := PF.of (E1 dU) (fun a => ZA a) dB
theorem JcI : PureOk Tryz.prog 70 Jap := by
 refine xF mixed [] [] trivial trivial Tryz.func70 ?_
 rintro a0 out H
 have G := True.intro
 have Y := Tryz.results70
 simp only [ZA] at H
 refine xS ?_
 refine xr0 ?_
 refine then_normal ?_
 refine w_cut J8 (fun s => [(2, cB s)]) (fun s => []) [] out ?_ ?_
 ·rcases xB Y G H with ⟨p, H, F, G, q⟩ | ⟨p, H, F, G, q⟩
  ·rcases xB F G H with ⟨p, H, F, G, q⟩ | ⟨p, H, F, G, q⟩
   ·refine xR ?_
    exact cut_at H (xK ⟨[], []⟩)
   rcases xB F G H with ⟨p, H, F, G, q⟩ | ⟨p, H, F, G, q⟩
   ·rcases xB F G H with ⟨p, H, F, G, q⟩ | ⟨p, H, F, G, q⟩
    ·refine xR ?_
     exact cut_at H (xK ⟨[], []⟩)
    refine xR ?_
    exact cut_at H (xK ⟨[], []⟩)
   refine xR ?_
   exact cut_at H (xK ⟨[], []⟩)
  rcases xB F G H with ⟨p, H, F, G, q⟩ | ⟨p, H, F, G, q⟩
  ·rcases xB F G H with ⟨p, H, F, G, q⟩ | ⟨p, H, F, G, q⟩
   ·refine xR ?_
    exact cut_at H (xK ⟨[], []⟩)
   refine xR ?_
   exact cut_at H (xK ⟨[], []⟩)
  refine xR ?_
  exact cut_at H (xK ⟨[], []⟩)
 rintro x1 H
 rw [J8] at H
 replace H := oI H
 refine xS ?_
 subst H
 exact xN
theorem Jdg (a0 : UInt8) (r : Bool) (H : ZA a0 = some r) : PC Jap [dU a0] (dB r) := PF.c (a := a0) H
noncomputable def JaX : Bool → Option Bool
 | x1 => some x1
noncomputable def ZB (a0 : UInt8) : Option Bool :=
 if (leI 48 (a0.toNat : Int)) = true then JaX (leI (a0.toNat : Int) 57) else JaX false
noncomputable def JaT : PF := PF.of (E1 dU) (fun a => ZB a) dB
theorem JcY : PureOk Tryz.prog 72 JaT := by
 refine xF mixed [] [] trivial trivial Tryz.func72 ?_
 rintro a0 out H
 have G := True.intro
 have Y := Tryz.results72
 simp only [ZB] at H
 refine xS ?_
 refine xr0 ?_
 refine then_normal ?_
 refine w_cut JaX (fun s => [(2, cB s)]) (fun s => []) [] out ?_ ?_
 ·rcases xB Y G H with ⟨p, H, F, G, q⟩ | ⟨p, H, F, G, q⟩
  ·refine xR ?_
   exact cut_at H (xK ⟨[], []⟩)
  refine xR ?_
  exact cut_at H (xK ⟨[], []⟩)
 rintro x1 H
 rw [JaX] at H
 replace H := oI H
 refine xS ?_
 subst H
 exact xN
theorem Jcv (a0 : UInt8) (r : Bool) (H : ZB a0 = some r) : PC JaT [dU a0] (dB r) := PF.c (a := a0) H
noncomputable def VT : Bool → Option Bool
 | x1 => some x1
noncomputable def Xc (a0 : UInt8) : Option Bool :=
 (ZA a0).bind fun r1 => if r1 = true then VT true else (ZB a0).bind fun r2 => VT r2
noncomputable def JaY : PF := PF.of (E1 dU) (fun a => Xc a) dB
theorem Jez : PureOk Tryz.prog 71 JaY := by
 refine xF mixed [(70, Jap), (72, JaT)] [] ⟨⟨call_70, JcI⟩, ⟨call_72, JcY⟩, trivial⟩ trivial Tryz.func71 ?_
 rintro a0 out H
 have G := True.intro
 have Y := Tryz.results71
 simp only [Xc] at H
 refine xS ?_
 refine xr0 ?_
 refine then_normal ?_
 refine w_cut VT (fun s => [(2, cB s)]) (fun s => []) [] out ?_ ?_
 ·obtain ⟨r1, hr1, H⟩ := osplit H
  have F := xC Y (Jdg a0 r1 hr1)
  rcases xB F G H with ⟨p, H, F, G, q⟩ | ⟨p, H, F, G, q⟩
  ·refine xR ?_
   exact cut_at H (xK ⟨[], []⟩)
  obtain ⟨r2, hr2, H⟩ := osplit H
  have F := xCf F (Jcv a0 r2 hr2)
  refine xR ?_
  exact cut_at H (xK ⟨[], []⟩)
 rintro x1 H
 rw [VT] at H
 replace H := oI H
 refine xS ?_
 subst H
 exact xN
theorem JeX (a0 : UInt8) (r : Bool) (H : Xc a0 = some r) : PC JaY [dU a0] (dB r) := PF.c (a := a0) H
noncomputable def Kx (x1 : Int) : Bool → Option (Int ⊕ Int)
 | x2 => if x2 = true then some (.inl (IntKind.i64.wrap (x1 + 1))) else inrO (some x1)
noncomputable def Xb (a1 : List UInt8) : Int → Option (Int ⊕ Int)
 | x1 => if (ltI x1 (a1.length : Int)) = true then if (0 : Int) ≤ x1 ∧ x1.toNat < a1.length then (Xc (a1.getD x1.toNat 0)).bind fun r1 => Kx x1 r1 else none else Kx x1 false
noncomputable def VQ (a0 : Int) (a1 : List UInt8) (a2 : List Int) (a3 : List UInt8) (a4 a5 : Int) (a6 : List Token) : Option Int :=
 loopO (Xb a1) a0
def XC (a0 : Int) (a1 : List UInt8) (a2 : List Int) (a3 : List UInt8) (a4 a5 : Int) (a6 : List Token) (r : Int) : GI :=
 ⟨[.c (.pt 1 0), cI a0, .c (.d (.v (.func (.func 71) #[] #[])))], [[kS a1, .d (.sl 1 (List.map dI a2)), kS a3, kI a4, kI a5, .sl 11 (List.map d_Token a6) 2]], [44], .ret (cI r) [[kS a1, .d (.sl 1 (List.map dI a2)), kS a3, kI a4, kI a5, .sl 11 (List.map d_Token a6) 2]] [44]⟩
def XJ : GI → Prop := Sg7 VQ XC
theorem JdW : ∀ g, XJ g → GenOk Tryz.prog 68 g := by
 rintro _ ⟨a0, a1, a2, a3, a4, a5, a6, r, H, rfl⟩
 refine xGn mixed [(71, JaY)] [] [] ⟨⟨call_71, Jez⟩, trivial⟩ trivial trivial Tryz.func68 _ ?_
 have G := True.intro
 have Y := xZ y_9 <| xZ y_70 <| xZ y_99 <| xZ Tryz.results68 <| xZ d_Call.eq_1 <| xZ d_Token.eq_1 <| xZ d_Spliced.eq_1 <| XC.eq_1
 dsimp only [XC]
 simp only [VQ] at H
 refine xS ?_
 refine xr ?_
 refine w_loop (Xb a1) (fun s => [(0, .c (.pt 1 0)), (1, cI s), (2, .c (.d (.v (.func (.func 71) #[] #[]))))]) (fun s => [[kS a1, .d (.sl 1 (List.map dI a2)), kS a3, kI a4, kI a5, .sl 11 (List.map d_Token a6) 2]]) [44] H (xK ⟨[1], [2]⟩) ?_
 rintro n1 x1 o1 H hF1
 rw [Xb] at H
 refine w_seq ?_
 refine w_cut (Kx x1) (fun s => [(0, .c (.pt 1 0)), (1, cI x1), (2, .c (.d (.v (.func (.func 71) #[] #[])))), (25, cB s)]) (fun s => [[kS a1, .d (.sl 1 (List.map dI a2)), kS a3, kI a4, kI a5, .sl 11 (List.map d_Token a6) 2]]) [44] o1 ?_ ?_
 ·rcases xB Y G H with ⟨p, H, F, G, q⟩ | ⟨p, H, F, G, q⟩
  ·obtain ⟨g, H⟩ := gsplit H
   obtain ⟨r1, hr1, H⟩ := osplit H
   have F := xCf F (JeX (a1.getD x1.toNat 0) r1 hr1)
   refine xR ?_
   exact cut_at H (xK ⟨[1], [2]⟩)
  refine xR ?_
  exact cut_at H (xK ⟨[1], [2]⟩)
 rintro x2 H
 rw [Kx] at H
 rcases xB Y G H with ⟨p, H, F, G, q⟩ | ⟨p, H, F, G, q⟩
 ·refine xT ?_
  refine xr ?_
  exact round_at (inl_fin H hF1) (xK ⟨[1], [2]⟩)
 replace H := inrO_fin H hF1
 refine xE ?_
 replace H := oI H
 refine xr ?_
 subst H
 refine xOr ?_
 refine qDf [] ?_
 exact xO ⟨[1], [2]⟩
theorem Jed : Callable Tryz.prog 68 ∧ (∀ g, XJ g → GenOk Tryz.prog 68 g) ∧ (true = true → ∀ g, XJ g → ∃ val bs ts, g.out = .ret val bs ts) :=
 ⟨call_68, JdW, fun _ => by rintro _ ⟨_, _, _, _, _, _, _, _, _, rfl⟩; exact ⟨_, _, _, rfl⟩⟩
noncomputable def Vo (x1 : Int) : Unit → Option (Int ⊕ Int)
 | () => some (.inl (IntKind.i64.wrap (x1 + 1)))
noncomputable def Ke (x1 : Int) : Bool → Option (Int ⊕ Int)
 | x4 => if x4 = true then inrO (some x1) else Vo x1 ()
noncomputable def Jk (x1 : Int) : YU → Option (Int ⊕ Int)
 | (x2, x3) => if x3 = true then Vo x1 () else if (!eqI (x2.toNat : Int) 46) = true then (ZA x2).bind fun r1 => if (!r1) = true then (ZB x2).bind fun r2 => Ke x1 (!r2) else Ke x1 false else Ke x1 false
noncomputable def Vj (a0 : List UInt8) (a4 : Int) : Int → Option (Int ⊕ Int)
 | x1 => if (ltI x1 (a0.length : Int)) = true then if (0 : Int) ≤ x1 ∧ x1.toNat < a0.length then if (eqI ((a0.getD x1.toNat 0).toNat : Int) 43) = true then if (ltI a4 x1) = true then if (0 : Int) ≤ (IntKind.i64.wrap (x1 - 1)) ∧ (IntKind.i64.wrap (x1 - 1)).toNat < a0.length then if (eqI ((a0.getD ((IntKind.i64.wrap (x1 - 1)).toNat) 0).toNat : Int) 101) = true then Jk x1 ((a0.getD x1.toNat 0), true) else if (0 : Int) ≤ (IntKind.i64.wrap (x1 - 1)) ∧ (IntKind.i64.wrap (x1 - 1)).toNat < a0.length then Jk x1 ((a0.getD x1.toNat 0), eqI ((a0.getD ((IntKind.i64.wrap (x1 - 1)).toNat) 0).toNat : Int) 69) else none else none else Jk x1 ((a0.getD x1.toNat 0), false) else if (eqI ((a0.getD x1.toNat 0).toNat : Int) 45) = true then if (ltI a4 x1) = true then if (0 : Int) ≤ (IntKind.i64.wrap (x1 - 1)) ∧ (IntKind.i64.wrap (x1 - 1)).toNat < a0.length then if (eqI ((a0.getD ((IntKind.i64.wrap (x1 - 1)).toNat) 0).toNat : Int) 101) = true then Jk x1 ((a0.getD x1.toNat 0), true) else if (0 : Int) ≤ (IntKind.i64.wrap (x1 - 1)) ∧ (IntKind.i64.wrap (x1 - 1)).toNat < a0.length then Jk x1 ((a0.getD x1.toNat 0), eqI ((a0.getD ((IntKind.i64.wrap (x1 - 1)).toNat) 0).toNat : Int) 69) else none else none else Jk x1 ((a0.getD x1.toNat 0), false) else Jk x1 ((a0.getD x1.toNat 0), false) else none else inrO (some x1)
noncomputable def XV (a0 : List UInt8) (a1 : List Int) (a2 : List UInt8) (a3 a4 : Int) (a5 : List Token) : Option Int :=
 loopO (Vj a0 a4) a4
def Zm (a0 : List UInt8) (a1 : List Int) (a2 : List UInt8) (a3 a4 : Int) (a5 : List Token) (r : Int) : GI :=
 ⟨[.c (.pt 1 0)], [[kS a0, .d (.sl 1 (List.map dI a1)), kS a2, kI a3, kI a4, .sl 11 (List.map d_Token a5) 2]], [44], .ret (cI r) [[kS a0, .d (.sl 1 (List.map dI a1)), kS a2, kI a3, kI a4, .sl 11 (List.map d_Token a5) 2]] [44]⟩
def Zp : GI → Prop := Sg6 XV Zm
theorem Jeo : ∀ g, Zp g → GenOk Tryz.prog 73 g := by
 rintro _ ⟨a0, a1, a2, a3, a4, a5, r, H, rfl⟩
 refine xGn mixed [(70, Jap), (72, JaT)] [] [] ⟨⟨call_70, JcI⟩, ⟨call_72, JcY⟩, trivial⟩ trivial trivial Tryz.func73 _ ?_
 have G := True.intro
 have Y := xZ y_3 <| xZ y_9 <| xZ y_70 <| xZ y_99 <| xZ Tryz.results73 <| xZ d_Call.eq_1 <| xZ d_Token.eq_1 <| xZ d_Spliced.eq_1 <| Zm.eq_1
 dsimp only [Zm]
 simp only [XV] at H
 refine xS ?_
 refine xr ?_
 refine xr ?_
 refine xr ?_
 refine w_loop (Vj a0 a4) (fun s => [(0, .c (.pt 1 0)), (3, cS a0), (4, cI s)]) (fun s => [[kS a0, .d (.sl 1 (List.map dI a1)), kS a2, kI a3, kI a4, .sl 11 (List.map d_Token a5) 2]]) [44] H (xK ⟨[1], [2]⟩) ?_
 rintro n1 x1 o1 H hF1
 rw [Vj] at H
 refine xS ?_
 refine xr ?_
 rcases xB Y G H with ⟨p, H, F, G, q⟩ | ⟨p, H, F, G, q⟩
 ·refine xT0 ?_
  refine w_skip ?_
  refine then_normal ?_
  refine w_block ?_
  refine w_cut (Vo x1) (fun s => [(0, .c (.pt 1 0)), (3, cS a0), (4, cI x1)]) (fun s => [[kS a0, .d (.sl 1 (List.map dI a1)), kS a2, kI a3, kI a4, .sl 11 (List.map d_Token a5) 2]]) [44] o1 ?_ ?_
  ·refine xS ?_
   obtain ⟨g, H⟩ := gsplit H
   refine xr0 ?_
   refine then_normal ?_
   refine w_block ?_
   refine w_cut (Jk x1) (fun s => [(0, .c (.pt 1 0)), (3, cS a0), (4, cI x1), (5, .c (.d (.v (.int .u8 (s.1.toNat : Int))))), (22, cB s.2)]) (fun s => [[kS a0, .d (.sl 1 (List.map dI a1)), kS a2, kI a3, kI a4, .sl 11 (List.map d_Token a5) 2]]) [44] o1 ?_ ?_
   ·rcases xB Y G H with ⟨p, H, F, G, q⟩ | ⟨p, H, F, G, q⟩
    ·rcases xB F G H with ⟨p, H, F, G, q⟩ | ⟨p, H, F, G, q⟩
     ·obtain ⟨g, H⟩ := gsplit H
      rcases xB F G H with ⟨p, H, F, G, q⟩ | ⟨p, H, F, G, q⟩
      ·refine xR ?_
       exact cut_at H (xK ⟨[1], [2]⟩)
      obtain ⟨g, H⟩ := gsplit H
      refine xR ?_
      exact cut_at H (xK ⟨[1], [2]⟩)
     refine xR ?_
     exact cut_at H (xK ⟨[1], [2]⟩)
    rcases xB F G H with ⟨p, H, F, G, q⟩ | ⟨p, H, F, G, q⟩
    ·rcases xB F G H with ⟨p, H, F, G, q⟩ | ⟨p, H, F, G, q⟩
     ·obtain ⟨g, H⟩ := gsplit H
      rcases xB F G H with ⟨p, H, F, G, q⟩ | ⟨p, H, F, G, q⟩
      ·refine xR ?_
       exact cut_at H (xK ⟨[1], [2]⟩)
      obtain ⟨g, H⟩ := gsplit H
      refine xR ?_
      exact cut_at H (xK ⟨[1], [2]⟩)
     refine xR ?_
     exact cut_at H (xK ⟨[1], [2]⟩)
    refine xR ?_
    exact cut_at H (xK ⟨[1], [2]⟩)
   rintro ⟨x2, x3⟩ H
   rw [Jk] at H
   rcases xB Y G H with ⟨p, H, F, G, q⟩ | ⟨p, H, F, G, q⟩
   ·refine xT ?_
    exact cut_at H (xK ⟨[1], [2]⟩)
   refine xE0 ?_
   refine w_cut (Ke x1) (fun s => [(0, .c (.pt 1 0)), (3, cS a0), (4, cI x1), (51, cB s)]) (fun s => [[kS a0, .d (.sl 1 (List.map dI a1)), kS a2, kI a3, kI a4, .sl 11 (List.map d_Token a5) 2]]) [44] o1 ?_ ?_
   ·rcases xB Y G H with ⟨p, H, F, G, q⟩ | ⟨p, H, F, G, q⟩
    ·obtain ⟨r1, hr1, H⟩ := osplit H
     have F := xCf F (Jdg x2 r1 hr1)
     rcases xB F G H with ⟨p, H, F, G, q⟩ | ⟨p, H, F, G, q⟩
     ·obtain ⟨r2, hr2, H⟩ := osplit H
      have F := xCf F (Jcv x2 r2 hr2)
      refine xR ?_
      exact cut_at H (xK ⟨[1], [2]⟩)
     refine xR ?_
     exact cut_at H (xK ⟨[1], [2]⟩)
    refine xR ?_
    exact cut_at H (xK ⟨[1], [2]⟩)
   rintro x4 H
   rw [Ke] at H
   rcases xB Y G H with ⟨p, H, F, G, q⟩ | ⟨p, H, F, G, q⟩
   ·refine xT ?_
    replace H := inrO_fin H hF1
    replace H := oI H
    refine xr ?_
    subst H
    refine xOr ?_
    refine qDf [] ?_
    exact xO ⟨[1], [2]⟩
   refine xE ?_
   exact cut_at H (xK ⟨[1], [2]⟩)
  rintro ⟨⟩ H
  rw [Vo] at H
  refine xr ?_
  exact round_at (inl_fin H hF1) (xK ⟨[1], [2]⟩)
 replace H := inrO_fin H hF1
 refine xE ?_
 replace H := oI H
 refine xr ?_
 subst H
 refine xOr ?_
 refine qDf [] ?_
 exact xO ⟨[1], [2]⟩
theorem JeN : Callable Tryz.prog 73 ∧ (∀ g, Zp g → GenOk Tryz.prog 73 g) ∧ (true = true → ∀ g, Zp g → ∃ val bs ts, g.out = .ret val bs ts) :=
 ⟨call_73, Jeo, fun _ => by rintro _ ⟨_, _, _, _, _, _, _, _, rfl⟩; exact ⟨_, _, _, rfl⟩⟩
noncomputable def Kf : (UInt8 × Int) → Option YI
 | (x5, x6) => some (.inl (x5, IntKind.i64.wrap (x6 + 1)))
noncomputable def Vn (x2 : Int) : YU → Option YI
 | (x7, x8) => if x8 = true then Kf (x7, IntKind.i64.wrap (x2 + 1)) else Kf (x7, x2)
noncomputable def Vi (a1 : List UInt8) (x2 : Int) : YU → Option YI
 | (x3, x4) => if x4 = true then if (0 : Int) ≤ x2 ∧ x2.toNat < a1.length then if (eqI ((a1.getD x2.toNat 0).toNat : Int) (x3.toNat : Int)) = true then inrO (some (IntKind.i64.wrap (x2 + 1))) else if (eqI ((a1.getD x2.toNat 0).toNat : Int) 92) = true then if (ltI (IntKind.i64.wrap (x2 + 1)) (a1.length : Int)) = true then if (0 : Int) ≤ (IntKind.i64.wrap (x2 + 1)) ∧ (IntKind.i64.wrap (x2 + 1)).toNat < a1.length then Vn x2 (x3, !eqI ((a1.getD ((IntKind.i64.wrap (x2 + 1)).toNat) 0).toNat : Int) 10) else none else Vn x2 (x3, false) else Kf (x3, x2) else none else inrO (some (-1))
noncomputable def Vk (a1 : List UInt8) : (UInt8 × Int) → Option YI
 | (x1, x2) => if (ltI x2 (a1.length : Int)) = true then if (0 : Int) ≤ x2 ∧ x2.toNat < a1.length then Vi a1 x2 (x1, !eqI ((a1.getD x2.toNat 0).toNat : Int) 10) else none else Vi a1 x2 (x1, false)
noncomputable def Vq (a0 : UInt8) (a1 : List UInt8) (a2 : List Int) (a3 : List UInt8) (a4 a5 : Int) (a6 : List Token) : Option Int :=
 loopO (Vk a1) (a0, IntKind.i64.wrap (a5 + 1))
def Zn (a0 : UInt8) (a1 : List UInt8) (a2 : List Int) (a3 : List UInt8) (a4 a5 : Int) (a6 : List Token) (r : Int) : GI :=
 ⟨[.c (.pt 1 0), .c (.d (.v (.int .u8 (a0.toNat : Int))))], [[kS a1, .d (.sl 1 (List.map dI a2)), kS a3, kI a4, kI a5, .sl 11 (List.map d_Token a6) 2]], [44], .ret (cI r) [[kS a1, .d (.sl 1 (List.map dI a2)), kS a3, kI a4, kI a5, .sl 11 (List.map d_Token a6) 2]] [44]⟩
def Zx : GI → Prop := Sg7 Vq Zn
theorem Jev : ∀ g, Zx g → GenOk Tryz.prog 74 g := by
 rintro _ ⟨a0, a1, a2, a3, a4, a5, a6, r, H, rfl⟩
 refine xGn mixed [] [] [] trivial trivial trivial Tryz.func74 _ ?_
 have G := True.intro
 have Y := xZ y_3 <| xZ y_9 <| xZ y_70 <| xZ y_99 <| xZ Tryz.results74 <| xZ d_Call.eq_1 <| xZ d_Token.eq_1 <| xZ d_Spliced.eq_1 <| Zn.eq_1
 dsimp only [Zn]
 simp only [Vq] at H
 refine xS ?_
 refine xr ?_
 refine xr ?_
 refine xr ?_
 refine w_loop (Vk a1) (fun s => [(1, .c (.d (.v (.int .u8 (s.1.toNat : Int))))), (5, cS a1), (6, cI s.2)]) (fun s => [[kS a1, .d (.sl 1 (List.map dI a2)), kS a3, kI a4, kI a5, .sl 11 (List.map d_Token a6) 2]]) [44] H (xK ⟨[1], [2]⟩) ?_
 rintro n1 ⟨x1, x2⟩ o1 H hF1
 rw [Vk] at H
 refine w_seq ?_
 refine w_cut (Vi a1 x2) (fun s => [(1, .c (.d (.v (.int .u8 (s.1.toNat : Int))))), (5, cS a1), (6, cI x2), (26, cB s.2)]) (fun s => [[kS a1, .d (.sl 1 (List.map dI a2)), kS a3, kI a4, kI a5, .sl 11 (List.map d_Token a6) 2]]) [44] o1 ?_ ?_
 ·rcases xB Y G H with ⟨p, H, F, G, q⟩ | ⟨p, H, F, G, q⟩
  ·obtain ⟨g, H⟩ := gsplit H
   refine xR ?_
   exact cut_at H (xK ⟨[1], [2]⟩)
  refine xR ?_
  exact cut_at H (xK ⟨[1], [2]⟩)
 rintro ⟨x3, x4⟩ H
 rw [Vi] at H
 rcases xB Y G H with ⟨p, H, F, G, q⟩ | ⟨p, H, F, G, q⟩
 ·refine xT0 ?_
  refine w_skip ?_
  refine then_normal ?_
  refine w_cut Kf (fun s => [(1, .c (.d (.v (.int .u8 (s.1.toNat : Int))))), (5, cS a1), (6, cI s.2)]) (fun s => [[kS a1, .d (.sl 1 (List.map dI a2)), kS a3, kI a4, kI a5, .sl 11 (List.map d_Token a6) 2]]) [44] o1 ?_ ?_
  ·refine xS ?_
   obtain ⟨g, H⟩ := gsplit H
   refine xr ?_
   refine xr ?_
   rcases xB Y G H with ⟨p, H, F, G, q⟩ | ⟨p, H, F, G, q⟩
   ·refine xT ?_
    replace H := inrO_fin H hF1
    replace H := oI H
    refine xr ?_
    subst H
    refine xOr ?_
    refine qDf [] ?_
    exact xO ⟨[1], [2]⟩
   refine xE ?_
   refine xr ?_
   rcases xB Y G H with ⟨p, H, F, G, q⟩ | ⟨p, H, F, G, q⟩
   ·refine xT0 ?_
    refine w_cut (Vn x2) (fun s => [(1, .c (.d (.v (.int .u8 (s.1.toNat : Int))))), (5, cS a1), (6, cI x2), (50, cB s.2)]) (fun s => [[kS a1, .d (.sl 1 (List.map dI a2)), kS a3, kI a4, kI a5, .sl 11 (List.map d_Token a6) 2]]) [44] o1 ?_ ?_
    ·rcases xB Y G H with ⟨p, H, F, G, q⟩ | ⟨p, H, F, G, q⟩
     ·obtain ⟨g, H⟩ := gsplit H
      refine xR ?_
      exact cut_at H (xK ⟨[1], [2]⟩)
     refine xR ?_
     exact cut_at H (xK ⟨[1], [2]⟩)
    rintro ⟨x7, x8⟩ H
    rw [Vn] at H
    rcases xB Y G H with ⟨p, H, F, G, q⟩ | ⟨p, H, F, G, q⟩
    ·refine xT ?_
     refine xr ?_
     exact cut_at H (xK ⟨[1], [2]⟩)
    refine xE ?_
    exact cut_at H (xK ⟨[1], [2]⟩)
   refine xE ?_
   exact cut_at H (xK ⟨[1], [2]⟩)
  rintro ⟨x5, x6⟩ H
  rw [Kf] at H
  refine xr ?_
  exact round_at (inl_fin H hF1) (xK ⟨[1], [2]⟩)
 replace H := inrO_fin H hF1
 refine xE ?_
 replace H := oI H
 refine xr ?_
 subst H
 refine xOr ?_
 refine qDf [] ?_
 exact xO ⟨[1], [2]⟩
theorem JeB : Callable Tryz.prog 74 ∧ (∀ g, Zx g → GenOk Tryz.prog 74 g) ∧ (true = true → ∀ g, Zx g → ∃ val bs ts, g.out = .ret val bs ts) :=
 ⟨call_74, Jev, fun _ => by rintro _ ⟨_, _, _, _, _, _, _, _, _, rfl⟩; exact ⟨_, _, _, rfl⟩⟩
noncomputable def Vm : Bool → Option Bool
 | x1 => some x1
noncomputable def XS (a0 : UInt8) : Option Bool :=
 if (!eqI (a0.toNat : Int) 62) = true then Vm (!eqI (a0.toNat : Int) 10) else Vm false
noncomputable def JaC : PF := PF.of (E1 dU) (fun a => XS a) dB
theorem Jet : PureOk Tryz.prog 100 JaC := by
 refine xF mixed [] [] trivial trivial Tryz.func100 ?_
 rintro a0 out H
 have G := True.intro
 have Y := Tryz.results100
 simp only [XS] at H
 refine xS ?_
 refine xr0 ?_
 refine then_normal ?_
 refine w_cut Vm (fun s => [(2, cB s)]) (fun s => []) [] out ?_ ?_
 ·rcases xB Y G H with ⟨p, H, F, G, q⟩ | ⟨p, H, F, G, q⟩
  ·refine xR ?_
   exact cut_at H (xK ⟨[], []⟩)
  refine xR ?_
  exact cut_at H (xK ⟨[], []⟩)
 rintro x1 H
 rw [Vm] at H
 replace H := oI H
 refine xS ?_
 subst H
 exact xN
theorem JeL (a0 : UInt8) (r : Bool) (H : XS a0 = some r) : PC JaC [dU a0] (dB r) := PF.c (a := a0) H
noncomputable def Kz (x1 : Int) : Bool → Option (Int ⊕ Int)
 | x2 => if x2 = true then some (.inl (IntKind.i64.wrap (x1 + 1))) else inrO (some x1)
noncomputable def V8 (a1 : List UInt8) : Int → Option (Int ⊕ Int)
 | x1 => if (ltI x1 (a1.length : Int)) = true then if (0 : Int) ≤ x1 ∧ x1.toNat < a1.length then (XS (a1.getD x1.toNat 0)).bind fun r1 => Kz x1 r1 else none else Kz x1 false
noncomputable def VK (a0 : Int) (a1 : List UInt8) (a2 : List Int) (a3 : List UInt8) (a4 a5 : Int) (a6 : List Token) : Option Int :=
 loopO (V8 a1) a0
def XL (a0 : Int) (a1 : List UInt8) (a2 : List Int) (a3 : List UInt8) (a4 a5 : Int) (a6 : List Token) (r : Int) : GI :=
 ⟨[.c (.pt 1 0), cI a0, .c (.d (.v (.func (.func 100) #[] #[])))], [[kS a1, .d (.sl 1 (List.map dI a2)), kS a3, kI a4, kI a5, .sl 11 (List.map d_Token a6) 2]], [44], .ret (cI r) [[kS a1, .d (.sl 1 (List.map dI a2)), kS a3, kI a4, kI a5, .sl 11 (List.map d_Token a6) 2]] [44]⟩
def Xr : GI → Prop := Sg7 VK XL
theorem JdT : ∀ g, Xr g → GenOk Tryz.prog 68 g := by
 rintro _ ⟨a0, a1, a2, a3, a4, a5, a6, r, H, rfl⟩
 refine xGn mixed [(100, JaC)] [] [] ⟨⟨call_100, Jet⟩, trivial⟩ trivial trivial Tryz.func68 _ ?_
 have G := True.intro
 have Y := xZ y_9 <| xZ y_70 <| xZ y_99 <| xZ Tryz.results68 <| xZ d_Call.eq_1 <| xZ d_Token.eq_1 <| xZ d_Spliced.eq_1 <| XL.eq_1
 dsimp only [XL]
 simp only [VK] at H
 refine xS ?_
 refine xr ?_
 refine w_loop (V8 a1) (fun s => [(0, .c (.pt 1 0)), (1, cI s), (2, .c (.d (.v (.func (.func 100) #[] #[]))))]) (fun s => [[kS a1, .d (.sl 1 (List.map dI a2)), kS a3, kI a4, kI a5, .sl 11 (List.map d_Token a6) 2]]) [44] H (xK ⟨[1], [2]⟩) ?_
 rintro n1 x1 o1 H hF1
 rw [V8] at H
 refine w_seq ?_
 refine w_cut (Kz x1) (fun s => [(0, .c (.pt 1 0)), (1, cI x1), (2, .c (.d (.v (.func (.func 100) #[] #[])))), (25, cB s)]) (fun s => [[kS a1, .d (.sl 1 (List.map dI a2)), kS a3, kI a4, kI a5, .sl 11 (List.map d_Token a6) 2]]) [44] o1 ?_ ?_
 ·rcases xB Y G H with ⟨p, H, F, G, q⟩ | ⟨p, H, F, G, q⟩
  ·obtain ⟨g, H⟩ := gsplit H
   obtain ⟨r1, hr1, H⟩ := osplit H
   have F := xCf F (JeL (a1.getD x1.toNat 0) r1 hr1)
   refine xR ?_
   exact cut_at H (xK ⟨[1], [2]⟩)
  refine xR ?_
  exact cut_at H (xK ⟨[1], [2]⟩)
 rintro x2 H
 rw [Kz] at H
 rcases xB Y G H with ⟨p, H, F, G, q⟩ | ⟨p, H, F, G, q⟩
 ·refine xT ?_
  refine xr ?_
  exact round_at (inl_fin H hF1) (xK ⟨[1], [2]⟩)
 replace H := inrO_fin H hF1
 refine xE ?_
 replace H := oI H
 refine xr ?_
 subst H
 refine xOr ?_
 refine qDf [] ?_
 exact xO ⟨[1], [2]⟩
theorem Jd5 : Callable Tryz.prog 68 ∧ (∀ g, Xr g → GenOk Tryz.prog 68 g) ∧ (true = true → ∀ g, Xr g → ∃ val bs ts, g.out = .ret val bs ts) :=
 ⟨call_68, JdT, fun _ => by rintro _ ⟨_, _, _, _, _, _, _, _, _, rfl⟩; exact ⟨_, _, _, rfl⟩⟩
noncomputable def Xi (r1 : Int) : Bool → Option Int
 | x2 => if x2 = true then some (IntKind.i64.wrap (r1 + 1)) else some (-1)
noncomputable def Ji (a0 : List UInt8) (a1 : List Int) (a2 : List UInt8) (a3 a4 : Int) (a5 : List Token) : Bool → Option Int
 | x1 => if x1 = true then some (-1) else (VK (IntKind.i64.wrap (a4 + 1)) a0 a1 a2 a3 a4 a5).bind fun r1 => if (ltI r1 (a0.length : Int)) = true then if (0 : Int) ≤ r1 ∧ r1.toNat < a0.length then Xi r1 (eqI ((a0.getD r1.toNat 0).toNat : Int) 62) else none else Xi r1 false
noncomputable def XN (a0 : List UInt8) (a1 : List Int) (a2 : List UInt8) (a3 a4 : Int) (a5 : List Token) : Option Int :=
 if (ltI (a5.length : Int) 2) = true then Ji a0 a1 a2 a3 a4 a5 true else if (0 : Int) ≤ (IntKind.i64.wrap ((a5.length : Int) - 1)) ∧ (IntKind.i64.wrap ((a5.length : Int) - 1)).toNat < a5.length then if (!eqS ((a5.getD ((IntKind.i64.wrap ((a5.length : Int) - 1)).toNat) default).Text) [105, 110, 99, 108, 117, 100, 101]) = true then Ji a0 a1 a2 a3 a4 a5 true else if (0 : Int) ≤ (IntKind.i64.wrap ((a5.length : Int) - 1)) ∧ (IntKind.i64.wrap ((a5.length : Int) - 1)).toNat < a5.length then if ((a5.getD ((IntKind.i64.wrap ((a5.length : Int) - 1)).toNat) default).First) = true then Ji a0 a1 a2 a3 a4 a5 true else if (0 : Int) ≤ (IntKind.i64.wrap ((a5.length : Int) - 2)) ∧ (IntKind.i64.wrap ((a5.length : Int) - 2)).toNat < a5.length then if (!((a5.getD ((IntKind.i64.wrap ((a5.length : Int) - 2)).toNat) default).First)) = true then Ji a0 a1 a2 a3 a4 a5 true else if (0 : Int) ≤ (IntKind.i64.wrap ((a5.length : Int) - 2)) ∧ (IntKind.i64.wrap ((a5.length : Int) - 2)).toNat < a5.length then Ji a0 a1 a2 a3 a4 a5 (!eqS ((a5.getD ((IntKind.i64.wrap ((a5.length : Int) - 2)).toNat) default).Text) [35]) else none else none else none else none
def Jak (a0 : List UInt8) (a1 : List Int) (a2 : List UInt8) (a3 a4 : Int) (a5 : List Token) (r : Int) : GI :=
 ⟨[.c (.pt 1 0)], [[kS a0, .d (.sl 1 (List.map dI a1)), kS a2, kI a3, kI a4, .sl 11 (List.map d_Token a5) 2]], [44], .ret (cI r) [[kS a0, .d (.sl 1 (List.map dI a1)), kS a2, kI a3, kI a4, .sl 11 (List.map d_Token a5) 2]] [44]⟩
def Jag : GI → Prop := Sg6 XN Jak
theorem JeS : ∀ g, Jag g → GenOk Tryz.prog 75 g := by
 rintro _ ⟨a0, a1, a2, a3, a4, a5, r, H, rfl⟩
 refine xGn mixed [] [(68, true, Xr)] [] trivial ⟨Jd5, trivial⟩ trivial Tryz.func75 _ ?_
 have G := True.intro
 have Y := xZ y_3 <| xZ y_4 <| xZ y_9 <| xZ y_24 <| xZ y_44 <| xZ y_70 <| xZ y_99 <| xZ Tryz.results75 <| xZ d_Call.eq_1 <| xZ d_Token.eq_1 <| xZ d_Spliced.eq_1 <| xZ XL.eq_1 <| Jak.eq_1
 dsimp only [Jak]
 simp only [XN] at H
 refine xS ?_
 refine xr ?_
 refine xr0 ?_
 refine then_normal ?_
 refine w_seq ?_
 refine w_cut (Ji a0 a1 a2 a3 a4 a5) (fun s => [(0, .c (.pt 1 0)), (58, cB s)]) (fun s => [[kS a0, .d (.sl 1 (List.map dI a1)), kS a2, kI a3, kI a4, .sl 11 (List.map d_Token a5) 2]]) [44] r ?_ ?_
 ·rcases xB Y G H with ⟨p, H, F, G, q⟩ | ⟨p, H, F, G, q⟩
  ·refine xR ?_
   exact cut_at H (xK ⟨[1], [2]⟩)
  obtain ⟨g, H⟩ := gsplit H
  have F := xZ F (map_getD d_Token a5 ((IntKind.i64.wrap ((a5.length : Int) - 1)).toNat) default default (by omega))
  rcases xB F G H with ⟨p, H, F, G, q⟩ | ⟨p, H, F, G, q⟩
  ·refine xR ?_
   exact cut_at H (xK ⟨[1], [2]⟩)
  obtain ⟨g, H⟩ := gsplit H
  have F := xZ F (map_getD d_Token a5 ((IntKind.i64.wrap ((a5.length : Int) - 1)).toNat) default default (by omega))
  rcases xB F G H with ⟨p, H, F, G, q⟩ | ⟨p, H, F, G, q⟩
  ·refine xR ?_
   exact cut_at H (xK ⟨[1], [2]⟩)
  obtain ⟨g, H⟩ := gsplit H
  have F := xZ F (map_getD d_Token a5 ((IntKind.i64.wrap ((a5.length : Int) - 2)).toNat) default default (by omega))
  rcases xB F G H with ⟨p, H, F, G, q⟩ | ⟨p, H, F, G, q⟩
  ·refine xR ?_
   exact cut_at H (xK ⟨[1], [2]⟩)
  obtain ⟨g, H⟩ := gsplit H
  have F := xZ F (map_getD d_Token a5 ((IntKind.i64.wrap ((a5.length : Int) - 2)).toNat) default default (by omega))
  refine xR ?_
  exact cut_at H (xK ⟨[1], [2]⟩)
 rintro x1 H
 rw [Ji] at H
 rcases xB Y G H with ⟨p, H, F, G, q⟩ | ⟨p, H, F, G, q⟩
 ·refine xT ?_
  replace H := oI H
  refine xr ?_
  subst H
  refine xOr ?_
  refine qDf [] ?_
  exact xO ⟨[1], [2]⟩
 refine xE ?_
 obtain ⟨r1, hr1, H⟩ := osplit H
 have F := Y
 refine xQ ?_
 refine xs 6 ?_
 refine xc ⟨[1], [2]⟩ (tabG 0 (cg7 hr1)) ?_
 refine xs 1 ?_
 refine xl ?_
 refine  ?_
 refine then_normal ?_
 refine w_seq ?_
 refine w_cut (Xi r1) (fun s => [(4, cI r1), (83, cB s)]) (fun s => [[kS a0, .d (.sl 1 (List.map dI a1)), kS a2, kI a3, kI a4, .sl 11 (List.map d_Token a5) 2]]) [44] r ?_ ?_
 ·rcases xB Y G H with ⟨p, H, F, G, q⟩ | ⟨p, H, F, G, q⟩
  ·obtain ⟨g, H⟩ := gsplit H
   refine xR ?_
   exact cut_at H (xK ⟨[1], [4]⟩)
  refine xR ?_
  exact cut_at H (xK ⟨[1], [4]⟩)
 rintro x2 H
 rw [Xi] at H
 rcases xB Y G H with ⟨p, H, F, G, q⟩ | ⟨p, H, F, G, q⟩
 ·refine xT ?_
  replace H := oI H
  refine xr ?_
  subst H
  refine xOr ?_
  refine qDf [] ?_
  exact xO ⟨[1], [2]⟩
 refine xE ?_
 replace H := oI H
 refine xr ?_
 subst H
 refine xOr ?_
 refine qDf [] ?_
 exact xO ⟨[1], [2]⟩
theorem Jfa : Callable Tryz.prog 75 ∧ (∀ g, Jag g → GenOk Tryz.prog 75 g) ∧ (true = true → ∀ g, Jag g → ∃ val bs ts, g.out = .ret val bs ts) :=
 ⟨call_75, JeS, fun _ => by rintro _ ⟨_, _, _, _, _, _, _, _, rfl⟩; exact ⟨_, _, _, rfl⟩⟩
noncomputable def JcF  : Option YP :=
 some [[46, 46, 46], [60, 60, 61], [62, 62, 61], [45, 62], [43, 43], [45, 45], [60, 60], [62, 62], [60, 61], [62, 61], [61, 61], [33, 61], [38, 38], [124, 124], [43, 61], [45, 61], [42, 61], [47, 61], [37, 61], [38, 61], [124, 61], [94, 61], [35, 35], [91], [93], [40], [41], [123], [125], [46], [38], [42], [43], [45], [126], [33], [47], [37], [60], [62], [94], [124], [63], [58], [59], [61], [44], [35]]
noncomputable def Jc4 : PF := PF.of E0 (fun _ => JcF) (dL 1 dS)
theorem Jgc : PureOk Tryz.prog 101 Jc4 := by
 refine xF mixed [] [] trivial trivial Tryz.func101 ?_
 rintro _ out H
 have G := True.intro
 have Y := xZ y_9 <| xZ y_41 <| Tryz.results101
 simp only [JcF] at H
 refine xS ?_
 refine xr ?_
 replace H := oI H
 refine xr ?_
 subst H
 exact xN
theorem Jgj  (r : YP) (H : JcF  = some r) : PC Jc4 [] ((dL 1 dS) r) := PF.c (a := ()) H
noncomputable def Xm (a4 x1 x2 : Int) : ((List UInt8) × Bool) → Option YQ
 | (x3, x4) => if x4 = true then inrO (some (IntKind.i64.wrap (a4 + (x3.length : Int)))) else some (.inl (x1, IntKind.i64.wrap (x2 + 1)))
noncomputable def Xk (a0 : List UInt8) (a4 : Int) (r1 : YP) : (Int × Int) → Option YQ
 | (x1, x2) => if (ltI x2 x1) = true then if (0 : Int) ≤ x2 ∧ x2.toNat < r1.length then if (leI ((r1.getD x2.toNat default).length : Int) (IntKind.i64.wrap ((a0.length : Int) - a4))) = true then if (0 : Int) ≤ a4 ∧ a4 ≤ (IntKind.i64.wrap (a4 + ((r1.getD x2.toNat default).length : Int))) ∧ (IntKind.i64.wrap (a4 + ((r1.getD x2.toNat default).length : Int))) ≤ (a0.length : Int) then Xm a4 x1 x2 ((r1.getD x2.toNat default), eqS (List.take ((IntKind.i64.wrap (a4 + ((r1.getD x2.toNat default).length : Int))).toNat - a4.toNat) (List.drop a4.toNat a0)) (r1.getD x2.toNat default)) else none else Xm a4 x1 x2 ((r1.getD x2.toNat default), false) else none else inrO (some (-1))
noncomputable def XO (a0 : List UInt8) (a1 : List Int) (a2 : List UInt8) (a3 a4 : Int) (a5 : List Token) : Option Int :=
 (JcF).bind fun r1 => loopO (Xk a0 a4 r1) ((r1.length : Int), 0)
def Jaf (a0 : List UInt8) (a1 : List Int) (a2 : List UInt8) (a3 a4 : Int) (a5 : List Token) (r : Int) : GI :=
 ⟨[.c (.pt 1 0)], [[kS a0, .d (.sl 1 (List.map dI a1)), kS a2, kI a3, kI a4, .sl 11 (List.map d_Token a5) 2]], [44], .ret (cI r) [[kS a0, .d (.sl 1 (List.map dI a1)), kS a2, kI a3, kI a4, .sl 11 (List.map d_Token a5) 2]] [44]⟩
def Jac : GI → Prop := Sg6 XO Jaf
theorem JeZ : ∀ g, Jac g → GenOk Tryz.prog 76 g := by
 rintro _ ⟨a0, a1, a2, a3, a4, a5, r, H, rfl⟩
 refine xGn mixed [(101, Jc4)] [] [] ⟨⟨call_101, Jgc⟩, trivial⟩ trivial trivial Tryz.func76 _ ?_
 have G := True.intro
 have Y := xZ y_3 <| xZ y_9 <| xZ y_41 <| xZ y_70 <| xZ y_99 <| xZ Tryz.results76 <| xZ d_Call.eq_1 <| xZ d_Token.eq_1 <| xZ d_Spliced.eq_1 <| Jaf.eq_1
 dsimp only [Jaf]
 simp only [XO] at H
 refine xS ?_
 refine xr ?_
 obtain ⟨r1, hr1, H⟩ := osplit H
 have F := xC Y (Jgj  r1 hr1)
 refine xR ?_
 refine w_loop (Xk a0 a4 r1) (fun s => [(0, .c (.pt 1 0)), (5, .c (.d (.sl 1 (List.map dS r1)))), (6, cI s.1), (7, cI s.2)]) (fun s => [[kS a0, .d (.sl 1 (List.map dI a1)), kS a2, kI a3, kI a4, .sl 11 (List.map d_Token a5) 2]]) [44] H (xK ⟨[1], [2]⟩) ?_
 rintro n1 ⟨x1, x2⟩ o1 H hF1
 rw [Xk] at H
 refine xS ?_
 refine xr ?_
 rcases xB Y G H with ⟨p, H, F, G, q⟩ | ⟨p, H, F, G, q⟩
 ·refine xT ?_
  obtain ⟨g, H⟩ := gsplit H
  have F := xZ Y (map_getD dS r1 x2.toNat default default (by omega))
  refine xR0 ?_
  refine then_normal ?_
  refine w_cut (Xm a4 x1 x2) (fun s => [(0, .c (.pt 1 0)), (4, cS s.1), (5, .c (.d (.sl 1 (List.map dS r1)))), (6, cI x1), (7, cI x2), (45, cB s.2)]) (fun s => [[kS a0, .d (.sl 1 (List.map dI a1)), kS a2, kI a3, kI a4, .sl 11 (List.map d_Token a5) 2]]) [44] o1 ?_ ?_
  ·rcases xB Y G H with ⟨p, H, F, G, q⟩ | ⟨p, H, F, G, q⟩
   ·obtain ⟨g, H⟩ := gsplit H
    refine xR ?_
    exact cut_at H (xK ⟨[1], [2]⟩)
   refine xR ?_
   exact cut_at H (xK ⟨[1], [2]⟩)
  rintro ⟨x3, x4⟩ H
  rw [Xm] at H
  rcases xB Y G H with ⟨p, H, F, G, q⟩ | ⟨p, H, F, G, q⟩
  ·refine xT ?_
   replace H := inrO_fin H hF1
   replace H := oI H
   refine xr ?_
   subst H
   refine xOr ?_
   refine qDf [] ?_
   exact xO ⟨[1], [2]⟩
  refine xE ?_
  refine xr ?_
  exact round_at (inl_fin H hF1) (xK ⟨[1], [2]⟩)
 replace H := inrO_fin H hF1
 refine xE ?_
 replace H := oI H
 refine xr ?_
 subst H
 refine xOr ?_
 refine qDf [] ?_
 exact xO ⟨[1], [2]⟩
theorem Je5 : Callable Tryz.prog 76 ∧ (∀ g, Jac g → GenOk Tryz.prog 76 g) ∧ (true = true → ∀ g, Jac g → ∃ val bs ts, g.out = .ret val bs ts) :=
 ⟨call_76, JeZ, fun _ => by rintro _ ⟨_, _, _, _, _, _, _, _, rfl⟩; exact ⟨_, _, _, rfl⟩⟩
noncomputable def Ks (a1 : List UInt8) (a2 : List Int) (a3 : List UInt8) (a4 a5 : Int) (a6 : List Token) : Bool → Option (Int × Int)
 | x3 => if x3 = true then (XN a1 a2 a3 a4 a5 a6).bind fun r6 => some (7, r6) else (XO a1 a2 a3 a4 a5 a6).bind fun r7 => if (ltI 0 r7) = true then (XO a1 a2 a3 a4 a5 a6).bind fun r8 => some (5, r8) else some (6, IntKind.i64.wrap (a5 + 1))
noncomputable def J7 (a0 : Bool) (a1 : List UInt8) (a2 : List Int) (a3 : List UInt8) (a4 a5 : Int) (a6 : List Token) : YU → Option (Int × Int)
 | (x1, x2) => if x2 = true then (XV a1 a2 a3 a4 a5 a6).bind fun r3 => some (2, r3) else if (eqI (x1.toNat : Int) 34) = true then (Vq x1 a1 a2 a3 a4 a5 a6).bind fun r4 => some (4, r4) else if (eqI (x1.toNat : Int) 39) = true then (Vq x1 a1 a2 a3 a4 a5 a6).bind fun r5 => some (3, r5) else if (eqI (x1.toNat : Int) 60) = true then if (!a0) = true then (XN a1 a2 a3 a4 a5 a6).bind fun r9 => Ks a1 a2 a3 a4 a5 a6 (ltI 0 r9) else Ks a1 a2 a3 a4 a5 a6 false else Ks a1 a2 a3 a4 a5 a6 false
noncomputable def Zh (a0 : Bool) (a1 : List UInt8) (a2 : List Int) (a3 : List UInt8) (a4 a5 : Int) (a6 : List Token) : Option (Int × Int) :=
 if (0 : Int) ≤ a5 ∧ a5.toNat < a1.length then (ZA (a1.getD a5.toNat 0)).bind fun r1 => if r1 = true then (VQ a5 a1 a2 a3 a4 a5 a6).bind fun r2 => some (1, r2) else (ZB (a1.getD a5.toNat 0)).bind fun r10 => if r10 = true then J7 a0 a1 a2 a3 a4 a5 a6 ((a1.getD a5.toNat 0), true) else if (eqI ((a1.getD a5.toNat 0).toNat : Int) 46) = true then if (ltI (IntKind.i64.wrap (a5 + 1)) (a1.length : Int)) = true then if (0 : Int) ≤ (IntKind.i64.wrap (a5 + 1)) ∧ (IntKind.i64.wrap (a5 + 1)).toNat < a1.length then (ZB (a1.getD ((IntKind.i64.wrap (a5 + 1)).toNat) 0)).bind fun r11 => J7 a0 a1 a2 a3 a4 a5 a6 ((a1.getD a5.toNat 0), r11) else none else J7 a0 a1 a2 a3 a4 a5 a6 ((a1.getD a5.toNat 0), false) else J7 a0 a1 a2 a3 a4 a5 a6 ((a1.getD a5.toNat 0), false) else none
def JaI (a0 : Bool) (a1 : List UInt8) (a2 : List Int) (a3 : List UInt8) (a4 a5 : Int) (a6 : List Token) (r : (Int × Int)) : GI :=
 ⟨[.c (.pt 1 0), cB a0], [[kS a1, .d (.sl 1 (List.map dI a2)), kS a3, kI a4, kI a5, .sl 11 (List.map d_Token a6) 2]], [44], .ret (.tu [(false, [kI r.1]), (false, [kI r.2])]) [[kS a1, .d (.sl 1 (List.map dI a2)), kS a3, kI a4, kI a5, .sl 11 (List.map d_Token a6) 2]] [44]⟩
def JaJ : GI → Prop := Sg7 Zh JaI
theorem Je4 : ∀ g, JaJ g → GenOk Tryz.prog 50 g := by
 rintro _ ⟨a0, a1, a2, a3, a4, a5, a6, r, H, rfl⟩
 refine xGn mixed [(70, Jap), (72, JaT)] [(68, true, XJ), (73, true, Zp), (74, true, Zx), (75, true, Jag), (76, true, Jac)] [] ⟨⟨call_70, JcI⟩, ⟨call_72, JcY⟩, trivial⟩ ⟨Jed, JeN, JeB, Jfa, Je5, trivial⟩ trivial Tryz.func50 _ ?_
 have G := True.intro
 have Y := xZ y_3 <| xZ y_9 <| xZ y_70 <| xZ y_99 <| xZ Tryz.results50 <| xZ d_Call.eq_1 <| xZ d_Token.eq_1 <| xZ d_Spliced.eq_1 <| xZ XC.eq_1 <| xZ Zm.eq_1 <| xZ Zn.eq_1 <| xZ Jak.eq_1 <| xZ Jaf.eq_1 <| JaI.eq_1
 dsimp only [JaI]
 simp only [Zh] at H
 refine xS ?_
 refine xr ?_
 refine xr ?_
 obtain ⟨g, H⟩ := gsplit H
 refine xr ?_
 obtain ⟨r1, hr1, H⟩ := osplit H
 have F := xC Y (Jdg (a1.getD a5.toNat 0) r1 hr1)
 refine xR ?_
 rcases xB Y G H with ⟨p, H, F, G, q⟩ | ⟨p, H, F, G, q⟩
 ·refine xT ?_
  obtain ⟨r2, hr2, H⟩ := osplit H
  have F := Y
  refine xQ ?_
  refine xs 5 ?_
  refine xc ⟨[1], [2]⟩ (tabG 0 (cg7 hr2)) ?_
  refine xs 2 ?_
  refine xl ?_
  replace H := oI H
  refine xS ?_
  subst H
  refine xOr ?_
  refine qDf [] ?_
  exact xO ⟨[1], [4]⟩
 refine xE0 ?_
 refine w_cut (J7 a0 a1 a2 a3 a4 a5 a6) (fun s => [(0, .c (.pt 1 0)), (1, cB a0), (7, .c (.d (.v (.int .u8 (s.1.toNat : Int))))), (28, cB s.2)]) (fun s => [[kS a1, .d (.sl 1 (List.map dI a2)), kS a3, kI a4, kI a5, .sl 11 (List.map d_Token a6) 2]]) [44] r ?_ ?_
 ·obtain ⟨r10, hr10, H⟩ := osplit H
  have F := xC Y (Jcv (a1.getD a5.toNat 0) r10 hr10)
  rcases xB F G H with ⟨p, H, F, G, q⟩ | ⟨p, H, F, G, q⟩
  ·refine xR ?_
   exact cut_at H (xK ⟨[1], [2]⟩)
  rcases xB F G H with ⟨p, H, F, G, q⟩ | ⟨p, H, F, G, q⟩
  ·rcases xB F G H with ⟨p, H, F, G, q⟩ | ⟨p, H, F, G, q⟩
   ·obtain ⟨g, H⟩ := gsplit H
    obtain ⟨r11, hr11, H⟩ := osplit H
    have F := xCf F (Jcv (a1.getD ((IntKind.i64.wrap (a5 + 1)).toNat) 0) r11 hr11)
    refine xR ?_
    exact cut_at H (xK ⟨[1], [2]⟩)
   refine xR ?_
   exact cut_at H (xK ⟨[1], [2]⟩)
  refine xR ?_
  exact cut_at H (xK ⟨[1], [2]⟩)
 rintro ⟨x1, x2⟩ H
 rw [J7] at H
 rcases xB Y G H with ⟨p, H, F, G, q⟩ | ⟨p, H, F, G, q⟩
 ·refine xT ?_
  obtain ⟨r3, hr3, H⟩ := osplit H
  have F := Y
  refine xQ ?_
  refine xs 1 ?_
  refine xc ⟨[1], [2]⟩ (tabG 1 (cg6 hr3)) ?_
  refine xs 2 ?_
  refine xl ?_
  replace H := oI H
  refine xS ?_
  subst H
  refine xOr ?_
  refine qDf [] ?_
  exact xO ⟨[1], [4]⟩
 refine xE ?_
 refine xr ?_
 rcases xB Y G H with ⟨p, H, F, G, q⟩ | ⟨p, H, F, G, q⟩
 ·refine xT ?_
  obtain ⟨r4, hr4, H⟩ := osplit H
  have F := Y
  refine xQ ?_
  refine xs 2 ?_
  refine xc ⟨[1], [2]⟩ (tabG 2 (cg7 hr4)) ?_
  refine xs 2 ?_
  refine xl ?_
  replace H := oI H
  refine xS ?_
  subst H
  refine xOr ?_
  refine qDf [] ?_
  exact xO ⟨[1], [4]⟩
 refine xE ?_
 refine xr ?_
 rcases xB Y G H with ⟨p, H, F, G, q⟩ | ⟨p, H, F, G, q⟩
 ·refine xT ?_
  obtain ⟨r5, hr5, H⟩ := osplit H
  have F := Y
  refine xQ ?_
  refine xs 2 ?_
  refine xc ⟨[1], [2]⟩ (tabG 2 (cg7 hr5)) ?_
  refine xs 2 ?_
  refine xl ?_
  replace H := oI H
  refine xS ?_
  subst H
  refine xOr ?_
  refine qDf [] ?_
  exact xO ⟨[1], [4]⟩
 refine xE0 ?_
 refine w_cut (Ks a1 a2 a3 a4 a5 a6) (fun s => [(0, .c (.pt 1 0)), (69, cB s)]) (fun s => [[kS a1, .d (.sl 1 (List.map dI a2)), kS a3, kI a4, kI a5, .sl 11 (List.map d_Token a6) 2]]) [44] r ?_ ?_
 ·rcases xB Y G H with ⟨p, H, F, G, q⟩ | ⟨p, H, F, G, q⟩
  ·rcases xB F G H with ⟨p, H, F, G, q⟩ | ⟨p, H, F, G, q⟩
   ·obtain ⟨r9, hr9, H⟩ := osplit H
    have F := F
    refine xQ ?_
    refine xs 8 ?_
    refine xc ⟨[1], [2]⟩ (tabG 3 (cg6 hr9)) ?_
    refine xs 3 ?_
    refine xl ?_
    refine xS ?_
    exact cut_at H (xK ⟨[1], [4]⟩)
   refine xR ?_
   exact cut_at H (xK ⟨[1], [2]⟩)
  refine xR ?_
  exact cut_at H (xK ⟨[1], [2]⟩)
 rintro x3 H
 rw [Ks] at H
 rcases xB Y G H with ⟨p, H, F, G, q⟩ | ⟨p, H, F, G, q⟩
 ·refine xT ?_
  obtain ⟨r6, hr6, H⟩ := osplit H
  have F := Y
  refine xQ ?_
  refine xs 1 ?_
  refine xc ⟨[1], [2]⟩ (tabG 3 (cg6 hr6)) ?_
  refine xs 2 ?_
  refine xl ?_
  replace H := oI H
  refine xS ?_
  subst H
  refine xOr ?_
  refine qDf [] ?_
  exact xO ⟨[1], [4]⟩
 refine xE ?_
 obtain ⟨r7, hr7, H⟩ := osplit H
 have F := Y
 refine xQ ?_
 refine xs 1 ?_
 refine xc ⟨[1], [2]⟩ (tabG 4 (cg6 hr7)) ?_
 refine xs 2 ?_
 refine xl ?_
 refine xS ?_
 rcases xB Y G H with ⟨p, H, F, G, q⟩ | ⟨p, H, F, G, q⟩
 ·refine xT ?_
  obtain ⟨r8, hr8, H⟩ := osplit H
  have F := Y
  refine xQ ?_
  refine xs 1 ?_
  refine xc ⟨[1], [4]⟩ (tabG 4 (cg6 hr8)) ?_
  refine xs 2 ?_
  refine xl ?_
  replace H := oI H
  refine xS ?_
  subst H
  refine xOr ?_
  refine qDf [] ?_
  exact xO ⟨[1], [6]⟩
 refine xE ?_
 replace H := oI H
 refine xr ?_
 subst H
 refine xOr ?_
 refine qDf [] ?_
 exact xO ⟨[1], [4]⟩
theorem Jff : Callable Tryz.prog 50 ∧ (∀ g, JaJ g → GenOk Tryz.prog 50 g) ∧ (true = true → ∀ g, JaJ g → ∃ val bs ts, g.out = .ret val bs ts) :=
 ⟨call_50, Je4, fun _ => by rintro _ ⟨_, _, _, _, _, _, _, _, _, rfl⟩; exact ⟨_, _, _, rfl⟩⟩
noncomputable def ZD (x2 x3 : Int) : Int → Option (YT ⊕ Int)
 | x4 => some (.inl (x4, x2, IntKind.i64.wrap (x3 + 1)))
noncomputable def Zo (a0 : List UInt8) : YT → Option (YT ⊕ Int)
 | (x1, x2, x3) => if (ltI x3 x2) = true then if (0 : Int) ≤ x3 ∧ x3.toNat < a0.length then if (eqI ((a0.getD x3.toNat 0).toNat : Int) 10) = true then ZD x2 x3 (IntKind.i64.wrap (x1 + 1)) else ZD x2 x3 x1 else none else inrO (some x1)
noncomputable def ZU (a0 : List UInt8) (a1 : Int) : Option Int :=
 loopO (Zo a0) (1, (if (a0.length : Int) < (if 0 > a1 then 0 else a1) then (a0.length : Int) else (if 0 > a1 then 0 else a1)), 0)
noncomputable def Jb2 : PF := PF.of (E2 dS dI) (fun a => ZU a.1 a.2) dI
theorem Jfs : PureOk Tryz.prog 51 Jb2 := by
 refine xF mixed [] [] trivial trivial Tryz.func51 ?_
 rintro ⟨a0, a1⟩ out H
 have G := True.intro
 have Y := xZ y_3 <| xZ y_9 <| Tryz.results51
 simp only [ZU] at H
 refine xS ?_
 refine xr ?_
 refine xr ?_
 refine xr ?_
 refine w_loop (Zo a0) (fun s => [(0, cS a0), (5, cI s.1), (11, cI s.2.1), (12, cI s.2.2)]) (fun s => []) [] H (xK ⟨[], []⟩) ?_
 rintro n1 ⟨x1, x2, x3⟩ o1 H hF1
 rw [Zo] at H
 refine xS ?_
 refine xr ?_
 rcases xB Y G H with ⟨p, H, F, G, q⟩ | ⟨p, H, F, G, q⟩
 ·refine xT0 ?_
  refine w_skip ?_
  refine then_normal ?_
  refine w_cut (ZD x2 x3) (fun s => [(0, cS a0), (5, cI s), (11, cI x2), (12, cI x3)]) (fun s => []) [] o1 ?_ ?_
  ·refine xS ?_
   refine xr ?_
   obtain ⟨g, H⟩ := gsplit H
   refine xr ?_
   rcases xB Y G H with ⟨p, H, F, G, q⟩ | ⟨p, H, F, G, q⟩
   ·refine xT ?_
    refine xr ?_
    exact cut_at H (xK ⟨[], []⟩)
   refine xE ?_
   exact cut_at H (xK ⟨[], []⟩)
  rintro x4 H
  rw [ZD] at H
  refine xr ?_
  exact round_at (inl_fin H hF1) (xK ⟨[], []⟩)
 replace H := inrO_fin H hF1
 refine xE ?_
 replace H := oI H
 refine xr ?_
 subst H
 exact xN
theorem JfJ (a0 : List UInt8) (a1 r : Int) (H : ZU a0 a1 = some r) : PC Jb2 [dS a0, dI a1] (dI r) := PF.c (a := (a0, a1)) H
noncomputable def Zg (a0 : Int) (a1 : List UInt8) (r1 : Spliced) (x2 : List Token) (r2 : YE) : Bool → Option Ys
 | x3 => (KN r1 r2.2.2.2).bind fun r4 => (Zh x3 r1.Text r1.At a1 a0 r2.2.2.2 x2).bind fun r5 => if (ltI r5.2 0) = true then inrO (some (([] : List Token), (⟨9, a0, r4⟩ : Fault))) else if (0 : Int) ≤ r2.2.2.2 ∧ r2.2.2.2 ≤ r5.2 ∧ r5.2 ≤ (r1.Text.length : Int) then (KN r1 (IntKind.i64.wrap (r5.2 - 1))).bind fun r6 => (ZU a1 r4).bind fun r7 => if (x2.length + [(⟨r5.1, List.take (r5.2.toNat - r2.2.2.2.toNat) (List.drop r2.2.2.2.toNat r1.Text), r2.1, x3, a0, r4, IntKind.i64.wrap (r6 + 1), r7, ([] : List (List UInt8)), ([] : List Call), 0⟩ : Token)].length) * 120 ≤ 140737488355328 then some (.inl (r5.2, x2 ++ [(⟨r5.1, List.take (r5.2.toNat - r2.2.2.2.toNat) (List.drop r2.2.2.2.toNat r1.Text), r2.1, x3, a0, r4, IntKind.i64.wrap (r6 + 1), r7, ([] : List (List UInt8)), ([] : List Call), 0⟩ : Token)])) else none else none
noncomputable def Zf (a0 : Int) (a1 : List UInt8) (r1 : Spliced) : YJ → Option Ys
 | (x1, x2) => (JaF r1.Text r1.At a1 a0 x1 x2).bind fun r2 => if (!r2.2.2.1) = true then (KN r1 r2.2.2.2).bind fun r3 => inrO (some (([] : List Token), (⟨9, a0, r3⟩ : Fault))) else if (eqI r2.2.2.2 (r1.Text.length : Int)) = true then inrO (some (x2, (⟨0, (-1), 0⟩ : Fault))) else if (eqI (x2.length : Int) 0) = true then Zg a0 a1 r1 x2 r2 true else Zg a0 a1 r1 x2 r2 r2.2.1
noncomputable def Jo (a0 : Int) (a1 : List UInt8) : Option ((List Token) × Fault) :=
 if (ltI 3000 (a1.length : Int)) = true then some (([] : List Token), (⟨4, a0, 0⟩ : Fault)) else (JaA a1).bind fun r1 => loopO (Zf a0 a1 r1) (0, ([] : List Token))
noncomputable def JcL : PF := PF.of (E2 dI dS) (fun a => Jo a.1 a.2) (T2 (dL 11 d_Token) d_Fault)
theorem JfW : PureOk Tryz.prog 32 JcL := by
 refine xF mixed [(47, Jck), (49, Jb8), (51, Jb2)] [(48, true, ZO), (50, true, JaJ)] ⟨⟨call_47, JfO⟩, ⟨call_49, Jfg⟩, ⟨call_51, Jfs⟩, trivial⟩ ⟨JeV, Jff, trivial⟩ Tryz.func32 ?_
 rintro ⟨a0, a1⟩ out H
 have G := True.intro
 have Y := xZ y_3 <| xZ y_4 <| xZ y_9 <| xZ y_24 <| xZ y_29 <| xZ y_31 <| xZ y_41 <| xZ y_42 <| xZ y_44 <| xZ y_70 <| xZ y_99 <| xZ Tryz.results32 <| xZ d_Call.eq_1 <| xZ d_Token.eq_1 <| xZ d_Spliced.eq_1 <| xZ d_Fault.eq_1 <| xZ ZN.eq_1 <| JaI.eq_1
 simp only [Jo] at H
 refine xS ?_
 refine xr ?_
 refine xr ?_
 rcases xB Y G H with ⟨p, H, F, G, q⟩ | ⟨p, H, F, G, q⟩
 ·refine xT ?_
  replace H := oI H
  refine xr ?_
  subst H
  exact xN
 refine xE ?_
 obtain ⟨r1, hr1, H⟩ := osplit H
 have F := xC Y (Jf0 a1 r1 hr1)
 refine xR ?_
 refine w_loop (Zf a0 a1 r1) (fun s => [(0, cI a0), (1, cS a1), (5, .c (.pt 1 0)), (6, .c (.pt 2 0))]) (fun s => [[kI 0, kI 0, kI 0], [kS r1.Text, .d (.sl 1 (List.map dI r1.At)), kS a1, kI a0, kI s.1, .sl 11 (List.map d_Token s.2) 3]]) [44] H (xK ⟨[1,2], [0]⟩) ?_
 rintro n1 ⟨x1, x2⟩ o1 H hF1
 rw [Zf] at H
 refine xS ?_
 obtain ⟨r2, hr2, H⟩ := osplit H
 have F := Y
 refine xQ ?_
 refine xs 1 ?_
 refine xc ⟨[2], [3]⟩ (tabG 0 (cg6 hr2)) ?_
 refine xs 7 ?_
 refine xl ?_
 refine xS ?_
 refine xr ?_
 rcases xB Y G H with ⟨p, H, F, G, q⟩ | ⟨p, H, F, G, q⟩
 ·refine xT ?_
  obtain ⟨r3, hr3, H⟩ := osplit H
  have F := xC Y (Jco r1 r2.2.2.2 r3 hr3)
  replace H := inrO_fin H hF1
  replace H := oI H
  refine xR ?_
  subst H
  exact xN
 refine xE ?_
 refine xr ?_
 rcases xB Y G H with ⟨p, H, F, G, q⟩ | ⟨p, H, F, G, q⟩
 ·refine xT ?_
  replace H := inrO_fin H hF1
  replace H := oI H
  refine xr ?_
  subst H
  exact xN
 refine xE0 ?_
 refine w_skip ?_
 refine then_normal ?_
 refine w_cut (Zg a0 a1 r1 x2 r2) (fun s => [(0, cI a0), (1, cS a1), (5, .c (.pt 1 0)), (6, .c (.pt 2 0)), (7, cB r2.1), (10, cB s)]) (fun s => [[kI 0, kI 0, kI 0], [kS r1.Text, .d (.sl 1 (List.map dI r1.At)), kS a1, kI a0, kI r2.2.2.2, .sl 11 (List.map d_Token x2) 3]]) [44] o1 ?_ ?_
 ·rcases xB Y G H with ⟨p, H, F, G, q⟩ | ⟨p, H, F, G, q⟩
  ·refine xR ?_
   exact cut_at H (xK ⟨[1,2], [5]⟩)
  refine xR ?_
  exact cut_at H (xK ⟨[1,2], [5]⟩)
 rintro x3 H
 rw [Zg] at H
 refine xS ?_
 obtain ⟨r4, hr4, H⟩ := osplit H
 have F := xC Y (Jco r1 r2.2.2.2 r4 hr4)
 refine xR ?_
 obtain ⟨r5, hr5, H⟩ := osplit H
 have F := Y
 refine xQ ?_
 refine xs 2 ?_
 refine xc ⟨[2], [3]⟩ (tabG 1 (cg7 hr5)) ?_
 refine xs 5 ?_
 refine xl ?_
 refine xS ?_
 refine xr ?_
 rcases xB Y G H with ⟨p, H, F, G, q⟩ | ⟨p, H, F, G, q⟩
 ·refine xT ?_
  replace H := inrO_fin H hF1
  replace H := oI H
  refine xr ?_
  subst H
  exact xN
 refine xE ?_
 obtain ⟨g, H⟩ := gsplit H
 obtain ⟨r6, hr6, H⟩ := osplit H
 have F := xC Y (Jco r1 (IntKind.i64.wrap (r5.2 - 1)) r6 hr6)
 obtain ⟨r7, hr7, H⟩ := osplit H
 have F := xCf F (JfJ a1 r4 r7 hr7)
 obtain ⟨g, H⟩ := gsplit H
 have F := xZ F (all_map one_Token [(⟨r5.1, List.take (r5.2.toNat - r2.2.2.2.toNat) (List.drop r2.2.2.2.toNat r1.Text), r2.1, x3, a0, r4, IntKind.i64.wrap (r6 + 1), r7, ([] : List (List UInt8)), ([] : List Call), 0⟩ : Token)])
 refine xR ?_
 refine xr ?_
 exact round_at (inl_fin H hF1) (xK ⟨[1,2], [6]⟩)
theorem Jf8 (a0 : Int) (a1 : List UInt8) (r : (List Token) × Fault) (H : Jo a0 a1 = some r) : PC JcL [dI a0, dS a1] (T2 (dL 11 d_Token) d_Fault r) := PF.c (a := (a0, a1)) H
end Go.Proofs.YtfkhlbhjhdpkoaaGreatDoor
