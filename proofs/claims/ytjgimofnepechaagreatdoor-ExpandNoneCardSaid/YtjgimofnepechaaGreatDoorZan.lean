/- Functions of data for functions of the program. Written by dec3.py. -/
import Derived.Test.YtjgimofnepechaaGreatDoorZai
set_option linter.unusedVariables false
set_option linter.unusedSimpArgs false
set_option maxHeartbeats 4000000
set_option maxRecDepth 100000
namespace Go.Proofs.YtjgimofnepechaaGreatDoor
open Go.RowKit
noncomputable def Jz (a0 : List Token) (a1 : Int) (a2 : Int) : Option Fault :=
 if (ltI a1 (a0.length : Int)) = true then if (0 : Int) ≤ a1 ∧ a1.toNat < a0.length then if (0 : Int) ≤ a1 ∧ a1.toNat < a0.length then some (⟨a2, (a0.getD a1.toNat default).File, (a0.getD a1.toNat default).At⟩ : Fault) else none else none else if (ltI 0 (a0.length : Int)) = true then if (0 : Int) ≤ (IntKind.i64.wrap ((a0.length : Int) - 1)) ∧ (IntKind.i64.wrap ((a0.length : Int) - 1)).toNat < a0.length then some (⟨a2, (a0.getD ((IntKind.i64.wrap ((a0.length : Int) - 1)).toNat) default).File, (a0.getD ((IntKind.i64.wrap ((a0.length : Int) - 1)).toNat) default).End⟩ : Fault) else none else some (⟨a2, (-1), 0⟩ : Fault)
noncomputable def JbC : PF := PF.of (E3 (dL 11 d_Token) dI dI) (fun a => Jz a.1 a.2.1 a.2.2) d_Fault
theorem JdL : PureOk Tryz.prog 41 JbC := by
 refine xF mixed [] [] trivial trivial Tryz.func41 ?_
 rintro ⟨a0, a1, a2⟩ out H
 have G := True.intro
 have Y := xZ y_3 <| xZ y_25 <| xZ y_27 <| xZ y_29 <| xZ y_39 <| xZ Tryz.results41 <| xZ d_Call.eq_1 <| xZ d_Token.eq_1 <| d_Fault.eq_1
 simp only [Jz] at H
 refine xS ?_
 refine xr ?_
 refine xr ?_
 rcases bsplit H with ⟨hp1, H⟩ | ⟨hp1, H⟩
 ·obtain ⟨F, G, hq1⟩ := xH Y G hp1
  refine xT ?_
  obtain ⟨hg1, H⟩ := gsplit H
  have F := xZ Y (map_getD d_Token a0 a1.toNat default default (by omega))
  obtain ⟨hg2, H⟩ := gsplit H
  have F := xZ F (map_getD d_Token a0 a1.toNat default default (by omega))
  replace H := Option.some.inj H
  refine xR ?_
  subst H
  exact xN
 ·obtain ⟨F, G, hq1⟩ := xH Y G hp1
  refine xE ?_
  refine xr ?_
  rcases bsplit H with ⟨hp2, H⟩ | ⟨hp2, H⟩
  ·obtain ⟨F, G, hq2⟩ := xH Y G hp2
   refine xT ?_
   obtain ⟨hg3, H⟩ := gsplit H
   have F := xZ Y (map_getD d_Token a0 ((IntKind.i64.wrap ((a0.length : Int) - 1)).toNat) default default (by omega))
   refine xR ?_
   replace H := Option.some.inj H
   refine xr ?_
   subst H
   exact xN
  ·obtain ⟨F, G, hq2⟩ := xH Y G hp2
   refine xE ?_
   replace H := Option.some.inj H
   refine xr ?_
   subst H
   exact xN
theorem Ka (a0 : List Token) (a1 : Int) (a2 : Int) (r : Fault) (H : Jz a0 a1 a2 = some r) : PC JbC [(dL 11 d_Token) a0, dI a1, dI a2] (d_Fault r) := PF.c (a := (a0, a1, a2)) H
noncomputable def Jbf (a0 : List (List UInt8)) (a1 : List UInt8) : (Int × Int) → Option ((Int × Int) ⊕ Bool)
 | (x1, x2) => if (ltI x2 x1) = true then if (0 : Int) ≤ x2 ∧ x2.toNat < a0.length then if (eqS (a0.getD x2.toNat default) a1) = true then inrO (some true) else some (.inl (x1, IntKind.i64.wrap (x2 + 1))) else none else inrO (some false)
noncomputable def Xc (a0 : List (List UInt8)) (a1 : List UInt8) : Option Bool :=
 loopO (Jbf a0 a1) ((a0.length : Int), 0)
noncomputable def Ja9 : PF := PF.of (E2 (dL 1 dS) dS) (fun a => Xc a.1 a.2) dB
theorem Jdt : PureOk Tryz.prog 16 Ja9 := by
 refine xF mixed [] [] trivial trivial Tryz.func16 ?_
 rintro ⟨a0, a1⟩ out H
 have G := True.intro
 have Y := xZ y_9 <| xZ y_24 <| Tryz.results16
 simp only [Xc] at H
 refine xS ?_
 refine xr ?_
 refine xr ?_
 refine w_loop (Jbf a0 a1) (fun s => [(1, .c (.d (.v (str a1)))), (7, .c (.d (.sl 1 (List.map dS a0)))), (8, .c (.d (.v (.int .i64 s.1)))), (9, .c (.d (.v (.int .i64 s.2))))]) (fun s => []) [] H (xK ⟨[], []⟩) ?_
 rintro n1 ⟨x1, x2⟩ o1 H hF1
 rw [Jbf] at H
 refine xS ?_
 refine xr ?_
 rcases bsplit H with ⟨hp1, H⟩ | ⟨hp1, H⟩
 ·obtain ⟨F, G, hq1⟩ := xH Y G hp1
  refine xT ?_
  obtain ⟨hg1, H⟩ := gsplit H
  have F := xZ Y (map_getD dS a0 x2.toNat default default (by omega))
  refine xR ?_
  refine xr ?_
  rcases bsplit H with ⟨hp2, H⟩ | ⟨hp2, H⟩
  ·obtain ⟨F, G, hq2⟩ := xH Y G hp2
   refine xT ?_
   replace H := inrO_fin H hF1
   replace H := Option.some.inj H
   refine xr ?_
   subst H
   exact xN
  ·obtain ⟨F, G, hq2⟩ := xH Y G hp2
   refine xE ?_
   refine xr ?_
   exact round_at (inl_fin H hF1) (xK ⟨[], []⟩)
 ·obtain ⟨F, G, hq1⟩ := xH Y G hp1
  replace H := inrO_fin H hF1
  refine xE ?_
  replace H := Option.some.inj H
  refine xr ?_
  subst H
  exact xN
theorem JcL (a0 : List (List UInt8)) (a1 : List UInt8) (r : Bool) (H : Xc a0 a1 = some r) : PC Ja9 [(dL 1 dS) a0, dS a1] (dB r) := PF.c (a := (a0, a1)) H
noncomputable def XI (a0 : List Token) (x17 : Bool) (x18 : Int) (x20 : List (List UInt8)) : Bool → Option ((Int × (List (List UInt8)) × Bool) ⊕ (Int × Int × Int × Int × (List (List UInt8)) × Bool))
 | x21 => if x21 = true then (Jz a0 x18 2).bind fun r4 => inrO (some (0, r4.Err, r4.File, r4.At, x20, x17)) else some (.inl (x18, x20, x17))
noncomputable def Xz (a0 : List Token) (x17 : Bool) : (Int × Bool × (List (List UInt8))) → Option ((Int × (List (List UInt8)) × Bool) ⊕ (Int × Int × Int × Int × (List (List UInt8)) × Bool))
 | (x18, x19, x20) => if x19 = true then some (.inl (IntKind.i64.wrap (x18 + 1), x20, x17)) else if (ltI x18 (a0.length : Int)) = true then if (0 : Int) ≤ x18 ∧ x18.toNat < a0.length then XI a0 x17 x18 x20 (!eqS ((a0.getD x18.toNat default).Text) [41]) else none else XI a0 x17 x18 x20 false
noncomputable def VE (a0 : List Token) (x1 : Int) (x2 : List (List UInt8)) : ((List UInt8) × Bool) → Option ((Int × (List (List UInt8)) × Bool) ⊕ (Int × Int × Int × Int × (List (List UInt8)) × Bool))
 | (x16, x17) => if (x2.length + [x16].length) * 16 ≤ 140737488355328 then if (ltI 6 ((x2 ++ [x16]).length : Int)) = true then (Jz a0 x1 5).bind fun r3 => inrO (some (0, r3.Err, r3.File, r3.At, x2 ++ [x16], x17)) else if (ltI (IntKind.i64.wrap (x1 + 1)) (a0.length : Int)) = true then if (0 : Int) ≤ (IntKind.i64.wrap (x1 + 1)) ∧ (IntKind.i64.wrap (x1 + 1)).toNat < a0.length then Xz a0 x17 (IntKind.i64.wrap (x1 + 1), eqS ((a0.getD ((IntKind.i64.wrap (x1 + 1)).toNat) default).Text) [44], x2 ++ [x16]) else none else Xz a0 x17 (IntKind.i64.wrap (x1 + 1), false, x2 ++ [x16]) else none
noncomputable def VJ (a0 : List Token) (x1 : Int) (x2 : List (List UInt8)) (x3 : Bool) (x6 : List UInt8) : Bool → Option ((Int × (List (List UInt8)) × Bool) ⊕ (Int × Int × Int × Int × (List (List UInt8)) × Bool))
 | x22 => if x22 = true then (Jz a0 x1 2).bind fun r5 => inrO (some (0, r5.Err, r5.File, r5.At, x2, x3)) else (Xc x2 x6).bind fun r6 => if r6 = true then (Jz a0 x1 7).bind fun r7 => inrO (some (0, r7.Err, r7.File, r7.At, x2, x3)) else VE a0 x1 x2 (x6, x3)
noncomputable def KS (a0 : List Token) (x1 : Int) (x2 : List (List UInt8)) (x3 : Bool) : (Bool × Int × (List UInt8) × Bool × Bool × Int × Int × Int × Int × (List (List UInt8)) × (List Call) × Int) → Option ((Int × (List (List UInt8)) × Bool) ⊕ (Int × Int × Int × Int × (List (List UInt8)) × Bool))
 | (x4, x5, x6, x7, x8, x9, x10, x11, x12, x13, x14, x15) => if x4 = true then inrO (some (IntKind.i64.wrap (x1 + 1), 0, (-1), 0, x2, x3)) else if x3 = true then (Jz a0 x1 2).bind fun r2 => inrO (some (0, r2.Err, r2.File, r2.At, x2, x3)) else if (eqS x6 [46, 46, 46]) = true then VE a0 x1 x2 ([95, 95, 86, 65, 95, 65, 82, 71, 83, 95, 95], true) else if (!eqI x5 1) = true then VJ a0 x1 x2 x3 x6 true else VJ a0 x1 x2 x3 x6 (eqS x6 [95, 95, 86, 65, 95, 65, 82, 71, 83, 95, 95])
noncomputable def Kh (a0 : List Token) : (Int × (List (List UInt8)) × Bool) → Option ((Int × (List (List UInt8)) × Bool) ⊕ (Int × Int × Int × Int × (List (List UInt8)) × Bool))
 | (x1, x2, x3) => if (leI (a0.length : Int) x1) = true then (Jz a0 x1 2).bind fun r1 => inrO (some (0, r1.Err, r1.File, r1.At, x2, x3)) else if (0 : Int) ≤ x1 ∧ x1.toNat < a0.length then if (eqS ((a0.getD x1.toNat default).Text) [41]) = true then if (eqI x1 2) = true then KS a0 x1 x2 x3 (true, (a0.getD x1.toNat default).Kind, (a0.getD x1.toNat default).Text, (a0.getD x1.toNat default).Space, (a0.getD x1.toNat default).First, (a0.getD x1.toNat default).File, (a0.getD x1.toNat default).At, (a0.getD x1.toNat default).End, (a0.getD x1.toNat default).Line, (a0.getD x1.toNat default).Hide, (a0.getD x1.toNat default).Calls, (a0.getD x1.toNat default).Made) else if (0 : Int) ≤ (IntKind.i64.wrap (x1 - 1)) ∧ (IntKind.i64.wrap (x1 - 1)).toNat < a0.length then KS a0 x1 x2 x3 (!eqS ((a0.getD ((IntKind.i64.wrap (x1 - 1)).toNat) default).Text) [44], (a0.getD x1.toNat default).Kind, (a0.getD x1.toNat default).Text, (a0.getD x1.toNat default).Space, (a0.getD x1.toNat default).First, (a0.getD x1.toNat default).File, (a0.getD x1.toNat default).At, (a0.getD x1.toNat default).End, (a0.getD x1.toNat default).Line, (a0.getD x1.toNat default).Hide, (a0.getD x1.toNat default).Calls, (a0.getD x1.toNat default).Made) else none else KS a0 x1 x2 x3 (false, (a0.getD x1.toNat default).Kind, (a0.getD x1.toNat default).Text, (a0.getD x1.toNat default).Space, (a0.getD x1.toNat default).First, (a0.getD x1.toNat default).File, (a0.getD x1.toNat default).At, (a0.getD x1.toNat default).End, (a0.getD x1.toNat default).Line, (a0.getD x1.toNat default).Hide, (a0.getD x1.toNat default).Calls, (a0.getD x1.toNat default).Made) else none
noncomputable def ZR (a0 : List Token) (a1 : List UInt8) (a2 : Bool) (a3 : List (List UInt8)) (a4 : Bool) (a5 : List Token) : Option (Int × Int × Int × Int × (List (List UInt8)) × Bool) :=
 loopO (Kh a0) (2, a3, a4)
def XY (a0 : List Token) (a1 : List UInt8) (a2 : Bool) (a3 : List (List UInt8)) (a4 : Bool) (a5 : List Token) (r : (Int × Int × Int × Int × (List (List UInt8)) × Bool)) : GI :=
 ⟨[.c (.d (.sl 11 (List.map d_Token a0))), .c (.pt 1 0)], [[.d (.v (str a1)), .d (.v (.bool a2)), .sl 1 (List.map dS a3) 2, .d (.v (.bool a4)), .sl 11 (List.map d_Token a5) 3]], [9, 39], .ret (.tu [(false, [.d (.v (.int .i64 r.1))]), (true, [.d (.v (.int .i64 r.2.1)), .d (.v (.int .i64 r.2.2.1)), .d (.v (.int .i64 r.2.2.2.1))])]) [[.d (.v (str a1)), .d (.v (.bool a2)), .sl 1 (List.map dS r.2.2.2.2.1) 2, .d (.v (.bool r.2.2.2.2.2)), .sl 11 (List.map d_Token a5) 3]] [9, 39]⟩
def XW : GI → Prop := fun g => ∃ (a0 : List Token) (a1 : List UInt8) (a2 : Bool) (a3 : List (List UInt8)) (a4 : Bool) (a5 : List Token) (r : (Int × Int × Int × Int × (List (List UInt8)) × Bool)), ZR a0 a1 a2 a3 a4 a5 = some r ∧ g = XY a0 a1 a2 a3 a4 a5 r
theorem Jer (a0 : List Token) (a1 : List UInt8) (a2 : Bool) (a3 : List (List UInt8)) (a4 : Bool) (a5 : List Token) (r : (Int × Int × Int × Int × (List (List UInt8)) × Bool)) (H : ZR a0 a1 a2 a3 a4 a5 = some r) : XW (XY a0 a1 a2 a3 a4 a5 r) := ⟨a0, a1, a2, a3, a4, a5, r, H, rfl⟩
theorem Jeh : ∀ g, XW g → GenOk Tryz.prog 42 g := by
 rintro _ ⟨a0, a1, a2, a3, a4, a5, r, H, rfl⟩
 refine xGn mixed [(41, JbC), (16, Ja9)] [] [] ⟨⟨call_41, JdL⟩, ⟨call_16, Jdt⟩, trivial⟩ trivial trivial Tryz.func42 _ ?_
 have G := True.intro
 have Y := xZ y_3 <| xZ y_4 <| xZ y_9 <| xZ y_24 <| xZ y_25 <| xZ y_27 <| xZ y_29 <| xZ y_39 <| xZ y_43 <| xZ Tryz.results42 <| xZ d_Call.eq_1 <| xZ d_Token.eq_1 <| xZ d_Macro.eq_1 <| xZ d_Fault.eq_1 <| XY.eq_1
 dsimp only [XY]
 simp only [ZR] at H
 refine xS ?_
 refine xr ?_
 refine xr ?_
 refine w_loop (Kh a0) (fun s => [(0, .c (.d (.sl 11 (List.map d_Token a0)))), (1, .c (.pt 1 0)), (5, .c (.pt 2 0)), (6, .c (.d (.v (.int .i64 s.1))))]) (fun s => [[.d (.v (str a1)), .d (.v (.bool a2)), .sl 1 (List.map dS s.2.1) 3, .d (.v (.bool s.2.2)), .sl 11 (List.map d_Token a5) 4], [.d (.v (.int .i64 0)), .d (.v (.int .i64 0)), .d (.v (.int .i64 0))]]) [9, 39] H (xK ⟨[1,4], [2,3]⟩) ?_
 rintro n1 ⟨x1, x2, x3⟩ o1 H hF1
 rw [Kh] at H
 refine xS ?_
 refine xr ?_
 rcases bsplit H with ⟨hp1, H⟩ | ⟨hp1, H⟩
 ·obtain ⟨F, G, hq1⟩ := xH Y G hp1
  refine xT ?_
  obtain ⟨r1, hr1, H⟩ := osplit H
  have F := xC Y (Ka a0 x1 2 r1 hr1)
  replace H := inrO_fin H hF1
  replace H := Option.some.inj H
  refine xR ?_
  subst H
  refine xOr ?_
  refine qDf [] ?_
  exact xO ⟨[1], [3, 4]⟩
 ·obtain ⟨F, G, hq1⟩ := xH Y G hp1
  refine xE ?_
  obtain ⟨hg1, H⟩ := gsplit H
  have F := xZ Y (map_getD d_Token a0 x1.toNat default default (by omega))
  refine xR0 ?_
  refine then_normal ?_
  refine w_seq ?_
  refine w_cut (KS a0 x1 x2 x3) (fun s => [(0, .c (.d (.sl 11 (List.map d_Token a0)))), (1, .c (.pt 1 0)), (5, .c (.pt 2 0)), (6, .c (.d (.v (.int .i64 x1)))), (7, .c (.pt 3 0)), (35, .c (.d (.v (.bool s.1))))]) (fun s => [[.d (.v (str a1)), .d (.v (.bool a2)), .sl 1 (List.map dS x2) 4, .d (.v (.bool x3)), .sl 11 (List.map d_Token a5) 5], [.d (.v (.int .i64 0)), .d (.v (.int .i64 0)), .d (.v (.int .i64 0))], [.d (.v (.int .i64 s.2.1)), .d (.v (str s.2.2.1)), .d (.v (.bool s.2.2.2.1)), .d (.v (.bool s.2.2.2.2.1)), .d (.v (.int .i64 s.2.2.2.2.2.1)), .d (.v (.int .i64 s.2.2.2.2.2.2.1)), .d (.v (.int .i64 s.2.2.2.2.2.2.2.1)), .d (.v (.int .i64 s.2.2.2.2.2.2.2.2.1)), .d (.sl 1 (List.map dS s.2.2.2.2.2.2.2.2.2.1)), .d (.sl 3 (List.map d_Call s.2.2.2.2.2.2.2.2.2.2.1)), .d (.v (.int .i64 s.2.2.2.2.2.2.2.2.2.2.2))]]) [9, 39] o1 ?_ ?_
  ·rcases bsplit H with ⟨hp13, H⟩ | ⟨hp13, H⟩
   ·obtain ⟨F, G, hq13⟩ := xH Y G hp13
    rcases bsplit H with ⟨hp14, H⟩ | ⟨hp14, H⟩
    ·obtain ⟨F, G, hq14⟩ := xH F G hp14
     refine xR ?_
     exact cut_at H (xK ⟨[1,2,5], [3,4]⟩)
    ·obtain ⟨F, G, hq14⟩ := xH F G hp14
     obtain ⟨hg5, H⟩ := gsplit H
     have F := xZ F (map_getD d_Token a0 ((IntKind.i64.wrap (x1 - 1)).toNat) default default (by omega))
     refine xR ?_
     exact cut_at H (xK ⟨[1,2,5], [3,4]⟩)
   ·obtain ⟨F, G, hq13⟩ := xH Y G hp13
    refine xR ?_
    exact cut_at H (xK ⟨[1,2,5], [3,4]⟩)
  ·rintro ⟨x4, x5, x6, x7, x8, x9, x10, x11, x12, x13, x14, x15⟩ H
   rw [KS] at H
   rcases bsplit H with ⟨hp2, H⟩ | ⟨hp2, H⟩
   ·obtain ⟨F, G, hq2⟩ := xH Y G hp2
    refine xT ?_
    replace H := inrO_fin H hF1
    replace H := Option.some.inj H
    refine xr ?_
    subst H
    refine xOr ?_
    refine qDf [] ?_
    exact xO ⟨[1], [4, 5]⟩
   ·obtain ⟨F, G, hq2⟩ := xH Y G hp2
    refine xE ?_
    refine xr ?_
    rcases bsplit H with ⟨hp3, H⟩ | ⟨hp3, H⟩
    ·obtain ⟨F, G, hq3⟩ := xH Y G hp3
     refine xT ?_
     obtain ⟨r2, hr2, H⟩ := osplit H
     have F := xC Y (Ka a0 x1 2 r2 hr2)
     replace H := inrO_fin H hF1
     replace H := Option.some.inj H
     refine xR ?_
     subst H
     refine xOr ?_
     refine qDf [] ?_
     exact xO ⟨[1], [4, 5]⟩
    ·obtain ⟨F, G, hq3⟩ := xH Y G hp3
     refine xE ?_
     refine xr0 ?_
     refine then_normal ?_
     refine w_cut (VE a0 x1 x2) (fun s => [(0, .c (.d (.sl 11 (List.map d_Token a0)))), (1, .c (.pt 1 0)), (5, .c (.pt 2 0)), (6, .c (.d (.v (.int .i64 x1)))), (8, .c (.d (.v (str s.1))))]) (fun s => [[.d (.v (str a1)), .d (.v (.bool a2)), .sl 1 (List.map dS x2) 3, .d (.v (.bool s.2)), .sl 11 (List.map d_Token a5) 4], [.d (.v (.int .i64 0)), .d (.v (.int .i64 0)), .d (.v (.int .i64 0))]]) [9, 39] o1 ?_ ?_
     ·refine xS ?_
      refine xr ?_
      rcases bsplit H with ⟨hp9, H⟩ | ⟨hp9, H⟩
      ·obtain ⟨F, G, hq9⟩ := xH Y G hp9
       refine xT ?_
       refine xr ?_
       exact cut_at H (xK ⟨[1,2], [4,5]⟩)
      ·obtain ⟨F, G, hq9⟩ := xH Y G hp9
       refine xE0 ?_
       refine w_cut (VJ a0 x1 x2 x3 x6) (fun s => [(0, .c (.d (.sl 11 (List.map d_Token a0)))), (1, .c (.pt 1 0)), (5, .c (.pt 2 0)), (6, .c (.d (.v (.int .i64 x1)))), (8, .c (.d (.v (str x6)))), (59, .c (.d (.v (.bool s))))]) (fun s => [[.d (.v (str a1)), .d (.v (.bool a2)), .sl 1 (List.map dS x2) 3, .d (.v (.bool x3)), .sl 11 (List.map d_Token a5) 4], [.d (.v (.int .i64 0)), .d (.v (.int .i64 0)), .d (.v (.int .i64 0))]]) [9, 39] o1 ?_ ?_
       ·rcases bsplit H with ⟨hp12, H⟩ | ⟨hp12, H⟩
        ·obtain ⟨F, G, hq12⟩ := xH Y G hp12
         refine xR ?_
         exact cut_at H (xK ⟨[1,2], [4,5]⟩)
        ·obtain ⟨F, G, hq12⟩ := xH Y G hp12
         refine xR ?_
         exact cut_at H (xK ⟨[1,2], [4,5]⟩)
       ·rintro x22 H
        rw [VJ] at H
        rcases bsplit H with ⟨hp10, H⟩ | ⟨hp10, H⟩
        ·obtain ⟨F, G, hq10⟩ := xH Y G hp10
         refine xT ?_
         obtain ⟨r5, hr5, H⟩ := osplit H
         have F := xC Y (Ka a0 x1 2 r5 hr5)
         replace H := inrO_fin H hF1
         replace H := Option.some.inj H
         refine xR ?_
         subst H
         refine xOr ?_
         refine qDf [] ?_
         exact xO ⟨[1], [3, 4]⟩
        ·obtain ⟨F, G, hq10⟩ := xH Y G hp10
         refine xE ?_
         obtain ⟨r6, hr6, H⟩ := osplit H
         have F := xC Y (JcL x2 x6 r6 hr6)
         refine xR ?_
         rcases bsplit H with ⟨hp11, H⟩ | ⟨hp11, H⟩
         ·obtain ⟨F, G, hq11⟩ := xH Y G hp11
          refine xT ?_
          obtain ⟨r7, hr7, H⟩ := osplit H
          have F := xC Y (Ka a0 x1 7 r7 hr7)
          replace H := inrO_fin H hF1
          replace H := Option.some.inj H
          refine xR ?_
          subst H
          refine xOr ?_
          refine qDf [] ?_
          exact xO ⟨[1], [3, 4]⟩
         ·obtain ⟨F, G, hq11⟩ := xH Y G hp11
          refine xE ?_
          exact cut_at H (xK ⟨[1,2], [3,4]⟩)
     ·rintro ⟨x16, x17⟩ H
      rw [VE] at H
      refine xS ?_
      obtain ⟨hg2, H⟩ := gsplit H
      have F := xZ Y (all_map one_dS [x16])
      refine xR ?_
      refine xr ?_
      rcases bsplit H with ⟨hp4, H⟩ | ⟨hp4, H⟩
      ·obtain ⟨F, G, hq4⟩ := xH Y G hp4
       refine xT ?_
       obtain ⟨r3, hr3, H⟩ := osplit H
       have F := xC Y (Ka a0 x1 5 r3 hr3)
       replace H := inrO_fin H hF1
       replace H := Option.some.inj H
       refine xR ?_
       subst H
       refine xOr ?_
       refine qDf [] ?_
       exact xO ⟨[1], [5, 4]⟩
      ·obtain ⟨F, G, hq4⟩ := xH Y G hp4
       refine xE ?_
       refine xr0 ?_
       refine then_normal ?_
       refine w_cut (Xz a0 x17) (fun s => [(0, .c (.d (.sl 11 (List.map d_Token a0)))), (1, .c (.pt 1 0)), (5, .c (.pt 2 0)), (6, .c (.d (.v (.int .i64 s.1)))), (104, .c (.d (.v (.bool s.2.1))))]) (fun s => [[.d (.v (str a1)), .d (.v (.bool a2)), .sl 1 (List.map dS s.2.2) 3, .d (.v (.bool x17)), .sl 11 (List.map d_Token a5) 4], [.d (.v (.int .i64 0)), .d (.v (.int .i64 0)), .d (.v (.int .i64 0))]]) [9, 39] o1 ?_ ?_
       ·rcases bsplit H with ⟨hp8, H⟩ | ⟨hp8, H⟩
        ·obtain ⟨F, G, hq8⟩ := xH Y G hp8
         obtain ⟨hg4, H⟩ := gsplit H
         have F := xZ F (map_getD d_Token a0 ((IntKind.i64.wrap (x1 + 1)).toNat) default default (by omega))
         refine xR ?_
         exact cut_at H (xK ⟨[1,2], [5,4]⟩)
        ·obtain ⟨F, G, hq8⟩ := xH Y G hp8
         refine xR ?_
         exact cut_at H (xK ⟨[1,2], [5,4]⟩)
       ·rintro ⟨x18, x19, x20⟩ H
        rw [Xz] at H
        rcases bsplit H with ⟨hp5, H⟩ | ⟨hp5, H⟩
        ·obtain ⟨F, G, hq5⟩ := xH Y G hp5
         refine xT ?_
         refine xr ?_
         exact round_at (inl_fin H hF1) (xK ⟨[1,2], [3,4]⟩)
        ·obtain ⟨F, G, hq5⟩ := xH Y G hp5
         refine xE0 ?_
         refine w_cut (XI a0 x17 x18 x20) (fun s => [(0, .c (.d (.sl 11 (List.map d_Token a0)))), (1, .c (.pt 1 0)), (5, .c (.pt 2 0)), (6, .c (.d (.v (.int .i64 x18)))), (118, .c (.d (.v (.bool s))))]) (fun s => [[.d (.v (str a1)), .d (.v (.bool a2)), .sl 1 (List.map dS x20) 3, .d (.v (.bool x17)), .sl 11 (List.map d_Token a5) 4], [.d (.v (.int .i64 0)), .d (.v (.int .i64 0)), .d (.v (.int .i64 0))]]) [9, 39] o1 ?_ ?_
         ·rcases bsplit H with ⟨hp7, H⟩ | ⟨hp7, H⟩
          ·obtain ⟨F, G, hq7⟩ := xH Y G hp7
           obtain ⟨hg3, H⟩ := gsplit H
           have F := xZ F (map_getD d_Token a0 x18.toNat default default (by omega))
           refine xR ?_
           exact cut_at H (xK ⟨[1,2], [3,4]⟩)
          ·obtain ⟨F, G, hq7⟩ := xH Y G hp7
           refine xR ?_
           exact cut_at H (xK ⟨[1,2], [3,4]⟩)
         ·rintro x21 H
          rw [XI] at H
          rcases bsplit H with ⟨hp6, H⟩ | ⟨hp6, H⟩
          ·obtain ⟨F, G, hq6⟩ := xH Y G hp6
           refine xT ?_
           obtain ⟨r4, hr4, H⟩ := osplit H
           have F := xC Y (Ka a0 x18 2 r4 hr4)
           replace H := inrO_fin H hF1
           replace H := Option.some.inj H
           refine xR ?_
           subst H
           refine xOr ?_
           refine qDf [] ?_
           exact xO ⟨[1], [3, 4]⟩
          ·obtain ⟨F, G, hq6⟩ := xH Y G hp6
           refine xE ?_
           exact round_at (inl_fin H hF1) (xK ⟨[1,2], [3,4]⟩)
theorem Jc1 : Callable Tryz.prog 42 ∧ (∀ g, XW g → GenOk Tryz.prog 42 g) ∧ (true = true → ∀ g, XW g → ∃ val bs ts, g.out = .ret val bs ts) :=
 ⟨call_42, Jeh, fun _ => by rintro _ ⟨_, _, _, _, _, _, _, _, rfl⟩; exact ⟨_, _, _, rfl⟩⟩
noncomputable def XZ (x8 : Int) : (List Token) → Option ((Int × (List Token)) ⊕ (Macro × Fault))
 | x10 => some (.inl (IntKind.i64.wrap (x8 + 1), x10))
noncomputable def V2 (x9 : List Token) (x11 : Int) (x12 : Int) : Bool → Option ((Int × Int) ⊕ (Macro × Fault))
 | x26 => if x26 = true then (Jz x9 x12 7).bind fun r7 => inrO (some ((⟨[], false, ([] : List (List UInt8)), false, ([] : List Token)⟩ : Macro), r7)) else some (.inl (x11, IntKind.i64.wrap (x12 + 1)))
noncomputable def Kw (x7 : Bool) (x9 : List Token) (x11 : Int) (x12 : Int) (x14 : Int) (x15 : List UInt8) : Bool → Option ((Int × Int) ⊕ (Macro × Fault))
 | x25 => if x25 = true then (Jz x9 x12 2).bind fun r6 => inrO (some ((⟨[], false, ([] : List (List UInt8)), false, ([] : List Token)⟩ : Macro), r6)) else if (!eqI x14 5) = true then if (eqS x15 [95, 95, 86, 65, 95, 65, 82, 71, 83, 95, 95]) = true then V2 x9 x11 x12 (!x7) else V2 x9 x11 x12 false else V2 x9 x11 x12 false
noncomputable def Vg (x5 : Bool) (x6 : List (List UInt8)) (x7 : Bool) (x9 : List Token) (x11 : Int) (x12 : Int) : (Bool × Int × (List UInt8) × Bool × Bool × Int × Int × Int × Int × (List (List UInt8)) × (List Call) × Int) → Option ((Int × Int) ⊕ (Macro × Fault))
 | (x13, x14, x15, x16, x17, x18, x19, x20, x21, x22, x23, x24) => if x13 = true then (Jz x9 x12 2).bind fun r5 => inrO (some ((⟨[], false, ([] : List (List UInt8)), false, ([] : List Token)⟩ : Macro), r5)) else if (eqI x14 5) = true then if (eqS x15 [35]) = true then if x5 = true then if (eqI (IntKind.i64.wrap (x12 + 1)) (x9.length : Int)) = true then Kw x7 x9 x11 x12 x14 x15 true else if (0 : Int) ≤ (IntKind.i64.wrap (x12 + 1)) ∧ (IntKind.i64.wrap (x12 + 1)).toNat < x9.length then (Xc x6 ((x9.getD ((IntKind.i64.wrap (x12 + 1)).toNat) default).Text)).bind fun r8 => Kw x7 x9 x11 x12 x14 x15 (!r8) else none else Kw x7 x9 x11 x12 x14 x15 false else Kw x7 x9 x11 x12 x14 x15 false else Kw x7 x9 x11 x12 x14 x15 false
noncomputable def V6 (x4 : List UInt8) (x5 : Bool) (x6 : List (List UInt8)) (x7 : Bool) (x9 : List Token) : (Int × Int) → Option ((Int × Int) ⊕ (Macro × Fault))
 | (x11, x12) => if (ltI x12 x11) = true then if (0 : Int) ≤ x12 ∧ x12.toNat < x9.length then if (eqI ((x9.getD x12.toNat default).Kind) 5) = true then if (eqS ((x9.getD x12.toNat default).Text) [35, 35]) = true then if (eqI x12 0) = true then Vg x5 x6 x7 x9 x11 x12 (true, (x9.getD x12.toNat default).Kind, (x9.getD x12.toNat default).Text, (x9.getD x12.toNat default).Space, (x9.getD x12.toNat default).First, (x9.getD x12.toNat default).File, (x9.getD x12.toNat default).At, (x9.getD x12.toNat default).End, (x9.getD x12.toNat default).Line, (x9.getD x12.toNat default).Hide, (x9.getD x12.toNat default).Calls, (x9.getD x12.toNat default).Made) else Vg x5 x6 x7 x9 x11 x12 (eqI (IntKind.i64.wrap (x12 + 1)) (x9.length : Int), (x9.getD x12.toNat default).Kind, (x9.getD x12.toNat default).Text, (x9.getD x12.toNat default).Space, (x9.getD x12.toNat default).First, (x9.getD x12.toNat default).File, (x9.getD x12.toNat default).At, (x9.getD x12.toNat default).End, (x9.getD x12.toNat default).Line, (x9.getD x12.toNat default).Hide, (x9.getD x12.toNat default).Calls, (x9.getD x12.toNat default).Made) else Vg x5 x6 x7 x9 x11 x12 (false, (x9.getD x12.toNat default).Kind, (x9.getD x12.toNat default).Text, (x9.getD x12.toNat default).Space, (x9.getD x12.toNat default).First, (x9.getD x12.toNat default).File, (x9.getD x12.toNat default).At, (x9.getD x12.toNat default).End, (x9.getD x12.toNat default).Line, (x9.getD x12.toNat default).Hide, (x9.getD x12.toNat default).Calls, (x9.getD x12.toNat default).Made) else Vg x5 x6 x7 x9 x11 x12 (false, (x9.getD x12.toNat default).Kind, (x9.getD x12.toNat default).Text, (x9.getD x12.toNat default).Space, (x9.getD x12.toNat default).First, (x9.getD x12.toNat default).File, (x9.getD x12.toNat default).At, (x9.getD x12.toNat default).End, (x9.getD x12.toNat default).Line, (x9.getD x12.toNat default).Hide, (x9.getD x12.toNat default).Calls, (x9.getD x12.toNat default).Made) else none else inrO (some ((⟨x4, x5, x6, x7, x9⟩ : Macro), (⟨0, (-1), 0⟩ : Fault)))
noncomputable def Vh (a0 : List Token) (x3 : Int) (x4 : List UInt8) (x5 : Bool) (x6 : List (List UInt8)) (x7 : Bool) : (Int × (List Token)) → Option ((Int × (List Token)) ⊕ (Macro × Fault))
 | (x8, x9) => if (ltI x8 (a0.length : Int)) = true then if (0 : Int) ≤ x8 ∧ x8.toNat < a0.length then if ((a0.getD x8.toNat default).Space) = true then if (x9.length + [(⟨(a0.getD x8.toNat default).Kind, (a0.getD x8.toNat default).Text, ltI x3 x8, false, (a0.getD x8.toNat default).File, (a0.getD x8.toNat default).At, (a0.getD x8.toNat default).End, (a0.getD x8.toNat default).Line, ([] : List (List UInt8)), ([] : List Call), (a0.getD x8.toNat default).Made⟩ : Token)].length) * 120 ≤ 140737488355328 then XZ x8 (x9 ++ [(⟨(a0.getD x8.toNat default).Kind, (a0.getD x8.toNat default).Text, ltI x3 x8, false, (a0.getD x8.toNat default).File, (a0.getD x8.toNat default).At, (a0.getD x8.toNat default).End, (a0.getD x8.toNat default).Line, ([] : List (List UInt8)), ([] : List Call), (a0.getD x8.toNat default).Made⟩ : Token)]) else none else if (x9.length + [(⟨(a0.getD x8.toNat default).Kind, (a0.getD x8.toNat default).Text, false, false, (a0.getD x8.toNat default).File, (a0.getD x8.toNat default).At, (a0.getD x8.toNat default).End, (a0.getD x8.toNat default).Line, ([] : List (List UInt8)), ([] : List Call), (a0.getD x8.toNat default).Made⟩ : Token)].length) * 120 ≤ 140737488355328 then XZ x8 (x9 ++ [(⟨(a0.getD x8.toNat default).Kind, (a0.getD x8.toNat default).Text, false, false, (a0.getD x8.toNat default).File, (a0.getD x8.toNat default).At, (a0.getD x8.toNat default).End, (a0.getD x8.toNat default).Line, ([] : List (List UInt8)), ([] : List Call), (a0.getD x8.toNat default).Made⟩ : Token)]) else none else none else inrO (loopO (V6 x4 x5 x6 x7 x9) ((x9.length : Int), 0))
noncomputable def V0 (a0 : List Token) : (Int × (List UInt8) × Bool × (List (List UInt8)) × Bool) → Option (Macro × Fault)
 | (x3, x4, x5, x6, x7) => if (ltI 60 (IntKind.i64.wrap ((a0.length : Int) - x3))) = true then (Jz a0 (IntKind.i64.wrap (x3 + 60)) 4).bind fun r4 => some ((⟨[], false, ([] : List (List UInt8)), false, ([] : List Token)⟩ : Macro), r4) else loopO (Vh a0 x3 x4 x5 x6 x7) (x3, ([] : List Token))
noncomputable def KB (a0 : List Token) : (Bool × (List UInt8)) → Option (Macro × Fault)
 | (x27, x28) => if x27 = true then (ZR a0 x28 true ([] : List (List UInt8)) false ([] : List Token)).bind fun r9 => if (!eqI r9.2.1 0) = true then some ((⟨[], false, ([] : List (List UInt8)), false, ([] : List Token)⟩ : Macro), (⟨r9.2.1, r9.2.2.1, r9.2.2.2.1⟩ : Fault)) else V0 a0 (r9.1, x28, true, r9.2.2.2.2.1, r9.2.2.2.2.2) else V0 a0 (1, x28, false, ([] : List (List UInt8)), false)
noncomputable def Ve (a0 : List Token) : (Bool × (List UInt8)) → Option (Macro × Fault)
 | (x1, x2) => if x1 = true then (Jz a0 0 2).bind fun r1 => some ((⟨[], false, ([] : List (List UInt8)), false, ([] : List Token)⟩ : Macro), r1) else if 0 < a0.length then (Xc [[95, 95, 76, 73, 78, 69, 95, 95], [95, 95, 70, 73, 76, 69, 95, 95], [100, 101, 102, 105, 110, 101, 100]] ((a0.getD 0 default).Text)).bind fun r2 => if r2 = true then (Jz a0 0 7).bind fun r3 => some ((⟨[], false, ([] : List (List UInt8)), false, ([] : List Token)⟩ : Macro), r3) else if 0 < a0.length then if (ltI 1 (a0.length : Int)) = true then if 1 < a0.length then if (eqS ((a0.getD 1 default).Text) [40]) = true then if 1 < a0.length then KB a0 (!((a0.getD 1 default).Space), (a0.getD 0 default).Text) else none else KB a0 (false, (a0.getD 0 default).Text) else none else KB a0 (false, (a0.getD 0 default).Text) else none else none
noncomputable def Zg (a0 : List Token) : Option (Macro × Fault) :=
 if (eqI (a0.length : Int) 0) = true then Ve a0 (true, []) else if 0 < a0.length then Ve a0 (!eqI ((a0.getD 0 default).Kind) 1, []) else none
noncomputable def JbH : PF := PF.of (E1 (dL 11 d_Token)) (fun a => Zg a) (T2 d_Macro d_Fault)
theorem Jes : PureOk Tryz.prog 24 JbH := by
 refine xFl mixed [11] [(41, JbC), (16, Ja9)] [(42, true, XW)] ⟨⟨call_41, JdL⟩, ⟨call_16, Jdt⟩, trivial⟩ ⟨Jc1, trivial⟩ Tryz.func24 ?_
 rintro a0 out H
 have G := True.intro
 have Y := xZ y_3 <| xZ y_4 <| xZ y_9 <| xZ y_24 <| xZ y_25 <| xZ y_27 <| xZ y_29 <| xZ y_37 <| xZ y_39 <| xZ y_43 <| xZ Tryz.results24 <| xZ d_Call.eq_1 <| xZ d_Token.eq_1 <| xZ d_Macro.eq_1 <| xZ d_Fault.eq_1 <| XY.eq_1
 simp only [Zg] at H
 refine xS ?_
 refine xr0 ?_
 refine then_normal ?_
 refine w_seq ?_
 refine w_cut (Ve a0) (fun s => [(0, .c (.d (.sl 11 (List.map d_Token a0)))), (2, .c (.pt 1 0)), (3, .c (.pt 2 0)), (21, .c (.d (.v (.bool s.1))))]) (fun s => [[.d (.v (str s.2)), .d (.v (.bool false)), .sl 1 [] 0, .d (.v (.bool false)), .sl 11 [] 0], [.d (.v (.int .i64 0)), .d (.v (.int .i64 0)), .d (.v (.int .i64 0))]]) [] out ?_ ?_
 ·rcases bsplit H with ⟨hp23, H⟩ | ⟨hp23, H⟩
  ·obtain ⟨F, G, hq23⟩ := xH Y G hp23
   refine xR ?_
   exact cut_at H (xK ⟨[1,2], []⟩)
  ·obtain ⟨F, G, hq23⟩ := xH Y G hp23
   obtain ⟨hg10, H⟩ := gsplit H
   have F := xZ F (map_getD d_Token a0 0 default default (by omega))
   refine xR ?_
   exact cut_at H (xK ⟨[1,2], []⟩)
 ·rintro ⟨x1, x2⟩ H
  rw [Ve] at H
  rcases bsplit H with ⟨hp1, H⟩ | ⟨hp1, H⟩
  ·obtain ⟨F, G, hq1⟩ := xH Y G hp1
   refine xT ?_
   obtain ⟨r1, hr1, H⟩ := osplit H
   have F := xC Y (Ka a0 0 2 r1 hr1)
   replace H := Option.some.inj H
   refine xR ?_
   subst H
   exact xN
  ·obtain ⟨F, G, hq1⟩ := xH Y G hp1
   refine xE ?_
   obtain ⟨hg1, H⟩ := gsplit H
   have F := xZ Y (map_getD d_Token a0 0 default default (by omega))
   obtain ⟨r2, hr2, H⟩ := osplit H
   have F := xCf F (JcL [[95, 95, 76, 73, 78, 69, 95, 95], [95, 95, 70, 73, 76, 69, 95, 95], [100, 101, 102, 105, 110, 101, 100]] ((a0.getD 0 default).Text) r2 hr2)
   refine xR ?_
   rcases bsplit H with ⟨hp2, H⟩ | ⟨hp2, H⟩
   ·obtain ⟨F, G, hq2⟩ := xH Y G hp2
    refine xT ?_
    obtain ⟨r3, hr3, H⟩ := osplit H
    have F := xC Y (Ka a0 0 7 r3 hr3)
    replace H := Option.some.inj H
    refine xR ?_
    subst H
    exact xN
   ·obtain ⟨F, G, hq2⟩ := xH Y G hp2
    refine xE ?_
    obtain ⟨hg2, H⟩ := gsplit H
    have F := xZ Y (map_getD d_Token a0 0 default default (by omega))
    refine xR ?_
    refine xr0 ?_
    refine then_normal ?_
    refine w_cut (V0 a0) (fun s => [(0, .c (.d (.sl 11 (List.map d_Token a0)))), (2, .c (.pt 1 0)), (3, .c (.pt 2 0)), (4, .c (.pt 3 0)), (5, .c (.d (.v (.int .i64 s.1))))]) (fun s => [[.d (.v (str x2)), .d (.v (.bool false)), .sl 1 [] 0, .d (.v (.bool false)), .sl 11 [] 0], [.d (.v (.int .i64 0)), .d (.v (.int .i64 0)), .d (.v (.int .i64 0))], [.d (.v (str s.2.1)), .d (.v (.bool s.2.2.1)), .sl 1 (List.map dS s.2.2.2.1) 4, .d (.v (.bool s.2.2.2.2)), .sl 11 (List.map d_Token ([] : List Token)) 5]]) [9, 39] out ?_ ?_
    ·refine w_cut (KB a0) (fun s => [(0, .c (.d (.sl 11 (List.map d_Token a0)))), (2, .c (.pt 1 0)), (3, .c (.pt 2 0)), (4, .c (.pt 3 0)), (5, .c (.d (.v (.int .i64 1)))), (55, .c (.d (.v (.bool s.1))))]) (fun s => [[.d (.v (str x2)), .d (.v (.bool false)), .sl 1 [] 0, .d (.v (.bool false)), .sl 11 [] 0], [.d (.v (.int .i64 0)), .d (.v (.int .i64 0)), .d (.v (.int .i64 0))], [.d (.v (str s.2)), .d (.v (.bool false)), .sl 1 [] 0, .d (.v (.bool false)), .sl 11 [] 0]]) [] out ?_ ?_
     ·rcases bsplit H with ⟨hp21, H⟩ | ⟨hp21, H⟩
      ·obtain ⟨F, G, hq21⟩ := xH Y G hp21
       obtain ⟨hg8, H⟩ := gsplit H
       have F := xZ F (map_getD d_Token a0 1 default default (by omega))
       rcases bsplit H with ⟨hp22, H⟩ | ⟨hp22, H⟩
       ·obtain ⟨F, G, hq22⟩ := xH F G hp22
        obtain ⟨hg9, H⟩ := gsplit H
        have F := xZ F (map_getD d_Token a0 1 default default (by omega))
        refine xR ?_
        exact cut_at H (xK ⟨[1,2,3], []⟩)
       ·obtain ⟨F, G, hq22⟩ := xH F G hp22
        refine xR ?_
        exact cut_at H (xK ⟨[1,2,3], []⟩)
      ·obtain ⟨F, G, hq21⟩ := xH Y G hp21
       refine xR ?_
       exact cut_at H (xK ⟨[1,2,3], []⟩)
     ·rintro ⟨x27, x28⟩ H
      rw [KB] at H
      rcases bsplit H with ⟨hp19, H⟩ | ⟨hp19, H⟩
      ·obtain ⟨F, G, hq19⟩ := xH Y G hp19
       refine xT ?_
       refine xr ?_
       obtain ⟨r9, hr9, H⟩ := osplit H
       have F := Y
       refine xQ ?_
       refine xs 1 ?_
       refine xc ⟨[3], [0, 0]⟩ (tabG 0 (Jer a0 x28 true ([] : List (List UInt8)) false ([] : List Token) r9 hr9)) ?_
       refine xs 6 ?_
       refine xl ?_
       refine xS ?_
       refine xr ?_
       rcases bsplit H with ⟨hp20, H⟩ | ⟨hp20, H⟩
       ·obtain ⟨F, G, hq20⟩ := xH Y G hp20
        refine xT ?_
        have F := Y
        refine xP [0, 1, 2, 3] [66] ⟨Jc1, trivial⟩ ?_
        refine xsX 1 ?_
        refine xaX ?_
        refine xbX ?_
        refine xbX ?_
        refine xlX ?_
        replace H := Option.some.inj H
        refine xS ?_
        subst H
        exact xN
       ·obtain ⟨F, G, hq20⟩ := xH Y G hp20
        refine xE ?_
        refine xr ?_
        exact cut_at H (xK ⟨[1,2,3], [5,6]⟩)
      ·obtain ⟨F, G, hq19⟩ := xH Y G hp19
       refine xE ?_
       exact cut_at H (xK ⟨[1,2,3], [0,0]⟩)
    ·rintro ⟨x3, x4, x5, x6, x7⟩ H
     rw [V0] at H
     refine xS ?_
     refine xr ?_
     rcases bsplit H with ⟨hp3, H⟩ | ⟨hp3, H⟩
     ·obtain ⟨F, G, hq3⟩ := xH Y G hp3
      refine xT ?_
      obtain ⟨r4, hr4, H⟩ := osplit H
      have F := xC Y (Ka a0 (IntKind.i64.wrap (x3 + 60)) 4 r4 hr4)
      replace H := Option.some.inj H
      refine xR ?_
      subst H
      exact xN
     ·obtain ⟨F, G, hq3⟩ := xH Y G hp3
      refine xE ?_
      refine xr ?_
      refine w_loop (Vh a0 x3 x4 x5 x6 x7) (fun s => [(0, .c (.d (.sl 11 (List.map d_Token a0)))), (2, .c (.pt 1 0)), (3, .c (.pt 2 0)), (4, .c (.pt 3 0)), (5, .c (.d (.v (.int .i64 x3)))), (8, .c (.d (.v (.int .i64 s.1))))]) (fun s => [[.d (.v (str x2)), .d (.v (.bool false)), .sl 1 [] 0, .d (.v (.bool false)), .sl 11 [] 0], [.d (.v (.int .i64 0)), .d (.v (.int .i64 0)), .d (.v (.int .i64 0))], [.d (.v (str x4)), .d (.v (.bool x5)), .sl 1 (List.map dS x6) 4, .d (.v (.bool x7)), .sl 11 (List.map d_Token s.2) 5]]) [9, 39] H (xK ⟨[1,2,3], [4,5]⟩) ?_
      rintro n1 ⟨x8, x9⟩ o1 H hF1
      rw [Vh] at H
      refine xS ?_
      refine xr ?_
      rcases bsplit H with ⟨hp4, H⟩ | ⟨hp4, H⟩
      ·obtain ⟨F, G, hq4⟩ := xH Y G hp4
       refine xT0 ?_
       refine w_skip ?_
       refine then_normal ?_
       refine w_cut (XZ x8) (fun s => [(0, .c (.d (.sl 11 (List.map d_Token a0)))), (2, .c (.pt 1 0)), (3, .c (.pt 2 0)), (4, .c (.pt 3 0)), (5, .c (.d (.v (.int .i64 x3)))), (8, .c (.d (.v (.int .i64 x8))))]) (fun s => [[.d (.v (str x2)), .d (.v (.bool false)), .sl 1 [] 0, .d (.v (.bool false)), .sl 11 [] 0], [.d (.v (.int .i64 0)), .d (.v (.int .i64 0)), .d (.v (.int .i64 0))], [.d (.v (str x4)), .d (.v (.bool x5)), .sl 1 (List.map dS x6) 4, .d (.v (.bool x7)), .sl 11 (List.map d_Token s) 5]]) [9, 39] o1 ?_ ?_
       ·refine xS ?_
        obtain ⟨hg3, H⟩ := gsplit H
        have F := xZ Y (map_getD d_Token a0 x8.toNat default default (by omega))
        refine xR ?_
        rcases bsplit H with ⟨hp5, H⟩ | ⟨hp5, H⟩
        ·obtain ⟨F, G, hq5⟩ := xH Y G hp5
         obtain ⟨hg4, H⟩ := gsplit H
         have F := xZ F (all_map one_Token [(⟨(a0.getD x8.toNat default).Kind, (a0.getD x8.toNat default).Text, ltI x3 x8, false, (a0.getD x8.toNat default).File, (a0.getD x8.toNat default).At, (a0.getD x8.toNat default).End, (a0.getD x8.toNat default).Line, ([] : List (List UInt8)), ([] : List Call), (a0.getD x8.toNat default).Made⟩ : Token)])
         refine xR ?_
         exact cut_at H (xK ⟨[1,2,3], [4,7]⟩)
        ·obtain ⟨F, G, hq5⟩ := xH Y G hp5
         obtain ⟨hg5, H⟩ := gsplit H
         have F := xZ F (all_map one_Token [(⟨(a0.getD x8.toNat default).Kind, (a0.getD x8.toNat default).Text, false, false, (a0.getD x8.toNat default).File, (a0.getD x8.toNat default).At, (a0.getD x8.toNat default).End, (a0.getD x8.toNat default).Line, ([] : List (List UInt8)), ([] : List Call), (a0.getD x8.toNat default).Made⟩ : Token)])
         refine xR ?_
         exact cut_at H (xK ⟨[1,2,3], [4,7]⟩)
       ·rintro x10 H
        rw [XZ] at H
        refine xr ?_
        exact round_at (inl_fin H hF1) (xK ⟨[1,2,3], [4,5]⟩)
      ·obtain ⟨F, G, hq4⟩ := xH Y G hp4
       replace H := inrO_fin H hF1
       refine xE ?_
       refine xr ?_
       refine w_loop (V6 x4 x5 x6 x7 x9) (fun s => [(2, .c (.pt 1 0)), (3, .c (.pt 2 0)), (4, .c (.pt 3 0)), (117, .c (.d (.sl 11 (List.map d_Token x9)))), (118, .c (.d (.v (.int .i64 s.1)))), (119, .c (.d (.v (.int .i64 s.2))))]) (fun s => [[.d (.v (str x2)), .d (.v (.bool false)), .sl 1 [] 0, .d (.v (.bool false)), .sl 11 [] 0], [.d (.v (.int .i64 0)), .d (.v (.int .i64 0)), .d (.v (.int .i64 0))], [.d (.v (str x4)), .d (.v (.bool x5)), .sl 1 (List.map dS x6) 4, .d (.v (.bool x7)), .sl 11 (List.map d_Token x9) 5]]) [9, 39] H (xK ⟨[1,2,3], [4,5]⟩) ?_
       rintro n2 ⟨x11, x12⟩ o2 H hF2
       rw [V6] at H
       refine xS ?_
       refine xr ?_
       rcases bsplit H with ⟨hp6, H⟩ | ⟨hp6, H⟩
       ·obtain ⟨F, G, hq6⟩ := xH Y G hp6
        refine xT ?_
        obtain ⟨hg6, H⟩ := gsplit H
        have F := xZ Y (map_getD d_Token x9 x12.toNat default default (by omega))
        refine xR0 ?_
        refine then_normal ?_
        refine w_seq ?_
        refine w_cut (Vg x5 x6 x7 x9 x11 x12) (fun s => [(2, .c (.pt 1 0)), (3, .c (.pt 2 0)), (4, .c (.pt 3 0)), (10, .c (.d (.v (.int .i64 x12)))), (11, .c (.pt 4 0)), (117, .c (.d (.sl 11 (List.map d_Token x9)))), (118, .c (.d (.v (.int .i64 x11)))), (119, .c (.d (.v (.int .i64 x12)))), (143, .c (.d (.v (.bool s.1))))]) (fun s => [[.d (.v (str x2)), .d (.v (.bool false)), .sl 1 [] 0, .d (.v (.bool false)), .sl 11 [] 0], [.d (.v (.int .i64 0)), .d (.v (.int .i64 0)), .d (.v (.int .i64 0))], [.d (.v (str x4)), .d (.v (.bool x5)), .sl 1 (List.map dS x6) 5, .d (.v (.bool x7)), .sl 11 (List.map d_Token x9) 6], [.d (.v (.int .i64 s.2.1)), .d (.v (str s.2.2.1)), .d (.v (.bool s.2.2.2.1)), .d (.v (.bool s.2.2.2.2.1)), .d (.v (.int .i64 s.2.2.2.2.2.1)), .d (.v (.int .i64 s.2.2.2.2.2.2.1)), .d (.v (.int .i64 s.2.2.2.2.2.2.2.1)), .d (.v (.int .i64 s.2.2.2.2.2.2.2.2.1)), .d (.sl 1 (List.map dS s.2.2.2.2.2.2.2.2.2.1)), .d (.sl 3 (List.map d_Call s.2.2.2.2.2.2.2.2.2.2.1)), .d (.v (.int .i64 s.2.2.2.2.2.2.2.2.2.2.2))]]) [9, 39] o2 ?_ ?_
        ·rcases bsplit H with ⟨hp16, H⟩ | ⟨hp16, H⟩
         ·obtain ⟨F, G, hq16⟩ := xH Y G hp16
          rcases bsplit H with ⟨hp17, H⟩ | ⟨hp17, H⟩
          ·obtain ⟨F, G, hq17⟩ := xH F G hp17
           rcases bsplit H with ⟨hp18, H⟩ | ⟨hp18, H⟩
           ·obtain ⟨F, G, hq18⟩ := xH F G hp18
            refine xR ?_
            exact cut_at H (xK ⟨[1,2,3,6], [4,5]⟩)
           ·obtain ⟨F, G, hq18⟩ := xH F G hp18
            refine xR ?_
            exact cut_at H (xK ⟨[1,2,3,6], [4,5]⟩)
          ·obtain ⟨F, G, hq17⟩ := xH F G hp17
           refine xR ?_
           exact cut_at H (xK ⟨[1,2,3,6], [4,5]⟩)
         ·obtain ⟨F, G, hq16⟩ := xH Y G hp16
          refine xR ?_
          exact cut_at H (xK ⟨[1,2,3,6], [4,5]⟩)
        ·rintro ⟨x13, x14, x15, x16, x17, x18, x19, x20, x21, x22, x23, x24⟩ H
         rw [Vg] at H
         rcases bsplit H with ⟨hp7, H⟩ | ⟨hp7, H⟩
         ·obtain ⟨F, G, hq7⟩ := xH Y G hp7
          refine xT ?_
          obtain ⟨r5, hr5, H⟩ := osplit H
          have F := xC Y (Ka x9 x12 2 r5 hr5)
          replace H := inrO_fin H hF2
          replace H := Option.some.inj H
          refine xR ?_
          subst H
          exact xN
         ·obtain ⟨F, G, hq7⟩ := xH Y G hp7
          refine xE0 ?_
          refine w_skip ?_
          refine then_normal ?_
          refine w_seq ?_
          refine w_cut (Kw x7 x9 x11 x12 x14 x15) (fun s => [(2, .c (.pt 1 0)), (3, .c (.pt 2 0)), (4, .c (.pt 3 0)), (10, .c (.d (.v (.int .i64 x12)))), (11, .c (.pt 4 0)), (117, .c (.d (.sl 11 (List.map d_Token x9)))), (118, .c (.d (.v (.int .i64 x11)))), (119, .c (.d (.v (.int .i64 x12)))), (181, .c (.d (.v (.bool s))))]) (fun s => [[.d (.v (str x2)), .d (.v (.bool false)), .sl 1 [] 0, .d (.v (.bool false)), .sl 11 [] 0], [.d (.v (.int .i64 0)), .d (.v (.int .i64 0)), .d (.v (.int .i64 0))], [.d (.v (str x4)), .d (.v (.bool x5)), .sl 1 (List.map dS x6) 5, .d (.v (.bool x7)), .sl 11 (List.map d_Token x9) 6], [.d (.v (.int .i64 x14)), .d (.v (str x15)), .d (.v (.bool x16)), .d (.v (.bool x17)), .d (.v (.int .i64 x18)), .d (.v (.int .i64 x19)), .d (.v (.int .i64 x20)), .d (.v (.int .i64 x21)), .d (.sl 1 (List.map dS x22)), .d (.sl 3 (List.map d_Call x23)), .d (.v (.int .i64 x24))]]) [9, 39] o2 ?_ ?_
          ·rcases bsplit H with ⟨hp12, H⟩ | ⟨hp12, H⟩
           ·obtain ⟨F, G, hq12⟩ := xH Y G hp12
            rcases bsplit H with ⟨hp13, H⟩ | ⟨hp13, H⟩
            ·obtain ⟨F, G, hq13⟩ := xH F G hp13
             rcases bsplit H with ⟨hp14, H⟩ | ⟨hp14, H⟩
             ·obtain ⟨F, G, hq14⟩ := xH F G hp14
              rcases bsplit H with ⟨hp15, H⟩ | ⟨hp15, H⟩
              ·obtain ⟨F, G, hq15⟩ := xH F G hp15
               refine xR ?_
               exact cut_at H (xK ⟨[1,2,3,4], [5,6]⟩)
              ·obtain ⟨F, G, hq15⟩ := xH F G hp15
               obtain ⟨hg7, H⟩ := gsplit H
               have F := xZ F (map_getD d_Token x9 ((IntKind.i64.wrap (x12 + 1)).toNat) default default (by omega))
               obtain ⟨r8, hr8, H⟩ := osplit H
               have F := xCf F (JcL x6 ((x9.getD ((IntKind.i64.wrap (x12 + 1)).toNat) default).Text) r8 hr8)
               refine xR ?_
               exact cut_at H (xK ⟨[1,2,3,4], [5,6]⟩)
             ·obtain ⟨F, G, hq14⟩ := xH F G hp14
              refine xR ?_
              exact cut_at H (xK ⟨[1,2,3,4], [5,6]⟩)
            ·obtain ⟨F, G, hq13⟩ := xH F G hp13
             refine xR ?_
             exact cut_at H (xK ⟨[1,2,3,4], [5,6]⟩)
           ·obtain ⟨F, G, hq12⟩ := xH Y G hp12
            refine xR ?_
            exact cut_at H (xK ⟨[1,2,3,4], [5,6]⟩)
          ·rintro x25 H
           rw [Kw] at H
           rcases bsplit H with ⟨hp8, H⟩ | ⟨hp8, H⟩
           ·obtain ⟨F, G, hq8⟩ := xH Y G hp8
            refine xT ?_
            obtain ⟨r6, hr6, H⟩ := osplit H
            have F := xC Y (Ka x9 x12 2 r6 hr6)
            replace H := inrO_fin H hF2
            replace H := Option.some.inj H
            refine xR ?_
            subst H
            exact xN
           ·obtain ⟨F, G, hq8⟩ := xH Y G hp8
            refine xE0 ?_
            refine w_skip ?_
            refine then_normal ?_
            refine w_cut (V2 x9 x11 x12) (fun s => [(2, .c (.pt 1 0)), (3, .c (.pt 2 0)), (4, .c (.pt 3 0)), (10, .c (.d (.v (.int .i64 x12)))), (117, .c (.d (.sl 11 (List.map d_Token x9)))), (118, .c (.d (.v (.int .i64 x11)))), (119, .c (.d (.v (.int .i64 x12)))), (199, .c (.d (.v (.bool s))))]) (fun s => [[.d (.v (str x2)), .d (.v (.bool false)), .sl 1 [] 0, .d (.v (.bool false)), .sl 11 [] 0], [.d (.v (.int .i64 0)), .d (.v (.int .i64 0)), .d (.v (.int .i64 0))], [.d (.v (str x4)), .d (.v (.bool x5)), .sl 1 (List.map dS x6) 4, .d (.v (.bool x7)), .sl 11 (List.map d_Token x9) 5]]) [9, 39] o2 ?_ ?_
            ·rcases bsplit H with ⟨hp10, H⟩ | ⟨hp10, H⟩
             ·obtain ⟨F, G, hq10⟩ := xH Y G hp10
              rcases bsplit H with ⟨hp11, H⟩ | ⟨hp11, H⟩
              ·obtain ⟨F, G, hq11⟩ := xH F G hp11
               refine xR ?_
               exact cut_at H (xK ⟨[1,2,3], [5,6]⟩)
              ·obtain ⟨F, G, hq11⟩ := xH F G hp11
               refine xR ?_
               exact cut_at H (xK ⟨[1,2,3], [5,6]⟩)
             ·obtain ⟨F, G, hq10⟩ := xH Y G hp10
              refine xR ?_
              exact cut_at H (xK ⟨[1,2,3], [5,6]⟩)
            ·rintro x26 H
             rw [V2] at H
             rcases bsplit H with ⟨hp9, H⟩ | ⟨hp9, H⟩
             ·obtain ⟨F, G, hq9⟩ := xH Y G hp9
              refine xT ?_
              obtain ⟨r7, hr7, H⟩ := osplit H
              have F := xC Y (Ka x9 x12 7 r7 hr7)
              replace H := inrO_fin H hF2
              replace H := Option.some.inj H
              refine xR ?_
              subst H
              exact xN
             ·obtain ⟨F, G, hq9⟩ := xH Y G hp9
              refine xE ?_
              refine xr ?_
              exact round_at (inl_fin H hF2) (xK ⟨[1,2,3], [4,5]⟩)
       ·obtain ⟨F, G, hq6⟩ := xH Y G hp6
        replace H := inrO_fin H hF2
        refine xE ?_
        replace H := Option.some.inj H
        refine xr ?_
        subst H
        exact xN
theorem JeN (a0 : List Token) (r : Macro × Fault) (H : Zg a0 = some r) : PC JbH [(dL 11 d_Token) a0] (T2 d_Macro d_Fault r) := PF.c (a := a0) H
noncomputable def JaM (a0 : List Macro) (a1 : List UInt8) : (Int × Int) → Option ((Int × Int) ⊕ Int)
 | (x1, x2) => if (ltI x2 x1) = true then if (0 : Int) ≤ x2 ∧ x2.toNat < a0.length then if (eqS ((a0.getD x2.toNat default).Name) a1) = true then inrO (some x2) else some (.inl (x1, IntKind.i64.wrap (x2 + 1))) else none else inrO (some (-1))
noncomputable def XS (a0 : List Macro) (a1 : List UInt8) : Option Int :=
 loopO (JaM a0 a1) ((a0.length : Int), 0)
noncomputable def JaD : PF := PF.of (E2 (dL 5 d_Macro) dS) (fun a => XS a.1 a.2) dI
theorem Jdl : PureOk Tryz.prog 15 JaD := by
 refine xF mixed [] [] trivial trivial Tryz.func15 ?_
 rintro ⟨a0, a1⟩ out H
 have G := True.intro
 have Y := xZ y_9 <| xZ y_32 <| xZ y_43 <| xZ Tryz.results15 <| xZ d_Call.eq_1 <| xZ d_Token.eq_1 <| d_Macro.eq_1
 simp only [XS] at H
 refine xS ?_
 refine xr ?_
 refine xr ?_
 refine w_loop (JaM a0 a1) (fun s => [(1, .c (.d (.v (str a1)))), (7, .c (.d (.sl 5 (List.map d_Macro a0)))), (8, .c (.d (.v (.int .i64 s.1)))), (9, .c (.d (.v (.int .i64 s.2))))]) (fun s => []) [] H (xK ⟨[], []⟩) ?_
 rintro n1 ⟨x1, x2⟩ o1 H hF1
 rw [JaM] at H
 refine xS ?_
 refine xr ?_
 rcases bsplit H with ⟨hp1, H⟩ | ⟨hp1, H⟩
 ·obtain ⟨F, G, hq1⟩ := xH Y G hp1
  refine xT ?_
  obtain ⟨hg1, H⟩ := gsplit H
  have F := xZ Y (map_getD d_Macro a0 x2.toNat default default (by omega))
  refine xR ?_
  refine xr ?_
  rcases bsplit H with ⟨hp2, H⟩ | ⟨hp2, H⟩
  ·obtain ⟨F, G, hq2⟩ := xH Y G hp2
   refine xT ?_
   replace H := inrO_fin H hF1
   replace H := Option.some.inj H
   refine xr ?_
   subst H
   exact xN
  ·obtain ⟨F, G, hq2⟩ := xH Y G hp2
   refine xE ?_
   refine xr ?_
   exact round_at (inl_fin H hF1) (xK ⟨[], []⟩)
 ·obtain ⟨F, G, hq1⟩ := xH Y G hp1
  replace H := inrO_fin H hF1
  refine xE ?_
  replace H := Option.some.inj H
  refine xr ?_
  subst H
  exact xN
theorem Jdw (a0 : List Macro) (a1 : List UInt8) (r : Int) (H : XS a0 a1 = some r) : PC JaD [(dL 5 d_Macro) a0, dS a1] (dI r) := PF.c (a := (a0, a1)) H
noncomputable def KI (x4 : Int) (x5 : Int) : Bool → Option ((Int × Int) ⊕ Bool)
 | x28 => if x28 = true then inrO (some false) else some (.inl (x4, IntKind.i64.wrap (x5 + 1)))
noncomputable def XM (x4 : Int) (x5 : Int) : (Int × (List UInt8) × Bool × Bool × Int × Int × Int × Int × (List (List UInt8)) × (List Call) × Int × Int × (List UInt8) × Bool × Bool × Int × Int × Int × Int × (List (List UInt8)) × (List Call) × Int) → Option ((Int × Int) ⊕ Bool)
 | (x6, x7, x8, x9, x10, x11, x12, x13, x14, x15, x16, x17, x18, x19, x20, x21, x22, x23, x24, x25, x26, x27) => if (!eqI x6 x17) = true then KI x4 x5 true else if (!eqS x7 x18) = true then KI x4 x5 true else KI x4 x5 (!eqB x8 x19)
noncomputable def KK (a0 : Macro) (a1 : Macro) : (Int × Int) → Option ((Int × Int) ⊕ Bool)
 | (x4, x5) => if (ltI x5 x4) = true then if (0 : Int) ≤ x5 ∧ x5.toNat < a0.Body.length then if (0 : Int) ≤ x5 ∧ x5.toNat < a1.Body.length then XM x4 x5 ((a0.Body.getD x5.toNat default).Kind, (a0.Body.getD x5.toNat default).Text, (a0.Body.getD x5.toNat default).Space, (a0.Body.getD x5.toNat default).First, (a0.Body.getD x5.toNat default).File, (a0.Body.getD x5.toNat default).At, (a0.Body.getD x5.toNat default).End, (a0.Body.getD x5.toNat default).Line, (a0.Body.getD x5.toNat default).Hide, (a0.Body.getD x5.toNat default).Calls, (a0.Body.getD x5.toNat default).Made, (a1.Body.getD x5.toNat default).Kind, (a1.Body.getD x5.toNat default).Text, (a1.Body.getD x5.toNat default).Space, (a1.Body.getD x5.toNat default).First, (a1.Body.getD x5.toNat default).File, (a1.Body.getD x5.toNat default).At, (a1.Body.getD x5.toNat default).End, (a1.Body.getD x5.toNat default).Line, (a1.Body.getD x5.toNat default).Hide, (a1.Body.getD x5.toNat default).Calls, (a1.Body.getD x5.toNat default).Made) else none else none else inrO (some true)
noncomputable def KH (a0 : Macro) (a1 : Macro) : (Int × Int) → Option ((Int × Int) ⊕ Bool)
 | (x2, x3) => if (ltI x3 x2) = true then if (0 : Int) ≤ x3 ∧ x3.toNat < a0.Params.length then if (0 : Int) ≤ x3 ∧ x3.toNat < a1.Params.length then if (!eqS (a0.Params.getD x3.toNat default) (a1.Params.getD x3.toNat default)) = true then inrO (some false) else some (.inl (x2, IntKind.i64.wrap (x3 + 1))) else none else none else inrO (loopO (KK a0 a1) ((a0.Body.length : Int), 0))
noncomputable def Jm (a0 : Macro) (a1 : Macro) : Bool → Option Bool
 | x1 => if x1 = true then some false else loopO (KH a0 a1) ((a0.Params.length : Int), 0)
noncomputable def VD (a0 : Macro) (a1 : Macro) : Option Bool :=
 if (!eqS a0.Name a1.Name) = true then Jm a0 a1 true else if (!eqB a0.Call a1.Call) = true then Jm a0 a1 true else if (!eqB a0.More a1.More) = true then Jm a0 a1 true else if (!eqI (a0.Params.length : Int) (a1.Params.length : Int)) = true then Jm a0 a1 true else Jm a0 a1 (!eqI (a0.Body.length : Int) (a1.Body.length : Int))
noncomputable def Jam : PF := PF.of (E2 d_Macro d_Macro) (fun a => VD a.1 a.2) dB
theorem JdI : PureOk Tryz.prog 43 Jam := by
 refine xFl mixed [12] [] [] trivial trivial Tryz.func43 ?_
 rintro ⟨a0, a1⟩ out H
 have G := True.intro
 have Y := xZ y_3 <| xZ y_4 <| xZ y_9 <| xZ y_24 <| xZ y_25 <| xZ y_39 <| xZ y_43 <| xZ Tryz.results43 <| xZ d_Call.eq_1 <| xZ d_Token.eq_1 <| d_Macro.eq_1
 simp only [VD] at H
 refine xS ?_
 refine xr0 ?_
 refine then_normal ?_
 refine w_seq ?_
 refine w_cut (Jm a0 a1) (fun s => [(2, .c (.pt 1 0)), (3, .c (.pt 2 0)), (45, .c (.d (.v (.bool s))))]) (fun s => [[.d (.v (str a0.Name)), .d (.v (.bool a0.Call)), .d (.sl 1 (List.map dS a0.Params)), .d (.v (.bool a0.More)), .d (.sl 11 (List.map d_Token a0.Body))], [.d (.v (str a1.Name)), .d (.v (.bool a1.Call)), .d (.sl 1 (List.map dS a1.Params)), .d (.v (.bool a1.More)), .d (.sl 11 (List.map d_Token a1.Body))]]) [] out ?_ ?_
 ·rcases bsplit H with ⟨hp8, H⟩ | ⟨hp8, H⟩
  ·obtain ⟨F, G, hq8⟩ := xH Y G hp8
   refine xR ?_
   exact cut_at H (xK ⟨[1,2], []⟩)
  ·obtain ⟨F, G, hq8⟩ := xH Y G hp8
   rcases bsplit H with ⟨hp9, H⟩ | ⟨hp9, H⟩
   ·obtain ⟨F, G, hq9⟩ := xH F G hp9
    refine xR ?_
    exact cut_at H (xK ⟨[1,2], []⟩)
   ·obtain ⟨F, G, hq9⟩ := xH F G hp9
    rcases bsplit H with ⟨hp10, H⟩ | ⟨hp10, H⟩
    ·obtain ⟨F, G, hq10⟩ := xH F G hp10
     refine xR ?_
     exact cut_at H (xK ⟨[1,2], []⟩)
    ·obtain ⟨F, G, hq10⟩ := xH F G hp10
     rcases bsplit H with ⟨hp11, H⟩ | ⟨hp11, H⟩
     ·obtain ⟨F, G, hq11⟩ := xH F G hp11
      refine xR ?_
      exact cut_at H (xK ⟨[1,2], []⟩)
     ·obtain ⟨F, G, hq11⟩ := xH F G hp11
      refine xR ?_
      exact cut_at H (xK ⟨[1,2], []⟩)
 ·rintro x1 H
  rw [Jm] at H
  rcases bsplit H with ⟨hp1, H⟩ | ⟨hp1, H⟩
  ·obtain ⟨F, G, hq1⟩ := xH Y G hp1
   refine xT ?_
   replace H := Option.some.inj H
   refine xr ?_
   subst H
   exact xN
  ·obtain ⟨F, G, hq1⟩ := xH Y G hp1
   refine xE ?_
   refine xr ?_
   refine w_loop (KH a0 a1) (fun s => [(2, .c (.pt 1 0)), (3, .c (.pt 2 0)), (48, .c (.d (.v (.int .i64 s.1)))), (49, .c (.d (.v (.int .i64 s.2))))]) (fun s => [[.d (.v (str a0.Name)), .d (.v (.bool a0.Call)), .d (.sl 1 (List.map dS a0.Params)), .d (.v (.bool a0.More)), .d (.sl 11 (List.map d_Token a0.Body))], [.d (.v (str a1.Name)), .d (.v (.bool a1.Call)), .d (.sl 1 (List.map dS a1.Params)), .d (.v (.bool a1.More)), .d (.sl 11 (List.map d_Token a1.Body))]]) [] H (xK ⟨[1,2], []⟩) ?_
   rintro n1 ⟨x2, x3⟩ o1 H hF1
   rw [KH] at H
   refine xS ?_
   refine xr ?_
   rcases bsplit H with ⟨hp2, H⟩ | ⟨hp2, H⟩
   ·obtain ⟨F, G, hq2⟩ := xH Y G hp2
    refine xT ?_
    refine xr ?_
    obtain ⟨hg1, H⟩ := gsplit H
    have F := xZ Y (map_getD dS a0.Params x3.toNat default default (by omega))
    obtain ⟨hg2, H⟩ := gsplit H
    have F := xZ F (map_getD dS a1.Params x3.toNat default default (by omega))
    refine xR ?_
    rcases bsplit H with ⟨hp3, H⟩ | ⟨hp3, H⟩
    ·obtain ⟨F, G, hq3⟩ := xH Y G hp3
     refine xT ?_
     replace H := inrO_fin H hF1
     replace H := Option.some.inj H
     refine xr ?_
     subst H
     exact xN
    ·obtain ⟨F, G, hq3⟩ := xH Y G hp3
     refine xE ?_
     refine xr ?_
     exact round_at (inl_fin H hF1) (xK ⟨[1,2], []⟩)
   ·obtain ⟨F, G, hq2⟩ := xH Y G hp2
    replace H := inrO_fin H hF1
    refine xE ?_
    refine xr ?_
    refine w_loop (KK a0 a1) (fun s => [(2, .c (.pt 1 0)), (3, .c (.pt 2 0)), (66, .c (.d (.v (.int .i64 s.1)))), (67, .c (.d (.v (.int .i64 s.2))))]) (fun s => [[.d (.v (str a0.Name)), .d (.v (.bool a0.Call)), .d (.sl 1 (List.map dS a0.Params)), .d (.v (.bool a0.More)), .d (.sl 11 (List.map d_Token a0.Body))], [.d (.v (str a1.Name)), .d (.v (.bool a1.Call)), .d (.sl 1 (List.map dS a1.Params)), .d (.v (.bool a1.More)), .d (.sl 11 (List.map d_Token a1.Body))]]) [] H (xK ⟨[1,2], []⟩) ?_
    rintro n2 ⟨x4, x5⟩ o2 H hF2
    rw [KK] at H
    refine xS ?_
    refine xr ?_
    rcases bsplit H with ⟨hp4, H⟩ | ⟨hp4, H⟩
    ·obtain ⟨F, G, hq4⟩ := xH Y G hp4
     refine xT ?_
     refine xr0 ?_
     refine then_normal ?_
     refine w_cut (XM x4 x5) (fun s => [(2, .c (.pt 1 0)), (3, .c (.pt 2 0)), (7, .c (.pt 3 0)), (8, .c (.pt 4 0)), (66, .c (.d (.v (.int .i64 x4)))), (67, .c (.d (.v (.int .i64 x5))))]) (fun s => [[.d (.v (str a0.Name)), .d (.v (.bool a0.Call)), .d (.sl 1 (List.map dS a0.Params)), .d (.v (.bool a0.More)), .d (.sl 11 (List.map d_Token a0.Body))], [.d (.v (str a1.Name)), .d (.v (.bool a1.Call)), .d (.sl 1 (List.map dS a1.Params)), .d (.v (.bool a1.More)), .d (.sl 11 (List.map d_Token a1.Body))], [.d (.v (.int .i64 s.1)), .d (.v (str s.2.1)), .d (.v (.bool s.2.2.1)), .d (.v (.bool s.2.2.2.1)), .d (.v (.int .i64 s.2.2.2.2.1)), .d (.v (.int .i64 s.2.2.2.2.2.1)), .d (.v (.int .i64 s.2.2.2.2.2.2.1)), .d (.v (.int .i64 s.2.2.2.2.2.2.2.1)), .d (.sl 1 (List.map dS s.2.2.2.2.2.2.2.2.1)), .d (.sl 3 (List.map d_Call s.2.2.2.2.2.2.2.2.2.1)), .d (.v (.int .i64 s.2.2.2.2.2.2.2.2.2.2.1))], [.d (.v (.int .i64 s.2.2.2.2.2.2.2.2.2.2.2.1)), .d (.v (str s.2.2.2.2.2.2.2.2.2.2.2.2.1)), .d (.v (.bool s.2.2.2.2.2.2.2.2.2.2.2.2.2.1)), .d (.v (.bool s.2.2.2.2.2.2.2.2.2.2.2.2.2.2.1)), .d (.v (.int .i64 s.2.2.2.2.2.2.2.2.2.2.2.2.2.2.2.1)), .d (.v (.int .i64 s.2.2.2.2.2.2.2.2.2.2.2.2.2.2.2.2.1)), .d (.v (.int .i64 s.2.2.2.2.2.2.2.2.2.2.2.2.2.2.2.2.2.1)), .d (.v (.int .i64 s.2.2.2.2.2.2.2.2.2.2.2.2.2.2.2.2.2.2.1)), .d (.sl 1 (List.map dS s.2.2.2.2.2.2.2.2.2.2.2.2.2.2.2.2.2.2.2.1)), .d (.sl 3 (List.map d_Call s.2.2.2.2.2.2.2.2.2.2.2.2.2.2.2.2.2.2.2.2.1)), .d (.v (.int .i64 s.2.2.2.2.2.2.2.2.2.2.2.2.2.2.2.2.2.2.2.2.2))]]) [] o2 ?_ ?_
     ·obtain ⟨hg3, H⟩ := gsplit H
      have F := xZ Y (map_getD d_Token a0.Body x5.toNat default default (by omega))
      obtain ⟨hg4, H⟩ := gsplit H
      have F := xZ F (map_getD d_Token a1.Body x5.toNat default default (by omega))
      refine xX 10 4 [76, 79] trivial ?_
      refine xsX 6 ?_
      refine xaX ?_
      refine xsX 2 ?_
      refine xaX ?_
      refine xm ?_
      refine xg2 10 11 ?_ ?_
      ·refine xbX ?_
       refine xm ?_
       refine xg1 11 ?_
       refine xbX ?_
       refine xm ?_
       refine xg1 12 ?_
       refine xbX ?_
       refine xm ?_
       refine xg1 13 ?_
       refine xbX ?_
       refine xm ?_
       refine xez ?_
       refine xS ?_
       exact cut_at H (xK ⟨[1,2,3,4], []⟩)
      ·refine xbX ?_
       refine xm ?_
       refine xg1 10 ?_
       refine xbX ?_
       refine xm ?_
       refine xg1 12 ?_
       refine xbX ?_
       refine xm ?_
       refine xg1 13 ?_
       refine xbX ?_
       refine xm ?_
       refine xez ?_
       refine xS ?_
       exact cut_at H (xK ⟨[1,2,4,3], []⟩)
     ·rintro ⟨x6, x7, x8, x9, x10, x11, x12, x13, x14, x15, x16, x17, x18, x19, x20, x21, x22, x23, x24, x25, x26, x27⟩ H
      rw [XM] at H
      refine w_cut (KI x4 x5) (fun s => [(2, .c (.pt 1 0)), (3, .c (.pt 2 0)), (66, .c (.d (.v (.int .i64 x4)))), (67, .c (.d (.v (.int .i64 x5)))), (98, .c (.d (.v (.bool s))))]) (fun s => [[.d (.v (str a0.Name)), .d (.v (.bool a0.Call)), .d (.sl 1 (List.map dS a0.Params)), .d (.v (.bool a0.More)), .d (.sl 11 (List.map d_Token a0.Body))], [.d (.v (str a1.Name)), .d (.v (.bool a1.Call)), .d (.sl 1 (List.map dS a1.Params)), .d (.v (.bool a1.More)), .d (.sl 11 (List.map d_Token a1.Body))]]) [] o2 ?_ ?_
      ·rcases bsplit H with ⟨hp6, H⟩ | ⟨hp6, H⟩
       ·obtain ⟨F, G, hq6⟩ := xH Y G hp6
        refine xR ?_
        exact cut_at H (xK ⟨[1,2], []⟩)
       ·obtain ⟨F, G, hq6⟩ := xH Y G hp6
        rcases bsplit H with ⟨hp7, H⟩ | ⟨hp7, H⟩
        ·obtain ⟨F, G, hq7⟩ := xH F G hp7
         refine xR ?_
         exact cut_at H (xK ⟨[1,2], []⟩)
        ·obtain ⟨F, G, hq7⟩ := xH F G hp7
         refine xR ?_
         exact cut_at H (xK ⟨[1,2], []⟩)
      ·rintro x28 H
       rw [KI] at H
       rcases bsplit H with ⟨hp5, H⟩ | ⟨hp5, H⟩
       ·obtain ⟨F, G, hq5⟩ := xH Y G hp5
        refine xT ?_
        replace H := inrO_fin H hF2
        replace H := Option.some.inj H
        refine xr ?_
        subst H
        exact xN
       ·obtain ⟨F, G, hq5⟩ := xH Y G hp5
        refine xE ?_
        refine xr ?_
        exact round_at (inl_fin H hF2) (xK ⟨[1,2], []⟩)
    ·obtain ⟨F, G, hq4⟩ := xH Y G hp4
     replace H := inrO_fin H hF2
     refine xE ?_
     replace H := Option.some.inj H
     refine xr ?_
     subst H
     exact xN
theorem JdQ (a0 : Macro) (a1 : Macro) (r : Bool) (H : VD a0 a1 = some r) : PC Jam [d_Macro a0, d_Macro a1] (dB r) := PF.c (a := (a0, a1)) H
noncomputable def VM (a0 : List Macro) (a1 : Macro) (r1 : Int) : Bool → Option ((List Macro) × Int)
 | x1 => if x1 = true then some (([] : List Macro), 7) else if (leI 0 r1) = true then some (a0, 0) else if (leI 30 (a0.length : Int)) = true then some (([] : List Macro), 5) else if (([] : List Macro).length + a0.length) * 80 ≤ 140737488355328 then if ((([] : List Macro) ++ a0).length + [a1].length) * 80 ≤ 140737488355328 then some ((([] : List Macro) ++ a0) ++ [a1], 0) else none else none
noncomputable def XQ (a0 : List Macro) (a1 : Macro) : Option ((List Macro) × Int) :=
 (XS a0 a1.Name).bind fun r1 => if (leI 0 r1) = true then if (0 : Int) ≤ r1 ∧ r1.toNat < a0.length then (VD (a0.getD r1.toNat default) a1).bind fun r2 => VM a0 a1 r1 (!r2) else none else VM a0 a1 r1 false
noncomputable def Jbl : PF := PF.of (E2 (dL 5 d_Macro) d_Macro) (fun a => XQ a.1 a.2) (T2 (dL 5 d_Macro) dI)
theorem Jek : PureOk Tryz.prog 25 Jbl := by
 refine xF mixed [(15, JaD), (43, Jam)] [] ⟨⟨call_15, Jdl⟩, ⟨call_43, JdI⟩, trivial⟩ trivial Tryz.func25 ?_
 rintro ⟨a0, a1⟩ out H
 have G := True.intro
 have Y := xZ y_9 <| xZ y_32 <| xZ y_43 <| xZ Tryz.results25 <| xZ d_Call.eq_1 <| xZ d_Token.eq_1 <| d_Macro.eq_1
 simp only [XQ] at H
 refine xS ?_
 refine xr ?_
 obtain ⟨r1, hr1, H⟩ := osplit H
 have F := xC Y (Jdw a0 a1.Name r1 hr1)
 refine xR0 ?_
 refine then_normal ?_
 refine w_seq ?_
 refine w_cut (VM a0 a1 r1) (fun s => [(0, .c (.d (.sl 5 (List.map d_Macro a0)))), (3, .c (.pt 1 0)), (6, .c (.d (.v (.int .i64 r1)))), (21, .c (.d (.v (.bool s))))]) (fun s => [[.d (.v (str a1.Name)), .d (.v (.bool a1.Call)), .d (.sl 1 (List.map dS a1.Params)), .d (.v (.bool a1.More)), .d (.sl 11 (List.map d_Token a1.Body))]]) [] out ?_ ?_
 ·rcases bsplit H with ⟨hp4, H⟩ | ⟨hp4, H⟩
  ·obtain ⟨F, G, hq4⟩ := xH Y G hp4
   obtain ⟨hg3, H⟩ := gsplit H
   have F := xZ F (map_getD d_Macro a0 r1.toNat default default (by omega))
   obtain ⟨r2, hr2, H⟩ := osplit H
   have F := xCf F (JdQ (a0.getD r1.toNat default) a1 r2 hr2)
   refine xR ?_
   exact cut_at H (xK ⟨[1], []⟩)
  ·obtain ⟨F, G, hq4⟩ := xH Y G hp4
   refine xR ?_
   exact cut_at H (xK ⟨[1], []⟩)
 ·rintro x1 H
  rw [VM] at H
  rcases bsplit H with ⟨hp1, H⟩ | ⟨hp1, H⟩
  ·obtain ⟨F, G, hq1⟩ := xH Y G hp1
   refine xT ?_
   replace H := Option.some.inj H
   refine xr ?_
   subst H
   exact xN
  ·obtain ⟨F, G, hq1⟩ := xH Y G hp1
   refine xE ?_
   refine xr ?_
   rcases bsplit H with ⟨hp2, H⟩ | ⟨hp2, H⟩
   ·obtain ⟨F, G, hq2⟩ := xH Y G hp2
    refine xT ?_
    replace H := Option.some.inj H
    refine xr ?_
    subst H
    exact xN
   ·obtain ⟨F, G, hq2⟩ := xH Y G hp2
    refine xE ?_
    refine xr ?_
    rcases bsplit H with ⟨hp3, H⟩ | ⟨hp3, H⟩
    ·obtain ⟨F, G, hq3⟩ := xH Y G hp3
     refine xT ?_
     replace H := Option.some.inj H
     refine xr ?_
     subst H
     exact xN
    ·obtain ⟨F, G, hq3⟩ := xH Y G hp3
     refine xE ?_
     obtain ⟨hg1, H⟩ := gsplit H
     have F := xZ Y (all_map one_Macro a0)
     have A := all_map one_Macro a0
     obtain ⟨hg2, H⟩ := gsplit H
     have F := xZ F (all_map one_Macro [a1])
     replace H := Option.some.inj H
     refine xR ?_
     subst H
     exact xN
theorem JeA (a0 : List Macro) (a1 : Macro) (r : (List Macro) × Int) (H : XQ a0 a1 = some r) : PC Jbl [(dL 5 d_Macro) a0, d_Macro a1] (T2 (dL 5 d_Macro) dI r) := PF.c (a := (a0, a1)) H
noncomputable def VH (x2 : Int) (x3 : Int) : (List Macro) → Option (((List Macro) × Int × Int) ⊕ (List Macro))
 | x4 => some (.inl (x4, x2, IntKind.i64.wrap (x3 + 1)))
noncomputable def VF (a0 : List (List UInt8)) : ((List Macro) × Int × Int) → Option (((List Macro) × Int × Int) ⊕ (List Macro))
 | (x1, x2, x3) => if (ltI x3 x2) = true then if (0 : Int) ≤ x3 ∧ x3.toNat < a0.length then (Xf (a0.getD x3.toNat default)).bind fun r1 => (Zg r1).bind fun r2 => if (eqI r2.2.Err 0) = true then (XQ x1 r2.1).bind fun r3 => if (eqI r3.2 0) = true then VH x2 x3 r3.1 else VH x2 x3 x1 else VH x2 x3 x1 else none else inrO (some x1)
noncomputable def V9 (a0 : List (List UInt8)) : Option (List Macro) :=
 loopO (VF a0) (([] : List Macro), (a0.length : Int), 0)
noncomputable def ZI : PF := PF.of (E1 (dL 1 dS)) (fun a => V9 a) (dL 5 d_Macro)
theorem JcP : PureOk Tryz.prog 11 ZI := by
 refine xF mixed [(9, Zl), (24, JbH), (25, Jbl)] [] ⟨⟨call_9, Jb3⟩, ⟨call_24, Jes⟩, ⟨call_25, Jek⟩, trivial⟩ trivial Tryz.func11 ?_
 rintro a0 out H
 have G := True.intro
 have Y := xZ y_9 <| xZ y_24 <| xZ y_27 <| xZ y_29 <| xZ y_43 <| xZ Tryz.results11 <| xZ d_Call.eq_1 <| xZ d_Token.eq_1 <| xZ d_Macro.eq_1 <| d_Fault.eq_1
 simp only [V9] at H
 refine xS ?_
 refine xr ?_
 refine xr ?_
 refine xr ?_
 refine w_loop (VF a0) (fun s => [(3, .c (.d (.sl 5 (List.map d_Macro s.1)))), (10, .c (.d (.sl 1 (List.map dS a0)))), (11, .c (.d (.v (.int .i64 s.2.1)))), (12, .c (.d (.v (.int .i64 s.2.2))))]) (fun s => []) [] H (xK ⟨[], []⟩) ?_
 rintro n1 ⟨x1, x2, x3⟩ o1 H hF1
 rw [VF] at H
 refine xS ?_
 refine xr ?_
 rcases bsplit H with ⟨hp1, H⟩ | ⟨hp1, H⟩
 ·obtain ⟨F, G, hq1⟩ := xH Y G hp1
  refine xT0 ?_
  refine w_skip ?_
  refine then_normal ?_
  refine w_cut (VH x2 x3) (fun s => [(3, .c (.d (.sl 5 (List.map d_Macro s)))), (10, .c (.d (.sl 1 (List.map dS a0)))), (11, .c (.d (.v (.int .i64 x2)))), (12, .c (.d (.v (.int .i64 x3))))]) (fun s => []) [] o1 ?_ ?_
  ·refine xS ?_
   obtain ⟨hg1, H⟩ := gsplit H
   have F := xZ Y (map_getD dS a0 x3.toNat default default (by omega))
   refine xR ?_
   obtain ⟨r1, hr1, H⟩ := osplit H
   have F := xC Y (Jcp (a0.getD x3.toNat default) r1 hr1)
   obtain ⟨r2, hr2, H⟩ := osplit H
   have F := xCf F (JeN r1 r2 hr2)
   refine xR ?_
   refine xr ?_
   rcases bsplit H with ⟨hp2, H⟩ | ⟨hp2, H⟩
   ·obtain ⟨F, G, hq2⟩ := xH Y G hp2
    refine xT ?_
    obtain ⟨r3, hr3, H⟩ := osplit H
    have F := xC Y (JeA x1 r2.1 r3 hr3)
    refine xR ?_
    refine xr ?_
    rcases bsplit H with ⟨hp3, H⟩ | ⟨hp3, H⟩
    ·obtain ⟨F, G, hq3⟩ := xH Y G hp3
     refine xT ?_
     refine xr ?_
     exact cut_at H (xK ⟨[], []⟩)
    ·obtain ⟨F, G, hq3⟩ := xH Y G hp3
     refine xE ?_
     exact cut_at H (xK ⟨[], []⟩)
   ·obtain ⟨F, G, hq2⟩ := xH Y G hp2
    refine xE ?_
    exact cut_at H (xK ⟨[], []⟩)
  ·rintro x4 H
   rw [VH] at H
   refine xr ?_
   exact round_at (inl_fin H hF1) (xK ⟨[], []⟩)
 ·obtain ⟨F, G, hq1⟩ := xH Y G hp1
  replace H := inrO_fin H hF1
  refine xE ?_
  replace H := Option.some.inj H
  refine xr ?_
  subst H
  exact xN
theorem Jda (a0 : List (List UInt8)) (r : (List Macro)) (H : V9 a0 = some r) : PC ZI [(dL 1 dS) a0] ((dL 5 d_Macro) r) := PF.c (a := a0) H
end Go.Proofs.YtjgimofnepechaaGreatDoor
