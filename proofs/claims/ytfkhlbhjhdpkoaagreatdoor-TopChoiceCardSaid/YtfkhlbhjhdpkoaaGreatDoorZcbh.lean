/- Functions of data for functions of the program. Written by dec3.py. -/
import Derived.Test.YtfkhlbhjhdpkoaaGreatDoorZcao
import Derived.Test.YtfkhlbhjhdpkoaaGreatDoorZcaq
import Derived.Test.YtfkhlbhjhdpkoaaGreatDoorZcbe
import Derived.Test.YtfkhlbhjhdpkoaaGreatDoorZcbf
import Derived.Test.YtfkhlbhjhdpkoaaGreatDoorZcbg
set_option linter.unusedVariables false
set_option linter.unusedSimpArgs false
set_option maxHeartbeats 4000000
set_option maxRecDepth 100000
namespace Go.Proofs.YtfkhlbhjhdpkoaaGreatDoor
open Go.RowKit
noncomputable def Jai (a0 : Fault) : Option (GR Unit Unit) :=
 if (!eqI a0.Err 0) = true then some (.er ()) else some (.ok ())
def Jgf (a0 : Fault) : GR Unit Unit → GOut
 | .ok r => .ret (.tu []) [] []
 | .er r => .pan (.iface 78 (.agg ⟨[.int .i64 a0.Err, .int .i64 a0.File, .int .i64 a0.At]⟩)) [] []
def XX (a0 : Fault) (r : GR Unit Unit) : GI :=
 ⟨[.ag [kI a0.Err, kI a0.File, kI a0.At]], [], [], Jgf a0 r⟩
def XT : GI → Prop := Sg1 Jai XX
theorem Jf4 : ∀ g, XT g → GenOk Tryz.prog 33 g := by
 rintro _ ⟨a0, r, H, rfl⟩
 refine xGn mixed [] [] [] trivial trivial trivial Tryz.func33 _ ?_
 have G := True.intro
 have Y := xZ y_29 <| xZ y_31 <| xZ y_78 <| xZ Tryz.results33 <| xZ d_Fault.eq_1 <| XX.eq_1
 dsimp only [XX]
 simp only [Jai] at H
 refine xS ?_
 refine xr ?_
 refine xr ?_
 rcases xB Y G H with ⟨p, H, F, G, q⟩ | ⟨p, H, F, G, q⟩
 ·refine xT ?_
  have F := Y
  refine xQp [5, 6, 7] ?_
  refine xs 3 ?_
  refine xv ?_
  replace H := oI H
  refine xS ?_
  subst H
  refine xpD [] ?_
  exact xOv ⟨[], []⟩
 replace H := oI H
 refine xE ?_
 subst H
 refine xnD [] ?_
 exact xO ⟨[], []⟩
theorem X1 : Callable Tryz.prog 33 ∧ (∀ g, XT g → GenOk Tryz.prog 33 g) ∧ (false = true → ∀ g, XT g → ∃ val bs ts, g.out = .ret val bs ts) :=
 ⟨call_33, Jf4, nofun⟩
noncomputable def JbG (a0 : drive_group) : Option Bool :=
 some (!a0.on_)
noncomputable def JbK : PF := PF.of (E1 Ja) (fun a => JbG a) dB
theorem Je7 : PureOk Tryz.prog 53 JbK := by
 refine xF mixed [] [] trivial trivial Tryz.func53 ?_
 rintro a0 out H
 have G := True.intro
 have Y := xZ y_4 <| xZ y_90 <| xZ Tryz.results53 <| xZ d_Call.eq_1 <| xZ d_Token.eq_1 <| Ja.eq_1
 simp only [JbG] at H
 refine xS ?_
 refine xr ?_
 replace H := oI H
 refine xr ?_
 subst H
 exact xN
theorem Jfo (a0 : drive_group) (r : Bool) (H : JbG a0 = some r) : PC JbK [Ja a0] (dB r) := PF.c (a := a0) H
noncomputable def X6 (a0 : List Token) (a1 : List Source) (a2 a3 a4 : Int) (a5 : List Macro) (a6 a7 : List Int) (a8 : Int) (a9 : List Token) : Option (GR YT YM) :=
 (Jd2 a1 a5 a0 a2 a3).bind fun r1 => grB (Jai r1.2.2) (fun r2 => some (.ok (r1.1, r1.2.1))) (fun e1 => some (.er (r1.2.2.Err, r1.2.2.File, r1.2.2.At)))
def JdS (a0 : List Token) (a1 : List Source) (a2 a3 a4 : Int) (a5 : List Macro) (a6 a7 : List Int) (a8 : Int) (a9 : List Token) : GR YT YM → GOut
 | .ok r => .ret (.c (.d (.sl 11 (List.map d_Token r.1)))) [[.d (.sl 2 (List.map d_Source a1)), kI r.2, kI a3, kI a4, .d (.sl 5 (List.map d_Macro a5)), .sl 1 (List.map dI a6) 3, .os 2 11 0 a9.length, .sl 1 (List.map dI a7) 4, kI a8], [.arr 11 (List.map d_Token a9)]] [3, 3]
 | .er r => .pan (.iface 78 (.agg ⟨[.int .i64 r.1, .int .i64 r.2.1, .int .i64 r.2.2]⟩)) [[.d (.sl 2 (List.map d_Source a1)), kI a2, kI a3, kI a4, .d (.sl 5 (List.map d_Macro a5)), .sl 1 (List.map dI a6) 3, .os 2 11 0 a9.length, .sl 1 (List.map dI a7) 4, kI a8], [.arr 11 (List.map d_Token a9)]] [3, 3]
def Kv (a0 : List Token) (a1 : List Source) (a2 a3 a4 : Int) (a5 : List Macro) (a6 a7 : List Int) (a8 : Int) (a9 : List Token) (r : GR YT YM) : GI :=
 ⟨[.c (.pt 1 0), .c (.d (.sl 11 (List.map d_Token a0)))], [[.d (.sl 2 (List.map d_Source a1)), kI a2, kI a3, kI a4, .d (.sl 5 (List.map d_Macro a5)), .sl 1 (List.map dI a6) 3, .os 2 11 0 a9.length, .sl 1 (List.map dI a7) 4, kI a8], [.arr 11 (List.map d_Token a9)]], [3, 3], JdS a0 a1 a2 a3 a4 a5 a6 a7 a8 a9 r⟩
def Ky : GI → Prop := Sg10 X6 Kv
theorem JdA : ∀ g, Ky g → GenOk Tryz.prog 54 g := by
 rintro _ ⟨a0, a1, a2, a3, a4, a5, a6, a7, a8, a9, r, H, rfl⟩
 refine xGn mixed [(78, JcR)] [(33, false, XT)] [] ⟨⟨call_78, Jf2⟩, trivial⟩ ⟨X1, trivial⟩ trivial Tryz.func54 _ ?_
 have G := True.intro
 have Y := xZ y_3 <| xZ y_28 <| xZ y_31 <| xZ y_37 <| xZ y_39 <| xZ y_65 <| xZ Tryz.results54 <| xZ d_Source.eq_1 <| xZ d_Call.eq_1 <| xZ d_Token.eq_1 <| xZ d_Macro.eq_1 <| xZ d_Limits.eq_1 <| xZ d_Fault.eq_1 <| xZ XX.eq_1 <| Kv.eq_1
 dsimp only [Kv]
 simp only [X6] at H
 refine xS ?_
 refine xr ?_
 obtain ⟨r1, hr1, H⟩ := osplit H
 have F := xC Y (Jgb a1 a5 a0 a2 a3 r1 hr1)
 refine xR ?_
 rcases rsplit H with ⟨r2, hr2, H⟩ | ⟨e1, hr3, H⟩
 ·have F := Y
  refine xQ ?_
  refine xs 1 ?_
  refine xc ⟨[], []⟩ (tabG 0 (cg1 hr2)) ?_
  refine xl ?_
  refine xS ?_
  refine xr ?_
  replace H := oI H
  refine xr ?_
  subst H
  refine xrD [] ?_
  exact xO ⟨[1, 2], [3, 4]⟩
 have F := Y
 refine xQp [32, 33] ?_
 refine xs 1 ?_
 refine xp ⟨[], []⟩ (tabG 0 (cg1 hr3)) ?_
 replace H := oI H
 refine xS ?_
 subst H
 refine xpD [] ?_
 exact xOv ⟨[1, 2], [3, 4]⟩
theorem JX : Callable Tryz.prog 54 ∧ (∀ g, Ky g → GenOk Tryz.prog 54 g) ∧ (false = true → ∀ g, Ky g → ∃ val bs ts, g.out = .ret val bs ts) :=
 ⟨call_54, JdA, nofun⟩
noncomputable def Ja1 (a0 : Int) (a1 : Token) : Option Unit :=
 some ()
def JaZ (a0 : Int) (a1 : Token) (r : Unit) : GI :=
 ⟨[cI a0, .c (.pp (List.drop 0 (d_Token a1).cells))], [], [], .pan (.iface 78 (.agg ⟨[.int .i64 a0, .int .i64 a1.File, .int .i64 a1.At]⟩)) [] []⟩
def JaR : GI → Prop := Sg2 Ja1 JaZ
theorem JfZ : ∀ g, JaR g → GenOk Tryz.prog 39 g := by
 rintro _ ⟨a0, a1, r, H, rfl⟩
 refine xGn mixed [] [] [] trivial trivial trivial Tryz.func39 _ ?_
 have G := True.intro
 have Y := xZ y_3 <| xZ y_29 <| xZ y_31 <| xZ y_44 <| xZ y_78 <| xZ Tryz.results39 <| xZ d_Call.eq_1 <| xZ d_Token.eq_1 <| JaZ.eq_1
 dsimp only [JaZ]
 unfold Ja1 at H
 have F := Y
 refine xQp [4, 5, 6, 7, 8, 9, 10, 11, 12, 13, 14, 15] ?_
 refine xs 12 ?_
 refine xv ?_
 refine xS ?_
 refine xpD [] ?_
 exact xOv ⟨[], []⟩
theorem Jb7 : Callable Tryz.prog 39 ∧ (∀ g, JaR g → GenOk Tryz.prog 39 g) ∧ (false = true → ∀ g, JaR g → ∃ val bs ts, g.out = .ret val bs ts) :=
 ⟨call_39, JfZ, nofun⟩
noncomputable def Zt (a0 : List Token) (a1 : List Source) (a2 a3 a4 : Int) (a5 : List Macro) (a6 a7 : List Int) (a8 : Int) (a9 : List Token) : Option (GR Yz YJ) :=
 if (eqI (a0.length : Int) 0) = true then some (.ok (a2, a9)) else grB (X6 a0 a1 a2 a3 a4 a5 a6 a7 a8 a9) (fun r1 => if (a9.length + r1.1.length) * 120 ≤ 140737488355328 then if (ltI a3 ((a9.length + r1.1.length : Nat) : Int)) = true then if 0 < a0.length then (Ja1 4 (a0.getD 0 default)).bind fun e2 => some (.er (4, (a0.getD 0 default).File, (a0.getD 0 default).At, r1.2, a9 ++ r1.1)) else none else some (.ok (r1.2, a9 ++ r1.1)) else none) (fun e1 => some (.er (e1.1, e1.2.1, e1.2.2, a2, a9)))
def JdZ (a0 : List Token) (a1 : List Source) (a2 a3 a4 : Int) (a5 : List Macro) (a6 a7 : List Int) (a8 : Int) (a9 : List Token) : GR Yz YJ → GOut
 | .ok r => .ret (.tu []) [[.d (.sl 2 (List.map d_Source a1)), kI r.1, kI a3, kI a4, .d (.sl 5 (List.map d_Macro a5)), .sl 1 (List.map dI a6) 4, .os 3 11 0 r.2.length, .sl 1 (List.map dI a7) 5, kI a8], [], [.arr 11 (List.map d_Token r.2)]] [3, 3]
 | .er r => .pan (.iface 78 (.agg ⟨[.int .i64 r.1, .int .i64 r.2.1, .int .i64 r.2.2.1]⟩)) [[.d (.sl 2 (List.map d_Source a1)), kI r.2.2.2.1, kI a3, kI a4, .d (.sl 5 (List.map d_Macro a5)), .sl 1 (List.map dI a6) 4, .os 3 11 0 r.2.2.2.2.length, .sl 1 (List.map dI a7) 5, kI a8], [], [.arr 11 (List.map d_Token r.2.2.2.2)]] [3, 3]
def XB (a0 : List Token) (a1 : List Source) (a2 a3 a4 : Int) (a5 : List Macro) (a6 a7 : List Int) (a8 : Int) (a9 : List Token) (r : GR Yz YJ) : GI :=
 ⟨[.c (.pt 1 0), .c (.d (.sl 11 (List.map d_Token a0)))], [[.d (.sl 2 (List.map d_Source a1)), kI a2, kI a3, kI a4, .d (.sl 5 (List.map d_Macro a5)), .sl 1 (List.map dI a6) 3, .os 2 11 0 a9.length, .sl 1 (List.map dI a7) 4, kI a8], [.arr 11 (List.map d_Token a9)]], [3, 3], JdZ a0 a1 a2 a3 a4 a5 a6 a7 a8 a9 r⟩
def Xs : GI → Prop := Sg10 Zt XB
theorem JdV : ∀ g, Xs g → GenOk Tryz.prog 36 g := by
 rintro _ ⟨a0, a1, a2, a3, a4, a5, a6, a7, a8, a9, r, H, rfl⟩
 refine xGnl mixed [1] [] [(54, false, Ky), (39, false, JaR)] [] trivial ⟨JX, Jb7, trivial⟩ trivial Tryz.func36 _ ?_
 have G := True.intro
 have Y := xZ y_3 <| xZ y_24 <| xZ y_27 <| xZ y_39 <| xZ y_44 <| xZ y_65 <| xZ Tryz.results36 <| xZ d_Source.eq_1 <| xZ d_Call.eq_1 <| xZ d_Token.eq_1 <| xZ d_Macro.eq_1 <| xZ d_Limits.eq_1 <| xZ Kv.eq_1 <| xZ JaZ.eq_1 <| XB.eq_1
 dsimp only [XB]
 simp only [Zt] at H
 refine xS ?_
 refine xrn 2 1 ?_
 refine xr ?_
 rcases xB Y G H with ⟨p, H, F, G, q⟩ | ⟨p, H, F, G, q⟩
 ·replace H := oI H
  refine xT ?_
  subst H
  refine xrD [] ?_
  exact xO ⟨[1, 2, 5], [3, 4]⟩
 refine xE ?_
 rcases rsplit H with ⟨r1, hr1, H⟩ | ⟨e1, hr2, H⟩
 ·have F := Y
  obtain ⟨g, H⟩ := gsplit H
  have F := xZ F (all_map one_Token r1.1)
  have A := all_map one_Token r1.1
  refine xP [0, 1, 2, 3, 4, 5, 6, 7, 8, 9, 10, 11, 12, 13] [12, 888888] ⟨JX, Jb7, trivial⟩ ?_
  refine xsX 5 ?_
  refine xaX ?_
  refine xsX 2 ?_
  refine xcX ⟨[1, 5], [3, 4]⟩ (tabG 0 (cg10 hr1)) ?_
  refine xbX ?_
  refine xsX 4 ?_
  refine xlX ?_
  refine xS ?_
  refine xr ?_
  rcases xB Y G H with ⟨p, H, F, G, q⟩ | ⟨p, H, F, G, q⟩
  ·refine xT ?_
   obtain ⟨g, H⟩ := gsplit H
   have F := xZ Y (map_getD d_Token a0 0 default default (by omega))
   obtain ⟨e2, hr4, H⟩ := osplit H
   have F := F
   refine xQp [32, 33, 34] ?_
   refine xs 2 ?_
   refine xp ⟨[], []⟩ (tabG 1 (cg2 hr4)) ?_
   replace H := oI H
   refine xS ?_
   subst H
   refine xpD [] ?_
   exact xOv ⟨[1, 2, 10], [8, 9]⟩
  replace H := oI H
  refine xE ?_
  subst H
  refine xnD [] ?_
  exact xO ⟨[1, 2, 10], [8, 9]⟩
 have F := Y
 refine xPp [7, 8, 9, 10, 11, 12, 13, 14, 15, 16, 17, 18, 19] [0, 1, 2, 3, 4, 5, 6, 7, 8, 9, 10, 11, 12, 13] [12, 888888] ⟨JX, Jb7, trivial⟩ ?_
 refine xsX 5 ?_
 refine xaX ?_
 refine xsX 2 ?_
 refine xpX ⟨[1, 5], [3, 4]⟩ (tabG 0 (cg10 hr2)) ?_
 replace H := oI H
 refine xS ?_
 subst H
 refine xpD [] ?_
 exact xOv ⟨[1, 2, 5], [8, 9]⟩
theorem Jea : Callable Tryz.prog 36 ∧ (∀ g, Xs g → GenOk Tryz.prog 36 g) ∧ (false = true → ∀ g, Xs g → ∃ val bs ts, g.out = .ret val bs ts) :=
 ⟨call_36, JdV, nofun⟩
noncomputable def KB : Bool → Option Bool
 | x1 => some x1
noncomputable def Zl (a0 : List UInt8) (a1 : List Source) (a2 a3 a4 : Int) (a5 : List Macro) (a6 a7 : List Int) (a8 : Int) (a9 : List Token) : Option Bool :=
 (Ja3 a5 a0).bind fun r1 => if (leI 0 r1) = true then KB true else if (eqS a0 [95, 95, 76, 73, 78, 69, 95, 95]) = true then KB true else KB (eqS a0 [95, 95, 70, 73, 76, 69, 95, 95])
def KQ (a0 : List UInt8) (a1 : List Source) (a2 a3 a4 : Int) (a5 : List Macro) (a6 a7 : List Int) (a8 : Int) (a9 : List Token) (r : Bool) : GI :=
 ⟨[.c (.pt 1 0), cS a0], [[.d (.sl 2 (List.map d_Source a1)), kI a2, kI a3, kI a4, .d (.sl 5 (List.map d_Macro a5)), .sl 1 (List.map dI a6) 3, .os 2 11 0 a9.length, .sl 1 (List.map dI a7) 4, kI a8], [.arr 11 (List.map d_Token a9)]], [3, 3], .ret (cB r) [[.d (.sl 2 (List.map d_Source a1)), kI a2, kI a3, kI a4, .d (.sl 5 (List.map d_Macro a5)), .sl 1 (List.map dI a6) 3, .os 2 11 0 a9.length, .sl 1 (List.map dI a7) 4, kI a8], [.arr 11 (List.map d_Token a9)]] [3, 3]⟩
def KK : GI → Prop := Sg10 Zl KQ
theorem JdP : ∀ g, KK g → GenOk Tryz.prog 81 g := by
 rintro _ ⟨a0, a1, a2, a3, a4, a5, a6, a7, a8, a9, r, H, rfl⟩
 refine xGn mixed [(86, Jay)] [] [] ⟨⟨call_86, JcJ⟩, trivial⟩ trivial trivial Tryz.func81 _ ?_
 have G := True.intro
 have Y := xZ y_28 <| xZ y_65 <| xZ Tryz.results81 <| xZ d_Source.eq_1 <| xZ d_Call.eq_1 <| xZ d_Token.eq_1 <| xZ d_Macro.eq_1 <| xZ d_Limits.eq_1 <| KQ.eq_1
 dsimp only [KQ]
 simp only [Zl] at H
 refine xS ?_
 refine xr0 ?_
 refine then_normal ?_
 refine w_cut KB (fun s => [(4, cB s)]) (fun s => [[.d (.sl 2 (List.map d_Source a1)), kI a2, kI a3, kI a4, .d (.sl 5 (List.map d_Macro a5)), .sl 1 (List.map dI a6) 3, .os 2 11 0 a9.length, .sl 1 (List.map dI a7) 4, kI a8], [.arr 11 (List.map d_Token a9)]]) [3, 3] r ?_ ?_
 ·obtain ⟨r1, hr1, H⟩ := osplit H
  have F := xC Y (Jc1 a5 a0 r1 hr1)
  rcases xB F G H with ⟨p, H, F, G, q⟩ | ⟨p, H, F, G, q⟩
  ·refine xR ?_
   exact cut_at H (xK ⟨[1,2], [3,4]⟩)
  rcases xB F G H with ⟨p, H, F, G, q⟩ | ⟨p, H, F, G, q⟩
  ·refine xR ?_
   exact cut_at H (xK ⟨[1,2], [3,4]⟩)
  refine xR ?_
  exact cut_at H (xK ⟨[1,2], [3,4]⟩)
 rintro x1 H
 rw [KB] at H
 replace H := oI H
 refine xS ?_
 subst H
 refine xrD [] ?_
 exact xO ⟨[1, 2], [3, 4]⟩
theorem XE : Callable Tryz.prog 81 ∧ (∀ g, KK g → GenOk Tryz.prog 81 g) ∧ (true = true → ∀ g, KK g → ∃ val bs ts, g.out = .ret val bs ts) :=
 ⟨call_81, JdP, fun _ => by rintro _ ⟨_, _, _, _, _, _, _, _, _, _, _, _, rfl⟩; exact ⟨_, _, _, rfl⟩⟩
noncomputable def Vc : YJ → Option YA
 | (x3, x4) => some (.inl (IntKind.i64.wrap (x3 + 1), x4))
noncomputable def Ve (x2 : List Token) (x8 x9 : Bool) (x10 x11 x12 x13 : Int) (x14 : List (List UInt8)) (x15 : List Call) (x16 : Int) (x22 : List UInt8) : Int → Option YA
 | x23 => if (x2.length + [(⟨2, x22, x8, x9, x10, x11, x12, x13, x14, x15, x16⟩ : Token)].length) * 120 ≤ 140737488355328 then Vc (x23, x2 ++ [(⟨2, x22, x8, x9, x10, x11, x12, x13, x14, x15, x16⟩ : Token)]) else none
noncomputable def K3 (x2 : List Token) (x8 x9 : Bool) (x10 x11 x12 x13 : Int) (x14 : List (List UInt8)) (x15 : List Call) (x16 : Int) (x22 : List UInt8) : (Int × Bool) → Option YA
 | (x24, x25) => if x25 = true then none else Ve x2 x8 x9 x10 x11 x12 x13 x14 x15 x16 x22 x24
noncomputable def K5 (a0 x2 : List Token) (x8 x9 : Bool) (x10 x11 x12 x13 : Int) (x14 : List (List UInt8)) (x15 : List Call) (x16 : Int) (x19 : Bool) (x20 : Int) : (List UInt8) → Option YA
 | x22 => if x19 = true then if (leI (a0.length : Int) (IntKind.i64.wrap (x20 + 1))) = true then K3 x2 x8 x9 x10 x11 x12 x13 x14 x15 x16 x22 (IntKind.i64.wrap (x20 + 1), true) else if (0 : Int) ≤ (IntKind.i64.wrap (x20 + 1)) ∧ (IntKind.i64.wrap (x20 + 1)).toNat < a0.length then K3 x2 x8 x9 x10 x11 x12 x13 x14 x15 x16 x22 (IntKind.i64.wrap (x20 + 1), !eqS ((a0.getD ((IntKind.i64.wrap (x20 + 1)).toNat) default).Text) [41]) else none else Ve x2 x8 x9 x10 x11 x12 x13 x14 x15 x16 x22 x20
noncomputable def K9 (a0 : List Token) (a1 : List Source) (a2 a3 a4 : Int) (a5 : List Macro) (a6 a7 : List Int) (a8 : Int) (a9 x2 : List Token) (x8 x9 : Bool) (x10 x11 x12 x13 : Int) (x14 : List (List UInt8)) (x15 : List Call) (x16 : Int) (x19 : Bool) : (Int × Bool) → Option YA
 | (x20, x21) => if x21 = true then none else if (0 : Int) ≤ x20 ∧ x20.toNat < a0.length then (Zl ((a0.getD x20.toNat default).Text) a1 a2 a3 a4 a5 a6 a7 a8 a9).bind fun r1 => if r1 = true then K5 a0 x2 x8 x9 x10 x11 x12 x13 x14 x15 x16 x19 x20 [49] else K5 a0 x2 x8 x9 x10 x11 x12 x13 x14 x15 x16 x19 x20 [48] else none
noncomputable def Vf (a0 : List Token) (a1 : List Source) (a2 a3 a4 : Int) (a5 : List Macro) (a6 a7 : List Int) (a8 : Int) (a9 x2 : List Token) (x8 x9 : Bool) (x10 x11 x12 x13 : Int) (x14 : List (List UInt8)) (x15 : List Call) (x16 : Int) : (Int × Bool) → Option YA
 | (x18, x19) => if (leI (a0.length : Int) (IntKind.i64.wrap (x18 + 1))) = true then K9 a0 a1 a2 a3 a4 a5 a6 a7 a8 a9 x2 x8 x9 x10 x11 x12 x13 x14 x15 x16 x19 (IntKind.i64.wrap (x18 + 1), true) else if (0 : Int) ≤ (IntKind.i64.wrap (x18 + 1)) ∧ (IntKind.i64.wrap (x18 + 1)).toNat < a0.length then K9 a0 a1 a2 a3 a4 a5 a6 a7 a8 a9 x2 x8 x9 x10 x11 x12 x13 x14 x15 x16 x19 (IntKind.i64.wrap (x18 + 1), !eqI ((a0.getD ((IntKind.i64.wrap (x18 + 1)).toNat) default).Kind) 1) else none
noncomputable def Va (a0 : List Token) (a1 : List Source) (a2 a3 a4 : Int) (a5 : List Macro) (a6 a7 : List Int) (a8 : Int) (a9 : List Token) (x1 : Int) (x2 : List Token) (x8 x9 : Bool) (x10 x11 x12 x13 : Int) (x14 : List (List UInt8)) (x15 : List Call) (x16 : Int) : Bool → Option YA
 | x17 => if x17 = true then Vf a0 a1 a2 a3 a4 a5 a6 a7 a8 a9 x2 x8 x9 x10 x11 x12 x13 x14 x15 x16 (IntKind.i64.wrap (x1 + 1), true) else Vf a0 a1 a2 a3 a4 a5 a6 a7 a8 a9 x2 x8 x9 x10 x11 x12 x13 x14 x15 x16 (x1, false)
noncomputable def K6 (a0 : List Token) (a1 : List Source) (a2 a3 a4 : Int) (a5 : List Macro) (a6 a7 : List Int) (a8 : Int) (a9 : List Token) (x1 : Int) (x2 : List Token) : Ye → Option YA
 | (x5, x6, x7, x8, x9, x10, x11, x12, x13, x14, x15, x16) => if x5 = true then if (x2.length + [(⟨x6, x7, x8, x9, x10, x11, x12, x13, x14, x15, x16⟩ : Token)].length) * 120 ≤ 140737488355328 then Vc (x1, x2 ++ [(⟨x6, x7, x8, x9, x10, x11, x12, x13, x14, x15, x16⟩ : Token)]) else none else if (ltI (IntKind.i64.wrap (x1 + 1)) (a0.length : Int)) = true then if (0 : Int) ≤ (IntKind.i64.wrap (x1 + 1)) ∧ (IntKind.i64.wrap (x1 + 1)).toNat < a0.length then Va a0 a1 a2 a3 a4 a5 a6 a7 a8 a9 x1 x2 x8 x9 x10 x11 x12 x13 x14 x15 x16 (eqS ((a0.getD ((IntKind.i64.wrap (x1 + 1)).toNat) default).Text) [40]) else none else Va a0 a1 a2 a3 a4 a5 a6 a7 a8 a9 x1 x2 x8 x9 x10 x11 x12 x13 x14 x15 x16 false
noncomputable def Ze (a0 : List Token) (a1 : List Source) (a2 a3 a4 : Int) (a5 : List Macro) (a6 a7 : List Int) (a8 : Int) (a9 : List Token) : YJ → Option YA
 | (x1, x2) => if (ltI x1 (a0.length : Int)) = true then if (0 : Int) ≤ x1 ∧ x1.toNat < a0.length then if (!eqS ((a0.getD x1.toNat default).Text) [100, 101, 102, 105, 110, 101, 100]) = true then K6 a0 a1 a2 a3 a4 a5 a6 a7 a8 a9 x1 x2 (true, (a0.getD x1.toNat default).Kind, (a0.getD x1.toNat default).Text, (a0.getD x1.toNat default).Space, (a0.getD x1.toNat default).First, (a0.getD x1.toNat default).File, (a0.getD x1.toNat default).At, (a0.getD x1.toNat default).End, (a0.getD x1.toNat default).Line, (a0.getD x1.toNat default).Hide, (a0.getD x1.toNat default).Calls, (a0.getD x1.toNat default).Made) else K6 a0 a1 a2 a3 a4 a5 a6 a7 a8 a9 x1 x2 (!eqI ((a0.getD x1.toNat default).Kind) 1, (a0.getD x1.toNat default).Kind, (a0.getD x1.toNat default).Text, (a0.getD x1.toNat default).Space, (a0.getD x1.toNat default).First, (a0.getD x1.toNat default).File, (a0.getD x1.toNat default).At, (a0.getD x1.toNat default).End, (a0.getD x1.toNat default).Line, (a0.getD x1.toNat default).Hide, (a0.getD x1.toNat default).Calls, (a0.getD x1.toNat default).Made) else none else inrO (some x2)
noncomputable def Jaa (a0 : List Token) (a1 : List Source) (a2 a3 a4 : Int) (a5 : List Macro) (a6 a7 : List Int) (a8 : Int) (a9 : List Token) : Option (List Token) :=
 loopO (Ze a0 a1 a2 a3 a4 a5 a6 a7 a8 a9) (0, ([] : List Token))
def Vw (a0 : List Token) (a1 : List Source) (a2 a3 a4 : Int) (a5 : List Macro) (a6 a7 : List Int) (a8 : Int) (a9 : List Token) (r : (List Token)) : GI :=
 ⟨[.c (.pt 1 0), .c (.d (.sl 11 (List.map d_Token a0)))], [[.d (.sl 2 (List.map d_Source a1)), kI a2, kI a3, kI a4, .d (.sl 5 (List.map d_Macro a5)), .sl 1 (List.map dI a6) 3, .os 2 11 0 a9.length, .sl 1 (List.map dI a7) 4, kI a8], [.arr 11 (List.map d_Token a9)]], [3, 3], .ret (.c (.d (.sl 11 (List.map d_Token r)))) [[.d (.sl 2 (List.map d_Source a1)), kI a2, kI a3, kI a4, .d (.sl 5 (List.map d_Macro a5)), .sl 1 (List.map dI a6) 3, .os 2 11 0 a9.length, .sl 1 (List.map dI a7) 4, kI a8], [.arr 11 (List.map d_Token a9)]] [3, 3]⟩
def Vt : GI → Prop := Sg10 Jaa Vw
theorem Jdm : ∀ g, Vt g → GenOk Tryz.prog 80 g := by
 rintro _ ⟨a0, a1, a2, a3, a4, a5, a6, a7, a8, a9, r, H, rfl⟩
 refine xGn mixed [] [(81, true, KK)] [] trivial ⟨XE, trivial⟩ trivial Tryz.func80 _ ?_
 have G := True.intro
 have Y := xZ y_3 <| xZ y_9 <| xZ y_24 <| xZ y_44 <| xZ Tryz.results80 <| xZ d_Source.eq_1 <| xZ d_Call.eq_1 <| xZ d_Token.eq_1 <| xZ d_Macro.eq_1 <| xZ d_Limits.eq_1 <| xZ KQ.eq_1 <| Vw.eq_1
 dsimp only [Vw]
 simp only [Jaa] at H
 refine xS ?_
 refine xr ?_
 refine xr ?_
 refine xr ?_
 refine w_loop (Ze a0 a1 a2 a3 a4 a5 a6 a7 a8 a9) (fun s => [(0, .c (.pt 1 0)), (1, .c (.d (.sl 11 (List.map d_Token a0)))), (5, .c (.os 3 11 0 s.2.length)), (6, cI s.1)]) (fun s => [[.d (.sl 2 (List.map d_Source a1)), kI a2, kI a3, kI a4, .d (.sl 5 (List.map d_Macro a5)), .sl 1 (List.map dI a6) 4, .os 2 11 0 a9.length, .sl 1 (List.map dI a7) 5, kI a8], [.arr 11 (List.map d_Token a9)], [.arr 11 (List.map d_Token s.2)]]) [3, 3] H (xK ⟨[1,2,0], [3,4]⟩) ?_
 rintro n1 ⟨x1, x2⟩ o1 H hF1
 rw [Ze] at H
 refine xS ?_
 refine xr ?_
 rcases xB Y G H with ⟨p, H, F, G, q⟩ | ⟨p, H, F, G, q⟩
 ·refine xT0 ?_
  refine w_skip ?_
  refine then_normal ?_
  refine w_cut Vc (fun s => [(0, .c (.pt 1 0)), (1, .c (.d (.sl 11 (List.map d_Token a0)))), (5, .c (.os 3 11 0 s.2.length)), (6, cI s.1)]) (fun s => [[.d (.sl 2 (List.map d_Source a1)), kI a2, kI a3, kI a4, .d (.sl 5 (List.map d_Macro a5)), .sl 1 (List.map dI a6) 4, .os 2 11 0 a9.length, .sl 1 (List.map dI a7) 5, kI a8], [.arr 11 (List.map d_Token a9)], [.arr 11 (List.map d_Token s.2)]]) [3, 3] o1 ?_ ?_
  ·refine xS ?_
   obtain ⟨g, H⟩ := gsplit H
   have F := xZ Y (map_getD d_Token a0 x1.toNat default default (by omega))
   refine xR0 ?_
   refine then_normal ?_
   refine w_seq ?_
   refine w_cut (K6 a0 a1 a2 a3 a4 a5 a6 a7 a8 a9 x1 x2) (fun s => [(0, .c (.pt 1 0)), (1, .c (.d (.sl 11 (List.map d_Token a0)))), (5, .c (.os 3 11 0 x2.length)), (6, cI x1), (7, .c (.pt 4 0)), (27, cB s.1)]) (fun s => [[.d (.sl 2 (List.map d_Source a1)), kI a2, kI a3, kI a4, .d (.sl 5 (List.map d_Macro a5)), .sl 1 (List.map dI a6) 5, .os 2 11 0 a9.length, .sl 1 (List.map dI a7) 6, kI a8], [.arr 11 (List.map d_Token a9)], [.arr 11 (List.map d_Token x2)], [kI s.2.1, kS s.2.2.1, kB s.2.2.2.1, kB s.2.2.2.2.1, kI s.2.2.2.2.2.1, kI s.2.2.2.2.2.2.1, kI s.2.2.2.2.2.2.2.1, kI s.2.2.2.2.2.2.2.2.1, .d (.sl 1 (List.map dS s.2.2.2.2.2.2.2.2.2.1)), .d (.sl 3 (List.map d_Call s.2.2.2.2.2.2.2.2.2.2.1)), kI s.2.2.2.2.2.2.2.2.2.2.2]]) [3, 3] o1 ?_ ?_
   ·rcases xB Y G H with ⟨p, H, F, G, q⟩ | ⟨p, H, F, G, q⟩
    ·refine xR ?_
     exact cut_at H (xK ⟨[1,2,3,6], [4,5]⟩)
    refine xR ?_
    exact cut_at H (xK ⟨[1,2,3,6], [4,5]⟩)
   rintro ⟨x5, x6, x7, x8, x9, x10, x11, x12, x13, x14, x15, x16⟩ H
   rw [K6] at H
   rcases xB Y G H with ⟨p, H, F, G, q⟩ | ⟨p, H, F, G, q⟩
   ·refine xT ?_
    obtain ⟨g, H⟩ := gsplit H
    have F := xZ Y (all_map one_Token [(⟨x6, x7, x8, x9, x10, x11, x12, x13, x14, x15, x16⟩ : Token)])
    have L : [(⟨x6, x7, x8, x9, x10, x11, x12, x13, x14, x15, x16⟩ : Token)].length = 1 := rfl
    refine xR ?_
    exact cut_at H (xK ⟨[1,2,7], [5,6]⟩)
   refine xE0 ?_
   refine w_skip ?_
   refine then_normal ?_
   refine w_cut (Va a0 a1 a2 a3 a4 a5 a6 a7 a8 a9 x1 x2 x8 x9 x10 x11 x12 x13 x14 x15 x16) (fun s => [(0, .c (.pt 1 0)), (1, .c (.d (.sl 11 (List.map d_Token a0)))), (5, .c (.os 3 11 0 x2.length)), (6, cI x1), (7, .c (.pt 4 0)), (8, cB s)]) (fun s => [[.d (.sl 2 (List.map d_Source a1)), kI a2, kI a3, kI a4, .d (.sl 5 (List.map d_Macro a5)), .sl 1 (List.map dI a6) 5, .os 2 11 0 a9.length, .sl 1 (List.map dI a7) 6, kI a8], [.arr 11 (List.map d_Token a9)], [.arr 11 (List.map d_Token x2)], [kI x6, kS x7, kB x8, kB x9, kI x10, kI x11, kI x12, kI x13, .d (.sl 1 (List.map dS x14)), .d (.sl 3 (List.map d_Call x15)), kI x16]]) [3, 3] o1 ?_ ?_
   ·rcases xB Y G H with ⟨p, H, F, G, q⟩ | ⟨p, H, F, G, q⟩
    ·obtain ⟨g, H⟩ := gsplit H
     have F := xZ F (map_getD d_Token a0 ((IntKind.i64.wrap (x1 + 1)).toNat) default default (by omega))
     refine xR ?_
     exact cut_at H (xK ⟨[1,2,3,4], [5,6]⟩)
    refine xR ?_
    exact cut_at H (xK ⟨[1,2,3,4], [5,6]⟩)
   rintro x17 H
   rw [Va] at H
   refine w_cut (Vf a0 a1 a2 a3 a4 a5 a6 a7 a8 a9 x2 x8 x9 x10 x11 x12 x13 x14 x15 x16) (fun s => [(0, .c (.pt 1 0)), (1, .c (.d (.sl 11 (List.map d_Token a0)))), (5, .c (.os 3 11 0 x2.length)), (6, cI s.1), (7, .c (.pt 4 0)), (8, cB s.2)]) (fun s => [[.d (.sl 2 (List.map d_Source a1)), kI a2, kI a3, kI a4, .d (.sl 5 (List.map d_Macro a5)), .sl 1 (List.map dI a6) 5, .os 2 11 0 a9.length, .sl 1 (List.map dI a7) 6, kI a8], [.arr 11 (List.map d_Token a9)], [.arr 11 (List.map d_Token x2)], [kI x6, kS x7, kB x8, kB x9, kI x10, kI x11, kI x12, kI x13, .d (.sl 1 (List.map dS x14)), .d (.sl 3 (List.map d_Call x15)), kI x16]]) [3, 3] o1 ?_ ?_
   ·refine xS ?_
    refine xr ?_
    rcases xB Y G H with ⟨p, H, F, G, q⟩ | ⟨p, H, F, G, q⟩
    ·refine xT ?_
     refine xr ?_
     exact cut_at H (xK ⟨[1,2,3,4], [5,6]⟩)
    refine xE ?_
    exact cut_at H (xK ⟨[1,2,3,4], [5,6]⟩)
   rintro ⟨x18, x19⟩ H
   rw [Vf] at H
   refine xS ?_
   refine xr0 ?_
   refine then_normal ?_
   refine w_cut (K9 a0 a1 a2 a3 a4 a5 a6 a7 a8 a9 x2 x8 x9 x10 x11 x12 x13 x14 x15 x16 x19) (fun s => [(0, .c (.pt 1 0)), (1, .c (.d (.sl 11 (List.map d_Token a0)))), (5, .c (.os 3 11 0 x2.length)), (6, cI s.1), (7, .c (.pt 4 0)), (8, cB x19), (62, cB s.2)]) (fun s => [[.d (.sl 2 (List.map d_Source a1)), kI a2, kI a3, kI a4, .d (.sl 5 (List.map d_Macro a5)), .sl 1 (List.map dI a6) 5, .os 2 11 0 a9.length, .sl 1 (List.map dI a7) 6, kI a8], [.arr 11 (List.map d_Token a9)], [.arr 11 (List.map d_Token x2)], [kI x6, kS x7, kB x8, kB x9, kI x10, kI x11, kI x12, kI x13, .d (.sl 1 (List.map dS x14)), .d (.sl 3 (List.map d_Call x15)), kI x16]]) [3, 3] o1 ?_ ?_
   ·rcases xB Y G H with ⟨p, H, F, G, q⟩ | ⟨p, H, F, G, q⟩
    ·refine xR ?_
     exact cut_at H (xK ⟨[1,2,3,4], [5,6]⟩)
    obtain ⟨g, H⟩ := gsplit H
    have F := xZ F (map_getD d_Token a0 ((IntKind.i64.wrap (x18 + 1)).toNat) default default (by omega))
    refine xR ?_
    exact cut_at H (xK ⟨[1,2,3,4], [5,6]⟩)
   rintro ⟨x20, x21⟩ H
   rw [K9] at H
   rcases xB Y G H with ⟨p, H, F, G, q⟩ | ⟨p, H, F, G, q⟩
   ·refine xT ?_
    cases H
   refine xE ?_
   refine xr0 ?_
   refine then_normal ?_
   refine w_cut (K5 a0 x2 x8 x9 x10 x11 x12 x13 x14 x15 x16 x19 x20) (fun s => [(0, .c (.pt 1 0)), (1, .c (.d (.sl 11 (List.map d_Token a0)))), (5, .c (.os 3 11 0 x2.length)), (6, cI x20), (7, .c (.pt 4 0)), (8, cB x19), (9, cS s)]) (fun s => [[.d (.sl 2 (List.map d_Source a1)), kI a2, kI a3, kI a4, .d (.sl 5 (List.map d_Macro a5)), .sl 1 (List.map dI a6) 5, .os 2 11 0 a9.length, .sl 1 (List.map dI a7) 6, kI a8], [.arr 11 (List.map d_Token a9)], [.arr 11 (List.map d_Token x2)], [kI x6, kS x7, kB x8, kB x9, kI x10, kI x11, kI x12, kI x13, .d (.sl 1 (List.map dS x14)), .d (.sl 3 (List.map d_Call x15)), kI x16]]) [3, 3] o1 ?_ ?_
   ·refine xS ?_
    obtain ⟨g, H⟩ := gsplit H
    have F := xZ Y (map_getD d_Token a0 x20.toNat default default (by omega))
    obtain ⟨r1, hr1, H⟩ := osplit H
    have F := F
    refine xQ ?_
    refine xs 6 ?_
    refine xc ⟨[1, 2], [5, 6]⟩ (tabG 0 (cg10 hr1)) ?_
    refine xl ?_
    refine xS ?_
    rcases xB Y G H with ⟨p, H, F, G, q⟩ | ⟨p, H, F, G, q⟩
    ·refine xT ?_
     refine xr ?_
     exact cut_at H (xK ⟨[1,2,3,4], [9,10]⟩)
    refine xE ?_
    exact cut_at H (xK ⟨[1,2,3,4], [9,10]⟩)
   rintro x22 H
   rw [K5] at H
   refine w_cut (Ve x2 x8 x9 x10 x11 x12 x13 x14 x15 x16 x22) (fun s => [(0, .c (.pt 1 0)), (1, .c (.d (.sl 11 (List.map d_Token a0)))), (5, .c (.os 3 11 0 x2.length)), (6, cI s), (7, .c (.pt 4 0)), (9, cS x22)]) (fun s => [[.d (.sl 2 (List.map d_Source a1)), kI a2, kI a3, kI a4, .d (.sl 5 (List.map d_Macro a5)), .sl 1 (List.map dI a6) 5, .os 2 11 0 a9.length, .sl 1 (List.map dI a7) 6, kI a8], [.arr 11 (List.map d_Token a9)], [.arr 11 (List.map d_Token x2)], [kI x6, kS x7, kB x8, kB x9, kI x10, kI x11, kI x12, kI x13, .d (.sl 1 (List.map dS x14)), .d (.sl 3 (List.map d_Call x15)), kI x16]]) [3, 3] o1 ?_ ?_
   ·refine xS ?_
    refine xr ?_
    rcases xB Y G H with ⟨p, H, F, G, q⟩ | ⟨p, H, F, G, q⟩
    ·refine xT ?_
     refine xr0 ?_
     refine then_normal ?_
     refine w_cut (K3 x2 x8 x9 x10 x11 x12 x13 x14 x15 x16 x22) (fun s => [(0, .c (.pt 1 0)), (1, .c (.d (.sl 11 (List.map d_Token a0)))), (5, .c (.os 3 11 0 x2.length)), (6, cI s.1), (7, .c (.pt 4 0)), (9, cS x22), (85, cB s.2)]) (fun s => [[.d (.sl 2 (List.map d_Source a1)), kI a2, kI a3, kI a4, .d (.sl 5 (List.map d_Macro a5)), .sl 1 (List.map dI a6) 5, .os 2 11 0 a9.length, .sl 1 (List.map dI a7) 6, kI a8], [.arr 11 (List.map d_Token a9)], [.arr 11 (List.map d_Token x2)], [kI x6, kS x7, kB x8, kB x9, kI x10, kI x11, kI x12, kI x13, .d (.sl 1 (List.map dS x14)), .d (.sl 3 (List.map d_Call x15)), kI x16]]) [3, 3] o1 ?_ ?_
     ·rcases xB Y G H with ⟨p, H, F, G, q⟩ | ⟨p, H, F, G, q⟩
      ·refine xR ?_
       exact cut_at H (xK ⟨[1,2,3,4], [5,6]⟩)
      obtain ⟨g, H⟩ := gsplit H
      have F := xZ F (map_getD d_Token a0 ((IntKind.i64.wrap (x20 + 1)).toNat) default default (by omega))
      refine xR ?_
      exact cut_at H (xK ⟨[1,2,3,4], [5,6]⟩)
     rintro ⟨x24, x25⟩ H
     rw [K3] at H
     rcases xB Y G H with ⟨p, H, F, G, q⟩ | ⟨p, H, F, G, q⟩
     ·refine xT ?_
      cases H
     refine xE ?_
     exact cut_at H (xK ⟨[1,2,3,4], [5,6]⟩)
    refine xE ?_
    exact cut_at H (xK ⟨[1,2,3,4], [5,6]⟩)
   rintro x23 H
   rw [Ve] at H
   refine xS ?_
   refine xr ?_
   obtain ⟨g, H⟩ := gsplit H
   have F := xZ Y (all_map one_Token [(⟨2, x22, x8, x9, x10, x11, x12, x13, x14, x15, x16⟩ : Token)])
   have L : [(⟨2, x22, x8, x9, x10, x11, x12, x13, x14, x15, x16⟩ : Token)].length = 1 := rfl
   refine xR ?_
   exact cut_at H (xK ⟨[1,2,7], [5,6]⟩)
  rintro ⟨x3, x4⟩ H
  rw [Vc] at H
  refine xr ?_
  exact round_at (inl_fin H hF1) (xK ⟨[1,2,3], [4,5]⟩)
 replace H := inrO_fin H hF1
 refine xE ?_
 replace H := oI H
 refine xr ?_
 subst H
 refine xOf 3 11 (List.map d_Token x2) [] ?_
 refine xrD [] ?_
 exact xO ⟨[1, 2], [4, 5]⟩
theorem ZH : Callable Tryz.prog 80 ∧ (∀ g, Vt g → GenOk Tryz.prog 80 g) ∧ (true = true → ∀ g, Vt g → ∃ val bs ts, g.out = .ret val bs ts) :=
 ⟨call_80, Jdm, fun _ => by rintro _ ⟨_, _, _, _, _, _, _, _, _, _, _, _, rfl⟩; exact ⟨_, _, _, rfl⟩⟩
noncomputable def V9 (r2 : YM) (r3 : (Int × Int)) : (Int × Int) → Option Yv
 | (x2, x3) => grB (Jai (⟨0, x2, x3⟩ : Fault)) (fun r4 => some (.ok (!eqI r3.1 0, r2.2))) (fun e2 => some (.er ((⟨0, x2, x3⟩ : Fault).Err, (⟨0, x2, x3⟩ : Fault).File, (⟨0, x2, x3⟩ : Fault).At, r2.2)))
noncomputable def Xd (a0 : List Token) (r2 : YM) (r3 : (Int × Int)) : Bool → Option Yv
 | x4 => if x4 = true then if 1 < a0.length then if 1 < a0.length then V9 r2 r3 ((a0.getD 1 default).File, (a0.getD 1 default).At) else none else none else V9 r2 r3 (r3.2, 0)
noncomputable def Xh (a0 : List Token) (a1 : List Source) (a2 a3 a4 : Int) (a5 : List Macro) (a6 a7 : List Int) (a8 : Int) (a9 : List Token) : Bool → Option Yv
 | x5 => if x5 = true then if 1 < a0.length then none else none else if 2 < a0.length then if 1 < a0.length then (Zl ((a0.getD 2 default).Text) a1 a2 a3 a4 a5 a6 a7 a8 a9).bind fun r5 => some (.ok (eqB r5 (eqS ((a0.getD 1 default).Text) [105, 102, 100, 101, 102]), a2)) else none else none
noncomputable def V4 (a0 : List Token) (a1 : List Source) (a2 a3 a4 : Int) (a5 : List Macro) (a6 a7 : List Int) (a8 : Int) (a9 : List Token) : Bool → Option Yv
 | x1 => if x1 = true then if (eqI (a0.length : Int) 2) = true then if 1 < a0.length then none else none else if (0 : Int) ≤ 2 ∧ 2 ≤ (a0.length : Int) ∧ (a0.length : Int) ≤ (a0.length : Int) then (Jaa (List.drop 2 a0) a1 a2 a3 a4 a5 a6 a7 a8 a9).bind fun r1 => grB (X6 r1 a1 a2 a3 a4 a5 a6 a7 a8 a9) (fun r2 => (JeA r2.1).bind fun r3 => if (ltI r3.2 0) = true then Xd a0 r2 r3 (!eqI 0 0) else Xd a0 r2 r3 false) (fun e1 => some (.er (e1.1, e1.2.1, e1.2.2, a2))) else none else if (!eqI (a0.length : Int) 3) = true then Xh a0 a1 a2 a3 a4 a5 a6 a7 a8 a9 true else if 2 < a0.length then Xh a0 a1 a2 a3 a4 a5 a6 a7 a8 a9 (!eqI ((a0.getD 2 default).Kind) 1) else none
noncomputable def Zy (a0 : List Token) (a1 : List Source) (a2 a3 a4 : Int) (a5 : List Macro) (a6 a7 : List Int) (a8 : Int) (a9 : List Token) : Option Yv :=
 if 1 < a0.length then if (eqS ((a0.getD 1 default).Text) [105, 102]) = true then V4 a0 a1 a2 a3 a4 a5 a6 a7 a8 a9 true else V4 a0 a1 a2 a3 a4 a5 a6 a7 a8 a9 (eqS ((a0.getD 1 default).Text) [101, 108, 105, 102]) else none
def Jeb (a0 : List Token) (a1 : List Source) (a2 a3 a4 : Int) (a5 : List Macro) (a6 a7 : List Int) (a8 : Int) (a9 : List Token) : GR YH (Bool × Int) → GOut
 | .ok r => .ret (cB r.1) [[.d (.sl 2 (List.map d_Source a1)), kI r.2, kI a3, kI a4, .d (.sl 5 (List.map d_Macro a5)), .sl 1 (List.map dI a6) 3, .os 2 11 0 a9.length, .sl 1 (List.map dI a7) 4, kI a8], [.arr 11 (List.map d_Token a9)]] [3, 3]
 | .er r => .pan (.iface 78 (.agg ⟨[.int .i64 r.1, .int .i64 r.2.1, .int .i64 r.2.2.1]⟩)) [[.d (.sl 2 (List.map d_Source a1)), kI r.2.2.2, kI a3, kI a4, .d (.sl 5 (List.map d_Macro a5)), .sl 1 (List.map dI a6) 3, .os 2 11 0 a9.length, .sl 1 (List.map dI a7) 4, kI a8], [.arr 11 (List.map d_Token a9)]] [3, 3]
def Xv (a0 : List Token) (a1 : List Source) (a2 a3 a4 : Int) (a5 : List Macro) (a6 a7 : List Int) (a8 : Int) (a9 : List Token) (r : GR YH (Bool × Int)) : GI :=
 ⟨[.c (.pt 1 0), .c (.d (.sl 11 (List.map d_Token a0)))], [[.d (.sl 2 (List.map d_Source a1)), kI a2, kI a3, kI a4, .d (.sl 5 (List.map d_Macro a5)), .sl 1 (List.map dI a6) 3, .os 2 11 0 a9.length, .sl 1 (List.map dI a7) 4, kI a8], [.arr 11 (List.map d_Token a9)]], [3, 3], Jeb a0 a1 a2 a3 a4 a5 a6 a7 a8 a9 r⟩
def Xz : GI → Prop := Sg10 Zy Xv
theorem JdK : ∀ g, Xz g → GenOk Tryz.prog 55 g := by
 rintro _ ⟨a0, a1, a2, a3, a4, a5, a6, a7, a8, a9, r, H, rfl⟩
 refine xGnl mixed [8, 13] [] [(80, true, Vt), (54, false, Ky), (79, true, Jcy), (33, false, XT), (81, true, KK)] [] trivial ⟨ZH, JX, Jdv, X1, XE, trivial⟩ trivial Tryz.func55 _ ?_
 have G := True.intro
 have Y := xZ y_3 <| xZ y_4 <| xZ y_9 <| xZ y_24 <| xZ y_29 <| xZ y_31 <| xZ y_44 <| xZ Tryz.results55 <| xZ d_Source.eq_1 <| xZ d_Call.eq_1 <| xZ d_Token.eq_1 <| xZ d_Macro.eq_1 <| xZ d_Limits.eq_1 <| xZ d_Fault.eq_1 <| xZ Vw.eq_1 <| xZ Kv.eq_1 <| xZ JcB.eq_1 <| xZ XX.eq_1 <| xZ KQ.eq_1 <| Xv.eq_1
 dsimp only [Xv]
 simp only [Zy] at H
 refine xS ?_
 refine xr ?_
 obtain ⟨g, H⟩ := gsplit H
 have F := xZ Y (map_getD d_Token a0 1 default default (by omega))
 refine xR0 ?_
 refine then_normal ?_
 refine w_block ?_
 refine w_cut (V4 a0 a1 a2 a3 a4 a5 a6 a7 a8 a9) (fun s => [(0, .c (.pt 1 0)), (1, .c (.d (.sl 11 (List.map d_Token a0)))), (11, cB s)]) (fun s => [[.d (.sl 2 (List.map d_Source a1)), kI a2, kI a3, kI a4, .d (.sl 5 (List.map d_Macro a5)), .sl 1 (List.map dI a6) 3, .os 2 11 0 a9.length, .sl 1 (List.map dI a7) 4, kI a8], [.arr 11 (List.map d_Token a9)]]) [3, 3] r ?_ ?_
 ·refine xS ?_
  refine xr ?_
  rcases xB Y G H with ⟨p, H, F, G, q⟩ | ⟨p, H, F, G, q⟩
  ·refine xT ?_
   exact cut_at H (xK ⟨[1,2], [3,4]⟩)
  refine xE ?_
  refine xr ?_
  exact cut_at H (xK ⟨[1,2], [3,4]⟩)
 rintro x1 H
 rw [V4] at H
 rcases xB Y G H with ⟨p, H, F, G, q⟩ | ⟨p, H, F, G, q⟩
 ·refine xT ?_
  refine xr ?_
  rcases xB Y G H with ⟨p, H, F, G, q⟩ | ⟨p, H, F, G, q⟩
  ·refine xT ?_
   obtain ⟨g, H⟩ := gsplit H
   have F := xZ Y (map_getD d_Token a0 1 default default (by omega))
   cases H
  refine xE ?_
  obtain ⟨g, H⟩ := gsplit H
  obtain ⟨r1, hr1, H⟩ := osplit H
  have F := Y
  rcases rsplit H with ⟨r2, hr2, H⟩ | ⟨e1, hr3, H⟩
  ·have F := F
   obtain ⟨r3, hr4, H⟩ := osplit H
   have F := F
   refine xQ ?_
   refine xs 4 ?_
   refine xc ⟨[1, 2], [3, 4]⟩ (tabG 0 (cg10 hr1)) ?_
   refine xc ⟨[1, 2], [7, 8]⟩ (tabG 1 (cg10 hr2)) ?_
   refine xc ⟨[], []⟩ (tabG 2 (cg1 hr4)) ?_
   refine xs 6 ?_
   refine xl ?_
   refine  ?_
   refine then_normal ?_
   refine w_cut (V9 r2 r3) (fun s => [(5, cI r3.1), (6, .c (.pt 3 0))]) (fun s => [[.d (.sl 2 (List.map d_Source a1)), kI r2.2, kI a3, kI a4, .d (.sl 5 (List.map d_Macro a5)), .sl 1 (List.map dI a6) 4, .os 2 11 0 a9.length, .sl 1 (List.map dI a7) 5, kI a8], [.arr 11 (List.map d_Token a9)], [kI 0, kI s.1, kI s.2]]) [3, 3] r ?_ ?_
   ·refine w_cut (Xd a0 r2 r3) (fun s => [(1, .c (.d (.sl 11 (List.map d_Token a0)))), (5, cI r3.1), (6, .c (.pt 3 0)), (37, cB s)]) (fun s => [[.d (.sl 2 (List.map d_Source a1)), kI r2.2, kI a3, kI a4, .d (.sl 5 (List.map d_Macro a5)), .sl 1 (List.map dI a6) 4, .os 2 11 0 a9.length, .sl 1 (List.map dI a7) 5, kI a8], [.arr 11 (List.map d_Token a9)], [kI 0, kI r3.2, kI 0]]) [3, 3] r ?_ ?_
    ·rcases xB Y G H with ⟨p, H, F, G, q⟩ | ⟨p, H, F, G, q⟩
     ·refine xR ?_
      exact cut_at H (xK ⟨[1,2,13], [11,12]⟩)
     refine xR ?_
     exact cut_at H (xK ⟨[1,2,13], [11,12]⟩)
    rintro x4 H
    rw [Xd] at H
    rcases xB Y G H with ⟨p, H, F, G, q⟩ | ⟨p, H, F, G, q⟩
    ·refine xT ?_
     obtain ⟨g, H⟩ := gsplit H
     have F := xZ Y (map_getD d_Token a0 1 default default (by omega))
     obtain ⟨g, H⟩ := gsplit H
     have F := xZ F (map_getD d_Token a0 1 default default (by omega))
     refine xP [0, 1, 2, 3, 4, 5, 6, 7, 8, 9, 10, 11] [45] ⟨ZH, JX, Jdv, X1, XE, trivial⟩ ?_
     refine xsX 7 ?_
     refine xaX ?_
     refine xsX 1 ?_
     refine xbX ?_
     refine xsX 1 ?_
     refine xbX ?_
     refine xlX ?_
     refine xS ?_
     exact cut_at H (xK ⟨[1,2,3], [4,5]⟩)
    refine xE ?_
    exact cut_at H (xK ⟨[1,2,3], [4,5]⟩)
   rintro ⟨x2, x3⟩ H
   rw [V9] at H
   refine xS ?_
   rcases rsplit H with ⟨r4, hr5, H⟩ | ⟨e2, hr6, H⟩
   ·have F := Y
    refine xQ ?_
    refine xs 1 ?_
    refine xc ⟨[], []⟩ (tabG 3 (cg1 hr5)) ?_
    refine xl ?_
    refine xS ?_
    replace H := oI H
    refine xr ?_
    subst H
    refine xrD [] ?_
    exact xO ⟨[1, 2], [4, 5]⟩
   have F := Y
   refine xQp [48, 49] ?_
   refine xs 1 ?_
   refine xp ⟨[], []⟩ (tabG 3 (cg1 hr6)) ?_
   replace H := oI H
   refine xS ?_
   subst H
   refine xpD [] ?_
   exact xOv ⟨[1, 2], [4, 5]⟩
  have F := F
  refine xQp [21, 22, 23, 24, 25, 26, 27, 20, 28, 29, 6, 5] ?_
  refine xs 4 ?_
  refine xc ⟨[1, 2], [3, 4]⟩ (tabG 0 (cg10 hr1)) ?_
  refine xp ⟨[1, 2], [7, 8]⟩ (tabG 1 (cg10 hr3)) ?_
  replace H := oI H
  refine xS ?_
  subst H
  refine xpD [] ?_
  exact xOv ⟨[1, 2], [11, 12]⟩
 refine xE0 ?_
 refine w_skip ?_
 refine block_normal ?_
 refine then_normal ?_
 refine w_seq ?_
 refine w_cut (Xh a0 a1 a2 a3 a4 a5 a6 a7 a8 a9) (fun s => [(0, .c (.pt 1 0)), (1, .c (.d (.sl 11 (List.map d_Token a0)))), (61, cB s)]) (fun s => [[.d (.sl 2 (List.map d_Source a1)), kI a2, kI a3, kI a4, .d (.sl 5 (List.map d_Macro a5)), .sl 1 (List.map dI a6) 3, .os 2 11 0 a9.length, .sl 1 (List.map dI a7) 4, kI a8], [.arr 11 (List.map d_Token a9)]]) [3, 3] r ?_ ?_
 ·rcases xB Y G H with ⟨p, H, F, G, q⟩ | ⟨p, H, F, G, q⟩
  ·refine xR ?_
   exact cut_at H (xK ⟨[1,2], [3,4]⟩)
  obtain ⟨g, H⟩ := gsplit H
  have F := xZ F (map_getD d_Token a0 2 default default (by omega))
  refine xR ?_
  exact cut_at H (xK ⟨[1,2], [3,4]⟩)
 rintro x5 H
 rw [Xh] at H
 rcases xB Y G H with ⟨p, H, F, G, q⟩ | ⟨p, H, F, G, q⟩
 ·refine xT ?_
  obtain ⟨g, H⟩ := gsplit H
  have F := xZ Y (map_getD d_Token a0 1 default default (by omega))
  cases H
 refine xE ?_
 obtain ⟨g, H⟩ := gsplit H
 have F := xZ Y (map_getD d_Token a0 2 default default (by omega))
 obtain ⟨g, H⟩ := gsplit H
 have F := xZ F (map_getD d_Token a0 1 default default (by omega))
 obtain ⟨r5, hr7, H⟩ := osplit H
 have F := F
 refine xP [0, 1, 2, 3, 4, 6, 7, 8, 9, 10, 5, 11, 12] [74] ⟨ZH, JX, Jdv, X1, XE, trivial⟩ ?_
 refine xsX 8 ?_
 refine xaX ?_
 refine xsX 1 ?_
 refine xcX ⟨[1, 2], [3, 4]⟩ (tabG 4 (cg10 hr7)) ?_
 refine xsX 2 ?_
 refine xlX ?_
 replace H := oI H
 refine xS ?_
 subst H
 refine xrD [] ?_
 exact xO ⟨[1, 2], [7, 8]⟩
theorem JdX : Callable Tryz.prog 55 ∧ (∀ g, Xz g → GenOk Tryz.prog 55 g) ∧ (false = true → ∀ g, Xz g → ∃ val bs ts, g.out = .ret val bs ts) :=
 ⟨call_55, JdK, nofun⟩
noncomputable def Jt (a1 : List drive_group) : (Nat × Int × Int) → Option ((Nat × Int × Int) ⊕ Int)
 | (x1, x2, x3) => if (ltI x3 x2) = true then if (0 : Int) ≤ x3 ∧ x3.toNat < x1 then if x3.toNat < a1.length then (JbG (a1.getD x3.toNat default)).bind fun r1 => if r1 = true then inrO (some x3) else some (.inl (x1, x2, IntKind.i64.wrap (x3 + 1))) else none else none else inrO (some (-1))
noncomputable def Jw (a0 : Nat) (a1 : List drive_group) : Option Int :=
 loopO (Jt a1) (a0, ((a0 : Nat) : Int), 0)
def Jg (a0 : Nat) (a1 : List drive_group) (r : Int) : GI :=
 ⟨[.c (.os 1 14 0 a0), .c (.d (.v (.func (.func 53) #[] #[])))], [[.arr 14 (List.map Ja a1)]], [], .ret (cI r) [[.arr 14 (List.map Ja a1)]] []⟩
def Jh : GI → Prop := Sg2 Jw Jg
theorem X0 : ∀ g, Jh g → GenOk Tryz.prog 77 g := by
 rintro _ ⟨a0, a1, r, H, rfl⟩
 refine xGn mixed [(53, JbK)] [] [] ⟨⟨call_53, Je7⟩, trivial⟩ trivial trivial Tryz.func77 _ ?_
 have G := True.intro
 have Y := xZ y_80 <| xZ y_90 <| xZ Tryz.results77 <| xZ d_Call.eq_1 <| xZ d_Token.eq_1 <| xZ Ja.eq_1 <| Jg.eq_1
 dsimp only [Jg]
 simp only [Jw] at H
 refine xS ?_
 refine xr ?_
 refine xr ?_
 refine w_loop (Jt a1) (fun s => [(0, .c (.os 1 14 0 s.1)), (1, .c (.d (.v (.func (.func 53) #[] #[])))), (7, cI s.2.1), (8, cI s.2.2)]) (fun s => [[.arr 14 (List.map Ja a1)]]) [] H (xK ⟨[1], []⟩) ?_
 rintro n1 ⟨x1, x2, x3⟩ o1 H hF1
 rw [Jt] at H
 refine xS ?_
 refine xr ?_
 rcases xB Y G H with ⟨p, H, F, G, q⟩ | ⟨p, H, F, G, q⟩
 ·refine xT ?_
  refine xr ?_
  obtain ⟨g, H⟩ := gsplit H
  obtain ⟨g, H⟩ := gsplit H
  have F := xZ Y (map_getD Ja a1 x3.toNat default default (by omega))
  obtain ⟨r1, hr1, H⟩ := osplit H
  have F := xCf F (Jfo (a1.getD x3.toNat default) r1 hr1)
  refine xR ?_
  rcases xB Y G H with ⟨p, H, F, G, q⟩ | ⟨p, H, F, G, q⟩
  ·refine xT ?_
   replace H := inrO_fin H hF1
   replace H := oI H
   refine xr ?_
   subst H
   refine xrD [] ?_
   exact xO ⟨[1], []⟩
  refine xE ?_
  refine xr ?_
  exact round_at (inl_fin H hF1) (xK ⟨[1], []⟩)
 replace H := inrO_fin H hF1
 refine xE ?_
 replace H := oI H
 refine xr ?_
 subst H
 refine xrD [] ?_
 exact xO ⟨[1], []⟩
theorem Zb : Callable Tryz.prog 77 ∧ (∀ g, Jh g → GenOk Tryz.prog 77 g) ∧ (true = true → ∀ g, Jh g → ∃ val bs ts, g.out = .ret val bs ts) :=
 ⟨call_77, X0, fun _ => by rintro _ ⟨_, _, _, _, rfl⟩; exact ⟨_, _, _, rfl⟩⟩
noncomputable def Js (a0 : Nat) (a1 : List drive_group) : Option Bool :=
 (Jw a0 a1).bind fun r1 => some (leI 0 r1)
def Jf (a0 : Nat) (a1 : List drive_group) (r : Bool) : GI :=
 ⟨[.c (.os 1 14 0 a0), .c (.d (.v (.func (.func 53) #[] #[])))], [[.arr 14 (List.map Ja a1)]], [], .ret (cB r) [[.arr 14 (List.map Ja a1)]] []⟩
def Je : GI → Prop := Sg2 Js Jf
theorem Xl : ∀ g, Je g → GenOk Tryz.prog 52 g := by
 rintro _ ⟨a0, a1, r, H, rfl⟩
 refine xGn mixed [] [(77, true, Jh)] [] trivial ⟨Zb, trivial⟩ trivial Tryz.func52 _ ?_
 have G := True.intro
 have Y := xZ Tryz.results52 <| xZ d_Call.eq_1 <| xZ d_Token.eq_1 <| xZ Ja.eq_1 <| xZ Jg.eq_1 <| Jf.eq_1
 dsimp only [Jf]
 simp only [Js] at H
 refine xS ?_
 refine xr ?_
 obtain ⟨r1, hr1, H⟩ := osplit H
 have F := Y
 refine xQ ?_
 refine xs 2 ?_
 refine xc ⟨[1], []⟩ (tabG 0 (cg2 hr1)) ?_
 refine xs 2 ?_
 refine xl ?_
 replace H := oI H
 refine xS ?_
 subst H
 refine xrD [] ?_
 exact xO ⟨[1], []⟩
theorem XH : Callable Tryz.prog 52 ∧ (∀ g, Je g → GenOk Tryz.prog 52 g) ∧ (true = true → ∀ g, Je g → ∃ val bs ts, g.out = .ret val bs ts) :=
 ⟨call_52, Xl, fun _ => by rintro _ ⟨_, _, _, _, rfl⟩; exact ⟨_, _, _, rfl⟩⟩
noncomputable def ZY (a0 : Nat) (a1 : List drive_group) : Option Bool :=
 (Js a0 a1).bind fun r1 => some (!r1)
def X2 (a0 : Nat) (a1 : List drive_group) (r : Bool) : GI :=
 ⟨[.c (.os 1 14 0 a0)], [[.arr 14 (List.map Ja a1)]], [], .ret (cB r) [[.arr 14 (List.map Ja a1)]] []⟩
def XY : GI → Prop := Sg2 ZY X2
theorem JeU : ∀ g, XY g → GenOk Tryz.prog 35 g := by
 rintro _ ⟨a0, a1, r, H, rfl⟩
 refine xGn mixed [] [(52, true, Je)] [] trivial ⟨XH, trivial⟩ trivial Tryz.func35 _ ?_
 have G := True.intro
 have Y := xZ Tryz.results35 <| xZ d_Call.eq_1 <| xZ d_Token.eq_1 <| xZ Ja.eq_1 <| xZ Jf.eq_1 <| X2.eq_1
 dsimp only [X2]
 simp only [ZY] at H
 refine xS ?_
 refine xr ?_
 obtain ⟨r1, hr1, H⟩ := osplit H
 have F := Y
 refine xQ ?_
 refine xs 1 ?_
 refine xc ⟨[1], []⟩ (tabG 0 (cg2 hr1)) ?_
 refine xs 2 ?_
 refine xl ?_
 replace H := oI H
 refine xS ?_
 subst H
 refine xrD [] ?_
 exact xO ⟨[1], []⟩
theorem Jda : Callable Tryz.prog 35 ∧ (∀ g, XY g → GenOk Tryz.prog 35 g) ∧ (true = true → ∀ g, XY g → ∃ val bs ts, g.out = .ret val bs ts) :=
 ⟨call_35, JeU, fun _ => by rintro _ ⟨_, _, _, _, rfl⟩; exact ⟨_, _, _, rfl⟩⟩
noncomputable def KD (a10 : List drive_group) : (Nat × Int × Bool × Bool × Int × (List UInt8) × Bool × Bool × Int × Int × Int × Int × YP × (List Call) × Int) → Option Yi
 | (x5, x6, x7, x8, x9, x10, x11, x12, x13, x14, x15, x16, x17, x18, x19) => if x5 ≤ a10.length ∧ (x5 + [(⟨x7, x8, false, (⟨x9, x10, x11, x12, x13, x14, x15, x16, x17, x18, x19⟩ : Token)⟩ : drive_group)].length) * 128 ≤ 140737488355328 then some (.ok (x5 + [(⟨x7, x8, false, (⟨x9, x10, x11, x12, x13, x14, x15, x16, x17, x18, x19⟩ : Token)⟩ : drive_group)].length, true, x6, (List.take x5 a10) ++ [(⟨x7, x8, false, (⟨x9, x10, x11, x12, x13, x14, x15, x16, x17, x18, x19⟩ : Token)⟩ : drive_group)])) else none
noncomputable def KE (x2 : List UInt8) (x20 : Nat) : (Nat × Int × YS) → Option Yi
 | (x24, x25, x26) => if (IntKind.i64.wrap (((x20 : Nat) : Int) - 1)).toNat < x26.length then some (.ok (x24, true, x25, List.set x26 ((IntKind.i64.wrap (((x20 : Nat) : Int) - 1)).toNat) (⟨(x26.getD ((IntKind.i64.wrap (((x20 : Nat) : Int) - 1)).toNat) default).on_, (x26.getD ((IntKind.i64.wrap (((x20 : Nat) : Int) - 1)).toNat) default).had_, eqS x2 [101, 108, 115, 101], ((x26.getD ((IntKind.i64.wrap (((x20 : Nat) : Int) - 1)).toNat) default).at_)⟩ : drive_group))) else none
noncomputable def JR (x2 : List UInt8) (x20 : Nat) : Yx → Option Yi
 | (x27, x28, x29, x30) => if x28 = true then if (IntKind.i64.wrap (((x20 : Nat) : Int) - 1)).toNat < x30.length then if (IntKind.i64.wrap (((x20 : Nat) : Int) - 1)).toNat < x30.length then KE x2 x20 (x27, x29, List.set x30 ((IntKind.i64.wrap (((x20 : Nat) : Int) - 1)).toNat) (⟨true, true, (x30.getD ((IntKind.i64.wrap (((x20 : Nat) : Int) - 1)).toNat) default).last_, ((x30.getD ((IntKind.i64.wrap (((x20 : Nat) : Int) - 1)).toNat) default).at_)⟩ : drive_group)) else none else none else KE x2 x20 (x27, x29, x30)
noncomputable def KG (a1 : List Token) (a2 : List Source) (a3 a4 a5 : Int) (a6 : List Macro) (a7 a8 : List Int) (a9 : Int) (a10 : List drive_group) (a11 : List Token) (x2 : List UInt8) (x20 : Nat) : (Nat × Bool) → Option Yi
 | (x22, x23) => if x23 = true then if 2 < a1.length then none else none else if (IntKind.i64.wrap (((x20 : Nat) : Int) - 1)).toNat < a10.length then if (IntKind.i64.wrap (((x20 : Nat) : Int) - 1)).toNat < a10.length then if (!((a10.getD ((IntKind.i64.wrap (((x20 : Nat) : Int) - 1)).toNat) default).had_)) = true then if (eqS x2 [101, 108, 115, 101]) = true then JR x2 x20 (x22, true, a3, List.set a10 ((IntKind.i64.wrap (((x20 : Nat) : Int) - 1)).toNat) (⟨false, (a10.getD ((IntKind.i64.wrap (((x20 : Nat) : Int) - 1)).toNat) default).had_, (a10.getD ((IntKind.i64.wrap (((x20 : Nat) : Int) - 1)).toNat) default).last_, ((a10.getD ((IntKind.i64.wrap (((x20 : Nat) : Int) - 1)).toNat) default).at_)⟩ : drive_group)) else grB (Zy a1 a2 a3 a4 a5 a6 a7 a8 a9 a11) (fun r3 => JR x2 x20 (x22, r3.1, r3.2, List.set a10 ((IntKind.i64.wrap (((x20 : Nat) : Int) - 1)).toNat) (⟨false, (a10.getD ((IntKind.i64.wrap (((x20 : Nat) : Int) - 1)).toNat) default).had_, (a10.getD ((IntKind.i64.wrap (((x20 : Nat) : Int) - 1)).toNat) default).last_, ((a10.getD ((IntKind.i64.wrap (((x20 : Nat) : Int) - 1)).toNat) default).at_)⟩ : drive_group))) (fun e2 => some (.er (e2.1, e2.2.1, e2.2.2.1, e2.2.2.2))) else JR x2 x20 (x22, false, a3, List.set a10 ((IntKind.i64.wrap (((x20 : Nat) : Int) - 1)).toNat) (⟨false, (a10.getD ((IntKind.i64.wrap (((x20 : Nat) : Int) - 1)).toNat) default).had_, (a10.getD ((IntKind.i64.wrap (((x20 : Nat) : Int) - 1)).toNat) default).last_, ((a10.getD ((IntKind.i64.wrap (((x20 : Nat) : Int) - 1)).toNat) default).at_)⟩ : drive_group)) else none else none
noncomputable def JU (a1 : List Token) (a2 : List Source) (a3 a4 a5 : Int) (a6 : List Macro) (a7 a8 : List Int) (a9 : Int) (a10 : List drive_group) (a11 : List Token) (x2 : List UInt8) : (Nat × Bool) → Option Yi
 | (x20, x21) => if x21 = true then if (eqI ((x20 : Nat) : Int) 0) = true then if 1 < a1.length then none else none else if (0 : Int) ≤ (IntKind.i64.wrap (((x20 : Nat) : Int) - 1)) ∧ (IntKind.i64.wrap (((x20 : Nat) : Int) - 1)).toNat < x20 then if (eqS x2 [101, 110, 100, 105, 102]) = true then if (ltI 2 (a1.length : Int)) = true then if 2 < a1.length then none else none else if (0 : Int) ≤ 0 ∧ 0 ≤ (IntKind.i64.wrap (((x20 : Nat) : Int) - 1)) ∧ (IntKind.i64.wrap (((x20 : Nat) : Int) - 1)) ≤ ((x20 : Nat) : Int) then some (.ok ((IntKind.i64.wrap (((x20 : Nat) : Int) - 1)).toNat, true, a3, a10)) else none else if (IntKind.i64.wrap (((x20 : Nat) : Int) - 1)).toNat < a10.length then if ((a10.getD ((IntKind.i64.wrap (((x20 : Nat) : Int) - 1)).toNat) default).last_) = true then if 1 < a1.length then none else none else if (eqS x2 [101, 108, 115, 101]) = true then KG a1 a2 a3 a4 a5 a6 a7 a8 a9 a10 a11 x2 x20 (x20, ltI 2 (a1.length : Int)) else KG a1 a2 a3 a4 a5 a6 a7 a8 a9 a10 a11 x2 x20 (x20, false) else none else none else some (.ok (x20, false, a3, a10))
noncomputable def JT (a1 : List Token) (a2 : List Source) (a3 a4 a5 : Int) (a6 : List Macro) (a7 a8 : List Int) (a9 : Int) (a10 : List drive_group) (a11 : List Token) : (Nat × (List UInt8) × (List UInt8) × Bool) → Option Yi
 | (x1, x2, x3, x4) => if x4 = true then if (eqI ((x1 : Nat) : Int) 12) = true then if 1 < a1.length then none else none else if 1 < a1.length then (ZY x1 a10).bind fun r1 => if r1 = true then grB (Zy a1 a2 a3 a4 a5 a6 a7 a8 a9 a11) (fun r2 => KD a10 (x1, r2.2, r2.1, r2.1, (a1.getD 1 default).Kind, (a1.getD 1 default).Text, (a1.getD 1 default).Space, (a1.getD 1 default).First, (a1.getD 1 default).File, (a1.getD 1 default).At, (a1.getD 1 default).End, (a1.getD 1 default).Line, (a1.getD 1 default).Hide, (a1.getD 1 default).Calls, (a1.getD 1 default).Made)) (fun e1 => some (.er (e1.1, e1.2.1, e1.2.2.1, e1.2.2.2))) else KD a10 (x1, a3, false, true, (a1.getD 1 default).Kind, (a1.getD 1 default).Text, (a1.getD 1 default).Space, (a1.getD 1 default).First, (a1.getD 1 default).File, (a1.getD 1 default).At, (a1.getD 1 default).End, (a1.getD 1 default).Line, (a1.getD 1 default).Hide, (a1.getD 1 default).Calls, (a1.getD 1 default).Made) else none else if (eqS x3 [101, 108, 105, 102]) = true then JU a1 a2 a3 a4 a5 a6 a7 a8 a9 a10 a11 x2 (x1, true) else if (eqS x3 [101, 108, 115, 101]) = true then JU a1 a2 a3 a4 a5 a6 a7 a8 a9 a10 a11 x2 (x1, true) else JU a1 a2 a3 a4 a5 a6 a7 a8 a9 a10 a11 x2 (x1, eqS x3 [101, 110, 100, 105, 102])
noncomputable def ZG (a0 : Nat) (a1 : List Token) (a2 : List Source) (a3 a4 a5 : Int) (a6 : List Macro) (a7 a8 : List Int) (a9 : Int) (a10 : List drive_group) (a11 : List Token) : Option Yi :=
 if 1 < a1.length then if (eqS ((a1.getD 1 default).Text) [105, 102]) = true then JT a1 a2 a3 a4 a5 a6 a7 a8 a9 a10 a11 (a0, (a1.getD 1 default).Text, (a1.getD 1 default).Text, true) else if (eqS ((a1.getD 1 default).Text) [105, 102, 100, 101, 102]) = true then JT a1 a2 a3 a4 a5 a6 a7 a8 a9 a10 a11 (a0, (a1.getD 1 default).Text, (a1.getD 1 default).Text, true) else JT a1 a2 a3 a4 a5 a6 a7 a8 a9 a10 a11 (a0, (a1.getD 1 default).Text, (a1.getD 1 default).Text, eqS ((a1.getD 1 default).Text) [105, 102, 110, 100, 101, 102]) else none
def Jc7 (a0 : Nat) (a1 : List Token) (a2 : List Source) (a3 a4 a5 : Int) (a6 : List Macro) (a7 a8 : List Int) (a9 : Int) (a10 : List drive_group) (a11 : List Token) : GR YH Yx → GOut
 | .ok r => .ret (.tu [(false, [.os 4 14 0 r.1]), (false, [kB r.2.1])]) [[.d (.sl 2 (List.map d_Source a2)), kI r.2.2.1, kI a4, kI a5, .d (.sl 5 (List.map d_Macro a6)), .sl 1 (List.map dI a7) 6, .os 5 11 0 a11.length, .sl 1 (List.map dI a8) 7, kI a9], [], [], [.arr 14 (List.map Ja r.2.2.2)], [.arr 11 (List.map d_Token a11)]] [3, 3]
 | .er r => .pan (.iface 78 (.agg ⟨[.int .i64 r.1, .int .i64 r.2.1, .int .i64 r.2.2.1]⟩)) [[.d (.sl 2 (List.map d_Source a2)), kI r.2.2.2, kI a4, kI a5, .d (.sl 5 (List.map d_Macro a6)), .sl 1 (List.map dI a7) 5, .os 4 11 0 a11.length, .sl 1 (List.map dI a8) 6, kI a9], [], [], [.arr 11 (List.map d_Token a11)]] [3, 3]
def KO (a0 : Nat) (a1 : List Token) (a2 : List Source) (a3 a4 a5 : Int) (a6 : List Macro) (a7 a8 : List Int) (a9 : Int) (a10 : List drive_group) (a11 : List Token) (r : GR YH Yx) : GI :=
 ⟨[.c (.pt 1 0), .c (.os 2 14 0 a0), .c (.d (.sl 11 (List.map d_Token a1)))], [[.d (.sl 2 (List.map d_Source a2)), kI a3, kI a4, kI a5, .d (.sl 5 (List.map d_Macro a6)), .sl 1 (List.map dI a7) 4, .os 3 11 0 a11.length, .sl 1 (List.map dI a8) 5, kI a9], [.arr 14 (List.map Ja a10)], [.arr 11 (List.map d_Token a11)]], [3, 3], Jc7 a0 a1 a2 a3 a4 a5 a6 a7 a8 a9 a10 a11 r⟩
def KS : GI → Prop := Sg12 ZG KO
theorem JcX : ∀ g, KS g → GenOk Tryz.prog 37 g := by
 rintro _ ⟨a0, a1, a2, a3, a4, a5, a6, a7, a8, a9, a10, a11, r, H, rfl⟩
 refine xGn mixed [] [(35, true, XY), (55, false, Xz)] [] trivial ⟨Jda, JdX, trivial⟩ trivial Tryz.func37 _ ?_
 have G := True.intro
 have Y := xZ y_4 <| xZ y_9 <| xZ y_24 <| xZ y_44 <| xZ y_80 <| xZ y_90 <| xZ Tryz.results37 <| xZ d_Source.eq_1 <| xZ d_Call.eq_1 <| xZ d_Token.eq_1 <| xZ d_Macro.eq_1 <| xZ d_Limits.eq_1 <| xZ Ja.eq_1 <| xZ X2.eq_1 <| xZ Xv.eq_1 <| KO.eq_1
 dsimp only [KO]
 simp only [ZG] at H
 refine xS ?_
 refine xrn 2 1 ?_
 refine xrn 3 1 ?_
 refine xr ?_
 obtain ⟨g, H⟩ := gsplit H
 have F := xZ Y (map_getD d_Token a1 1 default default (by omega))
 refine xR ?_
 refine xr0 ?_
 refine then_normal ?_
 refine w_block ?_
 refine w_cut (JT a1 a2 a3 a4 a5 a6 a7 a8 a9 a10 a11) (fun s => [(0, .c (.pt 1 0)), (1, .c (.os 4 14 0 s.1)), (2, .c (.d (.sl 11 (List.map d_Token a1)))), (8, cS s.2.1), (15, cS s.2.2.1), (17, cB s.2.2.2)]) (fun s => [[.d (.sl 2 (List.map d_Source a2)), kI a3, kI a4, kI a5, .d (.sl 5 (List.map d_Macro a6)), .sl 1 (List.map dI a7) 6, .os 5 11 0 a11.length, .sl 1 (List.map dI a8) 7, kI a9], [], [], [.arr 14 (List.map Ja a10)], [.arr 11 (List.map d_Token a11)]]) [3, 3] r ?_ ?_
 ·refine xS ?_
  refine xr ?_
  rcases xB Y G H with ⟨p, H, F, G, q⟩ | ⟨p, H, F, G, q⟩
  ·refine xT ?_
   exact cut_at H (xK ⟨[1,2,3,6,7], [4,5]⟩)
  refine xE ?_
  refine xr ?_
  rcases xB Y G H with ⟨p, H, F, G, q⟩ | ⟨p, H, F, G, q⟩
  ·refine xT ?_
   exact cut_at H (xK ⟨[1,2,3,6,7], [4,5]⟩)
  refine xE ?_
  refine xr ?_
  exact cut_at H (xK ⟨[1,2,3,6,7], [4,5]⟩)
 rintro ⟨x1, x2, x3, x4⟩ H
 rw [JT] at H
 rcases xB Y G H with ⟨p, H, F, G, q⟩ | ⟨p, H, F, G, q⟩
 ·refine xT ?_
  refine xr ?_
  rcases xB Y G H with ⟨p, H, F, G, q⟩ | ⟨p, H, F, G, q⟩
  ·refine xT ?_
   obtain ⟨g, H⟩ := gsplit H
   have F := xZ Y (map_getD d_Token a1 1 default default (by omega))
   cases H
  refine xE ?_
  obtain ⟨g, H⟩ := gsplit H
  have F := xZ Y (map_getD d_Token a1 1 default default (by omega))
  refine xR0 ?_
  refine then_normal ?_
  refine w_cut (KD a10) (fun s => [(1, .c (.os 4 14 0 s.1)), (9, .c (.pt 5 0))]) (fun s => [[.d (.sl 2 (List.map d_Source a2)), kI s.2.1, kI a4, kI a5, .d (.sl 5 (List.map d_Macro a6)), .sl 1 (List.map dI a7) 7, .os 6 11 0 a11.length, .sl 1 (List.map dI a8) 8, kI a9], [], [], [.arr 14 (List.map Ja a10)], [kB s.2.2.1, kB s.2.2.2.1, kB false, kI s.2.2.2.2.1, kS s.2.2.2.2.2.1, kB s.2.2.2.2.2.2.1, kB s.2.2.2.2.2.2.2.1, kI s.2.2.2.2.2.2.2.2.1, kI s.2.2.2.2.2.2.2.2.2.1, kI s.2.2.2.2.2.2.2.2.2.2.1, kI s.2.2.2.2.2.2.2.2.2.2.2.1, .d (.sl 1 (List.map dS s.2.2.2.2.2.2.2.2.2.2.2.2.1)), .d (.sl 3 (List.map d_Call s.2.2.2.2.2.2.2.2.2.2.2.2.2.1)), kI s.2.2.2.2.2.2.2.2.2.2.2.2.2.2], [.arr 11 (List.map d_Token a11)]]) [3, 3] r ?_ ?_
  ·refine xS ?_
   obtain ⟨r1, hr1, H⟩ := osplit H
   have F := Y
   refine xQ ?_
   refine xs 1 ?_
   refine xc ⟨[4], []⟩ (tabG 0 (cg2 hr1)) ?_
   refine xl ?_
   refine xS ?_
   rcases xB Y G H with ⟨p, H, F, G, q⟩ | ⟨p, H, F, G, q⟩
   ·refine xT ?_
    rcases rsplit H with ⟨r2, hr2, H⟩ | ⟨e1, hr3, H⟩
    ·have F := Y
     refine xQ ?_
     refine xs 2 ?_
     refine xc ⟨[1, 5], [6, 7]⟩ (tabG 1 (cg10 hr2)) ?_
     refine xs 2 ?_
     refine xl ?_
     refine xS ?_
     refine xr ?_
     exact cut_at H (xK ⟨[1,2,3,4,8,5], [12,13]⟩)
    have F := Y
    refine xQp [33, 34, 35, 36] ?_
    refine xs 2 ?_
    refine xp ⟨[1, 5], [6, 7]⟩ (tabG 1 (cg10 hr3)) ?_
    replace H := oI H
    refine xS ?_
    subst H
    refine xpD [] ?_
    exact xOv ⟨[1, 2, 3, 5], [12, 13]⟩
   refine xE ?_
   exact cut_at H (xK ⟨[1,2,3,4,8,5], [6,7]⟩)
  rintro ⟨x5, x6, x7, x8, x9, x10, x11, x12, x13, x14, x15, x16, x17, x18, x19⟩ H
  rw [KD] at H
  refine xS ?_
  obtain ⟨g, H⟩ := gsplit H
  have F := xZ Y (all_map Jfd [(⟨x7, x8, false, (⟨x9, x10, x11, x12, x13, x14, x15, x16, x17, x18, x19⟩ : Token)⟩ : drive_group)])
  have T := take_len a10 x5 (by omega)
  have F := xZ F (Nat.min_eq_left (show x5 ≤ a10.length by omega))
  have G := xZ G (Nat.min_eq_left (show x5 ≤ a10.length by omega))
  have F := xZ F (take_app2 Ja T)
  have G := xZ G (take_app2 Ja T)
  have L : [(⟨x7, x8, false, (⟨x9, x10, x11, x12, x13, x14, x15, x16, x17, x18, x19⟩ : Token)⟩ : drive_group)].length = 1 := rfl
  replace H := oI H
  refine xR ?_
  subst H
  refine xrD [] ?_
  exact xO ⟨[1, 2, 3, 9, 6], [7, 8]⟩
 refine xE0 ?_
 refine w_cut (JU a1 a2 a3 a4 a5 a6 a7 a8 a9 a10 a11 x2) (fun s => [(0, .c (.pt 1 0)), (1, .c (.os 4 14 0 s.1)), (2, .c (.d (.sl 11 (List.map d_Token a1)))), (8, cS x2), (44, cB s.2)]) (fun s => [[.d (.sl 2 (List.map d_Source a2)), kI a3, kI a4, kI a5, .d (.sl 5 (List.map d_Macro a6)), .sl 1 (List.map dI a7) 6, .os 5 11 0 a11.length, .sl 1 (List.map dI a8) 7, kI a9], [], [], [.arr 14 (List.map Ja a10)], [.arr 11 (List.map d_Token a11)]]) [3, 3] r ?_ ?_
 ·refine xS ?_
  refine xr ?_
  rcases xB Y G H with ⟨p, H, F, G, q⟩ | ⟨p, H, F, G, q⟩
  ·refine xT ?_
   exact cut_at H (xK ⟨[1,2,3,4,5], [6,7]⟩)
  refine xE ?_
  refine xr ?_
  rcases xB Y G H with ⟨p, H, F, G, q⟩ | ⟨p, H, F, G, q⟩
  ·refine xT ?_
   exact cut_at H (xK ⟨[1,2,3,4,5], [6,7]⟩)
  refine xE ?_
  refine xr ?_
  exact cut_at H (xK ⟨[1,2,3,4,5], [6,7]⟩)
 rintro ⟨x20, x21⟩ H
 rw [JU] at H
 rcases xB Y G H with ⟨p, H, F, G, q⟩ | ⟨p, H, F, G, q⟩
 ·refine xT ?_
  refine xr ?_
  rcases xB Y G H with ⟨p, H, F, G, q⟩ | ⟨p, H, F, G, q⟩
  ·refine xT ?_
   obtain ⟨g, H⟩ := gsplit H
   have F := xZ Y (map_getD d_Token a1 1 default default (by omega))
   cases H
  refine xE ?_
  obtain ⟨g, H⟩ := gsplit H
  refine xr ?_
  refine xr ?_
  rcases xB Y G H with ⟨p, H, F, G, q⟩ | ⟨p, H, F, G, q⟩
  ·refine xT ?_
   refine xr ?_
   rcases xB Y G H with ⟨p, H, F, G, q⟩ | ⟨p, H, F, G, q⟩
   ·refine xT ?_
    obtain ⟨g, H⟩ := gsplit H
    have F := xZ Y (map_getD d_Token a1 2 default default (by omega))
    cases H
   refine xE ?_
   obtain ⟨g, H⟩ := gsplit H
   replace H := oI H
   refine xr ?_
   subst H
   refine xrD [] ?_
   exact xO ⟨[1, 2, 3, 4, 5], [6, 7]⟩
  refine xE ?_
  obtain ⟨g, H⟩ := gsplit H
  have F := xZ Y (map_getD Ja a10 ((IntKind.i64.wrap (((x20 : Nat) : Int) - 1)).toNat) default default (by omega))
  refine xR ?_
  rcases xB Y G H with ⟨p, H, F, G, q⟩ | ⟨p, H, F, G, q⟩
  ·refine xT ?_
   obtain ⟨g, H⟩ := gsplit H
   have F := xZ Y (map_getD d_Token a1 1 default default (by omega))
   cases H
  refine xE0 ?_
  refine w_cut (KG a1 a2 a3 a4 a5 a6 a7 a8 a9 a10 a11 x2 x20) (fun s => [(0, .c (.pt 1 0)), (1, .c (.os 4 14 0 s.1)), (2, .c (.d (.sl 11 (List.map d_Token a1)))), (8, cS x2), (10, .c (.pa 4 14 ((IntKind.i64.wrap (((x20 : Nat) : Int) - 1)).toNat) 0)), (81, cB s.2)]) (fun s => [[.d (.sl 2 (List.map d_Source a2)), kI a3, kI a4, kI a5, .d (.sl 5 (List.map d_Macro a6)), .sl 1 (List.map dI a7) 6, .os 5 11 0 a11.length, .sl 1 (List.map dI a8) 7, kI a9], [], [], [.arr 14 (List.map Ja a10)], [.arr 11 (List.map d_Token a11)]]) [3, 3] r ?_ ?_
  ·rcases xB Y G H with ⟨p, H, F, G, q⟩ | ⟨p, H, F, G, q⟩
   ·refine xR ?_
    exact cut_at H (xK ⟨[1,2,3,4,5], [6,7]⟩)
   refine xR ?_
   exact cut_at H (xK ⟨[1,2,3,4,5], [6,7]⟩)
  rintro ⟨x22, x23⟩ H
  rw [KG] at H
  rcases xB Y G H with ⟨p, H, F, G, q⟩ | ⟨p, H, F, G, q⟩
  ·refine xT ?_
   obtain ⟨g, H⟩ := gsplit H
   have F := xZ Y (map_getD d_Token a1 2 default default (by omega))
   cases H
  refine xE ?_
  obtain ⟨g, H⟩ := gsplit H
  have F := xZ Y (map_getD Ja a10 ((IntKind.i64.wrap (((x20 : Nat) : Int) - 1)).toNat) default default (by omega))
  have F := xZ F (set_len Ja a10 ((IntKind.i64.wrap (((x20 : Nat) : Int) - 1)).toNat))
  have F := xZ F (set_get Ja a10 (show (IntKind.i64.wrap (((x20 : Nat) : Int) - 1)).toNat < a10.length by omega))
  have F := xZ F (set_set Ja a10 ((IntKind.i64.wrap (((x20 : Nat) : Int) - 1)).toNat))
  refine xR0 ?_
  refine then_normal ?_
  refine w_cut (KE x2 x20) (fun s => [(1, .c (.os 4 14 0 s.1)), (8, cS x2), (10, .c (.pa 4 14 ((IntKind.i64.wrap (((x20 : Nat) : Int) - 1)).toNat) 0))]) (fun s => [[.d (.sl 2 (List.map d_Source a2)), kI s.2.1, kI a4, kI a5, .d (.sl 5 (List.map d_Macro a6)), .sl 1 (List.map dI a7) 6, .os 5 11 0 a11.length, .sl 1 (List.map dI a8) 7, kI a9], [], [], [.arr 14 (List.map Ja s.2.2)], [.arr 11 (List.map d_Token a11)]]) [3, 3] r ?_ ?_
  ·refine w_cut (JR x2 x20) (fun s => [(1, .c (.os 4 14 0 s.1)), (8, cS x2), (10, .c (.pa 4 14 ((IntKind.i64.wrap (((x20 : Nat) : Int) - 1)).toNat) 0)), (108, cB s.2.1)]) (fun s => [[.d (.sl 2 (List.map d_Source a2)), kI s.2.2.1, kI a4, kI a5, .d (.sl 5 (List.map d_Macro a6)), .sl 1 (List.map dI a7) 6, .os 5 11 0 a11.length, .sl 1 (List.map dI a8) 7, kI a9], [], [], [.arr 14 (List.map Ja s.2.2.2)], [.arr 11 (List.map d_Token a11)]]) [3, 3] r ?_ ?_
   ·obtain ⟨g, H⟩ := gsplit H
    have F := xZ Y (map_getD Ja a10 ((IntKind.i64.wrap (((x20 : Nat) : Int) - 1)).toNat) default default (by omega))
    have F := xZ F (set_len Ja a10 ((IntKind.i64.wrap (((x20 : Nat) : Int) - 1)).toNat))
    have F := xZ F (set_get Ja a10 (show (IntKind.i64.wrap (((x20 : Nat) : Int) - 1)).toNat < a10.length by omega))
    have F := xZ F (set_set Ja a10 ((IntKind.i64.wrap (((x20 : Nat) : Int) - 1)).toNat))
    rcases xB F G H with ⟨p, H, F, G, q⟩ | ⟨p, H, F, G, q⟩
    ·rcases xB F G H with ⟨p, H, F, G, q⟩ | ⟨p, H, F, G, q⟩
     ·refine xR ?_
      exact cut_at H (xK ⟨[1,2,3,4,5], [6,7]⟩)
     rcases rsplit H with ⟨r3, hr4, H⟩ | ⟨e2, hr5, H⟩
     ·have F := F
      refine xQ ?_
      refine xs 11 ?_
      refine xc ⟨[1, 5], [6, 7]⟩ (tabG 1 (cg10 hr4)) ?_
      refine xs 2 ?_
      refine xl ?_
      refine xS ?_
      exact cut_at H (xK ⟨[1,2,3,4,5], [10,11]⟩)
     have F := F
     refine xQp [95, 96, 97, 98, 99, 100, 101, 102, 103, 104, 105, 106, 107, 108] ?_
     refine xs 11 ?_
     refine xp ⟨[1, 5], [6, 7]⟩ (tabG 1 (cg10 hr5)) ?_
     replace H := oI H
     refine xS ?_
     subst H
     refine xpD [] ?_
     exact xOv ⟨[1, 2, 3, 5], [10, 11]⟩
    refine xR ?_
    exact cut_at H (xK ⟨[1,2,3,4,5], [6,7]⟩)
   rintro ⟨x27, x28, x29, x30⟩ H
   rw [JR] at H
   rcases xB Y G H with ⟨p, H, F, G, q⟩ | ⟨p, H, F, G, q⟩
   ·refine xT ?_
    obtain ⟨g, H⟩ := gsplit H
    have F := xZ Y (map_getD Ja x30 ((IntKind.i64.wrap (((x20 : Nat) : Int) - 1)).toNat) default default (by omega))
    have F := xZ F (set_len Ja x30 ((IntKind.i64.wrap (((x20 : Nat) : Int) - 1)).toNat))
    have F := xZ F (set_get Ja x30 (show (IntKind.i64.wrap (((x20 : Nat) : Int) - 1)).toNat < x30.length by omega))
    have F := xZ F (set_set Ja x30 ((IntKind.i64.wrap (((x20 : Nat) : Int) - 1)).toNat))
    obtain ⟨g, H⟩ := gsplit H
    have F := xZ F (map_getD Ja x30 ((IntKind.i64.wrap (((x20 : Nat) : Int) - 1)).toNat) default default (by omega))
    have F := xZ F (set_len Ja x30 ((IntKind.i64.wrap (((x20 : Nat) : Int) - 1)).toNat))
    have F := xZ F (set_get Ja x30 (show (IntKind.i64.wrap (((x20 : Nat) : Int) - 1)).toNat < x30.length by omega))
    have F := xZ F (set_set Ja x30 ((IntKind.i64.wrap (((x20 : Nat) : Int) - 1)).toNat))
    refine xR ?_
    exact cut_at H (xK ⟨[1,2,3,4,5], [6,7]⟩)
   refine xE ?_
   exact cut_at H (xK ⟨[1,2,3,4,5], [6,7]⟩)
  rintro ⟨x24, x25, x26⟩ H
  rw [KE] at H
  refine xS ?_
  obtain ⟨g, H⟩ := gsplit H
  have F := xZ Y (map_getD Ja x26 ((IntKind.i64.wrap (((x20 : Nat) : Int) - 1)).toNat) default default (by omega))
  have F := xZ F (set_len Ja x26 ((IntKind.i64.wrap (((x20 : Nat) : Int) - 1)).toNat))
  have F := xZ F (set_get Ja x26 (show (IntKind.i64.wrap (((x20 : Nat) : Int) - 1)).toNat < x26.length by omega))
  have F := xZ F (set_set Ja x26 ((IntKind.i64.wrap (((x20 : Nat) : Int) - 1)).toNat))
  refine xR ?_
  replace H := oI H
  refine xr ?_
  subst H
  refine xrD [] ?_
  exact xO ⟨[1, 2, 3, 4, 5], [6, 7]⟩
 refine xE ?_
 replace H := oI H
 refine xr ?_
 subst H
 refine xrD [] ?_
 exact xO ⟨[1, 2, 3, 4, 5], [6, 7]⟩
theorem Jc3 : Callable Tryz.prog 37 ∧ (∀ g, KS g → GenOk Tryz.prog 37 g) ∧ (false = true → ∀ g, KS g → ∃ val bs ts, g.out = .ret val bs ts) :=
 ⟨call_37, JcX, nofun⟩
noncomputable def XW : Bool → Option Bool
 | x1 => some x1
noncomputable def Jaq (a0 : List UInt8) : Option Bool :=
 if (eqS a0 [95, 95, 76, 73, 78, 69, 95, 95]) = true then XW true else if (eqS a0 [95, 95, 70, 73, 76, 69, 95, 95]) = true then XW true else XW (eqS a0 [100, 101, 102, 105, 110, 101, 100])
noncomputable def Jaj : PF := PF.of (E1 dS) (fun a => Jaq a) dB
theorem Jde : PureOk Tryz.prog 58 Jaj := by
 refine xF mixed [] [] trivial trivial Tryz.func58 ?_
 rintro a0 out H
 have G := True.intro
 have Y := Tryz.results58
 simp only [Jaq] at H
 refine xS ?_
 refine xr0 ?_
 refine then_normal ?_
 refine w_cut XW (fun s => [(2, cB s)]) (fun s => []) [] out ?_ ?_
 ·rcases xB Y G H with ⟨p, H, F, G, q⟩ | ⟨p, H, F, G, q⟩
  ·refine xR ?_
   exact cut_at H (xK ⟨[], []⟩)
  rcases xB F G H with ⟨p, H, F, G, q⟩ | ⟨p, H, F, G, q⟩
  ·refine xR ?_
   exact cut_at H (xK ⟨[], []⟩)
  refine xR ?_
  exact cut_at H (xK ⟨[], []⟩)
 rintro x1 H
 rw [XW] at H
 replace H := oI H
 refine xS ?_
 subst H
 exact xN
theorem Jdo (a0 : List UInt8) (r : Bool) (H : Jaq a0 = some r) : PC Jaj [dS a0] (dB r) := PF.c (a := a0) H
noncomputable def JbC (x1 x2 : Int) : Unit → Option YO
 | () => some (.inl (x1, IntKind.i64.wrap (x2 + 1)))
noncomputable def Jbz (x1 x2 : Int) : Bool → Option YO
 | x3 => if x3 = true then none else JbC x1 x2 ()
noncomputable def Jau (x1 x2 : Int) : Bool → Option YO
 | x16 => if x16 = true then none else JbC x1 x2 ()
noncomputable def Jav (a1 : Bool) (a4 : List Token) (x1 x2 : Int) : Ye → Option YO
 | (x4, x5, x6, x7, x8, x9, x10, x11, x12, x13, x14, x15) => if x4 = true then none else if (eqS x6 [35]) = true then if a1 = true then if (eqI x2 (IntKind.i64.wrap (((a4.length : Nat) : Int) - 1))) = true then Jau x1 x2 true else if (0 : Int) ≤ (IntKind.i64.wrap (x2 + 1)) ∧ (IntKind.i64.wrap (x2 + 1)).toNat < a4.length then if (IntKind.i64.wrap (x2 + 1)).toNat < a4.length then none else none else none else Jau x1 x2 false else Jau x1 x2 false
noncomputable def JcT (a1 a3 : Bool) (a4 : List Token) : (Int × Int) → Option YO
 | (x1, x2) => if (ltI x2 x1) = true then if (0 : Int) ≤ x2 ∧ x2.toNat < a4.length then if x2.toNat < a4.length then if (!eqI ((a4.getD x2.toNat default).Kind) 5) = true then if (eqS ((a4.getD x2.toNat default).Text) [95, 95, 86, 65, 95, 65, 82, 71, 83, 95, 95]) = true then Jbz x1 x2 (!a3) else Jbz x1 x2 false else if (eqS ((a4.getD x2.toNat default).Text) [35, 35]) = true then if (eqI x2 0) = true then Jav a1 a4 x1 x2 (true, (a4.getD x2.toNat default).Kind, (a4.getD x2.toNat default).Text, (a4.getD x2.toNat default).Space, (a4.getD x2.toNat default).First, (a4.getD x2.toNat default).File, (a4.getD x2.toNat default).At, (a4.getD x2.toNat default).End, (a4.getD x2.toNat default).Line, (a4.getD x2.toNat default).Hide, (a4.getD x2.toNat default).Calls, (a4.getD x2.toNat default).Made) else Jav a1 a4 x1 x2 (eqI x2 (IntKind.i64.wrap (((a4.length : Nat) : Int) - 1)), (a4.getD x2.toNat default).Kind, (a4.getD x2.toNat default).Text, (a4.getD x2.toNat default).Space, (a4.getD x2.toNat default).First, (a4.getD x2.toNat default).File, (a4.getD x2.toNat default).At, (a4.getD x2.toNat default).End, (a4.getD x2.toNat default).Line, (a4.getD x2.toNat default).Hide, (a4.getD x2.toNat default).Calls, (a4.getD x2.toNat default).Made) else Jav a1 a4 x1 x2 (false, (a4.getD x2.toNat default).Kind, (a4.getD x2.toNat default).Text, (a4.getD x2.toNat default).Space, (a4.getD x2.toNat default).First, (a4.getD x2.toNat default).File, (a4.getD x2.toNat default).At, (a4.getD x2.toNat default).End, (a4.getD x2.toNat default).Line, (a4.getD x2.toNat default).Hide, (a4.getD x2.toNat default).Calls, (a4.getD x2.toNat default).Made) else none else none else inrO (some ())
noncomputable def Jd1 (a0 : List UInt8) (a1 : Bool) (a2 : List (List UInt8)) (a3 : Bool) (a4 : List Token) : Option Unit :=
 loopO (JcT a1 a3 a4) (((a4.length : Nat) : Int), 0)
def JbZ (a0 : List UInt8) (a1 : Bool) (a2 : List (List UInt8)) (a3 : Bool) (a4 : List Token) (r : Unit) : GI :=
 ⟨[.c (.pt 1 0)], [[kS a0, kB a1, .sl 1 (List.map dS a2) 3, kB a3, .os 2 11 0 a4.length], [.arr 11 (List.map d_Token a4)]], [9], .ret (.ag [kI 0, kI (-1), kI 0]) [[kS a0, kB a1, .sl 1 (List.map dS a2) 3, kB a3, .os 2 11 0 a4.length], [.arr 11 (List.map d_Token a4)]] [9]⟩
def JbY : GI → Prop := Sg5 Jd1 JbZ
theorem JfX : ∀ g, JbY g → GenOk Tryz.prog 85 g := by
 rintro _ ⟨a0, a1, a2, a3, a4, r, H, rfl⟩
 refine xGn mixed [] [] [] trivial trivial trivial Tryz.func85 _ ?_
 have G := True.intro
 have Y := xZ y_3 <| xZ y_4 <| xZ y_9 <| xZ y_24 <| xZ y_29 <| xZ y_31 <| xZ y_41 <| xZ y_44 <| xZ y_63 <| xZ Tryz.results85 <| xZ d_Call.eq_1 <| xZ d_Token.eq_1 <| xZ d_Macro.eq_1 <| xZ d_Fault.eq_1 <| JbZ.eq_1
 dsimp only [JbZ]
 unfold Jd1 at H
 refine xS ?_
 refine xr ?_
 refine xr ?_
 refine w_loop (JcT a1 a3 a4) (fun s => [(0, .c (.pt 1 0)), (2, .c (.pt 3 0)), (8, .c (.os 2 11 0 a4.length)), (9, cI s.1), (10, cI s.2)]) (fun s => [[kS a0, kB a1, .sl 1 (List.map dS a2) 4, kB a3, .os 2 11 0 a4.length], [.arr 11 (List.map d_Token a4)], [kI 0, kI 0, kI 0]]) [9] H (xK ⟨[1,2,4], [3]⟩) ?_
 rintro n1 ⟨x1, x2⟩ o1 H hF1
 rw [JcT] at H
 refine xS ?_
 refine xr ?_
 rcases xB Y G H with ⟨p, H, F, G, q⟩ | ⟨p, H, F, G, q⟩
 ·refine xT0 ?_
  refine w_skip ?_
  refine then_normal ?_
  refine w_cut (JbC x1 x2) (fun s => [(0, .c (.pt 1 0)), (2, .c (.pt 3 0)), (8, .c (.os 2 11 0 a4.length)), (9, cI x1), (10, cI x2)]) (fun s => [[kS a0, kB a1, .sl 1 (List.map dS a2) 4, kB a3, .os 2 11 0 a4.length], [.arr 11 (List.map d_Token a4)], [kI 0, kI 0, kI 0]]) [9] o1 ?_ ?_
  ·refine xS ?_
   obtain ⟨g, H⟩ := gsplit H
   obtain ⟨g, H⟩ := gsplit H
   have F := xZ Y (map_getD d_Token a4 x2.toNat default default (by omega))
   refine xR ?_
   refine xr ?_
   rcases xB Y G H with ⟨p, H, F, G, q⟩ | ⟨p, H, F, G, q⟩
   ·refine xT0 ?_
    refine w_seq ?_
    refine w_cut (Jbz x1 x2) (fun s => [(0, .c (.pt 1 0)), (2, .c (.pt 3 0)), (3, cI x2), (8, .c (.os 2 11 0 a4.length)), (9, cI x1), (10, cI x2), (27, cB s)]) (fun s => [[kS a0, kB a1, .sl 1 (List.map dS a2) 4, kB a3, .os 2 11 0 a4.length], [.arr 11 (List.map d_Token a4)], [kI 0, kI 0, kI 0]]) [9] o1 ?_ ?_
    ·rcases xB Y G H with ⟨p, H, F, G, q⟩ | ⟨p, H, F, G, q⟩
     ·refine xR ?_
      exact cut_at H (xK ⟨[1,2,3], [4]⟩)
     refine xR ?_
     exact cut_at H (xK ⟨[1,2,3], [4]⟩)
    rintro x3 H
    rw [Jbz] at H
    rcases xB Y G H with ⟨p, H, F, G, q⟩ | ⟨p, H, F, G, q⟩
    ·refine xT ?_
     cases H
    refine xE ?_
    exact cut_at H (xK ⟨[1,2,3], [4]⟩)
   refine xE0 ?_
   refine w_skip ?_
   refine then_normal ?_
   refine w_block ?_
   refine w_cut (Jav a1 a4 x1 x2) (fun s => [(0, .c (.pt 1 0)), (2, .c (.pt 3 0)), (3, cI x2), (4, .c (.pt 4 0)), (8, .c (.os 2 11 0 a4.length)), (9, cI x1), (10, cI x2), (34, cB s.1)]) (fun s => [[kS a0, kB a1, .sl 1 (List.map dS a2) 5, kB a3, .os 2 11 0 a4.length], [.arr 11 (List.map d_Token a4)], [kI 0, kI 0, kI 0], [kI s.2.1, kS s.2.2.1, kB s.2.2.2.1, kB s.2.2.2.2.1, kI s.2.2.2.2.2.1, kI s.2.2.2.2.2.2.1, kI s.2.2.2.2.2.2.2.1, kI s.2.2.2.2.2.2.2.2.1, .d (.sl 1 (List.map dS s.2.2.2.2.2.2.2.2.2.1)), .d (.sl 3 (List.map d_Call s.2.2.2.2.2.2.2.2.2.2.1)), kI s.2.2.2.2.2.2.2.2.2.2.2]]) [9] o1 ?_ ?_
   ·rcases xB Y G H with ⟨p, H, F, G, q⟩ | ⟨p, H, F, G, q⟩
    ·rcases xB F G H with ⟨p, H, F, G, q⟩ | ⟨p, H, F, G, q⟩
     ·refine xR ?_
      exact cut_at H (xK ⟨[1,2,3,5], [4]⟩)
     refine xR ?_
     exact cut_at H (xK ⟨[1,2,3,5], [4]⟩)
    refine xR ?_
    exact cut_at H (xK ⟨[1,2,3,5], [4]⟩)
   rintro ⟨x4, x5, x6, x7, x8, x9, x10, x11, x12, x13, x14, x15⟩ H
   rw [Jav] at H
   rcases xB Y G H with ⟨p, H, F, G, q⟩ | ⟨p, H, F, G, q⟩
   ·refine xT ?_
    cases H
   refine xE0 ?_
   refine w_cut (Jau x1 x2) (fun s => [(0, .c (.pt 1 0)), (2, .c (.pt 3 0)), (3, cI x2), (8, .c (.os 2 11 0 a4.length)), (9, cI x1), (10, cI x2), (58, cB s)]) (fun s => [[kS a0, kB a1, .sl 1 (List.map dS a2) 4, kB a3, .os 2 11 0 a4.length], [.arr 11 (List.map d_Token a4)], [kI 0, kI 0, kI 0]]) [9] o1 ?_ ?_
   ·rcases xB Y G H with ⟨p, H, F, G, q⟩ | ⟨p, H, F, G, q⟩
    ·rcases xB F G H with ⟨p, H, F, G, q⟩ | ⟨p, H, F, G, q⟩
     ·rcases xB F G H with ⟨p, H, F, G, q⟩ | ⟨p, H, F, G, q⟩
      ·refine xR ?_
       exact cut_at H (xK ⟨[1,2,3], [5]⟩)
      obtain ⟨g, H⟩ := gsplit H
      obtain ⟨g, H⟩ := gsplit H
      have F := xZ F (map_getD d_Token a4 ((IntKind.i64.wrap (x2 + 1)).toNat) default default (by omega))
      cases H
     refine xR ?_
     exact cut_at H (xK ⟨[1,2,3], [5]⟩)
    refine xR ?_
    exact cut_at H (xK ⟨[1,2,3], [5]⟩)
   rintro x16 H
   rw [Jau] at H
   rcases xB Y G H with ⟨p, H, F, G, q⟩ | ⟨p, H, F, G, q⟩
   ·refine xT ?_
    cases H
   refine xE ?_
   exact cut_at H (xK ⟨[1,2,3], [4]⟩)
  rintro ⟨⟩ H
  rw [JbC] at H
  refine xr ?_
  exact round_at (inl_fin H hF1) (xK ⟨[1,2,3], [4]⟩)
 replace H := inrO_fin H hF1
 refine xE ?_
 refine xr ?_
 refine xrD [] ?_
 exact xO ⟨[1, 2], [4]⟩
theorem Jge : Callable Tryz.prog 85 ∧ (∀ g, JbY g → GenOk Tryz.prog 85 g) ∧ (true = true → ∀ g, JbY g → ∃ val bs ts, g.out = .ret val bs ts) :=
 ⟨call_85, JfX, fun _ => by rintro _ ⟨_, _, _, _, _, _, _, rfl⟩; exact ⟨_, _, _, rfl⟩⟩
noncomputable def Ja8 (x5 : List Token) (x6 x7 : Int) (x8 : List Token) : (Int × (List UInt8) × Bool × Bool × Int × Int × Int × Int × YP × (List Call) × Int) → Option Yk
 | (x9, x10, x11, x12, x13, x14, x15, x16, x17, x18, x19) => if (x8.length + [(⟨x9, x10, x11, false, x13, x14, x15, x16, ([] : List (List UInt8)), ([] : List Call), x19⟩ : Token)].length) * 120 ≤ 140737488355328 then some (.inl (x5, x6, IntKind.i64.wrap (x7 + 1), x8 ++ [(⟨x9, x10, x11, false, x13, x14, x15, x16, ([] : List (List UInt8)), ([] : List Call), x19⟩ : Token)])) else none
noncomputable def Jcp (x4 : List UInt8) : ((List Token) × Int × Int × (List Token)) → Option Yk
 | (x5, x6, x7, x8) => if (ltI x7 x6) = true then if (0 : Int) ≤ x7 ∧ x7.toNat < x5.length then if ((x5.getD x7.toNat default).Space) = true then Ja8 x5 x6 x7 x8 ((x5.getD x7.toNat default).Kind, (x5.getD x7.toNat default).Text, ltI 0 x7, (x5.getD x7.toNat default).First, (x5.getD x7.toNat default).File, (x5.getD x7.toNat default).At, (x5.getD x7.toNat default).End, (x5.getD x7.toNat default).Line, (x5.getD x7.toNat default).Hide, (x5.getD x7.toNat default).Calls, (x5.getD x7.toNat default).Made) else Ja8 x5 x6 x7 x8 ((x5.getD x7.toNat default).Kind, (x5.getD x7.toNat default).Text, false, (x5.getD x7.toNat default).First, (x5.getD x7.toNat default).File, (x5.getD x7.toNat default).At, (x5.getD x7.toNat default).End, (x5.getD x7.toNat default).Line, (x5.getD x7.toNat default).Hide, (x5.getD x7.toNat default).Calls, (x5.getD x7.toNat default).Made) else none else inrO ((Jd1 x4 false ([] : List (List UInt8)) false x8).bind fun r2 => some ((⟨x4, false, ([] : List (List UInt8)), false, x8⟩ : Macro), (⟨0, (-1), 0⟩ : Fault)))
noncomputable def Z1 (a0 : List Token) : (Bool × (List UInt8)) → Option (Macro × Fault)
 | (x3, x4) => if x3 = true then none else if (ltI 60 (IntKind.i64.wrap ((a0.length : Int) - 1))) = true then none else if (0 : Int) ≤ 1 ∧ 1 ≤ (a0.length : Int) ∧ (a0.length : Int) ≤ (a0.length : Int) then loopO (Jcp x4) (List.drop 1 a0, ((List.drop 1 a0).length : Int), 0, ([] : List Token)) else none
noncomputable def Jba (a0 : List Token) : (Bool × (List UInt8)) → Option (Macro × Fault)
 | (x1, x2) => if x1 = true then none else if 0 < a0.length then (Jaq ((a0.getD 0 default).Text)).bind fun r1 => if r1 = true then none else if 0 < a0.length then if (ltI 1 (a0.length : Int)) = true then if 1 < a0.length then if (eqS ((a0.getD 1 default).Text) [40]) = true then if 1 < a0.length then Z1 a0 (!((a0.getD 1 default).Space), (a0.getD 0 default).Text) else none else Z1 a0 (false, (a0.getD 0 default).Text) else none else Z1 a0 (false, (a0.getD 0 default).Text) else none else none
noncomputable def Jct (a0 : List Token) : Option (Macro × Fault) :=
 if (eqI (a0.length : Int) 0) = true then Jba a0 (true, []) else if 0 < a0.length then Jba a0 (!eqI ((a0.getD 0 default).Kind) 1, []) else none
noncomputable def Jci : PF := PF.of (E1 (dL 11 d_Token)) (fun a => Jct a) (T2 d_Macro d_Fault)
theorem JfC : PureOk Tryz.prog 56 Jci := by
 refine xF mixed [(58, Jaj)] [(85, true, JbY)] ⟨⟨call_58, Jde⟩, trivial⟩ ⟨Jge, trivial⟩ Tryz.func56 ?_
 rintro a0 out H
 have G := True.intro
 have Y := xZ y_3 <| xZ y_4 <| xZ y_9 <| xZ y_24 <| xZ y_29 <| xZ y_31 <| xZ y_41 <| xZ y_42 <| xZ y_44 <| xZ y_63 <| xZ Tryz.results56 <| xZ d_Call.eq_1 <| xZ d_Token.eq_1 <| xZ d_Macro.eq_1 <| xZ d_Fault.eq_1 <| JbZ.eq_1
 simp only [Jct] at H
 refine xS ?_
 refine xr ?_
 refine xr0 ?_
 refine then_normal ?_
 refine w_seq ?_
 refine w_cut (Jba a0) (fun s => [(0, .c (.d (.sl 11 (List.map d_Token a0)))), (2, .c (.pt 1 0)), (3, .c (.pt 2 0)), (4, .c (.d (.v (.func (.func 82) #[] #[])))), (21, cB s.1)]) (fun s => [[kS s.2, kB false, .sl 1 [] 0, kB false, .sl 11 [] 0], [kI 0, kI 0, kI 0]]) [] out ?_ ?_
 ·rcases xB Y G H with ⟨p, H, F, G, q⟩ | ⟨p, H, F, G, q⟩
  ·refine xR ?_
   exact cut_at H (xK ⟨[1,2], []⟩)
  obtain ⟨g, H⟩ := gsplit H
  have F := xZ F (map_getD d_Token a0 0 default default (by omega))
  refine xR ?_
  exact cut_at H (xK ⟨[1,2], []⟩)
 rintro ⟨x1, x2⟩ H
 rw [Jba] at H
 rcases xB Y G H with ⟨p, H, F, G, q⟩ | ⟨p, H, F, G, q⟩
 ·refine xT ?_
  cases H
 refine xE ?_
 obtain ⟨g, H⟩ := gsplit H
 have F := xZ Y (map_getD d_Token a0 0 default default (by omega))
 obtain ⟨r1, hr1, H⟩ := osplit H
 have F := xCf F (Jdo ((a0.getD 0 default).Text) r1 hr1)
 refine xR ?_
 rcases xB Y G H with ⟨p, H, F, G, q⟩ | ⟨p, H, F, G, q⟩
 ·refine xT ?_
  cases H
 refine xE ?_
 obtain ⟨g, H⟩ := gsplit H
 have F := xZ Y (map_getD d_Token a0 0 default default (by omega))
 refine xR ?_
 refine xr0 ?_
 refine then_normal ?_
 refine w_seq ?_
 refine w_cut (Z1 a0) (fun s => [(0, .c (.d (.sl 11 (List.map d_Token a0)))), (2, .c (.pt 1 0)), (3, .c (.pt 2 0)), (4, .c (.d (.v (.func (.func 82) #[] #[])))), (5, .c (.pt 3 0)), (6, cI 1), (63, cB s.1)]) (fun s => [[kS x2, kB false, .sl 1 [] 0, kB false, .sl 11 [] 0], [kI 0, kI 0, kI 0], [kS s.2, kB false, .sl 1 [] 0, kB false, .sl 11 [] 0]]) [] out ?_ ?_
 ·rcases xB Y G H with ⟨p, H, F, G, q⟩ | ⟨p, H, F, G, q⟩
  ·obtain ⟨g, H⟩ := gsplit H
   have F := xZ F (map_getD d_Token a0 1 default default (by omega))
   rcases xB F G H with ⟨p, H, F, G, q⟩ | ⟨p, H, F, G, q⟩
   ·obtain ⟨g, H⟩ := gsplit H
    have F := xZ F (map_getD d_Token a0 1 default default (by omega))
    refine xR ?_
    exact cut_at H (xK ⟨[1,2,3], []⟩)
   refine xR ?_
   exact cut_at H (xK ⟨[1,2,3], []⟩)
  refine xR ?_
  exact cut_at H (xK ⟨[1,2,3], []⟩)
 rintro ⟨x3, x4⟩ H
 rw [Z1] at H
 rcases xB Y G H with ⟨p, H, F, G, q⟩ | ⟨p, H, F, G, q⟩
 ·refine xT ?_
  refine xr ?_
  cases H
 refine xE ?_
 refine xr ?_
 rcases xB Y G H with ⟨p, H, F, G, q⟩ | ⟨p, H, F, G, q⟩
 ·refine xT ?_
  cases H
 refine xE ?_
 obtain ⟨g, H⟩ := gsplit H
 refine xr ?_
 refine w_loop (Jcp x4) (fun s => [(2, .c (.pt 1 0)), (3, .c (.pt 2 0)), (4, .c (.d (.v (.func (.func 82) #[] #[])))), (5, .c (.pt 3 0)), (96, .c (.d (.sl 11 (List.map d_Token s.1)))), (97, cI s.2.1), (98, cI s.2.2.1)]) (fun s => [[kS x2, kB false, .sl 1 [] 0, kB false, .sl 11 [] 0], [kI 0, kI 0, kI 0], [kS x4, kB false, .sl 1 [] 0, kB false, .os 4 11 0 s.2.2.2.length], [.arr 11 (List.map d_Token s.2.2.2)]]) [] H (xK ⟨[1,2,3,0], []⟩) ?_
 rintro n1 ⟨x5, x6, x7, x8⟩ o1 H hF1
 rw [Jcp] at H
 refine xS ?_
 refine xr ?_
 rcases xB Y G H with ⟨p, H, F, G, q⟩ | ⟨p, H, F, G, q⟩
 ·refine xT ?_
  obtain ⟨g, H⟩ := gsplit H
  have F := xZ Y (map_getD d_Token x5 x7.toNat default default (by omega))
  refine xR0 ?_
  refine then_normal ?_
  refine w_cut (Ja8 x5 x6 x7 x8) (fun s => [(2, .c (.pt 1 0)), (3, .c (.pt 2 0)), (4, .c (.d (.v (.func (.func 82) #[] #[])))), (5, .c (.pt 3 0)), (10, .c (.pt 4 0)), (96, .c (.d (.sl 11 (List.map d_Token x5)))), (97, cI x6), (98, cI x7)]) (fun s => [[kS x2, kB false, .sl 1 [] 0, kB false, .sl 11 [] 0], [kI 0, kI 0, kI 0], [kS x4, kB false, .sl 1 [] 0, kB false, .os 5 11 0 x8.length], [kI s.1, kS s.2.1, kB s.2.2.1, kB s.2.2.2.1, kI s.2.2.2.2.1, kI s.2.2.2.2.2.1, kI s.2.2.2.2.2.2.1, kI s.2.2.2.2.2.2.2.1, .d (.sl 1 (List.map dS s.2.2.2.2.2.2.2.2.1)), .d (.sl 3 (List.map d_Call s.2.2.2.2.2.2.2.2.2.1)), kI s.2.2.2.2.2.2.2.2.2.2], [.arr 11 (List.map d_Token x8)]]) [] o1 ?_ ?_
  ·rcases xB Y G H with ⟨p, H, F, G, q⟩ | ⟨p, H, F, G, q⟩
   ·refine xR ?_
    exact cut_at H (xK ⟨[1,2,3,5,4], []⟩)
   refine xR ?_
   exact cut_at H (xK ⟨[1,2,3,5,4], []⟩)
  rintro ⟨x9, x10, x11, x12, x13, x14, x15, x16, x17, x18, x19⟩ H
  rw [Ja8] at H
  refine xS ?_
  refine xr ?_
  obtain ⟨g, H⟩ := gsplit H
  have F := xZ Y (all_map one_Token [(⟨x9, x10, x11, false, x13, x14, x15, x16, ([] : List (List UInt8)), ([] : List Call), x19⟩ : Token)])
  have L : [(⟨x9, x10, x11, false, x13, x14, x15, x16, ([] : List (List UInt8)), ([] : List Call), x19⟩ : Token)].length = 1 := rfl
  refine xR ?_
  refine xr ?_
  exact round_at (inl_fin H hF1) (xK ⟨[1,2,3,6], []⟩)
 replace H := inrO_fin H hF1
 refine xE ?_
 obtain ⟨r2, hr2, H⟩ := osplit H
 have F := Y
 refine xQ ?_
 refine xc ⟨[3, 4], [0]⟩ (tabG 0 (cg5 hr2)) ?_
 refine xs 2 ?_
 refine xl ?_
 refine xS ?_
 refine xr ?_
 refine xe ?_
 replace H := oI H
 refine xr ?_
 subst H
 refine xNf 4 11 (List.map d_Token x8) [] ?_
 exact xN
theorem JfU (a0 : List Token) (r : Macro × Fault) (H : Jct a0 = some r) : PC Jci [(dL 11 d_Token) a0] (T2 d_Macro d_Fault r) := PF.c (a := a0) H
noncomputable def JbX (a0 : List Macro) (a1 : Macro) : Option ((List Macro) × Int) :=
 (Ja3 a0 a1.Name).bind fun r1 => if (leI 0 r1) = true then if (0 : Int) ≤ r1 ∧ r1.toNat < a0.length then none else none else if (leI 30 (a0.length : Int)) = true then some (([] : List Macro), 5) else (Jl a0).bind fun r2 => if (a0.length + [a1].length) * 80 ≤ 140737488355328 then some (a0 ++ [a1], 0) else none
noncomputable def Jb9 : PF := PF.of (E2 (dL 5 d_Macro) d_Macro) (fun a => JbX a.1 a.2) (T2 (dL 5 d_Macro) dI)
theorem Jfn : PureOk Tryz.prog 57 Jb9 := by
 refine xFl mixed [8] [(86, Jay)] [(21, true, Jj)] ⟨⟨call_86, JcJ⟩, trivial⟩ ⟨Jd, trivial⟩ Tryz.func57 ?_
 rintro ⟨a0, a1⟩ out H
 have G := True.intro
 have Y := xZ y_9 <| xZ y_28 <| xZ y_63 <| xZ Tryz.results57 <| xZ d_Call.eq_1 <| xZ d_Token.eq_1 <| xZ d_Macro.eq_1 <| J4.eq_1
 simp only [JbX] at H
 refine xS ?_
 refine xr ?_
 obtain ⟨r1, hr1, H⟩ := osplit H
 have F := xC Y (Jc1 a0 a1.Name r1 hr1)
 refine xR ?_
 refine xr ?_
 rcases xB Y G H with ⟨p, H, F, G, q⟩ | ⟨p, H, F, G, q⟩
 ·refine xT ?_
  obtain ⟨g, H⟩ := gsplit H
  have F := xZ Y (map_getD d_Macro a0 r1.toNat default default (by omega))
  cases H
 refine xE ?_
 refine xr ?_
 rcases xB Y G H with ⟨p, H, F, G, q⟩ | ⟨p, H, F, G, q⟩
 ·refine xT ?_
  replace H := oI H
  refine xr ?_
  subst H
  exact xN
 refine xE ?_
 obtain ⟨r2, hr2, H⟩ := osplit H
 have F := Y
 obtain ⟨g, H⟩ := gsplit H
 have F := xZ F (all_map one_Macro [a1])
 have L : [a1].length = 1 := rfl
 refine xP [0, 2, 3, 1, 4, 5, 6] [27] ⟨Jd, trivial⟩ ?_
 refine xsX 1 ?_
 refine xaX ?_
 refine xsX 1 ?_
 refine xcX ⟨[], []⟩ (tabG 0 (cg1 hr2)) ?_
 refine xbX ?_
 refine xsX 2 ?_
 refine xlX ?_
 replace H := oI H
 refine xS ?_
 subst H
 refine xNf 3 5 (List.map d_Macro (a0 ++ [a1])) [] ?_
 exact xN
theorem JfS (a0 : List Macro) (a1 : Macro) (r : (List Macro) × Int) (H : JbX a0 a1 = some r) : PC Jb9 [(dL 5 d_Macro) a0, d_Macro a1] (T2 (dL 5 d_Macro) dI r) := PF.c (a := (a0, a1)) H
noncomputable def XF (a0 : List Int) (a1 : Int) : (Int × Int) → Option YQ
 | (x1, x2) => if (ltI x2 x1) = true then if (0 : Int) ≤ x2 ∧ x2.toNat < a0.length then if (eqI a1 (a0.getD x2.toNat default)) = true then inrO (some x2) else some (.inl (x1, IntKind.i64.wrap (x2 + 1))) else none else inrO (some (-1))
noncomputable def VE (a0 : List Int) (a1 : Int) : Option Int :=
 loopO (XF a0 a1) ((a0.length : Int), 0)
noncomputable def Xq : PF := PF.of (E2 (dL 1 dI) dI) (fun a => VE a.1 a.2) dI
theorem JcW : PureOk Tryz.prog 116 Xq := by
 refine xF mixed [] [] trivial trivial Tryz.func116 ?_
 rintro ⟨a0, a1⟩ out H
 have G := True.intro
 have Y := xZ y_3 <| xZ y_25 <| Tryz.results116
 simp only [VE] at H
 refine xS ?_
 refine xr ?_
 refine xr ?_
 refine w_loop (XF a0 a1) (fun s => [(0, .c (.d (.sl 1 (List.map dI a0)))), (1, cI a1), (7, cI s.1), (8, cI s.2)]) (fun s => []) [] H (xK ⟨[], []⟩) ?_
 rintro n1 ⟨x1, x2⟩ o1 H hF1
 rw [XF] at H
 refine xS ?_
 refine xr ?_
 rcases xB Y G H with ⟨p, H, F, G, q⟩ | ⟨p, H, F, G, q⟩
 ·refine xT ?_
  refine xr ?_
  obtain ⟨g, H⟩ := gsplit H
  have F := xZ Y (map_getD dI a0 x2.toNat default default (by omega))
  refine xR ?_
  rcases xB Y G H with ⟨p, H, F, G, q⟩ | ⟨p, H, F, G, q⟩
  ·refine xT ?_
   replace H := inrO_fin H hF1
   replace H := oI H
   refine xr ?_
   subst H
   exact xN
  refine xE ?_
  refine xr ?_
  exact round_at (inl_fin H hF1) (xK ⟨[], []⟩)
 replace H := inrO_fin H hF1
 refine xE ?_
 replace H := oI H
 refine xr ?_
 subst H
 exact xN
theorem Jdh (a0 : List Int) (a1 r : Int) (H : VE a0 a1 = some r) : PC Xq [(dL 1 dI) a0, dI a1] (dI r) := PF.c (a := (a0, a1)) H
noncomputable def KF (a0 : List Int) (a1 : Int) : Option Bool :=
 (VE a0 a1).bind fun r1 => some (leI 0 r1)
noncomputable def Vr : PF := PF.of (E2 (dL 1 dI) dI) (fun a => KF a.1 a.2) dB
theorem Jcj : PureOk Tryz.prog 91 Vr := by
 refine xF mixed [(116, Xq)] [] ⟨⟨call_116, JcW⟩, trivial⟩ trivial Tryz.func91 ?_
 rintro ⟨a0, a1⟩ out H
 have G := True.intro
 have Y := Tryz.results91
 simp only [KF] at H
 refine xS ?_
 refine xr ?_
 obtain ⟨r1, hr1, H⟩ := osplit H
 have F := xC Y (Jdh a0 a1 r1 hr1)
 replace H := oI H
 refine xR ?_
 subst H
 exact xN
theorem JcD (a0 : List Int) (a1 : Int) (r : Bool) (H : KF a0 a1 = some r) : PC Vr [(dL 1 dI) a0, dI a1] (dB r) := PF.c (a := (a0, a1)) H
def Jei (a0 : Int) (a1 : List Source) (a2 a3 a4 : Int) (a5 : List Macro) (a6 a7 : List Int) (a8 : Int) (a9 : List Token) : GR Yh Yj → GOut
 | .ok r => .ret (.tu []) [[.d (.sl 2 (List.map d_Source a1)), kI r.1, kI a3, kI a4, .d (.sl 5 (List.map d_Macro r.2.1)), .sl 1 (List.map dI r.2.2.1) 4, .os 3 11 0 r.2.2.2.2.2.length, .sl 1 (List.map dI r.2.2.2.1) 5, kI r.2.2.2.2.1], [], [.arr 11 (List.map d_Token r.2.2.2.2.2)]] [3, 3]
 | .er r => .pan (.iface 78 (.agg ⟨[.int .i64 r.1, .int .i64 r.2.1, .int .i64 r.2.2.1]⟩)) [[.d (.sl 2 (List.map d_Source a1)), kI r.2.2.2.1, kI a3, kI a4, .d (.sl 5 (List.map d_Macro r.2.2.2.2.1)), .sl 1 (List.map dI r.2.2.2.2.2.1) 4, .os 3 11 0 r.2.2.2.2.2.2.2.2.length, .sl 1 (List.map dI r.2.2.2.2.2.2.1) 5, kI r.2.2.2.2.2.2.2.1], [], [.arr 11 (List.map d_Token r.2.2.2.2.2.2.2.2)]] [3, 3]
def Vg (a0 : Int) (a1 : List Source) (a2 a3 a4 : Int) (a5 : List Macro) (a6 a7 : List Int) (a8 : Int) (a9 : List Token) (r : GR Yh Yj) : GI :=
 ⟨[.c (.pt 1 0), cI a0], [[.d (.sl 2 (List.map d_Source a1)), kI a2, kI a3, kI a4, .d (.sl 5 (List.map d_Macro a5)), .sl 1 (List.map dI a6) 3, .os 2 11 0 a9.length, .sl 1 (List.map dI a7) 4, kI a8], [.arr 11 (List.map d_Token a9)]], [3, 3], Jei a0 a1 a2 a3 a4 a5 a6 a7 a8 a9 r⟩
def JJ (q : Int → (List Source) → Int → Int → Int → (List Macro) → (List Int) → (List Int) → Int → (List Token) → Option Yd) : GI → Prop := Sg10 q Vg
def Jd4 (a0 : List Token) (a1 : List Source) (a2 a3 a4 : Int) (a5 : List Macro) (a6 a7 : List Int) (a8 : Int) (a9 : List Token) : GR Yh Yj → GOut
 | .ok r => .ret (.tu []) [[.d (.sl 2 (List.map d_Source a1)), kI r.1, kI a3, kI a4, .d (.sl 5 (List.map d_Macro r.2.1)), .sl 1 (List.map dI r.2.2.1) 4, .os 3 11 0 r.2.2.2.2.2.length, .sl 1 (List.map dI r.2.2.2.1) 5, kI r.2.2.2.2.1], [], [.arr 11 (List.map d_Token r.2.2.2.2.2)]] [3, 3]
 | .er r => .pan (.iface 78 (.agg ⟨[.int .i64 r.1, .int .i64 r.2.1, .int .i64 r.2.2.1]⟩)) [[.d (.sl 2 (List.map d_Source a1)), kI r.2.2.2.1, kI a3, kI a4, .d (.sl 5 (List.map d_Macro r.2.2.2.2.1)), .sl 1 (List.map dI r.2.2.2.2.2.1) 4, .os 3 11 0 r.2.2.2.2.2.2.2.2.length, .sl 1 (List.map dI r.2.2.2.2.2.2.1) 5, kI r.2.2.2.2.2.2.2.1], [], [.arr 11 (List.map d_Token r.2.2.2.2.2.2.2.2)]] [3, 3]
def XD (a0 : List Token) (a1 : List Source) (a2 a3 a4 : Int) (a5 : List Macro) (a6 a7 : List Int) (a8 : Int) (a9 : List Token) (r : GR Yh Yj) : GI :=
 ⟨[.c (.pt 1 0), .c (.d (.sl 11 (List.map d_Token a0)))], [[.d (.sl 2 (List.map d_Source a1)), kI a2, kI a3, kI a4, .d (.sl 5 (List.map d_Macro a5)), .sl 1 (List.map dI a6) 3, .os 2 11 0 a9.length, .sl 1 (List.map dI a7) 4, kI a8], [.arr 11 (List.map d_Token a9)]], [3, 3], Jd4 a0 a1 a2 a3 a4 a5 a6 a7 a8 a9 r⟩
def JW (q : (List Token) → (List Source) → Int → Int → Int → (List Macro) → (List Int) → (List Int) → Int → (List Token) → Option Yd) : GI → Prop := Sg10 q XD
def Jds (a0 : List Token) (a1 : List Source) (a2 a3 a4 : Int) (a5 : List Macro) (a6 a7 : List Int) (a8 : Int) (a9 : List Token) : GR Yh Yj → GOut
 | .ok r => .ret (.tu []) [[.d (.sl 2 (List.map d_Source a1)), kI r.1, kI a3, kI a4, .d (.sl 5 (List.map d_Macro r.2.1)), .sl 1 (List.map dI r.2.2.1) 4, .os 3 11 0 r.2.2.2.2.2.length, .sl 1 (List.map dI r.2.2.2.1) 5, kI r.2.2.2.2.1], [], [.arr 11 (List.map d_Token r.2.2.2.2.2)]] [3, 3]
 | .er r => .pan (.iface 78 (.agg ⟨[.int .i64 r.1, .int .i64 r.2.1, .int .i64 r.2.2.1]⟩)) [[.d (.sl 2 (List.map d_Source a1)), kI r.2.2.2.1, kI a3, kI a4, .d (.sl 5 (List.map d_Macro r.2.2.2.2.1)), .sl 1 (List.map dI r.2.2.2.2.2.1) 4, .os 3 11 0 r.2.2.2.2.2.2.2.2.length, .sl 1 (List.map dI r.2.2.2.2.2.2.1) 5, kI r.2.2.2.2.2.2.2.1], [], [.arr 11 (List.map d_Token r.2.2.2.2.2.2.2.2)]] [3, 3]
def Vy (a0 : List Token) (a1 : List Source) (a2 a3 a4 : Int) (a5 : List Macro) (a6 a7 : List Int) (a8 : Int) (a9 : List Token) (r : GR Yh Yj) : GI :=
 ⟨[.c (.pt 1 0), .c (.d (.sl 11 (List.map d_Token a0)))], [[.d (.sl 2 (List.map d_Source a1)), kI a2, kI a3, kI a4, .d (.sl 5 (List.map d_Macro a5)), .sl 1 (List.map dI a6) 3, .os 2 11 0 a9.length, .sl 1 (List.map dI a7) 4, kI a8], [.arr 11 (List.map d_Token a9)]], [3, 3], Jds a0 a1 a2 a3 a4 a5 a6 a7 a8 a9 r⟩
def JI (q : (List Token) → (List Source) → Int → Int → Int → (List Macro) → (List Int) → (List Int) → Int → (List Token) → Option Yd) : GI → Prop := Sg10 q Vy
noncomputable def J9 (x2 x3 : Int) : (Nat × Int × (List Macro) × (List Int) × (List Int) × Int × YS × (List Token) × (List Token)) → Option Ya
 | (x12, x13, x14, x15, x16, x17, x18, x19, x20) => some (.inl (x12, x2, IntKind.i64.wrap (x3 + 1), x13, x14, x15, x16, x17, x18, x19, x20))
noncomputable def Xu (x2 x3 x4 : Int) (x5 : List Macro) (x6 x7 : List Int) (x8 : Int) (x9 : List drive_group) (x11 : List Token) : YL → Option Ya
 | (x24, x25) => J9 x2 x3 (x24, x4, x5, x6, x7, x8, x9, x25, x11)
noncomputable def Xt (q2 : (List Token) → (List Source) → Int → Int → Int → (List Macro) → (List Int) → (List Int) → Int → (List Token) → Option Yd) (a1 : List Source) (a3 a4 x2 x3 : Int) (x5 : List Macro) (x6 x7 : List Int) (x8 : Int) (x22 : List Token) (r5 : YJ) (r6 : Yx) : (Nat × Bool) → Option Ya
 | (x26, x27) => if x27 = true then grB (q2 x22 a1 r6.2.2.1 a3 a4 x5 x6 x7 x8 r5.2) (fun r7 => J9 x2 x3 (x26, r7.1, r7.2.1, r7.2.2.1, r7.2.2.2.1, r7.2.2.2.2.1, r6.2.2.2, ([] : List Token), r7.2.2.2.2.2)) (fun e4 => inrO (some (.er (e4.1, e4.2.1, e4.2.2.1, e4.2.2.2.1, e4.2.2.2.2.1, e4.2.2.2.2.2.1, e4.2.2.2.2.2.2.1, e4.2.2.2.2.2.2.2.1, e4.2.2.2.2.2.2.2.2)))) else J9 x2 x3 (x26, r6.2.2.1, x5, x6, x7, x8, r6.2.2.2, ([] : List Token), r5.2)
noncomputable def Xy (q2 : (List Token) → (List Source) → Int → Int → Int → (List Macro) → (List Int) → (List Int) → Int → (List Token) → Option Yd) (a1 : List Source) (a3 a4 x2 x3 x4 : Int) (x5 : List Macro) (x6 x7 : List Int) (x8 : Int) (x9 : List drive_group) (x10 x11 : List Token) : (Nat × (List Token) × Bool) → Option Ya
 | (x21, x22, x23) => if x23 = true then (ZY x21 x9).bind fun r4 => if r4 = true then if (x10.length + x22.length) * 120 ≤ 140737488355328 then Xu x2 x3 x4 x5 x6 x7 x8 x9 x11 (x21, x10 ++ x22) else none else Xu x2 x3 x4 x5 x6 x7 x8 x9 x11 (x21, x10) else grB (Zt x10 a1 x4 a3 a4 x5 x6 x7 x8 x11) (fun r5 => if (eqI (x22.length : Int) 1) = true then J9 x2 x3 (x21, r5.1, x5, x6, x7, x8, x9, ([] : List Token), r5.2) else grB (ZG x21 x22 a1 r5.1 a3 a4 x5 x6 x7 x8 x9 r5.2) (fun r6 => if (!r6.2.1) = true then (ZY r6.1 r6.2.2.2).bind fun r8 => Xt q2 a1 a3 a4 x2 x3 x5 x6 x7 x8 x22 r5 r6 (r6.1, r8) else Xt q2 a1 a3 a4 x2 x3 x5 x6 x7 x8 x22 r5 r6 (r6.1, false)) (fun e3 => inrO (some (.er (e3.1, e3.2.1, e3.2.2.1, e3.2.2.2, x5, x6, x7, x8, r5.2))))) (fun e2 => inrO (some (.er (e2.1, e2.2.1, e2.2.2.1, e2.2.2.2.1, x5, x6, x7, x8, e2.2.2.2.2))))
noncomputable def XI (q2 : (List Token) → (List Source) → Int → Int → Int → (List Macro) → (List Int) → (List Int) → Int → (List Token) → Option Yd) (a1 : List Source) (a3 a4 : Int) (r3 : YR) : (Nat × Int × Int × Int × (List Macro) × (List Int) × (List Int) × Int × YS × (List Token) × (List Token)) → Option Ya
 | (x1, x2, x3, x4, x5, x6, x7, x8, x9, x10, x11) => if (ltI x3 x2) = true then if (0 : Int) ≤ x3 ∧ x3.toNat < r3.length then if 0 < (r3.getD x3.toNat default).length then if (!eqS (((r3.getD x3.toNat default).getD 0 default).Text) [35]) = true then Xy q2 a1 a3 a4 x2 x3 x4 x5 x6 x7 x8 x9 x10 x11 (x1, (r3.getD x3.toNat default), true) else if 0 < (r3.getD x3.toNat default).length then Xy q2 a1 a3 a4 x2 x3 x4 x5 x6 x7 x8 x9 x10 x11 (x1, (r3.getD x3.toNat default), !eqI (((r3.getD x3.toNat default).getD 0 default).Kind) 5) else none else none else none else inrO (grB (Zt x10 a1 x4 a3 a4 x5 x6 x7 x8 x11) (fun r9 => if (ltI 0 ((x1 : Nat) : Int)) = true then if x1 ≤ x9.length then if (0 : Int) ≤ (IntKind.i64.wrap (((x1 : Nat) : Int) - 1)) ∧ (IntKind.i64.wrap (((x1 : Nat) : Int) - 1)).toNat < (List.take x1 x9).length then none else none else none else some (.ok (r9.1, x5, x6, x7, x8, r9.2))) (fun e5 => some (.er (e5.1, e5.2.1, e5.2.2.1, e5.2.2.2.1, x5, x6, x7, x8, e5.2.2.2.2))))
noncomputable def X7 (q1 : Int → (List Source) → Int → Int → Int → (List Macro) → (List Int) → (List Int) → Int → (List Token) → Option Yd) (q2 q3 : (List Token) → (List Source) → Int → Int → Int → (List Macro) → (List Int) → (List Int) → Int → (List Token) → Option Yd) (a0 : Int) (a1 : List Source) (a2 a3 a4 : Int) (a5 : List Macro) (a6 a7 : List Int) (a8 : Int) (a9 : List Token) : Option Yd :=
 if (a7.length + [a0].length) * 8 ≤ 140737488355328 then if (0 : Int) ≤ a0 ∧ a0.toNat < a1.length then (Jo a0 ((a1.getD a0.toNat default).Text)).bind fun r1 => grB (Jai r1.2) (fun r2 => (JbO r1.1).bind fun r3 => loopO (XI q2 a1 a3 a4 r3) (0, (r3.length : Int), 0, a2, a5, a6, a7 ++ [a0], a8, ([] : List drive_group), ([] : List Token), a9)) (fun e1 => some (.er (r1.2.Err, r1.2.File, r1.2.At, a2, a5, a6, a7 ++ [a0], a8, a9))) else none else none
theorem JdJ (q1 : Int → (List Source) → Int → Int → Int → (List Macro) → (List Int) → (List Int) → Int → (List Token) → Option Yd) (q2 q3 : (List Token) → (List Source) → Int → Int → Int → (List Macro) → (List Int) → (List Int) → Int → (List Token) → Option Yd) (kq1 : Kok Tryz.prog 24 false (JJ q1)) (kq2 : Kok Tryz.prog 38 false (JW q2)) (kq3 : Kok Tryz.prog 60 false (JI q3)) : ∀ g, JJ (X7 q1 q2 q3) g → GenOk Tryz.prog 24 g := by
 rintro _ ⟨a0, a1, a2, a3, a4, a5, a6, a7, a8, a9, r, H, rfl⟩
 refine xGn mixed [(32, JcL), (34, Jdc)] [(33, false, XT), (35, true, XY), (36, false, Xs), (37, false, KS), (38, false, (JW q2))] [] ⟨⟨call_32, JfW⟩, ⟨call_34, Jga⟩, trivial⟩ ⟨X1, Jda, Jea, Jc3, kq2, trivial⟩ trivial Tryz.func24 _ ?_
 have G := True.intro
 have Y := xZ y_3 <| xZ y_9 <| xZ y_24 <| xZ y_25 <| xZ y_27 <| xZ y_31 <| xZ y_35 <| xZ y_37 <| xZ y_44 <| xZ y_65 <| xZ y_80 <| xZ y_81 <| xZ y_90 <| xZ Tryz.results24 <| xZ d_Source.eq_1 <| xZ d_Call.eq_1 <| xZ d_Token.eq_1 <| xZ d_Macro.eq_1 <| xZ d_Limits.eq_1 <| xZ d_Fault.eq_1 <| xZ Ja.eq_1 <| xZ XX.eq_1 <| xZ X2.eq_1 <| xZ XB.eq_1 <| xZ KO.eq_1 <| xZ XD.eq_1 <| Vg.eq_1
 dsimp only [Vg]
 simp only [X7] at H
 refine xS ?_
 refine xrn 2 1 ?_
 obtain ⟨g, H⟩ := gsplit H
 have F := xZ Y (all_map one_dI [a0])
 refine xR ?_
 obtain ⟨g, H⟩ := gsplit H
 have F := xZ Y (map_getD d_Source a1 a0.toNat default default (by omega))
 obtain ⟨r1, hr1, H⟩ := osplit H
 have F := xCf F (Jf8 a0 ((a1.getD a0.toNat default).Text) r1 hr1)
 refine xR ?_
 rcases rsplit H with ⟨r2, hr2, H⟩ | ⟨e1, hr3, H⟩
 ·have F := Y
  refine xQ ?_
  refine xs 1 ?_
  refine xc ⟨[], []⟩ (tabG 0 (cg1 hr2)) ?_
  refine xl ?_
  refine xS ?_
  refine xr ?_
  refine xr ?_
  obtain ⟨r3, hr4, H⟩ := osplit H
  have F := xC Y (Jgh r1.1 r3 hr4)
  refine xR ?_
  refine w_loop (XI q2 a1 a3 a4 r3) (fun s => [(0, .c (.pt 1 0)), (6, .c (.os 3 14 0 s.1)), (7, .c (.os 4 11 0 s.2.2.2.2.2.2.2.2.2.1.length)), (40, .c (.d (.sl 1 (List.map (dL 11 d_Token) r3)))), (41, cI s.2.1), (42, cI s.2.2.1)]) (fun s => [[.d (.sl 2 (List.map d_Source a1)), kI s.2.2.2.1, kI a3, kI a4, .d (.sl 5 (List.map d_Macro s.2.2.2.2.1)), .sl 1 (List.map dI s.2.2.2.2.2.1) 6, .os 5 11 0 s.2.2.2.2.2.2.2.2.2.2.length, .sl 1 (List.map dI s.2.2.2.2.2.2.1) 7, kI s.2.2.2.2.2.2.2.1], [], [.arr 14 (List.map Ja s.2.2.2.2.2.2.2.2.1)], [.arr 11 (List.map d_Token s.2.2.2.2.2.2.2.2.2.1)], [.arr 11 (List.map d_Token s.2.2.2.2.2.2.2.2.2.2)]]) [3, 3] H (xK ⟨[1,2,0,0,5], [3,6]⟩) ?_
  rintro n1 ⟨x1, x2, x3, x4, x5, x6, x7, x8, x9, x10, x11⟩ o1 H hF1
  rw [XI] at H
  refine xS ?_
  refine xr ?_
  rcases xB Y G H with ⟨p, H, F, G, q⟩ | ⟨p, H, F, G, q⟩
  ·refine xT0 ?_
   refine w_skip ?_
   refine then_normal ?_
   refine w_cut (J9 x2 x3) (fun s => [(0, .c (.pt 1 0)), (6, .c (.os 3 14 0 s.1)), (7, .c (.os 4 11 0 s.2.2.2.2.2.2.2.1.length)), (40, .c (.d (.sl 1 (List.map (dL 11 d_Token) r3)))), (41, cI x2), (42, cI x3)]) (fun s => [[.d (.sl 2 (List.map d_Source a1)), kI s.2.1, kI a3, kI a4, .d (.sl 5 (List.map d_Macro s.2.2.1)), .sl 1 (List.map dI s.2.2.2.1) 6, .os 5 11 0 s.2.2.2.2.2.2.2.2.length, .sl 1 (List.map dI s.2.2.2.2.1) 7, kI s.2.2.2.2.2.1], [], [.arr 14 (List.map Ja s.2.2.2.2.2.2.1)], [.arr 11 (List.map d_Token s.2.2.2.2.2.2.2.1)], [.arr 11 (List.map d_Token s.2.2.2.2.2.2.2.2)]]) [3, 3] o1 ?_ ?_
   ·refine xS ?_
    obtain ⟨g, H⟩ := gsplit H
    have F := xZ Y (map_getD (dL 11 d_Token) r3 x3.toNat default default (by omega))
    refine xR0 ?_
    refine then_normal ?_
    refine w_seq ?_
    refine w_cut (Xy q2 a1 a3 a4 x2 x3 x4 x5 x6 x7 x8 x9 x10 x11) (fun s => [(0, .c (.pt 1 0)), (6, .c (.os 3 14 0 s.1)), (7, .c (.os 4 11 0 x10.length)), (9, .c (.d (.sl 11 (List.map d_Token s.2.1)))), (40, .c (.d (.sl 1 (List.map (dL 11 d_Token) r3)))), (41, cI x2), (42, cI x3), (57, cB s.2.2)]) (fun s => [[.d (.sl 2 (List.map d_Source a1)), kI x4, kI a3, kI a4, .d (.sl 5 (List.map d_Macro x5)), .sl 1 (List.map dI x6) 6, .os 5 11 0 x11.length, .sl 1 (List.map dI x7) 7, kI x8], [], [.arr 14 (List.map Ja x9)], [.arr 11 (List.map d_Token x10)], [.arr 11 (List.map d_Token x11)]]) [3, 3] o1 ?_ ?_
    ·obtain ⟨g, H⟩ := gsplit H
     have F := xZ Y (map_getD d_Token (r3.getD x3.toNat default) 0 default default (by omega))
     rcases xB F G H with ⟨p, H, F, G, q⟩ | ⟨p, H, F, G, q⟩
     ·refine xR ?_
      exact cut_at H (xK ⟨[1,2,3,4,5], [6,7]⟩)
     obtain ⟨g, H⟩ := gsplit H
     have F := xZ F (map_getD d_Token (r3.getD x3.toNat default) 0 default default (by omega))
     refine xR ?_
     exact cut_at H (xK ⟨[1,2,3,4,5], [6,7]⟩)
    rintro ⟨x21, x22, x23⟩ H
    rw [Xy] at H
    rcases xB Y G H with ⟨p, H, F, G, q⟩ | ⟨p, H, F, G, q⟩
    ·refine xT0 ?_
     refine w_cut (Xu x2 x3 x4 x5 x6 x7 x8 x9 x11) (fun s => [(0, .c (.pt 1 0)), (6, .c (.os 3 14 0 s.1)), (7, .c (.os 4 11 0 s.2.length)), (40, .c (.d (.sl 1 (List.map (dL 11 d_Token) r3)))), (41, cI x2), (42, cI x3)]) (fun s => [[.d (.sl 2 (List.map d_Source a1)), kI x4, kI a3, kI a4, .d (.sl 5 (List.map d_Macro x5)), .sl 1 (List.map dI x6) 6, .os 5 11 0 x11.length, .sl 1 (List.map dI x7) 7, kI x8], [], [.arr 14 (List.map Ja x9)], [.arr 11 (List.map d_Token s.2)], [.arr 11 (List.map d_Token x11)]]) [3, 3] o1 ?_ ?_
     ·refine xS ?_
      obtain ⟨r4, hr5, H⟩ := osplit H
      have F := Y
      refine xQ ?_
      refine xs 1 ?_
      refine xc ⟨[3], []⟩ (tabG 1 (cg2 hr5)) ?_
      refine xl ?_
      refine xS ?_
      rcases xB Y G H with ⟨p, H, F, G, q⟩ | ⟨p, H, F, G, q⟩
      ·refine xT ?_
       obtain ⟨g, H⟩ := gsplit H
       have F := xZ Y (all_map one_Token x22)
       have A := all_map one_Token x22
       refine xR ?_
       exact cut_at H (xK ⟨[1,2,3,9,5], [6,7]⟩)
      refine xE ?_
      exact cut_at H (xK ⟨[1,2,3,4,5], [6,7]⟩)
     rintro ⟨x24, x25⟩ H
     rw [Xu] at H
     refine xS ?_
     exact cut_at H (xK ⟨[1,2,3,4,5], [6,7]⟩)
    refine xE ?_
    refine xfz 4 11 (List.map d_Token x10) [] ?_
    rcases rsplit H with ⟨r5, hr6, H⟩ | ⟨e2, hr7, H⟩
    ·have F := Y
     refine xQ ?_
     refine xs 2 ?_
     refine xc ⟨[1, 5], [6, 7]⟩ (tabG 2 (cg10 hr6)) ?_
     refine xl ?_
     refine xS ?_
     refine xr ?_
     refine xr ?_
     rcases xB Y G H with ⟨p, H, F, G, q⟩ | ⟨p, H, F, G, q⟩
     ·refine xT ?_
      exact cut_at H (xK ⟨[1,2,3,0,10], [11,12]⟩)
     refine xE ?_
     rcases rsplit H with ⟨r6, hr8, H⟩ | ⟨e3, hr9, H⟩
     ·have F := Y
      refine xQ ?_
      refine xs 3 ?_
      refine xc ⟨[1, 3, 10], [11, 12]⟩ (tabG 3 (cg12 hr8)) ?_
      refine xs 5 ?_
      refine xl ?_
      refine xS ?_
      refine xr0 ?_
      refine then_normal ?_
      refine w_cut (Xt q2 a1 a3 a4 x2 x3 x5 x6 x7 x8 x22 r5 r6) (fun s => [(0, .c (.pt 1 0)), (6, .c (.os 3 14 0 s.1)), (7, .c (.sl 11 [] 0)), (9, .c (.d (.sl 11 (List.map d_Token x22)))), (40, .c (.d (.sl 1 (List.map (dL 11 d_Token) r3)))), (41, cI x2), (42, cI x3), (82, cB s.2)]) (fun s => [[.d (.sl 2 (List.map d_Source a1)), kI r6.2.2.1, kI a3, kI a4, .d (.sl 5 (List.map d_Macro x5)), .sl 1 (List.map dI x6) 5, .os 4 11 0 r5.2.length, .sl 1 (List.map dI x7) 6, kI x8], [], [.arr 14 (List.map Ja r6.2.2.2)], [.arr 11 (List.map d_Token r5.2)]]) [3, 3] o1 ?_ ?_
      ·rcases xB Y G H with ⟨p, H, F, G, q⟩ | ⟨p, H, F, G, q⟩
       ·obtain ⟨r8, hr12, H⟩ := osplit H
        have F := F
        refine xQ ?_
        refine xs 4 ?_
        refine xc ⟨[16], []⟩ (tabG 1 (cg2 hr12)) ?_
        refine xs 1 ?_
        refine xl ?_
        refine xS ?_
        exact cut_at H (xK ⟨[1,2,16,17], [18,19]⟩)
       refine xR ?_
       exact cut_at H (xK ⟨[1,2,16,17], [18,19]⟩)
      rintro ⟨x26, x27⟩ H
      rw [Xt] at H
      rcases xB Y G H with ⟨p, H, F, G, q⟩ | ⟨p, H, F, G, q⟩
      ·refine xT ?_
       rcases rsplit H with ⟨r7, hr10, H⟩ | ⟨e4, hr11, H⟩
       ·have F := Y
        refine xQ ?_
        refine xs 2 ?_
        refine xc ⟨[1, 4], [5, 6]⟩ (tabG 4 (cg10 hr10)) ?_
        refine xl ?_
        refine xS ?_
        exact cut_at H (xK ⟨[1,2,3,0,9], [10,11]⟩)
       have F := Y
       refine xQp [83, 84, 85] ?_
       refine xs 2 ?_
       refine xp ⟨[1, 4], [5, 6]⟩ (tabG 4 (cg10 hr11)) ?_
       replace H := inrO_fin H hF1
       replace H := oI H
       refine xS ?_
       subst H
       refine xpD [] ?_
       exact xOv ⟨[1, 2, 9], [10, 11]⟩
      refine xE ?_
      exact cut_at H (xK ⟨[1,2,3,0,4], [5,6]⟩)
     have F := Y
     refine xQp [70, 71, 72, 73, 69, 74, 75, 10, 11] ?_
     refine xs 3 ?_
     refine xp ⟨[1, 3, 10], [11, 12]⟩ (tabG 3 (cg12 hr9)) ?_
     replace H := inrO_fin H hF1
     replace H := oI H
     refine xS ?_
     subst H
     refine xpD [] ?_
     exact xOv ⟨[1, 2, 16], [17, 18]⟩
    have F := Y
    refine xQp [63, 64, 65] ?_
    refine xs 2 ?_
    refine xp ⟨[1, 5], [6, 7]⟩ (tabG 2 (cg10 hr7)) ?_
    replace H := inrO_fin H hF1
    replace H := oI H
    refine xS ?_
    subst H
    refine xpD [] ?_
    exact xOv ⟨[1, 2, 10], [11, 12]⟩
   rintro ⟨x12, x13, x14, x15, x16, x17, x18, x19, x20⟩ H
   rw [J9] at H
   refine xr ?_
   exact round_at (inl_fin H hF1) (xK ⟨[1,2,3,4,5], [6,7]⟩)
  replace H := inrO_fin H hF1
  refine xE ?_
  refine xfz 4 11 (List.map d_Token x10) [] ?_
  rcases rsplit H with ⟨r9, hr13, H⟩ | ⟨e5, hr14, H⟩
  ·have F := Y
   refine xQ ?_
   refine xs 2 ?_
   refine xc ⟨[1, 5], [6, 7]⟩ (tabG 2 (cg10 hr13)) ?_
   refine xl ?_
   refine xS ?_
   refine xr ?_
   rcases xB Y G H with ⟨p, H, F, G, q⟩ | ⟨p, H, F, G, q⟩
   ·refine xT ?_
    obtain ⟨hg, H⟩ := gsplit H
    have T := take_len x9 x1 hg
    have Y := xZ Y T
    refine xft 3 x1 ?_
    refine xfz 3 14 (List.map Ja (List.take x1 x9)) [] ?_
    obtain ⟨g, H⟩ := gsplit H
    have F := xZ Y (map_getD Ja (List.take x1 x9) ((IntKind.i64.wrap (((x1 : Nat) : Int) - 1)).toNat) default default (by omega))
    cases H
   replace H := oI H
   refine xE ?_
   subst H
   refine xnD [] ?_
   exact xO ⟨[1, 2, 10], [11, 12]⟩
  have F := Y
  refine xQp [87, 88, 89] ?_
  refine xs 2 ?_
  refine xp ⟨[1, 5], [6, 7]⟩ (tabG 2 (cg10 hr14)) ?_
  replace H := oI H
  refine xS ?_
  subst H
  refine xpD [] ?_
  exact xOv ⟨[1, 2, 10], [11, 12]⟩
 have F := Y
 refine xQp [37, 38] ?_
 refine xs 1 ?_
 refine xp ⟨[], []⟩ (tabG 0 (cg1 hr3)) ?_
 replace H := oI H
 refine xS ?_
 subst H
 refine xpD [] ?_
 exact xOv ⟨[1, 2, 5], [3, 6]⟩
noncomputable def V6 (a0 : List Token) (a2 : Int) (a5 : List Macro) (a6 a7 : List Int) (a8 : Int) (a9 : List Token) (r1 : Macro × Fault) : (Int × Int) → Option Yd
 | (x1, x2) => grB (Jai (⟨r1.2.Err, x1, x2⟩ : Fault)) (fun r2 => (JbX a5 r1.1).bind fun r3 => if (!eqI r3.2 0) = true then if 2 < a0.length then none else none else some (.ok (a2, r3.1, a6, a7, a8, a9))) (fun e1 => some (.er ((⟨r1.2.Err, x1, x2⟩ : Fault).Err, (⟨r1.2.Err, x1, x2⟩ : Fault).File, (⟨r1.2.Err, x1, x2⟩ : Fault).At, a2, a5, a6, a7, a8, a9)))
noncomputable def V7 (a0 : List Token) (a2 : Int) (a5 : List Macro) (a6 a7 : List Int) (a8 : Int) (a9 : List Token) (r1 : Macro × Fault) : Bool → Option Yd
 | x3 => if x3 = true then if 1 < a0.length then if 1 < a0.length then V6 a0 a2 a5 a6 a7 a8 a9 r1 ((a0.getD 1 default).File, (a0.getD 1 default).At) else none else none else V6 a0 a2 a5 a6 a7 a8 a9 r1 (r1.2.File, r1.2.At)
noncomputable def V1 (a0 : List Token) : Bool → Option Yd
 | x4 => if x4 = true then if 1 < a0.length then none else none else if 2 < a0.length then (Jaq ((a0.getD 2 default).Text)).bind fun r4 => if r4 = true then if 2 < a0.length then none else none else if 2 < a0.length then none else none else none
noncomputable def Xa (a0 : List Token) (a2 : Int) (a5 : List Macro) (a6 a7 : List Int) (a8 : Int) (a9 : List Token) : Bool → Option Yd
 | x5 => if x5 = true then if 2 < a0.length then if (a6.length + [(a0.getD 2 default).File].length) * 8 ≤ 140737488355328 then some (.ok (a2, a5, a6 ++ [(a0.getD 2 default).File], a7, a8, a9)) else none else none else some (.ok (a2, a5, a6, a7, a8, a9))
noncomputable def Xx (q1 : Int → (List Source) → Int → Int → Int → (List Macro) → (List Int) → (List Int) → Int → (List Token) → Option Yd) (q2 q3 : (List Token) → (List Source) → Int → Int → Int → (List Macro) → (List Int) → (List Int) → Int → (List Token) → Option Yd) (a0 : List Token) (a1 : List Source) (a2 a3 a4 : Int) (a5 : List Macro) (a6 a7 : List Int) (a8 : Int) (a9 : List Token) : Option Yd :=
 if 1 < a0.length then if (eqS ((a0.getD 1 default).Text) [100, 101, 102, 105, 110, 101]) = true then if (0 : Int) ≤ 2 ∧ 2 ≤ (a0.length : Int) ∧ (a0.length : Int) ≤ (a0.length : Int) then (Jct (List.drop 2 a0)).bind fun r1 => if (ltI r1.2.File 0) = true then V7 a0 a2 a5 a6 a7 a8 a9 r1 (!eqI r1.2.Err 0) else V7 a0 a2 a5 a6 a7 a8 a9 r1 false else none else if (eqS ((a0.getD 1 default).Text) [117, 110, 100, 101, 102]) = true then if (!eqI (a0.length : Int) 3) = true then V1 a0 true else if 2 < a0.length then V1 a0 (!eqI ((a0.getD 2 default).Kind) 1) else none else if (eqS ((a0.getD 1 default).Text) [105, 110, 99, 108, 117, 100, 101]) = true then grB (q3 a0 a1 a2 a3 a4 a5 a6 a7 a8 a9) (fun r5 => some (.ok (r5.1, r5.2.1, r5.2.2.1, r5.2.2.2.1, r5.2.2.2.2.1, r5.2.2.2.2.2))) (fun e2 => some (.er (e2.1, e2.2.1, e2.2.2.1, e2.2.2.2.1, e2.2.2.2.2.1, e2.2.2.2.2.2.1, e2.2.2.2.2.2.2.1, e2.2.2.2.2.2.2.2.1, e2.2.2.2.2.2.2.2.2))) else if (eqS ((a0.getD 1 default).Text) [101, 114, 114, 111, 114]) = true then if 1 < a0.length then none else none else if (eqS ((a0.getD 1 default).Text) [112, 114, 97, 103, 109, 97]) = true then if (eqI (a0.length : Int) 3) = true then if 2 < a0.length then Xa a0 a2 a5 a6 a7 a8 a9 (eqS ((a0.getD 2 default).Text) [111, 110, 99, 101]) else none else Xa a0 a2 a5 a6 a7 a8 a9 false else if 1 < a0.length then none else none else none
theorem Jdu (q1 : Int → (List Source) → Int → Int → Int → (List Macro) → (List Int) → (List Int) → Int → (List Token) → Option Yd) (q2 q3 : (List Token) → (List Source) → Int → Int → Int → (List Macro) → (List Int) → (List Int) → Int → (List Token) → Option Yd) (kq1 : Kok Tryz.prog 24 false (JJ q1)) (kq2 : Kok Tryz.prog 38 false (JW q2)) (kq3 : Kok Tryz.prog 60 false (JI q3)) : ∀ g, JW (Xx q1 q2 q3) g → GenOk Tryz.prog 38 g := by
 rintro _ ⟨a0, a1, a2, a3, a4, a5, a6, a7, a8, a9, r, H, rfl⟩
 refine xGnl mixed [5] [(56, Jci), (57, Jb9), (58, Jaj)] [(33, false, XT), (60, false, (JI q3))] [] ⟨⟨call_56, JfC⟩, ⟨call_57, Jfn⟩, ⟨call_58, Jde⟩, trivial⟩ ⟨X1, kq3, trivial⟩ trivial Tryz.func38 _ ?_
 have G := True.intro
 have Y := xZ y_3 <| xZ y_9 <| xZ y_24 <| xZ y_25 <| xZ y_28 <| xZ y_29 <| xZ y_31 <| xZ y_44 <| xZ y_63 <| xZ y_65 <| xZ Tryz.results38 <| xZ d_Source.eq_1 <| xZ d_Call.eq_1 <| xZ d_Token.eq_1 <| xZ d_Macro.eq_1 <| xZ d_Limits.eq_1 <| xZ d_Fault.eq_1 <| xZ XX.eq_1 <| xZ Vy.eq_1 <| XD.eq_1
 dsimp only [XD]
 simp only [Xx] at H
 refine xS ?_
 refine xrn 2 1 ?_
 obtain ⟨g, H⟩ := gsplit H
 have F := xZ Y (map_getD d_Token a0 1 default default (by omega))
 refine xR ?_
 refine xr ?_
 rcases xB Y G H with ⟨p, H, F, G, q⟩ | ⟨p, H, F, G, q⟩
 ·refine xT ?_
  obtain ⟨g, H⟩ := gsplit H
  obtain ⟨r1, hr1, H⟩ := osplit H
  have F := xC Y (JfU (List.drop 2 a0) r1 hr1)
  refine xR0 ?_
  refine then_normal ?_
  refine w_cut (V6 a0 a2 a5 a6 a7 a8 a9 r1) (fun s => [(0, .c (.pt 1 0)), (1, .c (.d (.sl 11 (List.map d_Token a0)))), (4, .c (.pt 3 0)), (5, .c (.pt 4 0))]) (fun s => [[.d (.sl 2 (List.map d_Source a1)), kI a2, kI a3, kI a4, .d (.sl 5 (List.map d_Macro a5)), .sl 1 (List.map dI a6) 6, .os 5 11 0 a9.length, .sl 1 (List.map dI a7) 7, kI a8], [], [kS r1.1.Name, kB r1.1.Call, .d (.sl 1 (List.map dS r1.1.Params)), kB r1.1.More, .d (.sl 11 (List.map d_Token r1.1.Body))], [kI r1.2.Err, kI s.1, kI s.2], [.arr 11 (List.map d_Token a9)]]) [3, 3] r ?_ ?_
  ·refine w_cut (V7 a0 a2 a5 a6 a7 a8 a9 r1) (fun s => [(0, .c (.pt 1 0)), (1, .c (.d (.sl 11 (List.map d_Token a0)))), (4, .c (.pt 3 0)), (5, .c (.pt 4 0)), (30, cB s)]) (fun s => [[.d (.sl 2 (List.map d_Source a1)), kI a2, kI a3, kI a4, .d (.sl 5 (List.map d_Macro a5)), .sl 1 (List.map dI a6) 6, .os 5 11 0 a9.length, .sl 1 (List.map dI a7) 7, kI a8], [], [kS r1.1.Name, kB r1.1.Call, .d (.sl 1 (List.map dS r1.1.Params)), kB r1.1.More, .d (.sl 11 (List.map d_Token r1.1.Body))], [kI r1.2.Err, kI r1.2.File, kI r1.2.At], [.arr 11 (List.map d_Token a9)]]) [3, 3] r ?_ ?_
   ·rcases xB Y G H with ⟨p, H, F, G, q⟩ | ⟨p, H, F, G, q⟩
    ·refine xR ?_
     exact cut_at H (xK ⟨[1,2,6,7,5], [3,4]⟩)
    refine xR ?_
    exact cut_at H (xK ⟨[1,2,6,7,5], [3,4]⟩)
   rintro x3 H
   rw [V7] at H
   rcases xB Y G H with ⟨p, H, F, G, q⟩ | ⟨p, H, F, G, q⟩
   ·refine xT ?_
    obtain ⟨g, H⟩ := gsplit H
    have F := xZ Y (map_getD d_Token a0 1 default default (by omega))
    obtain ⟨g, H⟩ := gsplit H
    have F := xZ F (map_getD d_Token a0 1 default default (by omega))
    refine xP [0, 1, 2, 3, 4, 5, 6, 7, 8, 9, 10, 11] [38] ⟨X1, kq3, trivial⟩ ?_
    refine xsX 7 ?_
    refine xaX ?_
    refine xsX 1 ?_
    refine xbX ?_
    refine xsX 1 ?_
    refine xbX ?_
    refine xlX ?_
    refine xS ?_
    exact cut_at H (xK ⟨[1,2,3,4,5], [6,7]⟩)
   refine xE ?_
   exact cut_at H (xK ⟨[1,2,3,4,5], [6,7]⟩)
  rintro ⟨x1, x2⟩ H
  rw [V6] at H
  refine xS ?_
  rcases rsplit H with ⟨r2, hr2, H⟩ | ⟨e1, hr3, H⟩
  ·have F := Y
   refine xQ ?_
   refine xs 1 ?_
   refine xc ⟨[], []⟩ (tabG 0 (cg1 hr2)) ?_
   refine xl ?_
   refine xS ?_
   obtain ⟨r3, hr4, H⟩ := osplit H
   have F := xC Y (JfS a5 r1.1 r3 hr4)
   refine xR ?_
   refine xr ?_
   rcases xB Y G H with ⟨p, H, F, G, q⟩ | ⟨p, H, F, G, q⟩
   ·refine xT ?_
    obtain ⟨g, H⟩ := gsplit H
    have F := xZ Y (map_getD d_Token a0 2 default default (by omega))
    cases H
   refine xE ?_
   replace H := oI H
   refine xr ?_
   subst H
   refine xnD [] ?_
   exact xO ⟨[1, 2, 5], [6, 7]⟩
  have F := Y
  refine xQp [41, 42] ?_
  refine xs 1 ?_
  refine xp ⟨[], []⟩ (tabG 0 (cg1 hr3)) ?_
  replace H := oI H
  refine xS ?_
  subst H
  refine xpD [] ?_
  exact xOv ⟨[1, 2, 5], [6, 7]⟩
 refine xE ?_
 refine xr ?_
 rcases xB Y G H with ⟨p, H, F, G, q⟩ | ⟨p, H, F, G, q⟩
 ·refine xT0 ?_
  refine w_seq ?_
  refine w_cut (V1 a0) (fun s => [(0, .c (.pt 1 0)), (1, .c (.d (.sl 11 (List.map d_Token a0)))), (73, cB s)]) (fun s => [[.d (.sl 2 (List.map d_Source a1)), kI a2, kI a3, kI a4, .d (.sl 5 (List.map d_Macro a5)), .sl 1 (List.map dI a6) 4, .os 3 11 0 a9.length, .sl 1 (List.map dI a7) 5, kI a8], [], [.arr 11 (List.map d_Token a9)]]) [3, 3] r ?_ ?_
  ·rcases xB Y G H with ⟨p, H, F, G, q⟩ | ⟨p, H, F, G, q⟩
   ·refine xR ?_
    exact cut_at H (xK ⟨[1,2,5], [3,4]⟩)
   obtain ⟨g, H⟩ := gsplit H
   have F := xZ F (map_getD d_Token a0 2 default default (by omega))
   refine xR ?_
   exact cut_at H (xK ⟨[1,2,5], [3,4]⟩)
  rintro x4 H
  rw [V1] at H
  rcases xB Y G H with ⟨p, H, F, G, q⟩ | ⟨p, H, F, G, q⟩
  ·refine xT ?_
   obtain ⟨g, H⟩ := gsplit H
   have F := xZ Y (map_getD d_Token a0 1 default default (by omega))
   cases H
  refine xE ?_
  obtain ⟨g, H⟩ := gsplit H
  have F := xZ Y (map_getD d_Token a0 2 default default (by omega))
  obtain ⟨r4, hr5, H⟩ := osplit H
  have F := xCf F (Jdo ((a0.getD 2 default).Text) r4 hr5)
  refine xR ?_
  rcases xB Y G H with ⟨p, H, F, G, q⟩ | ⟨p, H, F, G, q⟩
  ·refine xT ?_
   obtain ⟨g, H⟩ := gsplit H
   have F := xZ Y (map_getD d_Token a0 2 default default (by omega))
   cases H
  refine xE ?_
  obtain ⟨g, H⟩ := gsplit H
  have F := xZ Y (map_getD d_Token a0 2 default default (by omega))
  cases H
 refine xE ?_
 refine xr ?_
 rcases xB Y G H with ⟨p, H, F, G, q⟩ | ⟨p, H, F, G, q⟩
 ·refine xT ?_
  rcases rsplit H with ⟨r5, hr6, H⟩ | ⟨e2, hr7, H⟩
  ·have F := Y
   refine xQ ?_
   refine xs 2 ?_
   refine xc ⟨[1, 5], [3, 4]⟩ (tabG 1 (cg10 hr6)) ?_
   refine xl ?_
   replace H := oI H
   refine xS ?_
   subst H
   refine xnD [] ?_
   exact xO ⟨[1, 2, 8], [9, 10]⟩
  have F := Y
  refine xQp [99, 100, 101] ?_
  refine xs 2 ?_
  refine xp ⟨[1, 5], [3, 4]⟩ (tabG 1 (cg10 hr7)) ?_
  replace H := oI H
  refine xS ?_
  subst H
  refine xpD [] ?_
  exact xOv ⟨[1, 2, 8], [9, 10]⟩
 refine xE ?_
 refine xr ?_
 rcases xB Y G H with ⟨p, H, F, G, q⟩ | ⟨p, H, F, G, q⟩
 ·refine xT ?_
  obtain ⟨g, H⟩ := gsplit H
  have F := xZ Y (map_getD d_Token a0 1 default default (by omega))
  cases H
 refine xE ?_
 refine xr ?_
 rcases xB Y G H with ⟨p, H, F, G, q⟩ | ⟨p, H, F, G, q⟩
 ·refine xT0 ?_
  refine w_cut (Xa a0 a2 a5 a6 a7 a8 a9) (fun s => [(0, .c (.pt 1 0)), (1, .c (.d (.sl 11 (List.map d_Token a0)))), (118, cB s)]) (fun s => [[.d (.sl 2 (List.map d_Source a1)), kI a2, kI a3, kI a4, .d (.sl 5 (List.map d_Macro a5)), .sl 1 (List.map dI a6) 4, .os 3 11 0 a9.length, .sl 1 (List.map dI a7) 5, kI a8], [], [.arr 11 (List.map d_Token a9)]]) [3, 3] r ?_ ?_
  ·rcases xB Y G H with ⟨p, H, F, G, q⟩ | ⟨p, H, F, G, q⟩
   ·obtain ⟨g, H⟩ := gsplit H
    have F := xZ F (map_getD d_Token a0 2 default default (by omega))
    refine xR ?_
    exact cut_at H (xK ⟨[1,2,5], [3,4]⟩)
   refine xR ?_
   exact cut_at H (xK ⟨[1,2,5], [3,4]⟩)
  rintro x5 H
  rw [Xa] at H
  rcases xB Y G H with ⟨p, H, F, G, q⟩ | ⟨p, H, F, G, q⟩
  ·refine xT ?_
   obtain ⟨g, H⟩ := gsplit H
   have F := xZ Y (map_getD d_Token a0 2 default default (by omega))
   obtain ⟨g, H⟩ := gsplit H
   have F := xZ F (all_map one_dI [(a0.getD 2 default).File])
   replace H := oI H
   refine xR ?_
   subst H
   refine xnD [] ?_
   exact xO ⟨[1, 2, 3], [6, 5]⟩
  replace H := oI H
  refine xE ?_
  subst H
  refine xnD [] ?_
  exact xO ⟨[1, 2, 3], [4, 5]⟩
 refine xE ?_
 obtain ⟨g, H⟩ := gsplit H
 have F := xZ Y (map_getD d_Token a0 1 default default (by omega))
 cases H
noncomputable def Ka (q1 : Int → (List Source) → Int → Int → Int → (List Macro) → (List Int) → (List Int) → Int → (List Token) → Option Yd) (a0 : List Token) (a1 : List Source) (a2 a3 a4 : Int) (a5 : List Macro) (a6 a7 : List Int) (a8 : Int) (a9 : List Token) : Bool → Option Yd
 | x1 => if x1 = true then if 1 < a0.length then (Ja1 2 (a0.getD 1 default)).bind fun e1 => some (.er (2, (a0.getD 1 default).File, (a0.getD 1 default).At, a2, a5, a6, a7, a8, a9)) else none else if 2 < a0.length then if 2 < a0.length then if (0 : Int) ≤ 1 ∧ 1 ≤ (IntKind.i64.wrap ((((a0.getD 2 default).Text).length : Int) - 1)) ∧ (IntKind.i64.wrap ((((a0.getD 2 default).Text).length : Int) - 1)) ≤ (((a0.getD 2 default).Text).length : Int) then if 2 < a0.length then if 2 < a0.length then (JbH a1 ((a0.getD 2 default).File) (List.take ((IntKind.i64.wrap ((((a0.getD 2 default).Text).length : Int) - 1)).toNat - 1) (List.drop 1 ((a0.getD 2 default).Text))) (eqI ((a0.getD 2 default).Kind) 4)).bind fun r2 => if (ltI r2 0) = true then if 2 < a0.length then (Ja1 6 (a0.getD 2 default)).bind fun e2 => some (.er (6, (a0.getD 2 default).File, (a0.getD 2 default).At, a2, a5, a6, a7, a8, a9)) else none else (KF a6 r2).bind fun r4 => if r4 = true then some (.ok (a2, a5, a6, a7, a8, a9)) else if (leI a4 a8) = true then if 2 < a0.length then (Ja1 10 (a0.getD 2 default)).bind fun e3 => some (.er (10, (a0.getD 2 default).File, (a0.getD 2 default).At, a2, a5, a6, a7, a8, a9)) else none else grB (q1 r2 a1 a2 a3 a4 a5 a6 a7 (IntKind.i64.wrap (a8 + 1)) a9) (fun r6 => some (.ok (r6.1, r6.2.1, r6.2.2.1, r6.2.2.2.1, IntKind.i64.wrap (r6.2.2.2.2.1 - 1), r6.2.2.2.2.2))) (fun e4 => some (.er (e4.1, e4.2.1, e4.2.2.1, e4.2.2.2.1, e4.2.2.2.2.1, e4.2.2.2.2.2.1, e4.2.2.2.2.2.2.1, e4.2.2.2.2.2.2.2.1, e4.2.2.2.2.2.2.2.2))) else none else none else none else none else none
noncomputable def VB (q1 : Int → (List Source) → Int → Int → Int → (List Macro) → (List Int) → (List Int) → Int → (List Token) → Option Yd) (q2 q3 : (List Token) → (List Source) → Int → Int → Int → (List Macro) → (List Int) → (List Int) → Int → (List Token) → Option Yd) (a0 : List Token) (a1 : List Source) (a2 a3 a4 : Int) (a5 : List Macro) (a6 a7 : List Int) (a8 : Int) (a9 : List Token) : Option Yd :=
 if (!eqI (a0.length : Int) 3) = true then Ka q1 a0 a1 a2 a3 a4 a5 a6 a7 a8 a9 true else if 2 < a0.length then if (!eqI ((a0.getD 2 default).Kind) 4) = true then if 2 < a0.length then Ka q1 a0 a1 a2 a3 a4 a5 a6 a7 a8 a9 (!eqI ((a0.getD 2 default).Kind) 7) else none else Ka q1 a0 a1 a2 a3 a4 a5 a6 a7 a8 a9 false else none
theorem Jc9 (q1 : Int → (List Source) → Int → Int → Int → (List Macro) → (List Int) → (List Int) → Int → (List Token) → Option Yd) (q2 q3 : (List Token) → (List Source) → Int → Int → Int → (List Macro) → (List Int) → (List Int) → Int → (List Token) → Option Yd) (kq1 : Kok Tryz.prog 24 false (JJ q1)) (kq2 : Kok Tryz.prog 38 false (JW q2)) (kq3 : Kok Tryz.prog 60 false (JI q3)) : ∀ g, JI (VB q1 q2 q3) g → GenOk Tryz.prog 60 g := by
 rintro _ ⟨a0, a1, a2, a3, a4, a5, a6, a7, a8, a9, r, H, rfl⟩
 refine xGn mixed [(90, JbL), (91, Vr)] [(39, false, JaR), (24, false, (JJ q1))] [] ⟨⟨call_90, Je8⟩, ⟨call_91, Jcj⟩, trivial⟩ ⟨Jb7, kq1, trivial⟩ trivial Tryz.func60 _ ?_
 have G := True.intro
 have Y := xZ y_3 <| xZ y_9 <| xZ y_24 <| xZ y_25 <| xZ y_37 <| xZ y_39 <| xZ y_44 <| xZ y_65 <| xZ Tryz.results60 <| xZ d_Source.eq_1 <| xZ d_Call.eq_1 <| xZ d_Token.eq_1 <| xZ d_Macro.eq_1 <| xZ d_Limits.eq_1 <| xZ JaZ.eq_1 <| xZ Vg.eq_1 <| Vy.eq_1
 dsimp only [Vy]
 simp only [VB] at H
 refine w_seq ?_
 refine w_cut (Ka q1 a0 a1 a2 a3 a4 a5 a6 a7 a8 a9) (fun s => [(0, .c (.pt 1 0)), (1, .c (.d (.sl 11 (List.map d_Token a0)))), (22, cB s)]) (fun s => [[.d (.sl 2 (List.map d_Source a1)), kI a2, kI a3, kI a4, .d (.sl 5 (List.map d_Macro a5)), .sl 1 (List.map dI a6) 4, .os 3 11 0 a9.length, .sl 1 (List.map dI a7) 5, kI a8], [], [.arr 11 (List.map d_Token a9)]]) [3, 3] r ?_ ?_
 ·refine xrn 2 1 ?_
  rcases xB Y G H with ⟨p, H, F, G, q⟩ | ⟨p, H, F, G, q⟩
  ·refine xR ?_
   exact cut_at H (xK ⟨[1,2,5], [3,4]⟩)
  obtain ⟨g, H⟩ := gsplit H
  have F := xZ F (map_getD d_Token a0 2 default default (by omega))
  rcases xB F G H with ⟨p, H, F, G, q⟩ | ⟨p, H, F, G, q⟩
  ·obtain ⟨g, H⟩ := gsplit H
   have F := xZ F (map_getD d_Token a0 2 default default (by omega))
   refine xR ?_
   exact cut_at H (xK ⟨[1,2,5], [3,4]⟩)
  refine xR ?_
  exact cut_at H (xK ⟨[1,2,5], [3,4]⟩)
 rintro x1 H
 rw [Ka] at H
 rcases xB Y G H with ⟨p, H, F, G, q⟩ | ⟨p, H, F, G, q⟩
 ·refine xT ?_
  obtain ⟨g, H⟩ := gsplit H
  have F := xZ Y (map_getD d_Token a0 1 default default (by omega))
  obtain ⟨e1, hr2, H⟩ := osplit H
  have F := F
  refine xQp [23, 24, 25] ?_
  refine xs 2 ?_
  refine xp ⟨[], []⟩ (tabG 0 (cg2 hr2)) ?_
  replace H := oI H
  refine xS ?_
  subst H
  refine xpD [] ?_
  exact xOv ⟨[1, 2, 3], [4, 5]⟩
 refine xE ?_
 obtain ⟨g, H⟩ := gsplit H
 have F := xZ Y (map_getD d_Token a0 2 default default (by omega))
 obtain ⟨g, H⟩ := gsplit H
 have F := xZ F (map_getD d_Token a0 2 default default (by omega))
 obtain ⟨g, H⟩ := gsplit H
 refine xR ?_
 obtain ⟨g, H⟩ := gsplit H
 have F := xZ Y (map_getD d_Token a0 2 default default (by omega))
 obtain ⟨g, H⟩ := gsplit H
 have F := xZ F (map_getD d_Token a0 2 default default (by omega))
 obtain ⟨r2, hr3, H⟩ := osplit H
 have F := xCf F (Jfw a1 ((a0.getD 2 default).File) (List.take ((IntKind.i64.wrap ((((a0.getD 2 default).Text).length : Int) - 1)).toNat - 1) (List.drop 1 ((a0.getD 2 default).Text))) (eqI ((a0.getD 2 default).Kind) 4) r2 hr3)
 refine xR ?_
 refine xr ?_
 rcases xB Y G H with ⟨p, H, F, G, q⟩ | ⟨p, H, F, G, q⟩
 ·refine xT ?_
  obtain ⟨g, H⟩ := gsplit H
  have F := xZ Y (map_getD d_Token a0 2 default default (by omega))
  obtain ⟨e2, hr5, H⟩ := osplit H
  have F := F
  refine xQp [55, 56, 57] ?_
  refine xs 2 ?_
  refine xp ⟨[], []⟩ (tabG 0 (cg2 hr5)) ?_
  replace H := oI H
  refine xS ?_
  subst H
  refine xpD [] ?_
  exact xOv ⟨[1, 2, 3], [4, 5]⟩
 refine xE ?_
 obtain ⟨r4, hr6, H⟩ := osplit H
 have F := xC Y (JcD a6 r2 r4 hr6)
 refine xR ?_
 rcases xB Y G H with ⟨p, H, F, G, q⟩ | ⟨p, H, F, G, q⟩
 ·replace H := oI H
  refine xT ?_
  subst H
  refine xrD [] ?_
  exact xO ⟨[1, 2, 3], [4, 5]⟩
 refine xE ?_
 refine xr ?_
 rcases xB Y G H with ⟨p, H, F, G, q⟩ | ⟨p, H, F, G, q⟩
 ·refine xT ?_
  obtain ⟨g, H⟩ := gsplit H
  have F := xZ Y (map_getD d_Token a0 2 default default (by omega))
  obtain ⟨e3, hr8, H⟩ := osplit H
  have F := F
  refine xQp [76, 77, 78] ?_
  refine xs 2 ?_
  refine xp ⟨[], []⟩ (tabG 0 (cg2 hr8)) ?_
  replace H := oI H
  refine xS ?_
  subst H
  refine xpD [] ?_
  exact xOv ⟨[1, 2, 3], [4, 5]⟩
 refine xE ?_
 refine xr ?_
 rcases rsplit H with ⟨r6, hr9, H⟩ | ⟨e4, hr10, H⟩
 ·have F := Y
  refine xQ ?_
  refine xs 2 ?_
  refine xc ⟨[1, 3], [4, 5]⟩ (tabG 1 (cg10 hr9)) ?_
  refine xl ?_
  refine xS ?_
  replace H := oI H
  refine xr ?_
  subst H
  refine xnD [] ?_
  exact xO ⟨[1, 2, 8], [9, 10]⟩
 have F := Y
 refine xQp [86, 87, 88] ?_
 refine xs 2 ?_
 refine xp ⟨[1, 3], [4, 5]⟩ (tabG 1 (cg10 hr10)) ?_
 replace H := oI H
 refine xS ?_
 subst H
 refine xpD [] ?_
 exact xOv ⟨[1, 2, 8], [9, 10]⟩
noncomputable def Jb : Nat → Yc × Yb × Yb
 | 0 => (fun _ _ _ _ _ _ _ _ _ _ => none, fun _ _ _ _ _ _ _ _ _ _ => none, fun _ _ _ _ _ _ _ _ _ _ => none)
 | n + 1 => (X7 ((Jb n).1) ((Jb n).2.1) ((Jb n).2.2), Xx ((Jb n).1) ((Jb n).2.1) ((Jb n).2.2), VB ((Jb n).1) ((Jb n).2.1) ((Jb n).2.2))
theorem Jbi : ∀ n, Kok Tryz.prog 24 false (JJ (Jb n).1) ∧ Kok Tryz.prog 38 false (JW (Jb n).2.1) ∧ Kok Tryz.prog 60 false (JI (Jb n).2.2)
 | 0 => ⟨⟨call_24, (by rintro _ ⟨_, _, _, _, _, _, _, _, _, _, _, H, _⟩; cases H), nofun⟩, ⟨call_38, (by rintro _ ⟨_, _, _, _, _, _, _, _, _, _, _, H, _⟩; cases H), nofun⟩, ⟨call_60, (by rintro _ ⟨_, _, _, _, _, _, _, _, _, _, _, H, _⟩; cases H), nofun⟩⟩
 | n + 1 => have h := Jbi n; ⟨⟨call_24, JdJ _ _ _ h.1 h.2.1 h.2.2, nofun⟩, ⟨call_38, Jdu _ _ _ h.1 h.2.1 h.2.2, nofun⟩, ⟨call_60, Jc9 _ _ _ h.1 h.2.1 h.2.2, nofun⟩⟩
noncomputable def ZK : Int → (List Source) → Int → Int → Int → (List Macro) → (List Int) → (List Int) → Int → (List Token) → Option Yd := (Jb bigF).1
def Jcf : GI → Prop := JJ ZK
theorem X3 : Kok Tryz.prog 24 false Jcf := (Jbi bigF).1
noncomputable def Jbn (a0 a1 a2 : Int) : Option Unit :=
 some ()
def di_drive_guard (a0 a1 a2 : Int) (r : Unit) : DI :=
 ⟨[.c (.pt 1 0)], [[kI a0, kI a1, kI a2]], [], none, [[kI a0, kI a1, kI a2]], [], none⟩
def SD_drive_guard : DI → Prop := fun d => ∃ (a0 a1 a2 : Int) (r : Unit), Jbn a0 a1 a2 = some r ∧ d = di_drive_guard a0 a1 a2 r
theorem JfF (a0 a1 a2 : Int) (r : Unit) (H : Jbn a0 a1 a2 = some r) : SD_drive_guard (di_drive_guard a0 a1 a2 r) := ⟨a0, a1, a2, r, H, rfl⟩
theorem Jfk : ∀ d, SD_drive_guard d → DOk Tryz.prog 23 d := by
 rintro _ ⟨a0, a1, a2, r, H, rfl⟩
 refine xRcl mixed [] [] [] trivial trivial Tryz.func23 _ ?_
 have G := True.intro
 have Y := xZ y_20 <| xZ y_31 <| xZ y_78 <| xZ Tryz.results23 <| xZ d_Fault.eq_1 <| di_drive_guard.eq_1
 dsimp only [di_drive_guard, Option.getD_some, Option.getD_none]
 unfold Jbn at H
 refine xS ?_
 refine xr ?_
 refine xt ?_
 replace H := oI H
 refine xr ?_
 subst H
 exact xDn ⟨[1], []⟩
noncomputable def Jbs (a0 a1 a2 : Int) (a3 : List Token) (a4 : List Int) (a5 : List Macro) : Option Yu :=
 if (!eqI a0 0) = true then some (([] : List Token), ([] : List Int), ([] : List Macro)) else some (a3, a4, a5)
def di_drive_Run_1 (a0 a1 a2 : Int) (a3 : List Token) (a4 : List Int) (a5 : List Macro) (r : Yu) (u : Option Value) : DI :=
 ⟨[.c (.pt 1 0), .c (.pt 2 0), .c (.pt 3 0)], [[kI a0, kI a1, kI a2], [.d (.sl 11 (List.map d_Token a3)), .sl 1 (List.map dI a4) 4], [.d (.sl 5 (List.map d_Macro a5))]], [3], u, [[kI a0, kI a1, kI a2], [.d (.sl 11 (List.map d_Token r.1)), .sl 1 (List.map dI r.2.1) 4], [.d (.sl 5 (List.map d_Macro r.2.2))]], [3], u⟩
def SD_drive_Run_1 : DI → Prop := fun d => ∃ (a0 a1 a2 : Int) (a3 : List Token) (a4 : List Int) (a5 : List Macro) (r : Yu) (u : Option Value), Jbs a0 a1 a2 a3 a4 a5 = some r ∧ d = di_drive_Run_1 a0 a1 a2 a3 a4 a5 r u
theorem JfK (a0 a1 a2 : Int) (a3 : List Token) (a4 : List Int) (a5 : List Macro) (r : Yu) (u : Option Value) (H : Jbs a0 a1 a2 a3 a4 a5 = some r) : SD_drive_Run_1 (di_drive_Run_1 a0 a1 a2 a3 a4 a5 r u) := ⟨a0, a1, a2, a3, a4, a5, r, u, H, rfl⟩
theorem Jfc : ∀ d, SD_drive_Run_1 d → DOk Tryz.prog 22 d := by
 rintro _ ⟨a0, a1, a2, a3, a4, a5, r, u, H, rfl⟩
 refine xDf mixed [] [] trivial trivial Tryz.func22 _ ?_
 have G := True.intro
 have Y := xZ y_24 <| xZ y_25 <| xZ y_27 <| xZ y_28 <| xZ y_29 <| xZ y_31 <| xZ Tryz.results22 <| xZ d_Call.eq_1 <| xZ d_Token.eq_1 <| xZ d_Macro.eq_1 <| di_drive_Run_1.eq_1
 dsimp only [di_drive_Run_1]
 simp only [Jbs] at H
 refine xS ?_
 refine xr ?_
 rcases xB Y G H with ⟨p, H, F, G, q⟩ | ⟨p, H, F, G, q⟩
 ·refine xT ?_
  replace H := oI H
  refine xr ?_
  subst H
  exact xDn ⟨[1, 2, 3], [0]⟩
 replace H := oI H
 refine xE ?_
 subst H
 exact xDn ⟨[1, 2, 3], [4]⟩
noncomputable def ZS (a0 a1 a2 a3 a4 a5 : Int) : Option Unit :=
 some ()
def di_drive_guard_v2 (a0 a1 a2 a3 a4 a5 : Int) (r : Unit) : DI :=
 ⟨[.c (.pt 1 0)], [[kI a0, kI a1, kI a2]], [], (some (.iface 78 (.agg ⟨[.int .i64 a3, .int .i64 a4, .int .i64 a5]⟩))), [[kI a3, kI a4, kI a5]], [], none⟩
def SD_drive_guard_v2 : DI → Prop := fun d => ∃ (a0 a1 a2 a3 a4 a5 : Int) (r : Unit), ZS a0 a1 a2 a3 a4 a5 = some r ∧ d = di_drive_guard_v2 a0 a1 a2 a3 a4 a5 r
theorem Je2 (a0 a1 a2 a3 a4 a5 : Int) (r : Unit) (H : ZS a0 a1 a2 a3 a4 a5 = some r) : SD_drive_guard_v2 (di_drive_guard_v2 a0 a1 a2 a3 a4 a5 r) := ⟨a0, a1, a2, a3, a4, a5, r, H, rfl⟩
theorem JeQ : ∀ d, SD_drive_guard_v2 d → DOk Tryz.prog 23 d := by
 rintro _ ⟨a0, a1, a2, a3, a4, a5, r, H, rfl⟩
 refine xRcl mixed [] [] [] trivial trivial Tryz.func23 _ ?_
 have G := True.intro
 have Y := xZ y_20 <| xZ y_31 <| xZ y_78 <| xZ Tryz.results23 <| xZ d_Fault.eq_1 <| di_drive_guard_v2.eq_1
 dsimp only [di_drive_guard_v2, Option.getD_some, Option.getD_none]
 unfold ZS at H
 refine xS ?_
 refine xr ?_
 refine xe ?_
 refine xr ?_
 refine xt ?_
 refine xr ?_
 replace H := oI H
 refine xr ?_
 subst H
 exact xDn ⟨[1], []⟩
noncomputable def ZR (a0 a1 a2 : Int) (a3 : List Token) (a4 : List Int) (a5 : List Macro) : Option Yu :=
 if (!eqI a0 0) = true then some (([] : List Token), ([] : List Int), ([] : List Macro)) else some (a3, a4, a5)
def di_drive_Run_1_v2 (a0 a1 a2 : Int) (a3 : List Token) (a4 : List Int) (a5 : List Macro) (r : Yu) (u : Option Value) : DI :=
 ⟨[.c (.pt 1 0), .c (.pt 2 0), .c (.pt 3 0)], [[kI a0, kI a1, kI a2], [.sl 11 (List.map d_Token a3) 4, .sl 1 (List.map dI a4) 5], [.sl 5 (List.map d_Macro a5) 6]], [44, 3, 63], u, [[kI a0, kI a1, kI a2], [.sl 11 (List.map d_Token r.1) 4, .sl 1 (List.map dI r.2.1) 5], [.sl 5 (List.map d_Macro r.2.2) 6]], [44, 3, 63], u⟩
def SD_drive_Run_1_v2 : DI → Prop := fun d => ∃ (a0 a1 a2 : Int) (a3 : List Token) (a4 : List Int) (a5 : List Macro) (r : Yu) (u : Option Value), ZR a0 a1 a2 a3 a4 a5 = some r ∧ d = di_drive_Run_1_v2 a0 a1 a2 a3 a4 a5 r u
theorem JeT (a0 a1 a2 : Int) (a3 : List Token) (a4 : List Int) (a5 : List Macro) (r : Yu) (u : Option Value) (H : ZR a0 a1 a2 a3 a4 a5 = some r) : SD_drive_Run_1_v2 (di_drive_Run_1_v2 a0 a1 a2 a3 a4 a5 r u) := ⟨a0, a1, a2, a3, a4, a5, r, u, H, rfl⟩
theorem JeI : ∀ d, SD_drive_Run_1_v2 d → DOk Tryz.prog 22 d := by
 rintro _ ⟨a0, a1, a2, a3, a4, a5, r, u, H, rfl⟩
 refine xDf mixed [] [] trivial trivial Tryz.func22 _ ?_
 have G := True.intro
 have Y := xZ y_24 <| xZ y_25 <| xZ y_27 <| xZ y_28 <| xZ y_29 <| xZ y_31 <| xZ Tryz.results22 <| xZ d_Call.eq_1 <| xZ d_Token.eq_1 <| xZ d_Macro.eq_1 <| di_drive_Run_1_v2.eq_1
 dsimp only [di_drive_Run_1_v2]
 simp only [ZR] at H
 refine xS ?_
 refine xr ?_
 rcases xB Y G H with ⟨p, H, F, G, q⟩ | ⟨p, H, F, G, q⟩
 ·refine xT ?_
  replace H := oI H
  refine xr ?_
  subst H
  exact xDn ⟨[1, 2, 3], [0, 0, 0]⟩
 replace H := oI H
 refine xE ?_
 subst H
 exact xDn ⟨[1, 2, 3], [4, 5, 6]⟩
noncomputable def Kk (a0 : List Source) (a1 : Int) (a2 : List Macro) (a3 : Limits) : Bool → Option Ym
 | x2 => if x2 = true then some (([] : List Token), ([] : List Int), ([] : List Macro), 3, (-1), 0) else (Jl a2).bind fun r2 => grB (ZK a1 a0 a3.Fuel a3.Out a3.Deep a2 ([] : List Int) ([] : List Int) 0 []) (fun r3 => (Jbn 0 (-1) 0).bind fun r4 => (Jbs 0 (-1) 0 r3.2.2.2.2.2 r3.2.2.2.1 r3.2.1).bind fun r5 => some (r5.1, r5.2.1, r5.2.2, 0, (-1), 0)) (fun e1 => (ZS 0 0 0 e1.1 e1.2.1 e1.2.2.1).bind fun r6 => (ZR e1.1 e1.2.1 e1.2.2.1 ([] : List Token) ([] : List Int) ([] : List Macro)).bind fun r7 => some (r7.1, r7.2.1, r7.2.2, e1.1, e1.2.1, e1.2.2.1))
noncomputable def Z3 (a0 : List Source) (a1 : Int) (a2 : List Macro) (a3 : Limits) : Bool → Option Ym
 | x1 => if x1 = true then some (([] : List Token), ([] : List Int), ([] : List Macro), 6, (-1), 0) else if (ltI a3.Fuel 0) = true then Kk a0 a1 a2 a3 true else if (ltI 4000 a3.Fuel) = true then Kk a0 a1 a2 a3 true else if (ltI a3.Out 0) = true then Kk a0 a1 a2 a3 true else if (ltI 1500 a3.Out) = true then Kk a0 a1 a2 a3 true else if (ltI a3.Deep 0) = true then Kk a0 a1 a2 a3 true else Kk a0 a1 a2 a3 (ltI 6 a3.Deep)
noncomputable def JcC (a0 : List Source) (a1 : Int) (a2 : List Macro) (a3 : Limits) : Option Ym :=
 (Jbq a0).bind fun r1 => if (!eqI r1.Err 0) = true then some (([] : List Token), ([] : List Int), ([] : List Macro), r1.Err, r1.File, r1.At) else if (ltI a1 0) = true then Z3 a0 a1 a2 a3 true else Z3 a0 a1 a2 a3 (leI (a0.length : Int) a1)
def Jcz (a0 : List Source) (a1 : Int) (a2 : List Macro) (a3 : Limits) (r : Ym) : GI :=
 ⟨[.c (.d (.sl 2 (List.map d_Source a0))), cI a1, .c (.d (.sl 5 (List.map d_Macro a2))), .ag [kI a3.Fuel, kI a3.Out, kI a3.Deep]], [], [], .ret (.tu [(true, [.d (.sl 11 (List.map d_Token r.1)), .sl 1 (List.map dI r.2.1) 1]), (false, [.d (.sl 5 (List.map d_Macro r.2.2.1))]), (true, [kI r.2.2.2.1, kI r.2.2.2.2.1, kI r.2.2.2.2.2])]) [] [3]⟩
def Jcu : GI → Prop := Sg4 JcC Jcz
theorem Jf5 : ∀ g, Jcu g → GenOk Tryz.prog 11 g := by
 rintro _ ⟨a0, a1, a2, a3, r, H, rfl⟩
 refine xGnl mixed [3, 8, 12] [(20, Jcm)] [(21, true, Jj), (24, false, Jcf)] [(23, SD_drive_guard), (22, SD_drive_Run_1), (23, SD_drive_guard_v2), (22, SD_drive_Run_1_v2)] ⟨⟨call_20, JfG⟩, trivial⟩ ⟨Jd, X3, trivial⟩ ⟨⟨call_23, Jfk⟩, ⟨call_22, Jfc⟩, ⟨call_23, JeQ⟩, ⟨call_22, JeI⟩, trivial⟩ Tryz.func11 _ ?_
 have G := True.intro
 have Y := xZ y_3 <| xZ y_24 <| xZ y_25 <| xZ y_27 <| xZ y_28 <| xZ y_29 <| xZ y_31 <| xZ y_35 <| xZ y_37 <| xZ y_39 <| xZ y_65 <| xZ Tryz.results11 <| xZ d_Source.eq_1 <| xZ d_Call.eq_1 <| xZ d_Token.eq_1 <| xZ d_Macro.eq_1 <| xZ d_Limits.eq_1 <| xZ d_Fault.eq_1 <| xZ J4.eq_1 <| xZ Vg.eq_1 <| xZ di_drive_guard.eq_1 <| xZ di_drive_Run_1.eq_1 <| xZ di_drive_guard_v2.eq_1 <| xZ di_drive_Run_1_v2.eq_1 <| Jcz.eq_1
 dsimp only [Jcz]
 simp only [JcC] at H
 refine xS ?_
 refine xr ?_
 obtain ⟨r1, hr1, H⟩ := osplit H
 have F := xC Y (Jf3 a0 r1 hr1)
 refine xR ?_
 refine xr ?_
 rcases xB Y G H with ⟨p, H, F, G, q⟩ | ⟨p, H, F, G, q⟩
 ·refine xT ?_
  have F := Y
  refine xP [0, 1, 2, 3, 4] [19] ⟨Jd, X3, trivial⟩ ?_
  refine xsX 1 ?_
  refine xaX ?_
  refine xbX ?_
  refine xbX ?_
  refine xbX ?_
  refine xlX ?_
  replace H := oI H
  refine xS ?_
  subst H
  refine xrD [] ?_
  exact xO ⟨[], [0]⟩
 refine xE0 ?_
 refine w_skip ?_
 refine then_normal ?_
 refine w_seq ?_
 refine w_block ?_
 refine w_cut (Z3 a0 a1 a2 a3) (fun s => [(0, .c (.d (.sl 2 (List.map d_Source a0)))), (1, cI a1), (2, .c (.d (.sl 5 (List.map d_Macro a2)))), (7, .c (.pt 1 0)), (8, .c (.pt 2 0)), (9, .c (.pt 3 0)), (10, .c (.pt 4 0)), (20, cB s)]) (fun s => [[kI a3.Fuel, kI a3.Out, kI a3.Deep], [.sl 11 [] 0, .sl 1 [] 0], [.sl 5 [] 0], [kI 0, kI 0, kI 0]]) [] r ?_ ?_
 ·rcases xB Y G H with ⟨p, H, F, G, q⟩ | ⟨p, H, F, G, q⟩
  ·refine xR ?_
   exact cut_at H (xK ⟨[1,2,3,4], []⟩)
  refine xR ?_
  exact cut_at H (xK ⟨[1,2,3,4], []⟩)
 rintro x1 H
 rw [Z3] at H
 rcases xB Y G H with ⟨p, H, F, G, q⟩ | ⟨p, H, F, G, q⟩
 ·refine xT ?_
  replace H := oI H
  refine xr ?_
  subst H
  refine xrD [] ?_
  exact xO ⟨[], [0]⟩
 refine xE0 ?_
 refine w_cut (Kk a0 a1 a2 a3) (fun s => [(0, .c (.d (.sl 2 (List.map d_Source a0)))), (1, cI a1), (2, .c (.d (.sl 5 (List.map d_Macro a2)))), (7, .c (.pt 1 0)), (8, .c (.pt 2 0)), (9, .c (.pt 3 0)), (10, .c (.pt 4 0)), (31, cB s)]) (fun s => [[kI a3.Fuel, kI a3.Out, kI a3.Deep], [.sl 11 [] 0, .sl 1 [] 0], [.sl 5 [] 0], [kI 0, kI 0, kI 0]]) [] r ?_ ?_
 ·rcases xB Y G H with ⟨p, H, F, G, q⟩ | ⟨p, H, F, G, q⟩
  ·refine xR ?_
   exact cut_at H (xK ⟨[1,2,3,4], []⟩)
  rcases xB F G H with ⟨p, H, F, G, q⟩ | ⟨p, H, F, G, q⟩
  ·refine xR ?_
   exact cut_at H (xK ⟨[1,2,3,4], []⟩)
  rcases xB F G H with ⟨p, H, F, G, q⟩ | ⟨p, H, F, G, q⟩
  ·refine xR ?_
   exact cut_at H (xK ⟨[1,2,3,4], []⟩)
  rcases xB F G H with ⟨p, H, F, G, q⟩ | ⟨p, H, F, G, q⟩
  ·refine xR ?_
   exact cut_at H (xK ⟨[1,2,3,4], []⟩)
  rcases xB F G H with ⟨p, H, F, G, q⟩ | ⟨p, H, F, G, q⟩
  ·refine xR ?_
   exact cut_at H (xK ⟨[1,2,3,4], []⟩)
  refine xR ?_
  exact cut_at H (xK ⟨[1,2,3,4], []⟩)
 rintro x2 H
 rw [Kk] at H
 rcases xB Y G H with ⟨p, H, F, G, q⟩ | ⟨p, H, F, G, q⟩
 ·refine xT ?_
  replace H := oI H
  refine xr ?_
  subst H
  refine xrD [] ?_
  exact xO ⟨[], [0]⟩
 refine xE ?_
 obtain ⟨r2, hr2, H⟩ := osplit H
 have F := Y
 refine xP [0, 1, 2, 3, 4, 5, 6] [63] ⟨Jd, X3, trivial⟩ ?_
 refine xsX 1 ?_
 refine xaX ?_
 refine xsX 1 ?_
 refine xcX ⟨[], []⟩ (tabG 0 (cg1 hr2)) ?_
 refine xsX 1 ?_
 refine xbX ?_
 refine xsX 1 ?_
 refine xlX ?_
 refine xS ?_
 refine xfz 5 5 (List.map d_Macro a2) [] ?_
 have F := Y
 refine xQ ?_
 refine xs 1 ?_
 refine xw ?_
 refine xl ?_
 refine xS ?_
 have F := Y
 refine xQ ?_
 refine xw ?_
 refine xl ?_
 refine xS ?_
 rcases rsplit H with ⟨r3, hr3, H⟩ | ⟨e1, hr4, H⟩
 ·have F := Y
  refine xQ ?_
  refine xs 2 ?_
  refine xc ⟨[6, 0], [0, 0]⟩ (tabG 1 (cg10 hr3)) ?_
  refine xl ?_
  refine xS ?_
  refine xfz 9 11 (List.map d_Token r3.2.2.2.2.2) [] ?_
  have F := Y
  refine xP [0, 1, 2, 3, 4, 5, 6, 7, 8, 9, 10, 11] [79] ⟨Jd, X3, trivial⟩ ?_
  refine xsX 7 ?_
  refine xaX ?_
  refine xsX 1 ?_
  refine xbX ?_
  refine xbX ?_
  refine xbX ?_
  refine xlX ?_
  refine xS ?_
  refine xrD [(23, [.pt 4 0]), (22, [.pt 4 0, .pt 2 0, .pt 3 0])] ?_
  obtain ⟨r4, hr5, H⟩ := osplit H
  refine xD ⟨[4], []⟩ (tabD 0 (JfF 0 (-1) 0 r4 hr5)) ?_
  obtain ⟨r5, hr6, H⟩ := osplit H
  refine xD ⟨[4, 2, 3], [11]⟩ (tabD 1 (JfK 0 (-1) 0 r3.2.2.2.2.2 r3.2.2.2.1 r3.2.1 r5 none hr6)) ?_
  replace H := oI H
  subst H
  exact xO ⟨[], [16]⟩
 have F := Y
 refine xQp [69, 70, 71] ?_
 refine xs 2 ?_
 refine xp ⟨[6, 0], [0, 0]⟩ (tabG 1 (cg10 hr4)) ?_
 refine xS ?_
 refine xpD [(23, [.pt 4 0]), (22, [.pt 4 0, .pt 2 0, .pt 3 0])] ?_
 obtain ⟨r6, hr7, H⟩ := osplit H
 refine xD ⟨[4], []⟩ (tabD 2 (Je2 0 0 0 e1.1 e1.2.1 e1.2.2.1 r6 hr7)) ?_
 obtain ⟨r7, hr8, H⟩ := osplit H
 refine xD ⟨[4, 2, 3], [0, 0, 0]⟩ (tabD 3 (JeT e1.1 e1.2.1 e1.2.2.1 ([] : List Token) ([] : List Int) ([] : List Macro) r7 none hr8)) ?_
 replace H := oI H
 subst H
 exact xO ⟨[], [17]⟩
theorem Jgi : Callable Tryz.prog 11 ∧ (∀ g, Jcu g → GenOk Tryz.prog 11 g) ∧ (true = true → ∀ g, Jcu g → ∃ val bs ts, g.out = .ret val bs ts) :=
 ⟨call_11, Jf5, fun _ => by rintro _ ⟨_, _, _, _, _, _, rfl⟩; exact ⟨_, _, _, rfl⟩⟩
end Go.Proofs.YtfkhlbhjhdpkoaaGreatDoor
