/- Functions of data for functions of the program. Written by dec3.py. -/
import Derived.Test.YtfkhlbhjhdpkoaaGreatDoorZrao
import Derived.Test.YtfkhlbhjhdpkoaaGreatDoorZraq
import Derived.Test.YtfkhlbhjhdpkoaaGreatDoorZrbc
import Derived.Test.YtfkhlbhjhdpkoaaGreatDoorZrbd
set_option linter.unusedVariables false
set_option linter.unusedSimpArgs false
set_option maxHeartbeats 4000000
set_option maxRecDepth 100000
namespace Go.Proofs.YtfkhlbhjhdpkoaaGreatDoor
open Go.RowKit
noncomputable def Z0 (a0 : Fault) : Option (GR Unit Unit) :=
 if (!eqI a0.Err 0) = true then some (.er ()) else some (.ok ())
def Jfy (a0 : Fault) : GR Unit Unit → GOut
 | .ok r => .ret (.tu []) [] []
 | .er r => .pan (.iface 78 (.agg ⟨[.int .i64 a0.Err, .int .i64 a0.File, .int .i64 a0.At]⟩)) [] []
def XM (a0 : Fault) (r : GR Unit Unit) : GI :=
 ⟨[.ag [.d (.v (.int .i64 a0.Err)), .d (.v (.int .i64 a0.File)), .d (.v (.int .i64 a0.At))]], [], [], Jfy a0 r⟩
def XO : GI → Prop := fun g => ∃ (a0 : Fault) (r : GR Unit Unit), Z0 a0 = some r ∧ g = XM a0 r
theorem ZK (a0 : Fault) (r : GR Unit Unit) (H : Z0 a0 = some r) : XO (XM a0 r) := ⟨a0, r, H, rfl⟩
theorem Jfn : ∀ g, XO g → GenOk Tryz.prog 33 g := by
 rintro _ ⟨a0, r, H, rfl⟩
 refine xGn mixed [] [] [] trivial trivial trivial Tryz.func33 _ ?_
 have G := True.intro
 have Y := xZ y_29 <| xZ y_31 <| xZ y_78 <| xZ Tryz.results33 <| xZ d_Fault.eq_1 <| XM.eq_1
 dsimp only [XM]
 simp only [Z0] at H
 refine xS ?_
 refine xr ?_
 refine xr ?_
 rcases bsplit H with ⟨hp1, H⟩ | ⟨hp1, H⟩
 ·obtain ⟨F, G, hq1⟩ := xH Y G hp1
  refine xT ?_
  have F := Y
  refine xQp [5, 6, 7] ?_
  refine xs 3 ?_
  refine xv ?_
  replace H := Option.some.inj H
  refine xS ?_
  subst H
  refine xpD [] ?_
  exact xOv ⟨[], []⟩
 ·obtain ⟨F, G, hq1⟩ := xH Y G hp1
  replace H := Option.some.inj H
  refine xE ?_
  subst H
  refine xnD [] ?_
  exact xO ⟨[], []⟩
theorem JbK : Callable Tryz.prog 33 ∧ (∀ g, XO g → GenOk Tryz.prog 33 g) ∧ (false = true → ∀ g, XO g → ∃ val bs ts, g.out = .ret val bs ts) :=
 ⟨call_33, Jfn, nofun⟩
noncomputable def Ja3 (a0 : drive_group) : Option Bool :=
 some (!a0.on_)
noncomputable def Jbd : PF := PF.of (E1 Ja) (fun a => Ja3 a) dB
theorem Jet : PureOk Tryz.prog 53 Jbd := by
 refine xF mixed [] [] trivial trivial Tryz.func53 ?_
 rintro a0 out H
 have G := True.intro
 have Y := xZ y_4 <| xZ y_90 <| xZ Tryz.results53 <| xZ d_Call.eq_1 <| xZ d_Token.eq_1 <| Ja.eq_1
 simp only [Ja3] at H
 refine xS ?_
 refine xr ?_
 replace H := Option.some.inj H
 refine xr ?_
 subst H
 exact xN
theorem JeM (a0 : drive_group) (r : Bool) (H : Ja3 a0 = some r) : PC Jbd [Ja a0] (dB r) := PF.c (a := a0) H
noncomputable def XZ (a0 : List Token) (a1 : List Source) (a2 : Int) (a3 : Int) (a4 : Int) (a5 : List Macro) (a6 : List Int) (a7 : List Int) (a8 : Int) (a9 : List Token) : Option (GR (Int × Int × Int) ((List Token) × Int)) :=
 (Jdz a1 a5 a0 a2 a3).bind fun r1 => grB (Z0 r1.2.2) (fun r2 => some (.ok (r1.1, r1.2.1))) (fun e1 => some (.er (r1.2.2.Err, r1.2.2.File, r1.2.2.At)))
def Jdf (a0 : List Token) (a1 : List Source) (a2 : Int) (a3 : Int) (a4 : Int) (a5 : List Macro) (a6 : List Int) (a7 : List Int) (a8 : Int) (a9 : List Token) : GR (Int × Int × Int) ((List Token) × Int) → GOut
 | .ok r => .ret (.c (.d (.sl 11 (List.map d_Token r.1)))) [[.d (.sl 2 (List.map d_Source a1)), .d (.v (.int .i64 r.2)), .d (.v (.int .i64 a3)), .d (.v (.int .i64 a4)), .d (.sl 5 (List.map d_Macro a5)), .sl 1 (List.map dI a6) 3, .os 2 11 0 a9.length, .sl 1 (List.map dI a7) 4, .d (.v (.int .i64 a8))], [.arr 11 (List.map d_Token a9)]] [3, 3]
 | .er r => .pan (.iface 78 (.agg ⟨[.int .i64 r.1, .int .i64 r.2.1, .int .i64 r.2.2]⟩)) [[.d (.sl 2 (List.map d_Source a1)), .d (.v (.int .i64 a2)), .d (.v (.int .i64 a3)), .d (.v (.int .i64 a4)), .d (.sl 5 (List.map d_Macro a5)), .sl 1 (List.map dI a6) 3, .os 2 11 0 a9.length, .sl 1 (List.map dI a7) 4, .d (.v (.int .i64 a8))], [.arr 11 (List.map d_Token a9)]] [3, 3]
def KO (a0 : List Token) (a1 : List Source) (a2 : Int) (a3 : Int) (a4 : Int) (a5 : List Macro) (a6 : List Int) (a7 : List Int) (a8 : Int) (a9 : List Token) (r : GR (Int × Int × Int) ((List Token) × Int)) : GI :=
 ⟨[.c (.pt 1 0), .c (.d (.sl 11 (List.map d_Token a0)))], [[.d (.sl 2 (List.map d_Source a1)), .d (.v (.int .i64 a2)), .d (.v (.int .i64 a3)), .d (.v (.int .i64 a4)), .d (.sl 5 (List.map d_Macro a5)), .sl 1 (List.map dI a6) 3, .os 2 11 0 a9.length, .sl 1 (List.map dI a7) 4, .d (.v (.int .i64 a8))], [.arr 11 (List.map d_Token a9)]], [3, 3], Jdf a0 a1 a2 a3 a4 a5 a6 a7 a8 a9 r⟩
def KV : GI → Prop := fun g => ∃ (a0 : List Token) (a1 : List Source) (a2 : Int) (a3 : Int) (a4 : Int) (a5 : List Macro) (a6 : List Int) (a7 : List Int) (a8 : Int) (a9 : List Token) (r : GR (Int × Int × Int) ((List Token) × Int)), XZ a0 a1 a2 a3 a4 a5 a6 a7 a8 a9 = some r ∧ g = KO a0 a1 a2 a3 a4 a5 a6 a7 a8 a9 r
theorem Jbi (a0 : List Token) (a1 : List Source) (a2 : Int) (a3 : Int) (a4 : Int) (a5 : List Macro) (a6 : List Int) (a7 : List Int) (a8 : Int) (a9 : List Token) (r : GR (Int × Int × Int) ((List Token) × Int)) (H : XZ a0 a1 a2 a3 a4 a5 a6 a7 a8 a9 = some r) : KV (KO a0 a1 a2 a3 a4 a5 a6 a7 a8 a9 r) := ⟨a0, a1, a2, a3, a4, a5, a6, a7, a8, a9, r, H, rfl⟩
theorem Jc3 : ∀ g, KV g → GenOk Tryz.prog 54 g := by
 rintro _ ⟨a0, a1, a2, a3, a4, a5, a6, a7, a8, a9, r, H, rfl⟩
 refine xGn mixed [(78, Jcn)] [(33, false, XO)] [] ⟨⟨call_78, Jfr⟩, trivial⟩ ⟨JbK, trivial⟩ trivial Tryz.func54 _ ?_
 have G := True.intro
 have Y := xZ y_3 <| xZ y_28 <| xZ y_31 <| xZ y_37 <| xZ y_39 <| xZ y_65 <| xZ Tryz.results54 <| xZ d_Source.eq_1 <| xZ d_Call.eq_1 <| xZ d_Token.eq_1 <| xZ d_Macro.eq_1 <| xZ d_Limits.eq_1 <| xZ d_Fault.eq_1 <| xZ XM.eq_1 <| KO.eq_1
 dsimp only [KO]
 simp only [XZ] at H
 refine xS ?_
 refine xr ?_
 obtain ⟨r1, hr1, H⟩ := osplit H
 have F := xC Y (JfC a1 a5 a0 a2 a3 r1 hr1)
 refine xR ?_
 rcases rsplit H with ⟨r2, hr2, H⟩ | ⟨e1, hr3, H⟩
 ·have F := Y
  refine xQ ?_
  refine xs 1 ?_
  refine xc ⟨[], []⟩ (tabG 0 (ZK r1.2.2 (.ok r2) hr2)) ?_
  refine xl ?_
  refine xS ?_
  refine xr ?_
  replace H := Option.some.inj H
  refine xr ?_
  subst H
  refine xrD [] ?_
  exact xO ⟨[1, 2], [3, 4]⟩
 ·have F := Y
  refine xQp [32, 33] ?_
  refine xs 1 ?_
  refine xp ⟨[], []⟩ (tabG 0 (ZK r1.2.2 (.er e1) hr3)) ?_
  replace H := Option.some.inj H
  refine xS ?_
  subst H
  refine xpD [] ?_
  exact xOv ⟨[1, 2], [3, 4]⟩
theorem ZF : Callable Tryz.prog 54 ∧ (∀ g, KV g → GenOk Tryz.prog 54 g) ∧ (false = true → ∀ g, KV g → ∃ val bs ts, g.out = .ret val bs ts) :=
 ⟨call_54, Jc3, nofun⟩
noncomputable def Z1 (a0 : Int) (a1 : Token) : Option Unit :=
 some ()
def ZJ (a0 : Int) (a1 : Token) (r : Unit) : GI :=
 ⟨[.c (.d (.v (.int .i64 a0))), .c (.pp (List.drop 0 (d_Token a1).cells))], [], [], .pan (.iface 78 (.agg ⟨[.int .i64 a0, .int .i64 a1.File, .int .i64 a1.At]⟩)) [] []⟩
def ZD : GI → Prop := fun g => ∃ (a0 : Int) (a1 : Token) (r : Unit), Z1 a0 a1 = some r ∧ g = ZJ a0 a1 r
theorem JbF (a0 : Int) (a1 : Token) (r : Unit) (H : Z1 a0 a1 = some r) : ZD (ZJ a0 a1 r) := ⟨a0, a1, r, H, rfl⟩
theorem Jfo : ∀ g, ZD g → GenOk Tryz.prog 39 g := by
 rintro _ ⟨a0, a1, r, H, rfl⟩
 refine xGn mixed [] [] [] trivial trivial trivial Tryz.func39 _ ?_
 have G := True.intro
 have Y := xZ y_3 <| xZ y_29 <| xZ y_31 <| xZ y_44 <| xZ y_78 <| xZ Tryz.results39 <| xZ d_Call.eq_1 <| xZ d_Token.eq_1 <| ZJ.eq_1
 dsimp only [ZJ]
 unfold Z1 at H
 have F := Y
 refine xQp [4, 5, 6, 7, 8, 9, 10, 11, 12, 13, 14, 15] ?_
 refine xs 12 ?_
 refine xv ?_
 refine xS ?_
 refine xpD [] ?_
 exact xOv ⟨[], []⟩
theorem Jbu : Callable Tryz.prog 39 ∧ (∀ g, ZD g → GenOk Tryz.prog 39 g) ∧ (false = true → ∀ g, ZD g → ∃ val bs ts, g.out = .ret val bs ts) :=
 ⟨call_39, Jfo, nofun⟩
noncomputable def V3 (a0 : List Token) (a1 : List Source) (a2 : Int) (a3 : Int) (a4 : Int) (a5 : List Macro) (a6 : List Int) (a7 : List Int) (a8 : Int) (a9 : List Token) : Option (GR (Int × Int × Int × Int × (List Token)) (Int × (List Token))) :=
 if (eqI (a0.length : Int) 0) = true then some (.ok (a2, a9)) else grB (XZ a0 a1 a2 a3 a4 a5 a6 a7 a8 a9) (fun r1 => if (a9.length + r1.1.length) * 120 ≤ 140737488355328 then if (ltI a3 ((a9.length + r1.1.length : Nat) : Int)) = true then if 0 < a0.length then (Z1 4 (a0.getD 0 default)).bind fun e2 => some (.er (4, (a0.getD 0 default).File, (a0.getD 0 default).At, r1.2, a9 ++ r1.1)) else none else some (.ok (r1.2, a9 ++ r1.1)) else none) (fun e1 => some (.er (e1.1, e1.2.1, e1.2.2, a2, a9)))
def Jdn (a0 : List Token) (a1 : List Source) (a2 : Int) (a3 : Int) (a4 : Int) (a5 : List Macro) (a6 : List Int) (a7 : List Int) (a8 : Int) (a9 : List Token) : GR (Int × Int × Int × Int × (List Token)) (Int × (List Token)) → GOut
 | .ok r => .ret (.tu []) [[.d (.sl 2 (List.map d_Source a1)), .d (.v (.int .i64 r.1)), .d (.v (.int .i64 a3)), .d (.v (.int .i64 a4)), .d (.sl 5 (List.map d_Macro a5)), .sl 1 (List.map dI a6) 4, .os 3 11 0 r.2.length, .sl 1 (List.map dI a7) 5, .d (.v (.int .i64 a8))], [], [.arr 11 (List.map d_Token r.2)]] [3, 3]
 | .er r => .pan (.iface 78 (.agg ⟨[.int .i64 r.1, .int .i64 r.2.1, .int .i64 r.2.2.1]⟩)) [[.d (.sl 2 (List.map d_Source a1)), .d (.v (.int .i64 r.2.2.2.1)), .d (.v (.int .i64 a3)), .d (.v (.int .i64 a4)), .d (.sl 5 (List.map d_Macro a5)), .sl 1 (List.map dI a6) 4, .os 3 11 0 r.2.2.2.2.length, .sl 1 (List.map dI a7) 5, .d (.v (.int .i64 a8))], [], [.arr 11 (List.map d_Token r.2.2.2.2)]] [3, 3]
def Vo (a0 : List Token) (a1 : List Source) (a2 : Int) (a3 : Int) (a4 : Int) (a5 : List Macro) (a6 : List Int) (a7 : List Int) (a8 : Int) (a9 : List Token) (r : GR (Int × Int × Int × Int × (List Token)) (Int × (List Token))) : GI :=
 ⟨[.c (.pt 1 0), .c (.d (.sl 11 (List.map d_Token a0)))], [[.d (.sl 2 (List.map d_Source a1)), .d (.v (.int .i64 a2)), .d (.v (.int .i64 a3)), .d (.v (.int .i64 a4)), .d (.sl 5 (List.map d_Macro a5)), .sl 1 (List.map dI a6) 3, .os 2 11 0 a9.length, .sl 1 (List.map dI a7) 4, .d (.v (.int .i64 a8))], [.arr 11 (List.map d_Token a9)]], [3, 3], Jdn a0 a1 a2 a3 a4 a5 a6 a7 a8 a9 r⟩
def Ve : GI → Prop := fun g => ∃ (a0 : List Token) (a1 : List Source) (a2 : Int) (a3 : Int) (a4 : Int) (a5 : List Macro) (a6 : List Int) (a7 : List Int) (a8 : Int) (a9 : List Token) (r : GR (Int × Int × Int × Int × (List Token)) (Int × (List Token))), V3 a0 a1 a2 a3 a4 a5 a6 a7 a8 a9 = some r ∧ g = Vo a0 a1 a2 a3 a4 a5 a6 a7 a8 a9 r
theorem XA (a0 : List Token) (a1 : List Source) (a2 : Int) (a3 : Int) (a4 : Int) (a5 : List Macro) (a6 : List Int) (a7 : List Int) (a8 : Int) (a9 : List Token) (r : GR (Int × Int × Int × Int × (List Token)) (Int × (List Token))) (H : V3 a0 a1 a2 a3 a4 a5 a6 a7 a8 a9 = some r) : Ve (Vo a0 a1 a2 a3 a4 a5 a6 a7 a8 a9 r) := ⟨a0, a1, a2, a3, a4, a5, a6, a7, a8, a9, r, H, rfl⟩
theorem Jc9 : ∀ g, Ve g → GenOk Tryz.prog 36 g := by
 rintro _ ⟨a0, a1, a2, a3, a4, a5, a6, a7, a8, a9, r, H, rfl⟩
 refine xGnl mixed [1] [] [(54, false, KV), (39, false, ZD)] [] trivial ⟨ZF, Jbu, trivial⟩ trivial Tryz.func36 _ ?_
 have G := True.intro
 have Y := xZ y_3 <| xZ y_24 <| xZ y_27 <| xZ y_39 <| xZ y_44 <| xZ y_65 <| xZ Tryz.results36 <| xZ d_Source.eq_1 <| xZ d_Call.eq_1 <| xZ d_Token.eq_1 <| xZ d_Macro.eq_1 <| xZ d_Limits.eq_1 <| xZ KO.eq_1 <| xZ ZJ.eq_1 <| Vo.eq_1
 dsimp only [Vo]
 simp only [V3] at H
 refine xS ?_
 refine xrn 2 1 ?_
 refine xr ?_
 rcases bsplit H with ⟨hp1, H⟩ | ⟨hp1, H⟩
 ·obtain ⟨F, G, hq1⟩ := xH Y G hp1
  replace H := Option.some.inj H
  refine xT ?_
  subst H
  refine xrD [] ?_
  exact xO ⟨[1, 2, 5], [3, 4]⟩
 ·obtain ⟨F, G, hq1⟩ := xH Y G hp1
  refine xE ?_
  rcases rsplit H with ⟨r1, hr1, H⟩ | ⟨e1, hr2, H⟩
  ·have F := Y
   obtain ⟨hg1, H⟩ := gsplit H
   have F := xZ F (all_map one_Token r1.1)
   have A := all_map one_Token r1.1
   refine xP [0, 1, 2, 3, 4, 5, 6, 7, 8, 9, 10, 11, 12, 13] [12, 888888] ⟨ZF, Jbu, trivial⟩ ?_
   refine xsX 5 ?_
   refine xaX ?_
   refine xsX 2 ?_
   refine xcX ⟨[1, 5], [3, 4]⟩ (tabG 0 (Jbi a0 a1 a2 a3 a4 a5 a6 a7 a8 a9 (.ok r1) hr1)) ?_
   refine xbX ?_
   refine xsX 4 ?_
   refine xlX ?_
   refine xS ?_
   refine xr ?_
   rcases bsplit H with ⟨hp2, H⟩ | ⟨hp2, H⟩
   ·obtain ⟨F, G, hq2⟩ := xH Y G hp2
    refine xT ?_
    obtain ⟨hg2, H⟩ := gsplit H
    have F := xZ Y (map_getD d_Token a0 0 default default (by omega))
    obtain ⟨e2, hr4, H⟩ := osplit H
    have F := F
    refine xQp [32, 33, 34] ?_
    refine xs 2 ?_
    refine xp ⟨[], []⟩ (tabG 1 (JbF 4 (a0.getD 0 default) e2 hr4)) ?_
    replace H := Option.some.inj H
    refine xS ?_
    subst H
    refine xpD [] ?_
    exact xOv ⟨[1, 2, 10], [8, 9]⟩
   ·obtain ⟨F, G, hq2⟩ := xH Y G hp2
    replace H := Option.some.inj H
    refine xE ?_
    subst H
    refine xnD [] ?_
    exact xO ⟨[1, 2, 10], [8, 9]⟩
  ·have F := Y
   refine xPp [7, 8, 9, 10, 11, 12, 13, 14, 15, 16, 17, 18, 19] [0, 1, 2, 3, 4, 5, 6, 7, 8, 9, 10, 11, 12, 13] [12, 888888] ⟨ZF, Jbu, trivial⟩ ?_
   refine xsX 5 ?_
   refine xaX ?_
   refine xsX 2 ?_
   refine xpX ⟨[1, 5], [3, 4]⟩ (tabG 0 (Jbi a0 a1 a2 a3 a4 a5 a6 a7 a8 a9 (.er e1) hr2)) ?_
   replace H := Option.some.inj H
   refine xS ?_
   subst H
   refine xpD [] ?_
   exact xOv ⟨[1, 2, 5], [8, 9]⟩
theorem Jdv : Callable Tryz.prog 36 ∧ (∀ g, Ve g → GenOk Tryz.prog 36 g) ∧ (false = true → ∀ g, Ve g → ∃ val bs ts, g.out = .ret val bs ts) :=
 ⟨call_36, Jc9, nofun⟩
noncomputable def KQ : Bool → Option Bool
 | x1 => some x1
noncomputable def Zj (a0 : List UInt8) (a1 : List Source) (a2 : Int) (a3 : Int) (a4 : Int) (a5 : List Macro) (a6 : List Int) (a7 : List Int) (a8 : Int) (a9 : List Token) : Option Bool :=
 (JaE a5 a0).bind fun r1 => if (leI 0 r1) = true then KQ true else if (eqS a0 [95, 95, 76, 73, 78, 69, 95, 95]) = true then KQ true else KQ (eqS a0 [95, 95, 70, 73, 76, 69, 95, 95])
def Vf (a0 : List UInt8) (a1 : List Source) (a2 : Int) (a3 : Int) (a4 : Int) (a5 : List Macro) (a6 : List Int) (a7 : List Int) (a8 : Int) (a9 : List Token) (r : Bool) : GI :=
 ⟨[.c (.pt 1 0), .c (.d (.v (str a0)))], [[.d (.sl 2 (List.map d_Source a1)), .d (.v (.int .i64 a2)), .d (.v (.int .i64 a3)), .d (.v (.int .i64 a4)), .d (.sl 5 (List.map d_Macro a5)), .sl 1 (List.map dI a6) 3, .os 2 11 0 a9.length, .sl 1 (List.map dI a7) 4, .d (.v (.int .i64 a8))], [.arr 11 (List.map d_Token a9)]], [3, 3], .ret (.c (.d (.v (.bool r)))) [[.d (.sl 2 (List.map d_Source a1)), .d (.v (.int .i64 a2)), .d (.v (.int .i64 a3)), .d (.v (.int .i64 a4)), .d (.sl 5 (List.map d_Macro a5)), .sl 1 (List.map dI a6) 3, .os 2 11 0 a9.length, .sl 1 (List.map dI a7) 4, .d (.v (.int .i64 a8))], [.arr 11 (List.map d_Token a9)]] [3, 3]⟩
def Vq : GI → Prop := fun g => ∃ (a0 : List UInt8) (a1 : List Source) (a2 : Int) (a3 : Int) (a4 : Int) (a5 : List Macro) (a6 : List Int) (a7 : List Int) (a8 : Int) (a9 : List Token) (r : Bool), Zj a0 a1 a2 a3 a4 a5 a6 a7 a8 a9 = some r ∧ g = Vf a0 a1 a2 a3 a4 a5 a6 a7 a8 a9 r
theorem Jdp (a0 : List UInt8) (a1 : List Source) (a2 : Int) (a3 : Int) (a4 : Int) (a5 : List Macro) (a6 : List Int) (a7 : List Int) (a8 : Int) (a9 : List Token) (r : Bool) (H : Zj a0 a1 a2 a3 a4 a5 a6 a7 a8 a9 = some r) : Vq (Vf a0 a1 a2 a3 a4 a5 a6 a7 a8 a9 r) := ⟨a0, a1, a2, a3, a4, a5, a6, a7, a8, a9, r, H, rfl⟩
theorem Jdm : ∀ g, Vq g → GenOk Tryz.prog 81 g := by
 rintro _ ⟨a0, a1, a2, a3, a4, a5, a6, a7, a8, a9, r, H, rfl⟩
 refine xGn mixed [(86, Jae)] [] [] ⟨⟨call_86, Jcp⟩, trivial⟩ trivial trivial Tryz.func81 _ ?_
 have G := True.intro
 have Y := xZ y_28 <| xZ y_65 <| xZ Tryz.results81 <| xZ d_Source.eq_1 <| xZ d_Call.eq_1 <| xZ d_Token.eq_1 <| xZ d_Macro.eq_1 <| xZ d_Limits.eq_1 <| Vf.eq_1
 dsimp only [Vf]
 simp only [Zj] at H
 refine xS ?_
 refine xr0 ?_
 refine then_normal ?_
 refine w_cut KQ (fun s => [(4, .c (.d (.v (.bool s))))]) (fun s => [[.d (.sl 2 (List.map d_Source a1)), .d (.v (.int .i64 a2)), .d (.v (.int .i64 a3)), .d (.v (.int .i64 a4)), .d (.sl 5 (List.map d_Macro a5)), .sl 1 (List.map dI a6) 3, .os 2 11 0 a9.length, .sl 1 (List.map dI a7) 4, .d (.v (.int .i64 a8))], [.arr 11 (List.map d_Token a9)]]) [3, 3] r ?_ ?_
 ·obtain ⟨r1, hr1, H⟩ := osplit H
  have F := xC Y (JcG a5 a0 r1 hr1)
  rcases bsplit H with ⟨hp1, H⟩ | ⟨hp1, H⟩
  ·obtain ⟨F, G, hq1⟩ := xH F G hp1
   refine xR ?_
   exact cut_at H (xK ⟨[1,2], [3,4]⟩)
  ·obtain ⟨F, G, hq1⟩ := xH F G hp1
   rcases bsplit H with ⟨hp2, H⟩ | ⟨hp2, H⟩
   ·obtain ⟨F, G, hq2⟩ := xH F G hp2
    refine xR ?_
    exact cut_at H (xK ⟨[1,2], [3,4]⟩)
   ·obtain ⟨F, G, hq2⟩ := xH F G hp2
    refine xR ?_
    exact cut_at H (xK ⟨[1,2], [3,4]⟩)
 ·rintro x1 H
  rw [KQ] at H
  replace H := Option.some.inj H
  refine xS ?_
  subst H
  refine xrD [] ?_
  exact xO ⟨[1, 2], [3, 4]⟩
theorem JbL : Callable Tryz.prog 81 ∧ (∀ g, Vq g → GenOk Tryz.prog 81 g) ∧ (true = true → ∀ g, Vq g → ∃ val bs ts, g.out = .ret val bs ts) :=
 ⟨call_81, Jdm, fun _ => by rintro _ ⟨_, _, _, _, _, _, _, _, _, _, _, _, rfl⟩; exact ⟨_, _, _, rfl⟩⟩
noncomputable def Xb (a0 : List Token) (a1 : List Source) (a2 : Int) (a3 : Int) (a4 : Int) (a5 : List Macro) (a6 : List Int) (a7 : List Int) (a8 : Int) (a9 : List Token) : Bool → Option Bool
 | x2 => if x2 = true then if 1 < a0.length then none else none else if 2 < a0.length then if 1 < a0.length then (Zj ((a0.getD 2 default).Text) a1 a2 a3 a4 a5 a6 a7 a8 a9).bind fun r1 => some (eqB r1 (eqS ((a0.getD 1 default).Text) [105, 102, 100, 101, 102])) else none else none
noncomputable def Xh (a0 : List Token) (a1 : List Source) (a2 : Int) (a3 : Int) (a4 : Int) (a5 : List Macro) (a6 : List Int) (a7 : List Int) (a8 : Int) (a9 : List Token) : Bool → Option Bool
 | x1 => if x1 = true then if (eqI (a0.length : Int) 2) = true then if 1 < a0.length then none else none else if (0 : Int) ≤ 2 ∧ 2 ≤ (a0.length : Int) ∧ (a0.length : Int) ≤ (a0.length : Int) then none else none else if (!eqI (a0.length : Int) 3) = true then Xb a0 a1 a2 a3 a4 a5 a6 a7 a8 a9 true else if 2 < a0.length then Xb a0 a1 a2 a3 a4 a5 a6 a7 a8 a9 (!eqI ((a0.getD 2 default).Kind) 1) else none
noncomputable def V4 (a0 : List Token) (a1 : List Source) (a2 : Int) (a3 : Int) (a4 : Int) (a5 : List Macro) (a6 : List Int) (a7 : List Int) (a8 : Int) (a9 : List Token) : Option Bool :=
 if 1 < a0.length then if (eqS ((a0.getD 1 default).Text) [105, 102]) = true then Xh a0 a1 a2 a3 a4 a5 a6 a7 a8 a9 true else Xh a0 a1 a2 a3 a4 a5 a6 a7 a8 a9 (eqS ((a0.getD 1 default).Text) [101, 108, 105, 102]) else none
def Vb (a0 : List Token) (a1 : List Source) (a2 : Int) (a3 : Int) (a4 : Int) (a5 : List Macro) (a6 : List Int) (a7 : List Int) (a8 : Int) (a9 : List Token) (r : Bool) : GI :=
 ⟨[.c (.pt 1 0), .c (.d (.sl 11 (List.map d_Token a0)))], [[.d (.sl 2 (List.map d_Source a1)), .d (.v (.int .i64 a2)), .d (.v (.int .i64 a3)), .d (.v (.int .i64 a4)), .d (.sl 5 (List.map d_Macro a5)), .sl 1 (List.map dI a6) 3, .os 2 11 0 a9.length, .sl 1 (List.map dI a7) 4, .d (.v (.int .i64 a8))], [.arr 11 (List.map d_Token a9)]], [3, 3], .ret (.c (.d (.v (.bool r)))) [[.d (.sl 2 (List.map d_Source a1)), .d (.v (.int .i64 a2)), .d (.v (.int .i64 a3)), .d (.v (.int .i64 a4)), .d (.sl 5 (List.map d_Macro a5)), .sl 1 (List.map dI a6) 3, .os 2 11 0 a9.length, .sl 1 (List.map dI a7) 4, .d (.v (.int .i64 a8))], [.arr 11 (List.map d_Token a9)]] [3, 3]⟩
def Vt : GI → Prop := fun g => ∃ (a0 : List Token) (a1 : List Source) (a2 : Int) (a3 : Int) (a4 : Int) (a5 : List Macro) (a6 : List Int) (a7 : List Int) (a8 : Int) (a9 : List Token) (r : Bool), V4 a0 a1 a2 a3 a4 a5 a6 a7 a8 a9 = some r ∧ g = Vb a0 a1 a2 a3 a4 a5 a6 a7 a8 a9 r
theorem JbA (a0 : List Token) (a1 : List Source) (a2 : Int) (a3 : Int) (a4 : Int) (a5 : List Macro) (a6 : List Int) (a7 : List Int) (a8 : Int) (a9 : List Token) (r : Bool) (H : V4 a0 a1 a2 a3 a4 a5 a6 a7 a8 a9 = some r) : Vt (Vb a0 a1 a2 a3 a4 a5 a6 a7 a8 a9 r) := ⟨a0, a1, a2, a3, a4, a5, a6, a7, a8, a9, r, H, rfl⟩
theorem Jdd : ∀ g, Vt g → GenOk Tryz.prog 55 g := by
 rintro _ ⟨a0, a1, a2, a3, a4, a5, a6, a7, a8, a9, r, H, rfl⟩
 refine xGnl mixed [13, 8] [] [(81, true, Vq)] [] trivial ⟨JbL, trivial⟩ trivial Tryz.func55 _ ?_
 have G := True.intro
 have Y := xZ y_3 <| xZ y_4 <| xZ y_9 <| xZ y_24 <| xZ y_29 <| xZ y_31 <| xZ y_44 <| xZ Tryz.results55 <| xZ d_Source.eq_1 <| xZ d_Call.eq_1 <| xZ d_Token.eq_1 <| xZ d_Macro.eq_1 <| xZ d_Limits.eq_1 <| xZ Vf.eq_1 <| Vb.eq_1
 dsimp only [Vb]
 simp only [V4] at H
 refine xS ?_
 refine xr ?_
 obtain ⟨hg1, H⟩ := gsplit H
 have F := xZ Y (map_getD d_Token a0 1 default default (by omega))
 refine xR0 ?_
 refine then_normal ?_
 refine w_block ?_
 refine w_cut (Xh a0 a1 a2 a3 a4 a5 a6 a7 a8 a9) (fun s => [(0, .c (.pt 1 0)), (1, .c (.d (.sl 11 (List.map d_Token a0)))), (11, .c (.d (.v (.bool s))))]) (fun s => [[.d (.sl 2 (List.map d_Source a1)), .d (.v (.int .i64 a2)), .d (.v (.int .i64 a3)), .d (.v (.int .i64 a4)), .d (.sl 5 (List.map d_Macro a5)), .sl 1 (List.map dI a6) 3, .os 2 11 0 a9.length, .sl 1 (List.map dI a7) 4, .d (.v (.int .i64 a8))], [.arr 11 (List.map d_Token a9)]]) [3, 3] r ?_ ?_
 ·refine xS ?_
  refine xr ?_
  rcases bsplit H with ⟨hp5, H⟩ | ⟨hp5, H⟩
  ·obtain ⟨F, G, hq5⟩ := xH Y G hp5
   refine xT ?_
   exact cut_at H (xK ⟨[1,2], [3,4]⟩)
  ·obtain ⟨F, G, hq5⟩ := xH Y G hp5
   refine xE ?_
   refine xr ?_
   exact cut_at H (xK ⟨[1,2], [3,4]⟩)
 ·rintro x1 H
  rw [Xh] at H
  rcases bsplit H with ⟨hp1, H⟩ | ⟨hp1, H⟩
  ·obtain ⟨F, G, hq1⟩ := xH Y G hp1
   refine xT ?_
   refine xr ?_
   rcases bsplit H with ⟨hp2, H⟩ | ⟨hp2, H⟩
   ·obtain ⟨F, G, hq2⟩ := xH Y G hp2
    refine xT ?_
    obtain ⟨hg2, H⟩ := gsplit H
    have F := xZ Y (map_getD d_Token a0 1 default default (by omega))
    cases H
   ·obtain ⟨F, G, hq2⟩ := xH Y G hp2
    refine xE ?_
    obtain ⟨hg3, H⟩ := gsplit H
    cases H
  ·obtain ⟨F, G, hq1⟩ := xH Y G hp1
   refine xE0 ?_
   refine w_skip ?_
   refine block_normal ?_
   refine then_normal ?_
   refine w_seq ?_
   refine w_cut (Xb a0 a1 a2 a3 a4 a5 a6 a7 a8 a9) (fun s => [(0, .c (.pt 1 0)), (1, .c (.d (.sl 11 (List.map d_Token a0)))), (61, .c (.d (.v (.bool s))))]) (fun s => [[.d (.sl 2 (List.map d_Source a1)), .d (.v (.int .i64 a2)), .d (.v (.int .i64 a3)), .d (.v (.int .i64 a4)), .d (.sl 5 (List.map d_Macro a5)), .sl 1 (List.map dI a6) 3, .os 2 11 0 a9.length, .sl 1 (List.map dI a7) 4, .d (.v (.int .i64 a8))], [.arr 11 (List.map d_Token a9)]]) [3, 3] r ?_ ?_
   ·rcases bsplit H with ⟨hp4, H⟩ | ⟨hp4, H⟩
    ·obtain ⟨F, G, hq4⟩ := xH Y G hp4
     refine xR ?_
     exact cut_at H (xK ⟨[1,2], [3,4]⟩)
    ·obtain ⟨F, G, hq4⟩ := xH Y G hp4
     obtain ⟨hg7, H⟩ := gsplit H
     have F := xZ F (map_getD d_Token a0 2 default default (by omega))
     refine xR ?_
     exact cut_at H (xK ⟨[1,2], [3,4]⟩)
   ·rintro x2 H
    rw [Xb] at H
    rcases bsplit H with ⟨hp3, H⟩ | ⟨hp3, H⟩
    ·obtain ⟨F, G, hq3⟩ := xH Y G hp3
     refine xT ?_
     obtain ⟨hg4, H⟩ := gsplit H
     have F := xZ Y (map_getD d_Token a0 1 default default (by omega))
     cases H
    ·obtain ⟨F, G, hq3⟩ := xH Y G hp3
     refine xE ?_
     obtain ⟨hg5, H⟩ := gsplit H
     have F := xZ Y (map_getD d_Token a0 2 default default (by omega))
     obtain ⟨hg6, H⟩ := gsplit H
     have F := xZ F (map_getD d_Token a0 1 default default (by omega))
     obtain ⟨r1, hr1, H⟩ := osplit H
     have F := F
     refine xP [0, 1, 2, 3, 4, 6, 7, 8, 9, 10, 5, 11, 12] [74] ⟨JbL, trivial⟩ ?_
     refine xsX 8 ?_
     refine xaX ?_
     refine xsX 1 ?_
     refine xcX ⟨[1, 2], [3, 4]⟩ (tabG 0 (Jdp ((a0.getD 2 default).Text) a1 a2 a3 a4 a5 a6 a7 a8 a9 r1 hr1)) ?_
     refine xsX 2 ?_
     refine xlX ?_
     replace H := Option.some.inj H
     refine xS ?_
     subst H
     refine xrD [] ?_
     exact xO ⟨[1, 2], [7, 8]⟩
theorem Jdq : Callable Tryz.prog 55 ∧ (∀ g, Vt g → GenOk Tryz.prog 55 g) ∧ (true = true → ∀ g, Vt g → ∃ val bs ts, g.out = .ret val bs ts) :=
 ⟨call_55, Jdd, fun _ => by rintro _ ⟨_, _, _, _, _, _, _, _, _, _, _, _, rfl⟩; exact ⟨_, _, _, rfl⟩⟩
noncomputable def Jz (a1 : List drive_group) : (Nat × Int × Int) → Option ((Nat × Int × Int) ⊕ Int)
 | (x1, x2, x3) => if (ltI x3 x2) = true then if (0 : Int) ≤ x3 ∧ x3.toNat < x1 then if x3.toNat < a1.length then (Ja3 (a1.getD x3.toNat default)).bind fun r1 => if r1 = true then inrO (some x3) else some (.inl (x1, x2, IntKind.i64.wrap (x3 + 1))) else none else none else inrO (some (-1))
noncomputable def Jq (a0 : Nat) (a1 : List drive_group) : Option Int :=
 loopO (Jz a1) (a0, ((a0 : Nat) : Int), 0)
def Jh (a0 : Nat) (a1 : List drive_group) (r : Int) : GI :=
 ⟨[.c (.os 1 14 0 a0), .c (.d (.v (.func (.func 53) #[] #[])))], [[.arr 14 (List.map Ja a1)]], [], .ret (.c (.d (.v (.int .i64 r)))) [[.arr 14 (List.map Ja a1)]] []⟩
def Jg : GI → Prop := fun g => ∃ (a0 : Nat) (a1 : List drive_group) (r : Int), Jq a0 a1 = some r ∧ g = Jh a0 a1 r
theorem X2 (a0 : Nat) (a1 : List drive_group) (r : Int) (H : Jq a0 a1 = some r) : Jg (Jh a0 a1 r) := ⟨a0, a1, r, H, rfl⟩
theorem XR : ∀ g, Jg g → GenOk Tryz.prog 77 g := by
 rintro _ ⟨a0, a1, r, H, rfl⟩
 refine xGn mixed [(53, Jbd)] [] [] ⟨⟨call_53, Jet⟩, trivial⟩ trivial trivial Tryz.func77 _ ?_
 have G := True.intro
 have Y := xZ y_80 <| xZ y_90 <| xZ Tryz.results77 <| xZ d_Call.eq_1 <| xZ d_Token.eq_1 <| xZ Ja.eq_1 <| Jh.eq_1
 dsimp only [Jh]
 simp only [Jq] at H
 refine xS ?_
 refine xr ?_
 refine xr ?_
 refine w_loop (Jz a1) (fun s => [(0, .c (.os 1 14 0 s.1)), (1, .c (.d (.v (.func (.func 53) #[] #[])))), (7, .c (.d (.v (.int .i64 s.2.1)))), (8, .c (.d (.v (.int .i64 s.2.2))))]) (fun s => [[.arr 14 (List.map Ja a1)]]) [] H (xK ⟨[1], []⟩) ?_
 rintro n1 ⟨x1, x2, x3⟩ o1 H hF1
 rw [Jz] at H
 refine xS ?_
 refine xr ?_
 rcases bsplit H with ⟨hp1, H⟩ | ⟨hp1, H⟩
 ·obtain ⟨F, G, hq1⟩ := xH Y G hp1
  refine xT ?_
  refine xr ?_
  obtain ⟨hg1, H⟩ := gsplit H
  obtain ⟨hg, H⟩ := gsplit H
  have F := xZ Y (map_getD Ja a1 x3.toNat default default (by omega))
  obtain ⟨r1, hr1, H⟩ := osplit H
  have F := xCf F (JeM (a1.getD x3.toNat default) r1 hr1)
  refine xR ?_
  rcases bsplit H with ⟨hp2, H⟩ | ⟨hp2, H⟩
  ·obtain ⟨F, G, hq2⟩ := xH Y G hp2
   refine xT ?_
   replace H := inrO_fin H hF1
   replace H := Option.some.inj H
   refine xr ?_
   subst H
   refine xrD [] ?_
   exact xO ⟨[1], []⟩
  ·obtain ⟨F, G, hq2⟩ := xH Y G hp2
   refine xE ?_
   refine xr ?_
   exact round_at (inl_fin H hF1) (xK ⟨[1], []⟩)
 ·obtain ⟨F, G, hq1⟩ := xH Y G hp1
  replace H := inrO_fin H hF1
  refine xE ?_
  replace H := Option.some.inj H
  refine xr ?_
  subst H
  refine xrD [] ?_
  exact xO ⟨[1], []⟩
theorem X3 : Callable Tryz.prog 77 ∧ (∀ g, Jg g → GenOk Tryz.prog 77 g) ∧ (true = true → ∀ g, Jg g → ∃ val bs ts, g.out = .ret val bs ts) :=
 ⟨call_77, XR, fun _ => by rintro _ ⟨_, _, _, _, rfl⟩; exact ⟨_, _, _, rfl⟩⟩
noncomputable def Jk (a0 : Nat) (a1 : List drive_group) : Option Bool :=
 (Jq a0 a1).bind fun r1 => some (leI 0 r1)
def Jd (a0 : Nat) (a1 : List drive_group) (r : Bool) : GI :=
 ⟨[.c (.os 1 14 0 a0), .c (.d (.v (.func (.func 53) #[] #[])))], [[.arr 14 (List.map Ja a1)]], [], .ret (.c (.d (.v (.bool r)))) [[.arr 14 (List.map Ja a1)]] []⟩
def Je : GI → Prop := fun g => ∃ (a0 : Nat) (a1 : List drive_group) (r : Bool), Jk a0 a1 = some r ∧ g = Jd a0 a1 r
theorem XE (a0 : Nat) (a1 : List drive_group) (r : Bool) (H : Jk a0 a1 = some r) : Je (Jd a0 a1 r) := ⟨a0, a1, r, H, rfl⟩
theorem Xn : ∀ g, Je g → GenOk Tryz.prog 52 g := by
 rintro _ ⟨a0, a1, r, H, rfl⟩
 refine xGn mixed [] [(77, true, Jg)] [] trivial ⟨X3, trivial⟩ trivial Tryz.func52 _ ?_
 have G := True.intro
 have Y := xZ Tryz.results52 <| xZ d_Call.eq_1 <| xZ d_Token.eq_1 <| xZ Ja.eq_1 <| xZ Jh.eq_1 <| Jd.eq_1
 dsimp only [Jd]
 simp only [Jk] at H
 refine xS ?_
 refine xr ?_
 obtain ⟨r1, hr1, H⟩ := osplit H
 have F := Y
 refine xQ ?_
 refine xs 2 ?_
 refine xc ⟨[1], []⟩ (tabG 0 (X2 a0 a1 r1 hr1)) ?_
 refine xs 2 ?_
 refine xl ?_
 replace H := Option.some.inj H
 refine xS ?_
 subst H
 refine xrD [] ?_
 exact xO ⟨[1], []⟩
theorem XB : Callable Tryz.prog 52 ∧ (∀ g, Je g → GenOk Tryz.prog 52 g) ∧ (true = true → ∀ g, Je g → ∃ val bs ts, g.out = .ret val bs ts) :=
 ⟨call_52, Xn, fun _ => by rintro _ ⟨_, _, _, _, rfl⟩; exact ⟨_, _, _, rfl⟩⟩
noncomputable def XL (a0 : Nat) (a1 : List drive_group) : Option Bool :=
 (Jk a0 a1).bind fun r1 => some (!r1)
def VH (a0 : Nat) (a1 : List drive_group) (r : Bool) : GI :=
 ⟨[.c (.os 1 14 0 a0)], [[.arr 14 (List.map Ja a1)]], [], .ret (.c (.d (.v (.bool r)))) [[.arr 14 (List.map Ja a1)]] []⟩
def VJ : GI → Prop := fun g => ∃ (a0 : Nat) (a1 : List drive_group) (r : Bool), XL a0 a1 = some r ∧ g = VH a0 a1 r
theorem Jbg (a0 : Nat) (a1 : List drive_group) (r : Bool) (H : XL a0 a1 = some r) : VJ (VH a0 a1 r) := ⟨a0, a1, r, H, rfl⟩
theorem Jej : ∀ g, VJ g → GenOk Tryz.prog 35 g := by
 rintro _ ⟨a0, a1, r, H, rfl⟩
 refine xGn mixed [] [(52, true, Je)] [] trivial ⟨XB, trivial⟩ trivial Tryz.func35 _ ?_
 have G := True.intro
 have Y := xZ Tryz.results35 <| xZ d_Call.eq_1 <| xZ d_Token.eq_1 <| xZ Ja.eq_1 <| xZ Jd.eq_1 <| VH.eq_1
 dsimp only [VH]
 simp only [XL] at H
 refine xS ?_
 refine xr ?_
 obtain ⟨r1, hr1, H⟩ := osplit H
 have F := Y
 refine xQ ?_
 refine xs 1 ?_
 refine xc ⟨[1], []⟩ (tabG 0 (XE a0 a1 r1 hr1)) ?_
 refine xs 2 ?_
 refine xl ?_
 replace H := Option.some.inj H
 refine xS ?_
 subst H
 refine xrD [] ?_
 exact xO ⟨[1], []⟩
theorem JcC : Callable Tryz.prog 35 ∧ (∀ g, VJ g → GenOk Tryz.prog 35 g) ∧ (true = true → ∀ g, VJ g → ∃ val bs ts, g.out = .ret val bs ts) :=
 ⟨call_35, Jej, fun _ => by rintro _ ⟨_, _, _, _, rfl⟩; exact ⟨_, _, _, rfl⟩⟩
noncomputable def K8 (a10 : List drive_group) : (Nat × Bool × Bool × Int × (List UInt8) × Bool × Bool × Int × Int × Int × Int × (List (List UInt8)) × (List Call) × Int) → Option (Nat × Bool × (List drive_group))
 | (x5, x6, x7, x8, x9, x10, x11, x12, x13, x14, x15, x16, x17, x18) => if x5 ≤ a10.length ∧ (x5 + [(⟨x6, x7, false, (⟨x8, x9, x10, x11, x12, x13, x14, x15, x16, x17, x18⟩ : Token)⟩ : drive_group)].length) * 128 ≤ 140737488355328 then some (x5 + [(⟨x6, x7, false, (⟨x8, x9, x10, x11, x12, x13, x14, x15, x16, x17, x18⟩ : Token)⟩ : drive_group)].length, true, (List.take x5 a10) ++ [(⟨x6, x7, false, (⟨x8, x9, x10, x11, x12, x13, x14, x15, x16, x17, x18⟩ : Token)⟩ : drive_group)]) else none
noncomputable def K5 (x2 : List UInt8) (x19 : Nat) : (Nat × (List drive_group)) → Option (Nat × Bool × (List drive_group))
 | (x23, x24) => if (IntKind.i64.wrap (((x19 : Nat) : Int) - 1)).toNat < x24.length then some (x23, true, List.set x24 ((IntKind.i64.wrap (((x19 : Nat) : Int) - 1)).toNat) (⟨(x24.getD ((IntKind.i64.wrap (((x19 : Nat) : Int) - 1)).toNat) default).on_, (x24.getD ((IntKind.i64.wrap (((x19 : Nat) : Int) - 1)).toNat) default).had_, eqS x2 [101, 108, 115, 101], ((x24.getD ((IntKind.i64.wrap (((x19 : Nat) : Int) - 1)).toNat) default).at_)⟩ : drive_group)) else none
noncomputable def J5 (x2 : List UInt8) (x19 : Nat) : (Nat × Bool × (List drive_group)) → Option (Nat × Bool × (List drive_group))
 | (x25, x26, x27) => if x26 = true then if (IntKind.i64.wrap (((x19 : Nat) : Int) - 1)).toNat < x27.length then if (IntKind.i64.wrap (((x19 : Nat) : Int) - 1)).toNat < x27.length then K5 x2 x19 (x25, List.set x27 ((IntKind.i64.wrap (((x19 : Nat) : Int) - 1)).toNat) (⟨true, true, (x27.getD ((IntKind.i64.wrap (((x19 : Nat) : Int) - 1)).toNat) default).last_, ((x27.getD ((IntKind.i64.wrap (((x19 : Nat) : Int) - 1)).toNat) default).at_)⟩ : drive_group)) else none else none else K5 x2 x19 (x25, x27)
noncomputable def K6 (a1 : List Token) (a2 : List Source) (a3 : Int) (a4 : Int) (a5 : Int) (a6 : List Macro) (a7 : List Int) (a8 : List Int) (a9 : Int) (a10 : List drive_group) (a11 : List Token) (x2 : List UInt8) (x19 : Nat) : (Nat × Bool) → Option (Nat × Bool × (List drive_group))
 | (x21, x22) => if x22 = true then if 2 < a1.length then none else none else if (IntKind.i64.wrap (((x19 : Nat) : Int) - 1)).toNat < a10.length then if (IntKind.i64.wrap (((x19 : Nat) : Int) - 1)).toNat < a10.length then if (!((a10.getD ((IntKind.i64.wrap (((x19 : Nat) : Int) - 1)).toNat) default).had_)) = true then if (eqS x2 [101, 108, 115, 101]) = true then J5 x2 x19 (x21, true, List.set a10 ((IntKind.i64.wrap (((x19 : Nat) : Int) - 1)).toNat) (⟨false, (a10.getD ((IntKind.i64.wrap (((x19 : Nat) : Int) - 1)).toNat) default).had_, (a10.getD ((IntKind.i64.wrap (((x19 : Nat) : Int) - 1)).toNat) default).last_, ((a10.getD ((IntKind.i64.wrap (((x19 : Nat) : Int) - 1)).toNat) default).at_)⟩ : drive_group)) else (V4 a1 a2 a3 a4 a5 a6 a7 a8 a9 a11).bind fun r3 => J5 x2 x19 (x21, r3, List.set a10 ((IntKind.i64.wrap (((x19 : Nat) : Int) - 1)).toNat) (⟨false, (a10.getD ((IntKind.i64.wrap (((x19 : Nat) : Int) - 1)).toNat) default).had_, (a10.getD ((IntKind.i64.wrap (((x19 : Nat) : Int) - 1)).toNat) default).last_, ((a10.getD ((IntKind.i64.wrap (((x19 : Nat) : Int) - 1)).toNat) default).at_)⟩ : drive_group)) else J5 x2 x19 (x21, false, List.set a10 ((IntKind.i64.wrap (((x19 : Nat) : Int) - 1)).toNat) (⟨false, (a10.getD ((IntKind.i64.wrap (((x19 : Nat) : Int) - 1)).toNat) default).had_, (a10.getD ((IntKind.i64.wrap (((x19 : Nat) : Int) - 1)).toNat) default).last_, ((a10.getD ((IntKind.i64.wrap (((x19 : Nat) : Int) - 1)).toNat) default).at_)⟩ : drive_group)) else none else none
noncomputable def J3 (a1 : List Token) (a2 : List Source) (a3 : Int) (a4 : Int) (a5 : Int) (a6 : List Macro) (a7 : List Int) (a8 : List Int) (a9 : Int) (a10 : List drive_group) (a11 : List Token) (x2 : List UInt8) : (Nat × Bool) → Option (Nat × Bool × (List drive_group))
 | (x19, x20) => if x20 = true then if (eqI ((x19 : Nat) : Int) 0) = true then if 1 < a1.length then none else none else if (0 : Int) ≤ (IntKind.i64.wrap (((x19 : Nat) : Int) - 1)) ∧ (IntKind.i64.wrap (((x19 : Nat) : Int) - 1)).toNat < x19 then if (eqS x2 [101, 110, 100, 105, 102]) = true then if (ltI 2 (a1.length : Int)) = true then if 2 < a1.length then none else none else if (0 : Int) ≤ 0 ∧ 0 ≤ (IntKind.i64.wrap (((x19 : Nat) : Int) - 1)) ∧ (IntKind.i64.wrap (((x19 : Nat) : Int) - 1)) ≤ ((x19 : Nat) : Int) then some ((IntKind.i64.wrap (((x19 : Nat) : Int) - 1)).toNat, true, a10) else none else if (IntKind.i64.wrap (((x19 : Nat) : Int) - 1)).toNat < a10.length then if ((a10.getD ((IntKind.i64.wrap (((x19 : Nat) : Int) - 1)).toNat) default).last_) = true then if 1 < a1.length then none else none else if (eqS x2 [101, 108, 115, 101]) = true then K6 a1 a2 a3 a4 a5 a6 a7 a8 a9 a10 a11 x2 x19 (x19, ltI 2 (a1.length : Int)) else K6 a1 a2 a3 a4 a5 a6 a7 a8 a9 a10 a11 x2 x19 (x19, false) else none else none else some (x19, false, a10)
noncomputable def J4 (a1 : List Token) (a2 : List Source) (a3 : Int) (a4 : Int) (a5 : Int) (a6 : List Macro) (a7 : List Int) (a8 : List Int) (a9 : Int) (a10 : List drive_group) (a11 : List Token) : (Nat × (List UInt8) × (List UInt8) × Bool) → Option (Nat × Bool × (List drive_group))
 | (x1, x2, x3, x4) => if x4 = true then if (eqI ((x1 : Nat) : Int) 12) = true then if 1 < a1.length then none else none else if 1 < a1.length then (XL x1 a10).bind fun r1 => if r1 = true then (V4 a1 a2 a3 a4 a5 a6 a7 a8 a9 a11).bind fun r2 => K8 a10 (x1, r2, r2, (a1.getD 1 default).Kind, (a1.getD 1 default).Text, (a1.getD 1 default).Space, (a1.getD 1 default).First, (a1.getD 1 default).File, (a1.getD 1 default).At, (a1.getD 1 default).End, (a1.getD 1 default).Line, (a1.getD 1 default).Hide, (a1.getD 1 default).Calls, (a1.getD 1 default).Made) else K8 a10 (x1, false, true, (a1.getD 1 default).Kind, (a1.getD 1 default).Text, (a1.getD 1 default).Space, (a1.getD 1 default).First, (a1.getD 1 default).File, (a1.getD 1 default).At, (a1.getD 1 default).End, (a1.getD 1 default).Line, (a1.getD 1 default).Hide, (a1.getD 1 default).Calls, (a1.getD 1 default).Made) else none else if (eqS x3 [101, 108, 105, 102]) = true then J3 a1 a2 a3 a4 a5 a6 a7 a8 a9 a10 a11 x2 (x1, true) else if (eqS x3 [101, 108, 115, 101]) = true then J3 a1 a2 a3 a4 a5 a6 a7 a8 a9 a10 a11 x2 (x1, true) else J3 a1 a2 a3 a4 a5 a6 a7 a8 a9 a10 a11 x2 (x1, eqS x3 [101, 110, 100, 105, 102])
noncomputable def VN (a0 : Nat) (a1 : List Token) (a2 : List Source) (a3 : Int) (a4 : Int) (a5 : Int) (a6 : List Macro) (a7 : List Int) (a8 : List Int) (a9 : Int) (a10 : List drive_group) (a11 : List Token) : Option (Nat × Bool × (List drive_group)) :=
 if 1 < a1.length then if (eqS ((a1.getD 1 default).Text) [105, 102]) = true then J4 a1 a2 a3 a4 a5 a6 a7 a8 a9 a10 a11 (a0, (a1.getD 1 default).Text, (a1.getD 1 default).Text, true) else if (eqS ((a1.getD 1 default).Text) [105, 102, 100, 101, 102]) = true then J4 a1 a2 a3 a4 a5 a6 a7 a8 a9 a10 a11 (a0, (a1.getD 1 default).Text, (a1.getD 1 default).Text, true) else J4 a1 a2 a3 a4 a5 a6 a7 a8 a9 a10 a11 (a0, (a1.getD 1 default).Text, (a1.getD 1 default).Text, eqS ((a1.getD 1 default).Text) [105, 102, 110, 100, 101, 102]) else none
def Kh (a0 : Nat) (a1 : List Token) (a2 : List Source) (a3 : Int) (a4 : Int) (a5 : Int) (a6 : List Macro) (a7 : List Int) (a8 : List Int) (a9 : Int) (a10 : List drive_group) (a11 : List Token) (r : (Nat × Bool × (List drive_group))) : GI :=
 ⟨[.c (.pt 1 0), .c (.os 2 14 0 a0), .c (.d (.sl 11 (List.map d_Token a1)))], [[.d (.sl 2 (List.map d_Source a2)), .d (.v (.int .i64 a3)), .d (.v (.int .i64 a4)), .d (.v (.int .i64 a5)), .d (.sl 5 (List.map d_Macro a6)), .sl 1 (List.map dI a7) 4, .os 3 11 0 a11.length, .sl 1 (List.map dI a8) 5, .d (.v (.int .i64 a9))], [.arr 14 (List.map Ja a10)], [.arr 11 (List.map d_Token a11)]], [3, 3], .ret (.tu [(false, [.os 4 14 0 r.1]), (false, [.d (.v (.bool r.2.1))])]) [[.d (.sl 2 (List.map d_Source a2)), .d (.v (.int .i64 a3)), .d (.v (.int .i64 a4)), .d (.v (.int .i64 a5)), .d (.sl 5 (List.map d_Macro a6)), .sl 1 (List.map dI a7) 6, .os 5 11 0 a11.length, .sl 1 (List.map dI a8) 7, .d (.v (.int .i64 a9))], [], [], [.arr 14 (List.map Ja r.2.2)], [.arr 11 (List.map d_Token a11)]] [3, 3]⟩
def Kc : GI → Prop := fun g => ∃ (a0 : Nat) (a1 : List Token) (a2 : List Source) (a3 : Int) (a4 : Int) (a5 : Int) (a6 : List Macro) (a7 : List Int) (a8 : List Int) (a9 : Int) (a10 : List drive_group) (a11 : List Token) (r : (Nat × Bool × (List drive_group))), VN a0 a1 a2 a3 a4 a5 a6 a7 a8 a9 a10 a11 = some r ∧ g = Kh a0 a1 a2 a3 a4 a5 a6 a7 a8 a9 a10 a11 r
theorem Jcv (a0 : Nat) (a1 : List Token) (a2 : List Source) (a3 : Int) (a4 : Int) (a5 : Int) (a6 : List Macro) (a7 : List Int) (a8 : List Int) (a9 : Int) (a10 : List drive_group) (a11 : List Token) (r : (Nat × Bool × (List drive_group))) (H : VN a0 a1 a2 a3 a4 a5 a6 a7 a8 a9 a10 a11 = some r) : Kc (Kh a0 a1 a2 a3 a4 a5 a6 a7 a8 a9 a10 a11 r) := ⟨a0, a1, a2, a3, a4, a5, a6, a7, a8, a9, a10, a11, r, H, rfl⟩
theorem Jcr : ∀ g, Kc g → GenOk Tryz.prog 37 g := by
 rintro _ ⟨a0, a1, a2, a3, a4, a5, a6, a7, a8, a9, a10, a11, r, H, rfl⟩
 refine xGn mixed [] [(35, true, VJ), (55, true, Vt)] [] trivial ⟨JcC, Jdq, trivial⟩ trivial Tryz.func37 _ ?_
 have G := True.intro
 have Y := xZ y_4 <| xZ y_9 <| xZ y_24 <| xZ y_44 <| xZ y_80 <| xZ y_90 <| xZ Tryz.results37 <| xZ d_Source.eq_1 <| xZ d_Call.eq_1 <| xZ d_Token.eq_1 <| xZ d_Macro.eq_1 <| xZ d_Limits.eq_1 <| xZ Ja.eq_1 <| xZ VH.eq_1 <| xZ Vb.eq_1 <| Kh.eq_1
 dsimp only [Kh]
 simp only [VN] at H
 refine xS ?_
 refine xrn 2 1 ?_
 refine xrn 3 1 ?_
 refine xr ?_
 obtain ⟨hg1, H⟩ := gsplit H
 have F := xZ Y (map_getD d_Token a1 1 default default (by omega))
 refine xR ?_
 refine xr0 ?_
 refine then_normal ?_
 refine w_block ?_
 refine w_cut (J4 a1 a2 a3 a4 a5 a6 a7 a8 a9 a10 a11) (fun s => [(0, .c (.pt 1 0)), (1, .c (.os 4 14 0 s.1)), (2, .c (.d (.sl 11 (List.map d_Token a1)))), (8, .c (.d (.v (str s.2.1)))), (15, .c (.d (.v (str s.2.2.1)))), (17, .c (.d (.v (.bool s.2.2.2))))]) (fun s => [[.d (.sl 2 (List.map d_Source a2)), .d (.v (.int .i64 a3)), .d (.v (.int .i64 a4)), .d (.v (.int .i64 a5)), .d (.sl 5 (List.map d_Macro a6)), .sl 1 (List.map dI a7) 6, .os 5 11 0 a11.length, .sl 1 (List.map dI a8) 7, .d (.v (.int .i64 a9))], [], [], [.arr 14 (List.map Ja a10)], [.arr 11 (List.map d_Token a11)]]) [3, 3] r ?_ ?_
 ·refine xS ?_
  refine xr ?_
  rcases bsplit H with ⟨hp16, H⟩ | ⟨hp16, H⟩
  ·obtain ⟨F, G, hq16⟩ := xH Y G hp16
   refine xT ?_
   exact cut_at H (xK ⟨[1,2,3,6,7], [4,5]⟩)
  ·obtain ⟨F, G, hq16⟩ := xH Y G hp16
   refine xE ?_
   refine xr ?_
   rcases bsplit H with ⟨hp17, H⟩ | ⟨hp17, H⟩
   ·obtain ⟨F, G, hq17⟩ := xH Y G hp17
    refine xT ?_
    exact cut_at H (xK ⟨[1,2,3,6,7], [4,5]⟩)
   ·obtain ⟨F, G, hq17⟩ := xH Y G hp17
    refine xE ?_
    refine xr ?_
    exact cut_at H (xK ⟨[1,2,3,6,7], [4,5]⟩)
 ·rintro ⟨x1, x2, x3, x4⟩ H
  rw [J4] at H
  rcases bsplit H with ⟨hp1, H⟩ | ⟨hp1, H⟩
  ·obtain ⟨F, G, hq1⟩ := xH Y G hp1
   refine xT ?_
   refine xr ?_
   rcases bsplit H with ⟨hp2, H⟩ | ⟨hp2, H⟩
   ·obtain ⟨F, G, hq2⟩ := xH Y G hp2
    refine xT ?_
    obtain ⟨hg2, H⟩ := gsplit H
    have F := xZ Y (map_getD d_Token a1 1 default default (by omega))
    cases H
   ·obtain ⟨F, G, hq2⟩ := xH Y G hp2
    refine xE ?_
    obtain ⟨hg3, H⟩ := gsplit H
    have F := xZ Y (map_getD d_Token a1 1 default default (by omega))
    refine xR0 ?_
    refine then_normal ?_
    refine w_cut (K8 a10) (fun s => [(1, .c (.os 4 14 0 s.1)), (9, .c (.pt 5 0))]) (fun s => [[.d (.sl 2 (List.map d_Source a2)), .d (.v (.int .i64 a3)), .d (.v (.int .i64 a4)), .d (.v (.int .i64 a5)), .d (.sl 5 (List.map d_Macro a6)), .sl 1 (List.map dI a7) 7, .os 6 11 0 a11.length, .sl 1 (List.map dI a8) 8, .d (.v (.int .i64 a9))], [], [], [.arr 14 (List.map Ja a10)], [.d (.v (.bool s.2.1)), .d (.v (.bool s.2.2.1)), .d (.v (.bool false)), .d (.v (.int .i64 s.2.2.2.1)), .d (.v (str s.2.2.2.2.1)), .d (.v (.bool s.2.2.2.2.2.1)), .d (.v (.bool s.2.2.2.2.2.2.1)), .d (.v (.int .i64 s.2.2.2.2.2.2.2.1)), .d (.v (.int .i64 s.2.2.2.2.2.2.2.2.1)), .d (.v (.int .i64 s.2.2.2.2.2.2.2.2.2.1)), .d (.v (.int .i64 s.2.2.2.2.2.2.2.2.2.2.1)), .d (.sl 1 (List.map dS s.2.2.2.2.2.2.2.2.2.2.2.1)), .d (.sl 3 (List.map d_Call s.2.2.2.2.2.2.2.2.2.2.2.2.1)), .d (.v (.int .i64 s.2.2.2.2.2.2.2.2.2.2.2.2.2))], [.arr 11 (List.map d_Token a11)]]) [3, 3] r ?_ ?_
    ·refine xS ?_
     obtain ⟨r1, hr1, H⟩ := osplit H
     have F := Y
     refine xQ ?_
     refine xs 1 ?_
     refine xc ⟨[4], []⟩ (tabG 0 (Jbg x1 a10 r1 hr1)) ?_
     refine xl ?_
     refine xS ?_
     rcases bsplit H with ⟨hp3, H⟩ | ⟨hp3, H⟩
     ·obtain ⟨F, G, hq3⟩ := xH Y G hp3
      refine xT ?_
      obtain ⟨r2, hr2, H⟩ := osplit H
      have F := Y
      refine xQ ?_
      refine xs 2 ?_
      refine xc ⟨[1, 5], [6, 7]⟩ (tabG 1 (JbA a1 a2 a3 a4 a5 a6 a7 a8 a9 a11 r2 hr2)) ?_
      refine xs 2 ?_
      refine xl ?_
      refine xS ?_
      refine xr ?_
      exact cut_at H (xK ⟨[1,2,3,4,8,5], [12,13]⟩)
     ·obtain ⟨F, G, hq3⟩ := xH Y G hp3
      refine xE ?_
      exact cut_at H (xK ⟨[1,2,3,4,8,5], [6,7]⟩)
    ·rintro ⟨x5, x6, x7, x8, x9, x10, x11, x12, x13, x14, x15, x16, x17, x18⟩ H
     rw [K8] at H
     refine xS ?_
     obtain ⟨hg4, H⟩ := gsplit H
     have F := xZ Y (all_map JeU [(⟨x6, x7, false, (⟨x8, x9, x10, x11, x12, x13, x14, x15, x16, x17, x18⟩ : Token)⟩ : drive_group)])
     have T := take_len a10 x5 (by omega)
     have F := xZ F (Nat.min_eq_left (show x5 ≤ a10.length by omega))
     have G := xZ G (Nat.min_eq_left (show x5 ≤ a10.length by omega))
     have F := xZ F (take_app2 Ja T)
     have G := xZ G (take_app2 Ja T)
     have L : [(⟨x6, x7, false, (⟨x8, x9, x10, x11, x12, x13, x14, x15, x16, x17, x18⟩ : Token)⟩ : drive_group)].length = 1 := rfl
     replace H := Option.some.inj H
     refine xR ?_
     subst H
     refine xrD [] ?_
     exact xO ⟨[1, 2, 3, 9, 6], [7, 8]⟩
  ·obtain ⟨F, G, hq1⟩ := xH Y G hp1
   refine xE0 ?_
   refine w_cut (J3 a1 a2 a3 a4 a5 a6 a7 a8 a9 a10 a11 x2) (fun s => [(0, .c (.pt 1 0)), (1, .c (.os 4 14 0 s.1)), (2, .c (.d (.sl 11 (List.map d_Token a1)))), (8, .c (.d (.v (str x2)))), (44, .c (.d (.v (.bool s.2))))]) (fun s => [[.d (.sl 2 (List.map d_Source a2)), .d (.v (.int .i64 a3)), .d (.v (.int .i64 a4)), .d (.v (.int .i64 a5)), .d (.sl 5 (List.map d_Macro a6)), .sl 1 (List.map dI a7) 6, .os 5 11 0 a11.length, .sl 1 (List.map dI a8) 7, .d (.v (.int .i64 a9))], [], [], [.arr 14 (List.map Ja a10)], [.arr 11 (List.map d_Token a11)]]) [3, 3] r ?_ ?_
   ·refine xS ?_
    refine xr ?_
    rcases bsplit H with ⟨hp14, H⟩ | ⟨hp14, H⟩
    ·obtain ⟨F, G, hq14⟩ := xH Y G hp14
     refine xT ?_
     exact cut_at H (xK ⟨[1,2,3,4,5], [6,7]⟩)
    ·obtain ⟨F, G, hq14⟩ := xH Y G hp14
     refine xE ?_
     refine xr ?_
     rcases bsplit H with ⟨hp15, H⟩ | ⟨hp15, H⟩
     ·obtain ⟨F, G, hq15⟩ := xH Y G hp15
      refine xT ?_
      exact cut_at H (xK ⟨[1,2,3,4,5], [6,7]⟩)
     ·obtain ⟨F, G, hq15⟩ := xH Y G hp15
      refine xE ?_
      refine xr ?_
      exact cut_at H (xK ⟨[1,2,3,4,5], [6,7]⟩)
   ·rintro ⟨x19, x20⟩ H
    rw [J3] at H
    rcases bsplit H with ⟨hp4, H⟩ | ⟨hp4, H⟩
    ·obtain ⟨F, G, hq4⟩ := xH Y G hp4
     refine xT ?_
     refine xr ?_
     rcases bsplit H with ⟨hp5, H⟩ | ⟨hp5, H⟩
     ·obtain ⟨F, G, hq5⟩ := xH Y G hp5
      refine xT ?_
      obtain ⟨hg5, H⟩ := gsplit H
      have F := xZ Y (map_getD d_Token a1 1 default default (by omega))
      cases H
     ·obtain ⟨F, G, hq5⟩ := xH Y G hp5
      refine xE ?_
      obtain ⟨hg6, H⟩ := gsplit H
      refine xr ?_
      refine xr ?_
      rcases bsplit H with ⟨hp6, H⟩ | ⟨hp6, H⟩
      ·obtain ⟨F, G, hq6⟩ := xH Y G hp6
       refine xT ?_
       refine xr ?_
       rcases bsplit H with ⟨hp7, H⟩ | ⟨hp7, H⟩
       ·obtain ⟨F, G, hq7⟩ := xH Y G hp7
        refine xT ?_
        obtain ⟨hg7, H⟩ := gsplit H
        have F := xZ Y (map_getD d_Token a1 2 default default (by omega))
        cases H
       ·obtain ⟨F, G, hq7⟩ := xH Y G hp7
        refine xE ?_
        obtain ⟨hg8, H⟩ := gsplit H
        replace H := Option.some.inj H
        refine xr ?_
        subst H
        refine xrD [] ?_
        exact xO ⟨[1, 2, 3, 4, 5], [6, 7]⟩
      ·obtain ⟨F, G, hq6⟩ := xH Y G hp6
       refine xE ?_
       obtain ⟨hg, H⟩ := gsplit H
       have F := xZ Y (map_getD Ja a10 ((IntKind.i64.wrap (((x19 : Nat) : Int) - 1)).toNat) default default (by omega))
       refine xR ?_
       rcases bsplit H with ⟨hp8, H⟩ | ⟨hp8, H⟩
       ·obtain ⟨F, G, hq8⟩ := xH Y G hp8
        refine xT ?_
        obtain ⟨hg9, H⟩ := gsplit H
        have F := xZ Y (map_getD d_Token a1 1 default default (by omega))
        cases H
       ·obtain ⟨F, G, hq8⟩ := xH Y G hp8
        refine xE0 ?_
        refine w_cut (K6 a1 a2 a3 a4 a5 a6 a7 a8 a9 a10 a11 x2 x19) (fun s => [(0, .c (.pt 1 0)), (1, .c (.os 4 14 0 s.1)), (2, .c (.d (.sl 11 (List.map d_Token a1)))), (8, .c (.d (.v (str x2)))), (10, .c (.pa 4 14 ((IntKind.i64.wrap (((x19 : Nat) : Int) - 1)).toNat) 0)), (81, .c (.d (.v (.bool s.2))))]) (fun s => [[.d (.sl 2 (List.map d_Source a2)), .d (.v (.int .i64 a3)), .d (.v (.int .i64 a4)), .d (.v (.int .i64 a5)), .d (.sl 5 (List.map d_Macro a6)), .sl 1 (List.map dI a7) 6, .os 5 11 0 a11.length, .sl 1 (List.map dI a8) 7, .d (.v (.int .i64 a9))], [], [], [.arr 14 (List.map Ja a10)], [.arr 11 (List.map d_Token a11)]]) [3, 3] r ?_ ?_
        ·rcases bsplit H with ⟨hp13, H⟩ | ⟨hp13, H⟩
         ·obtain ⟨F, G, hq13⟩ := xH Y G hp13
          refine xR ?_
          exact cut_at H (xK ⟨[1,2,3,4,5], [6,7]⟩)
         ·obtain ⟨F, G, hq13⟩ := xH Y G hp13
          refine xR ?_
          exact cut_at H (xK ⟨[1,2,3,4,5], [6,7]⟩)
        ·rintro ⟨x21, x22⟩ H
         rw [K6] at H
         rcases bsplit H with ⟨hp9, H⟩ | ⟨hp9, H⟩
         ·obtain ⟨F, G, hq9⟩ := xH Y G hp9
          refine xT ?_
          obtain ⟨hg10, H⟩ := gsplit H
          have F := xZ Y (map_getD d_Token a1 2 default default (by omega))
          cases H
         ·obtain ⟨F, G, hq9⟩ := xH Y G hp9
          refine xE ?_
          obtain ⟨hg, H⟩ := gsplit H
          have F := xZ Y (map_getD Ja a10 ((IntKind.i64.wrap (((x19 : Nat) : Int) - 1)).toNat) default default (by omega))
          have F := xZ F (set_len Ja a10 ((IntKind.i64.wrap (((x19 : Nat) : Int) - 1)).toNat))
          have F := xZ F (set_get Ja a10 (show (IntKind.i64.wrap (((x19 : Nat) : Int) - 1)).toNat < a10.length by omega))
          have F := xZ F (set_set Ja a10 ((IntKind.i64.wrap (((x19 : Nat) : Int) - 1)).toNat))
          refine xR0 ?_
          refine then_normal ?_
          refine w_cut (K5 x2 x19) (fun s => [(1, .c (.os 4 14 0 s.1)), (8, .c (.d (.v (str x2)))), (10, .c (.pa 4 14 ((IntKind.i64.wrap (((x19 : Nat) : Int) - 1)).toNat) 0))]) (fun s => [[.d (.sl 2 (List.map d_Source a2)), .d (.v (.int .i64 a3)), .d (.v (.int .i64 a4)), .d (.v (.int .i64 a5)), .d (.sl 5 (List.map d_Macro a6)), .sl 1 (List.map dI a7) 6, .os 5 11 0 a11.length, .sl 1 (List.map dI a8) 7, .d (.v (.int .i64 a9))], [], [], [.arr 14 (List.map Ja s.2)], [.arr 11 (List.map d_Token a11)]]) [3, 3] r ?_ ?_
          ·refine w_cut (J5 x2 x19) (fun s => [(1, .c (.os 4 14 0 s.1)), (8, .c (.d (.v (str x2)))), (10, .c (.pa 4 14 ((IntKind.i64.wrap (((x19 : Nat) : Int) - 1)).toNat) 0)), (108, .c (.d (.v (.bool s.2.1))))]) (fun s => [[.d (.sl 2 (List.map d_Source a2)), .d (.v (.int .i64 a3)), .d (.v (.int .i64 a4)), .d (.v (.int .i64 a5)), .d (.sl 5 (List.map d_Macro a6)), .sl 1 (List.map dI a7) 6, .os 5 11 0 a11.length, .sl 1 (List.map dI a8) 7, .d (.v (.int .i64 a9))], [], [], [.arr 14 (List.map Ja s.2.2)], [.arr 11 (List.map d_Token a11)]]) [3, 3] r ?_ ?_
           ·obtain ⟨hg, H⟩ := gsplit H
            have F := xZ Y (map_getD Ja a10 ((IntKind.i64.wrap (((x19 : Nat) : Int) - 1)).toNat) default default (by omega))
            have F := xZ F (set_len Ja a10 ((IntKind.i64.wrap (((x19 : Nat) : Int) - 1)).toNat))
            have F := xZ F (set_get Ja a10 (show (IntKind.i64.wrap (((x19 : Nat) : Int) - 1)).toNat < a10.length by omega))
            have F := xZ F (set_set Ja a10 ((IntKind.i64.wrap (((x19 : Nat) : Int) - 1)).toNat))
            rcases bsplit H with ⟨hp11, H⟩ | ⟨hp11, H⟩
            ·obtain ⟨F, G, hq11⟩ := xH F G hp11
             rcases bsplit H with ⟨hp12, H⟩ | ⟨hp12, H⟩
             ·obtain ⟨F, G, hq12⟩ := xH F G hp12
              refine xR ?_
              exact cut_at H (xK ⟨[1,2,3,4,5], [6,7]⟩)
             ·obtain ⟨F, G, hq12⟩ := xH F G hp12
              obtain ⟨r3, hr3, H⟩ := osplit H
              have F := F
              refine xQ ?_
              refine xs 11 ?_
              refine xc ⟨[1, 5], [6, 7]⟩ (tabG 1 (JbA a1 a2 a3 a4 a5 a6 a7 a8 a9 a11 r3 hr3)) ?_
              refine xs 2 ?_
              refine xl ?_
              refine xS ?_
              exact cut_at H (xK ⟨[1,2,3,4,5], [10,11]⟩)
            ·obtain ⟨F, G, hq11⟩ := xH F G hp11
             refine xR ?_
             exact cut_at H (xK ⟨[1,2,3,4,5], [6,7]⟩)
           ·rintro ⟨x25, x26, x27⟩ H
            rw [J5] at H
            rcases bsplit H with ⟨hp10, H⟩ | ⟨hp10, H⟩
            ·obtain ⟨F, G, hq10⟩ := xH Y G hp10
             refine xT ?_
             obtain ⟨hg, H⟩ := gsplit H
             have F := xZ Y (map_getD Ja x27 ((IntKind.i64.wrap (((x19 : Nat) : Int) - 1)).toNat) default default (by omega))
             have F := xZ F (set_len Ja x27 ((IntKind.i64.wrap (((x19 : Nat) : Int) - 1)).toNat))
             have F := xZ F (set_get Ja x27 (show (IntKind.i64.wrap (((x19 : Nat) : Int) - 1)).toNat < x27.length by omega))
             have F := xZ F (set_set Ja x27 ((IntKind.i64.wrap (((x19 : Nat) : Int) - 1)).toNat))
             obtain ⟨hg, H⟩ := gsplit H
             have F := xZ F (map_getD Ja x27 ((IntKind.i64.wrap (((x19 : Nat) : Int) - 1)).toNat) default default (by omega))
             have F := xZ F (set_len Ja x27 ((IntKind.i64.wrap (((x19 : Nat) : Int) - 1)).toNat))
             have F := xZ F (set_get Ja x27 (show (IntKind.i64.wrap (((x19 : Nat) : Int) - 1)).toNat < x27.length by omega))
             have F := xZ F (set_set Ja x27 ((IntKind.i64.wrap (((x19 : Nat) : Int) - 1)).toNat))
             refine xR ?_
             exact cut_at H (xK ⟨[1,2,3,4,5], [6,7]⟩)
            ·obtain ⟨F, G, hq10⟩ := xH Y G hp10
             refine xE ?_
             exact cut_at H (xK ⟨[1,2,3,4,5], [6,7]⟩)
          ·rintro ⟨x23, x24⟩ H
           rw [K5] at H
           refine xS ?_
           obtain ⟨hg, H⟩ := gsplit H
           have F := xZ Y (map_getD Ja x24 ((IntKind.i64.wrap (((x19 : Nat) : Int) - 1)).toNat) default default (by omega))
           have F := xZ F (set_len Ja x24 ((IntKind.i64.wrap (((x19 : Nat) : Int) - 1)).toNat))
           have F := xZ F (set_get Ja x24 (show (IntKind.i64.wrap (((x19 : Nat) : Int) - 1)).toNat < x24.length by omega))
           have F := xZ F (set_set Ja x24 ((IntKind.i64.wrap (((x19 : Nat) : Int) - 1)).toNat))
           refine xR ?_
           replace H := Option.some.inj H
           refine xr ?_
           subst H
           refine xrD [] ?_
           exact xO ⟨[1, 2, 3, 4, 5], [6, 7]⟩
    ·obtain ⟨F, G, hq4⟩ := xH Y G hp4
     refine xE ?_
     replace H := Option.some.inj H
     refine xr ?_
     subst H
     refine xrD [] ?_
     exact xO ⟨[1, 2, 3, 4, 5], [6, 7]⟩
theorem Jcy : Callable Tryz.prog 37 ∧ (∀ g, Kc g → GenOk Tryz.prog 37 g) ∧ (true = true → ∀ g, Kc g → ∃ val bs ts, g.out = .ret val bs ts) :=
 ⟨call_37, Jcr, fun _ => by rintro _ ⟨_, _, _, _, _, _, _, _, _, _, _, _, _, _, rfl⟩; exact ⟨_, _, _, rfl⟩⟩
noncomputable def XV : Bool → Option Bool
 | x1 => some x1
noncomputable def Z7 (a0 : List UInt8) : Option Bool :=
 if (eqS a0 [95, 95, 76, 73, 78, 69, 95, 95]) = true then XV true else if (eqS a0 [95, 95, 70, 73, 76, 69, 95, 95]) = true then XV true else XV (eqS a0 [100, 101, 102, 105, 110, 101, 100])
noncomputable def Z4 : PF := PF.of (E1 dS) (fun a => Z7 a) dB
theorem JcB : PureOk Tryz.prog 58 Z4 := by
 refine xF mixed [] [] trivial trivial Tryz.func58 ?_
 rintro a0 out H
 have G := True.intro
 have Y := Tryz.results58
 simp only [Z7] at H
 refine xS ?_
 refine xr0 ?_
 refine then_normal ?_
 refine w_cut XV (fun s => [(2, .c (.d (.v (.bool s))))]) (fun s => []) [] out ?_ ?_
 ·rcases bsplit H with ⟨hp1, H⟩ | ⟨hp1, H⟩
  ·obtain ⟨F, G, hq1⟩ := xH Y G hp1
   refine xR ?_
   exact cut_at H (xK ⟨[], []⟩)
  ·obtain ⟨F, G, hq1⟩ := xH Y G hp1
   rcases bsplit H with ⟨hp2, H⟩ | ⟨hp2, H⟩
   ·obtain ⟨F, G, hq2⟩ := xH F G hp2
    refine xR ?_
    exact cut_at H (xK ⟨[], []⟩)
   ·obtain ⟨F, G, hq2⟩ := xH F G hp2
    refine xR ?_
    exact cut_at H (xK ⟨[], []⟩)
 ·rintro x1 H
  rw [XV] at H
  replace H := Option.some.inj H
  refine xS ?_
  subst H
  exact xN
theorem JcU (a0 : List UInt8) (r : Bool) (H : Z7 a0 = some r) : PC Z4 [dS a0] (dB r) := PF.c (a := a0) H
noncomputable def Ja7 (x1 : Int) (x2 : Int) : Unit → Option ((Int × Int) ⊕ Unit)
 | () => some (.inl (x1, IntKind.i64.wrap (x2 + 1)))
noncomputable def Ja8 (x1 : Int) (x2 : Int) : Bool → Option ((Int × Int) ⊕ Unit)
 | x3 => if x3 = true then none else Ja7 x1 x2 ()
noncomputable def Jab (x1 : Int) (x2 : Int) : Bool → Option ((Int × Int) ⊕ Unit)
 | x16 => if x16 = true then none else Ja7 x1 x2 ()
noncomputable def Jad (a1 : Bool) (a4 : List Token) (x1 : Int) (x2 : Int) : (Bool × Int × (List UInt8) × Bool × Bool × Int × Int × Int × Int × (List (List UInt8)) × (List Call) × Int) → Option ((Int × Int) ⊕ Unit)
 | (x4, x5, x6, x7, x8, x9, x10, x11, x12, x13, x14, x15) => if x4 = true then none else if (eqS x6 [35]) = true then if a1 = true then if (eqI x2 (IntKind.i64.wrap (((a4.length : Nat) : Int) - 1))) = true then Jab x1 x2 true else if (0 : Int) ≤ (IntKind.i64.wrap (x2 + 1)) ∧ (IntKind.i64.wrap (x2 + 1)).toNat < a4.length then if (IntKind.i64.wrap (x2 + 1)).toNat < a4.length then none else none else none else Jab x1 x2 false else Jab x1 x2 false
noncomputable def Jci (a1 : Bool) (a3 : Bool) (a4 : List Token) : (Int × Int) → Option ((Int × Int) ⊕ Unit)
 | (x1, x2) => if (ltI x2 x1) = true then if (0 : Int) ≤ x2 ∧ x2.toNat < a4.length then if x2.toNat < a4.length then if (!eqI ((a4.getD x2.toNat default).Kind) 5) = true then if (eqS ((a4.getD x2.toNat default).Text) [95, 95, 86, 65, 95, 65, 82, 71, 83, 95, 95]) = true then Ja8 x1 x2 (!a3) else Ja8 x1 x2 false else if (eqS ((a4.getD x2.toNat default).Text) [35, 35]) = true then if (eqI x2 0) = true then Jad a1 a4 x1 x2 (true, (a4.getD x2.toNat default).Kind, (a4.getD x2.toNat default).Text, (a4.getD x2.toNat default).Space, (a4.getD x2.toNat default).First, (a4.getD x2.toNat default).File, (a4.getD x2.toNat default).At, (a4.getD x2.toNat default).End, (a4.getD x2.toNat default).Line, (a4.getD x2.toNat default).Hide, (a4.getD x2.toNat default).Calls, (a4.getD x2.toNat default).Made) else Jad a1 a4 x1 x2 (eqI x2 (IntKind.i64.wrap (((a4.length : Nat) : Int) - 1)), (a4.getD x2.toNat default).Kind, (a4.getD x2.toNat default).Text, (a4.getD x2.toNat default).Space, (a4.getD x2.toNat default).First, (a4.getD x2.toNat default).File, (a4.getD x2.toNat default).At, (a4.getD x2.toNat default).End, (a4.getD x2.toNat default).Line, (a4.getD x2.toNat default).Hide, (a4.getD x2.toNat default).Calls, (a4.getD x2.toNat default).Made) else Jad a1 a4 x1 x2 (false, (a4.getD x2.toNat default).Kind, (a4.getD x2.toNat default).Text, (a4.getD x2.toNat default).Space, (a4.getD x2.toNat default).First, (a4.getD x2.toNat default).File, (a4.getD x2.toNat default).At, (a4.getD x2.toNat default).End, (a4.getD x2.toNat default).Line, (a4.getD x2.toNat default).Hide, (a4.getD x2.toNat default).Calls, (a4.getD x2.toNat default).Made) else none else none else inrO (some ())
noncomputable def Jcs (a0 : List UInt8) (a1 : Bool) (a2 : List (List UInt8)) (a3 : Bool) (a4 : List Token) : Option Unit :=
 loopO (Jci a1 a3 a4) (((a4.length : Nat) : Int), 0)
def Jat (a0 : List UInt8) (a1 : Bool) (a2 : List (List UInt8)) (a3 : Bool) (a4 : List Token) (r : Unit) : GI :=
 ⟨[.c (.pt 1 0)], [[.d (.v (str a0)), .d (.v (.bool a1)), .sl 1 (List.map dS a2) 3, .d (.v (.bool a3)), .os 2 11 0 a4.length], [.arr 11 (List.map d_Token a4)]], [9], .ret (.ag [.d (.v (.int .i64 0)), .d (.v (.int .i64 (-1))), .d (.v (.int .i64 0))]) [[.d (.v (str a0)), .d (.v (.bool a1)), .sl 1 (List.map dS a2) 3, .d (.v (.bool a3)), .os 2 11 0 a4.length], [.arr 11 (List.map d_Token a4)]] [9]⟩
def Jax : GI → Prop := fun g => ∃ (a0 : List UInt8) (a1 : Bool) (a2 : List (List UInt8)) (a3 : Bool) (a4 : List Token) (r : Unit), Jcs a0 a1 a2 a3 a4 = some r ∧ g = Jat a0 a1 a2 a3 a4 r
theorem Jfv (a0 : List UInt8) (a1 : Bool) (a2 : List (List UInt8)) (a3 : Bool) (a4 : List Token) (r : Unit) (H : Jcs a0 a1 a2 a3 a4 = some r) : Jax (Jat a0 a1 a2 a3 a4 r) := ⟨a0, a1, a2, a3, a4, r, H, rfl⟩
theorem Jfp : ∀ g, Jax g → GenOk Tryz.prog 85 g := by
 rintro _ ⟨a0, a1, a2, a3, a4, r, H, rfl⟩
 refine xGn mixed [] [] [] trivial trivial trivial Tryz.func85 _ ?_
 have G := True.intro
 have Y := xZ y_3 <| xZ y_4 <| xZ y_9 <| xZ y_24 <| xZ y_29 <| xZ y_31 <| xZ y_41 <| xZ y_44 <| xZ y_63 <| xZ Tryz.results85 <| xZ d_Call.eq_1 <| xZ d_Token.eq_1 <| xZ d_Macro.eq_1 <| xZ d_Fault.eq_1 <| Jat.eq_1
 dsimp only [Jat]
 unfold Jcs at H
 refine xS ?_
 refine xr ?_
 refine xr ?_
 refine w_loop (Jci a1 a3 a4) (fun s => [(0, .c (.pt 1 0)), (2, .c (.pt 3 0)), (8, .c (.os 2 11 0 a4.length)), (9, .c (.d (.v (.int .i64 s.1)))), (10, .c (.d (.v (.int .i64 s.2))))]) (fun s => [[.d (.v (str a0)), .d (.v (.bool a1)), .sl 1 (List.map dS a2) 4, .d (.v (.bool a3)), .os 2 11 0 a4.length], [.arr 11 (List.map d_Token a4)], [.d (.v (.int .i64 0)), .d (.v (.int .i64 0)), .d (.v (.int .i64 0))]]) [9] H (xK ⟨[1,2,4], [3]⟩) ?_
 rintro n1 ⟨x1, x2⟩ o1 H hF1
 rw [Jci] at H
 refine xS ?_
 refine xr ?_
 rcases bsplit H with ⟨hp1, H⟩ | ⟨hp1, H⟩
 ·obtain ⟨F, G, hq1⟩ := xH Y G hp1
  refine xT0 ?_
  refine w_skip ?_
  refine then_normal ?_
  refine w_cut (Ja7 x1 x2) (fun s => [(0, .c (.pt 1 0)), (2, .c (.pt 3 0)), (8, .c (.os 2 11 0 a4.length)), (9, .c (.d (.v (.int .i64 x1)))), (10, .c (.d (.v (.int .i64 x2))))]) (fun s => [[.d (.v (str a0)), .d (.v (.bool a1)), .sl 1 (List.map dS a2) 4, .d (.v (.bool a3)), .os 2 11 0 a4.length], [.arr 11 (List.map d_Token a4)], [.d (.v (.int .i64 0)), .d (.v (.int .i64 0)), .d (.v (.int .i64 0))]]) [9] o1 ?_ ?_
  ·refine xS ?_
   obtain ⟨hg1, H⟩ := gsplit H
   obtain ⟨hg, H⟩ := gsplit H
   have F := xZ Y (map_getD d_Token a4 x2.toNat default default (by omega))
   refine xR ?_
   refine xr ?_
   rcases bsplit H with ⟨hp2, H⟩ | ⟨hp2, H⟩
   ·obtain ⟨F, G, hq2⟩ := xH Y G hp2
    refine xT0 ?_
    refine w_seq ?_
    refine w_cut (Ja8 x1 x2) (fun s => [(0, .c (.pt 1 0)), (2, .c (.pt 3 0)), (3, .c (.d (.v (.int .i64 x2)))), (8, .c (.os 2 11 0 a4.length)), (9, .c (.d (.v (.int .i64 x1)))), (10, .c (.d (.v (.int .i64 x2)))), (27, .c (.d (.v (.bool s))))]) (fun s => [[.d (.v (str a0)), .d (.v (.bool a1)), .sl 1 (List.map dS a2) 4, .d (.v (.bool a3)), .os 2 11 0 a4.length], [.arr 11 (List.map d_Token a4)], [.d (.v (.int .i64 0)), .d (.v (.int .i64 0)), .d (.v (.int .i64 0))]]) [9] o1 ?_ ?_
    ·rcases bsplit H with ⟨hp4, H⟩ | ⟨hp4, H⟩
     ·obtain ⟨F, G, hq4⟩ := xH Y G hp4
      refine xR ?_
      exact cut_at H (xK ⟨[1,2,3], [4]⟩)
     ·obtain ⟨F, G, hq4⟩ := xH Y G hp4
      refine xR ?_
      exact cut_at H (xK ⟨[1,2,3], [4]⟩)
    ·rintro x3 H
     rw [Ja8] at H
     rcases bsplit H with ⟨hp3, H⟩ | ⟨hp3, H⟩
     ·obtain ⟨F, G, hq3⟩ := xH Y G hp3
      refine xT ?_
      cases H
     ·obtain ⟨F, G, hq3⟩ := xH Y G hp3
      refine xE ?_
      exact cut_at H (xK ⟨[1,2,3], [4]⟩)
   ·obtain ⟨F, G, hq2⟩ := xH Y G hp2
    refine xE0 ?_
    refine w_skip ?_
    refine then_normal ?_
    refine w_block ?_
    refine w_cut (Jad a1 a4 x1 x2) (fun s => [(0, .c (.pt 1 0)), (2, .c (.pt 3 0)), (3, .c (.d (.v (.int .i64 x2)))), (4, .c (.pt 4 0)), (8, .c (.os 2 11 0 a4.length)), (9, .c (.d (.v (.int .i64 x1)))), (10, .c (.d (.v (.int .i64 x2)))), (34, .c (.d (.v (.bool s.1))))]) (fun s => [[.d (.v (str a0)), .d (.v (.bool a1)), .sl 1 (List.map dS a2) 5, .d (.v (.bool a3)), .os 2 11 0 a4.length], [.arr 11 (List.map d_Token a4)], [.d (.v (.int .i64 0)), .d (.v (.int .i64 0)), .d (.v (.int .i64 0))], [.d (.v (.int .i64 s.2.1)), .d (.v (str s.2.2.1)), .d (.v (.bool s.2.2.2.1)), .d (.v (.bool s.2.2.2.2.1)), .d (.v (.int .i64 s.2.2.2.2.2.1)), .d (.v (.int .i64 s.2.2.2.2.2.2.1)), .d (.v (.int .i64 s.2.2.2.2.2.2.2.1)), .d (.v (.int .i64 s.2.2.2.2.2.2.2.2.1)), .d (.sl 1 (List.map dS s.2.2.2.2.2.2.2.2.2.1)), .d (.sl 3 (List.map d_Call s.2.2.2.2.2.2.2.2.2.2.1)), .d (.v (.int .i64 s.2.2.2.2.2.2.2.2.2.2.2))]]) [9] o1 ?_ ?_
    ·rcases bsplit H with ⟨hp10, H⟩ | ⟨hp10, H⟩
     ·obtain ⟨F, G, hq10⟩ := xH Y G hp10
      rcases bsplit H with ⟨hp11, H⟩ | ⟨hp11, H⟩
      ·obtain ⟨F, G, hq11⟩ := xH F G hp11
       refine xR ?_
       exact cut_at H (xK ⟨[1,2,3,5], [4]⟩)
      ·obtain ⟨F, G, hq11⟩ := xH F G hp11
       refine xR ?_
       exact cut_at H (xK ⟨[1,2,3,5], [4]⟩)
     ·obtain ⟨F, G, hq10⟩ := xH Y G hp10
      refine xR ?_
      exact cut_at H (xK ⟨[1,2,3,5], [4]⟩)
    ·rintro ⟨x4, x5, x6, x7, x8, x9, x10, x11, x12, x13, x14, x15⟩ H
     rw [Jad] at H
     rcases bsplit H with ⟨hp5, H⟩ | ⟨hp5, H⟩
     ·obtain ⟨F, G, hq5⟩ := xH Y G hp5
      refine xT ?_
      cases H
     ·obtain ⟨F, G, hq5⟩ := xH Y G hp5
      refine xE0 ?_
      refine w_cut (Jab x1 x2) (fun s => [(0, .c (.pt 1 0)), (2, .c (.pt 3 0)), (3, .c (.d (.v (.int .i64 x2)))), (8, .c (.os 2 11 0 a4.length)), (9, .c (.d (.v (.int .i64 x1)))), (10, .c (.d (.v (.int .i64 x2)))), (58, .c (.d (.v (.bool s))))]) (fun s => [[.d (.v (str a0)), .d (.v (.bool a1)), .sl 1 (List.map dS a2) 4, .d (.v (.bool a3)), .os 2 11 0 a4.length], [.arr 11 (List.map d_Token a4)], [.d (.v (.int .i64 0)), .d (.v (.int .i64 0)), .d (.v (.int .i64 0))]]) [9] o1 ?_ ?_
      ·rcases bsplit H with ⟨hp7, H⟩ | ⟨hp7, H⟩
       ·obtain ⟨F, G, hq7⟩ := xH Y G hp7
        rcases bsplit H with ⟨hp8, H⟩ | ⟨hp8, H⟩
        ·obtain ⟨F, G, hq8⟩ := xH F G hp8
         rcases bsplit H with ⟨hp9, H⟩ | ⟨hp9, H⟩
         ·obtain ⟨F, G, hq9⟩ := xH F G hp9
          refine xR ?_
          exact cut_at H (xK ⟨[1,2,3], [5]⟩)
         ·obtain ⟨F, G, hq9⟩ := xH F G hp9
          obtain ⟨hg2, H⟩ := gsplit H
          obtain ⟨hg, H⟩ := gsplit H
          have F := xZ F (map_getD d_Token a4 ((IntKind.i64.wrap (x2 + 1)).toNat) default default (by omega))
          cases H
        ·obtain ⟨F, G, hq8⟩ := xH F G hp8
         refine xR ?_
         exact cut_at H (xK ⟨[1,2,3], [5]⟩)
       ·obtain ⟨F, G, hq7⟩ := xH Y G hp7
        refine xR ?_
        exact cut_at H (xK ⟨[1,2,3], [5]⟩)
      ·rintro x16 H
       rw [Jab] at H
       rcases bsplit H with ⟨hp6, H⟩ | ⟨hp6, H⟩
       ·obtain ⟨F, G, hq6⟩ := xH Y G hp6
        refine xT ?_
        cases H
       ·obtain ⟨F, G, hq6⟩ := xH Y G hp6
        refine xE ?_
        exact cut_at H (xK ⟨[1,2,3], [4]⟩)
  ·rintro ⟨⟩ H
   rw [Ja7] at H
   refine xr ?_
   exact round_at (inl_fin H hF1) (xK ⟨[1,2,3], [4]⟩)
 ·obtain ⟨F, G, hq1⟩ := xH Y G hp1
  replace H := inrO_fin H hF1
  refine xE ?_
  refine xr ?_
  refine xrD [] ?_
  exact xO ⟨[1, 2], [4]⟩
theorem JfB : Callable Tryz.prog 85 ∧ (∀ g, Jax g → GenOk Tryz.prog 85 g) ∧ (true = true → ∀ g, Jax g → ∃ val bs ts, g.out = .ret val bs ts) :=
 ⟨call_85, Jfp, fun _ => by rintro _ ⟨_, _, _, _, _, _, _, rfl⟩; exact ⟨_, _, _, rfl⟩⟩
noncomputable def JaF (x5 : List Token) (x6 : Int) (x7 : Int) (x8 : List Token) : (Int × (List UInt8) × Bool × Bool × Int × Int × Int × Int × (List (List UInt8)) × (List Call) × Int) → Option (((List Token) × Int × Int × (List Token)) ⊕ (Macro × Fault))
 | (x9, x10, x11, x12, x13, x14, x15, x16, x17, x18, x19) => if (x8.length + [(⟨x9, x10, x11, false, x13, x14, x15, x16, ([] : List (List UInt8)), ([] : List Call), x19⟩ : Token)].length) * 120 ≤ 140737488355328 then some (.inl (x5, x6, IntKind.i64.wrap (x7 + 1), x8 ++ [(⟨x9, x10, x11, false, x13, x14, x15, x16, ([] : List (List UInt8)), ([] : List Call), x19⟩ : Token)])) else none
noncomputable def JbZ (x4 : List UInt8) : ((List Token) × Int × Int × (List Token)) → Option (((List Token) × Int × Int × (List Token)) ⊕ (Macro × Fault))
 | (x5, x6, x7, x8) => if (ltI x7 x6) = true then if (0 : Int) ≤ x7 ∧ x7.toNat < x5.length then if ((x5.getD x7.toNat default).Space) = true then JaF x5 x6 x7 x8 ((x5.getD x7.toNat default).Kind, (x5.getD x7.toNat default).Text, ltI 0 x7, (x5.getD x7.toNat default).First, (x5.getD x7.toNat default).File, (x5.getD x7.toNat default).At, (x5.getD x7.toNat default).End, (x5.getD x7.toNat default).Line, (x5.getD x7.toNat default).Hide, (x5.getD x7.toNat default).Calls, (x5.getD x7.toNat default).Made) else JaF x5 x6 x7 x8 ((x5.getD x7.toNat default).Kind, (x5.getD x7.toNat default).Text, false, (x5.getD x7.toNat default).First, (x5.getD x7.toNat default).File, (x5.getD x7.toNat default).At, (x5.getD x7.toNat default).End, (x5.getD x7.toNat default).Line, (x5.getD x7.toNat default).Hide, (x5.getD x7.toNat default).Calls, (x5.getD x7.toNat default).Made) else none else inrO ((Jcs x4 false ([] : List (List UInt8)) false x8).bind fun r2 => some ((⟨x4, false, ([] : List (List UInt8)), false, x8⟩ : Macro), (⟨0, (-1), 0⟩ : Fault)))
noncomputable def ZE (a0 : List Token) : (Bool × (List UInt8)) → Option (Macro × Fault)
 | (x3, x4) => if x3 = true then none else if (ltI 60 (IntKind.i64.wrap ((a0.length : Int) - 1))) = true then none else if (0 : Int) ≤ 1 ∧ 1 ≤ (a0.length : Int) ∧ (a0.length : Int) ≤ (a0.length : Int) then loopO (JbZ x4) (List.drop 1 a0, ((List.drop 1 a0).length : Int), 0, ([] : List Token)) else none
noncomputable def JaB (a0 : List Token) : (Bool × (List UInt8)) → Option (Macro × Fault)
 | (x1, x2) => if x1 = true then none else if 0 < a0.length then (Z7 ((a0.getD 0 default).Text)).bind fun r1 => if r1 = true then none else if 0 < a0.length then if (ltI 1 (a0.length : Int)) = true then if 1 < a0.length then if (eqS ((a0.getD 1 default).Text) [40]) = true then if 1 < a0.length then ZE a0 (!((a0.getD 1 default).Space), (a0.getD 0 default).Text) else none else ZE a0 (false, (a0.getD 0 default).Text) else none else ZE a0 (false, (a0.getD 0 default).Text) else none else none
noncomputable def Jca (a0 : List Token) : Option (Macro × Fault) :=
 if (eqI (a0.length : Int) 0) = true then JaB a0 (true, []) else if 0 < a0.length then JaB a0 (!eqI ((a0.getD 0 default).Kind) 1, []) else none
noncomputable def Jb6 : PF := PF.of (E1 (dL 11 d_Token)) (fun a => Jca a) (T2 d_Macro d_Fault)
theorem Je7 : PureOk Tryz.prog 56 Jb6 := by
 refine xF mixed [(58, Z4)] [(85, true, Jax)] ⟨⟨call_58, JcB⟩, trivial⟩ ⟨JfB, trivial⟩ Tryz.func56 ?_
 rintro a0 out H
 have G := True.intro
 have Y := xZ y_3 <| xZ y_4 <| xZ y_9 <| xZ y_24 <| xZ y_29 <| xZ y_31 <| xZ y_41 <| xZ y_42 <| xZ y_44 <| xZ y_63 <| xZ Tryz.results56 <| xZ d_Call.eq_1 <| xZ d_Token.eq_1 <| xZ d_Macro.eq_1 <| xZ d_Fault.eq_1 <| Jat.eq_1
 simp only [Jca] at H
 refine xS ?_
 refine xr ?_
 refine xr0 ?_
 refine then_normal ?_
 refine w_seq ?_
 refine w_cut (JaB a0) (fun s => [(0, .c (.d (.sl 11 (List.map d_Token a0)))), (2, .c (.pt 1 0)), (3, .c (.pt 2 0)), (4, .c (.d (.v (.func (.func 82) #[] #[])))), (21, .c (.d (.v (.bool s.1))))]) (fun s => [[.d (.v (str s.2)), .d (.v (.bool false)), .sl 1 [] 0, .d (.v (.bool false)), .sl 11 [] 0], [.d (.v (.int .i64 0)), .d (.v (.int .i64 0)), .d (.v (.int .i64 0))]]) [] out ?_ ?_
 ·rcases bsplit H with ⟨hp9, H⟩ | ⟨hp9, H⟩
  ·obtain ⟨F, G, hq9⟩ := xH Y G hp9
   refine xR ?_
   exact cut_at H (xK ⟨[1,2], []⟩)
  ·obtain ⟨F, G, hq9⟩ := xH Y G hp9
   obtain ⟨hg8, H⟩ := gsplit H
   have F := xZ F (map_getD d_Token a0 0 default default (by omega))
   refine xR ?_
   exact cut_at H (xK ⟨[1,2], []⟩)
 ·rintro ⟨x1, x2⟩ H
  rw [JaB] at H
  rcases bsplit H with ⟨hp1, H⟩ | ⟨hp1, H⟩
  ·obtain ⟨F, G, hq1⟩ := xH Y G hp1
   refine xT ?_
   cases H
  ·obtain ⟨F, G, hq1⟩ := xH Y G hp1
   refine xE ?_
   obtain ⟨hg1, H⟩ := gsplit H
   have F := xZ Y (map_getD d_Token a0 0 default default (by omega))
   obtain ⟨r1, hr1, H⟩ := osplit H
   have F := xCf F (JcU ((a0.getD 0 default).Text) r1 hr1)
   refine xR ?_
   rcases bsplit H with ⟨hp2, H⟩ | ⟨hp2, H⟩
   ·obtain ⟨F, G, hq2⟩ := xH Y G hp2
    refine xT ?_
    cases H
   ·obtain ⟨F, G, hq2⟩ := xH Y G hp2
    refine xE ?_
    obtain ⟨hg2, H⟩ := gsplit H
    have F := xZ Y (map_getD d_Token a0 0 default default (by omega))
    refine xR ?_
    refine xr0 ?_
    refine then_normal ?_
    refine w_seq ?_
    refine w_cut (ZE a0) (fun s => [(0, .c (.d (.sl 11 (List.map d_Token a0)))), (2, .c (.pt 1 0)), (3, .c (.pt 2 0)), (4, .c (.d (.v (.func (.func 82) #[] #[])))), (5, .c (.pt 3 0)), (6, .c (.d (.v (.int .i64 1)))), (63, .c (.d (.v (.bool s.1))))]) (fun s => [[.d (.v (str x2)), .d (.v (.bool false)), .sl 1 [] 0, .d (.v (.bool false)), .sl 11 [] 0], [.d (.v (.int .i64 0)), .d (.v (.int .i64 0)), .d (.v (.int .i64 0))], [.d (.v (str s.2)), .d (.v (.bool false)), .sl 1 [] 0, .d (.v (.bool false)), .sl 11 [] 0]]) [] out ?_ ?_
    ·rcases bsplit H with ⟨hp7, H⟩ | ⟨hp7, H⟩
     ·obtain ⟨F, G, hq7⟩ := xH Y G hp7
      obtain ⟨hg6, H⟩ := gsplit H
      have F := xZ F (map_getD d_Token a0 1 default default (by omega))
      rcases bsplit H with ⟨hp8, H⟩ | ⟨hp8, H⟩
      ·obtain ⟨F, G, hq8⟩ := xH F G hp8
       obtain ⟨hg7, H⟩ := gsplit H
       have F := xZ F (map_getD d_Token a0 1 default default (by omega))
       refine xR ?_
       exact cut_at H (xK ⟨[1,2,3], []⟩)
      ·obtain ⟨F, G, hq8⟩ := xH F G hp8
       refine xR ?_
       exact cut_at H (xK ⟨[1,2,3], []⟩)
     ·obtain ⟨F, G, hq7⟩ := xH Y G hp7
      refine xR ?_
      exact cut_at H (xK ⟨[1,2,3], []⟩)
    ·rintro ⟨x3, x4⟩ H
     rw [ZE] at H
     rcases bsplit H with ⟨hp3, H⟩ | ⟨hp3, H⟩
     ·obtain ⟨F, G, hq3⟩ := xH Y G hp3
      refine xT ?_
      refine xr ?_
      cases H
     ·obtain ⟨F, G, hq3⟩ := xH Y G hp3
      refine xE ?_
      refine xr ?_
      rcases bsplit H with ⟨hp4, H⟩ | ⟨hp4, H⟩
      ·obtain ⟨F, G, hq4⟩ := xH Y G hp4
       refine xT ?_
       cases H
      ·obtain ⟨F, G, hq4⟩ := xH Y G hp4
       refine xE ?_
       obtain ⟨hg3, H⟩ := gsplit H
       refine xr ?_
       refine w_loop (JbZ x4) (fun s => [(2, .c (.pt 1 0)), (3, .c (.pt 2 0)), (4, .c (.d (.v (.func (.func 82) #[] #[])))), (5, .c (.pt 3 0)), (96, .c (.d (.sl 11 (List.map d_Token s.1)))), (97, .c (.d (.v (.int .i64 s.2.1)))), (98, .c (.d (.v (.int .i64 s.2.2.1))))]) (fun s => [[.d (.v (str x2)), .d (.v (.bool false)), .sl 1 [] 0, .d (.v (.bool false)), .sl 11 [] 0], [.d (.v (.int .i64 0)), .d (.v (.int .i64 0)), .d (.v (.int .i64 0))], [.d (.v (str x4)), .d (.v (.bool false)), .sl 1 [] 0, .d (.v (.bool false)), .os 4 11 0 s.2.2.2.length], [.arr 11 (List.map d_Token s.2.2.2)]]) [] H (xK ⟨[1,2,3,0], []⟩) ?_
       rintro n1 ⟨x5, x6, x7, x8⟩ o1 H hF1
       rw [JbZ] at H
       refine xS ?_
       refine xr ?_
       rcases bsplit H with ⟨hp5, H⟩ | ⟨hp5, H⟩
       ·obtain ⟨F, G, hq5⟩ := xH Y G hp5
        refine xT ?_
        obtain ⟨hg4, H⟩ := gsplit H
        have F := xZ Y (map_getD d_Token x5 x7.toNat default default (by omega))
        refine xR0 ?_
        refine then_normal ?_
        refine w_cut (JaF x5 x6 x7 x8) (fun s => [(2, .c (.pt 1 0)), (3, .c (.pt 2 0)), (4, .c (.d (.v (.func (.func 82) #[] #[])))), (5, .c (.pt 3 0)), (10, .c (.pt 4 0)), (96, .c (.d (.sl 11 (List.map d_Token x5)))), (97, .c (.d (.v (.int .i64 x6)))), (98, .c (.d (.v (.int .i64 x7))))]) (fun s => [[.d (.v (str x2)), .d (.v (.bool false)), .sl 1 [] 0, .d (.v (.bool false)), .sl 11 [] 0], [.d (.v (.int .i64 0)), .d (.v (.int .i64 0)), .d (.v (.int .i64 0))], [.d (.v (str x4)), .d (.v (.bool false)), .sl 1 [] 0, .d (.v (.bool false)), .os 5 11 0 x8.length], [.d (.v (.int .i64 s.1)), .d (.v (str s.2.1)), .d (.v (.bool s.2.2.1)), .d (.v (.bool s.2.2.2.1)), .d (.v (.int .i64 s.2.2.2.2.1)), .d (.v (.int .i64 s.2.2.2.2.2.1)), .d (.v (.int .i64 s.2.2.2.2.2.2.1)), .d (.v (.int .i64 s.2.2.2.2.2.2.2.1)), .d (.sl 1 (List.map dS s.2.2.2.2.2.2.2.2.1)), .d (.sl 3 (List.map d_Call s.2.2.2.2.2.2.2.2.2.1)), .d (.v (.int .i64 s.2.2.2.2.2.2.2.2.2.2))], [.arr 11 (List.map d_Token x8)]]) [] o1 ?_ ?_
        ·rcases bsplit H with ⟨hp6, H⟩ | ⟨hp6, H⟩
         ·obtain ⟨F, G, hq6⟩ := xH Y G hp6
          refine xR ?_
          exact cut_at H (xK ⟨[1,2,3,5,4], []⟩)
         ·obtain ⟨F, G, hq6⟩ := xH Y G hp6
          refine xR ?_
          exact cut_at H (xK ⟨[1,2,3,5,4], []⟩)
        ·rintro ⟨x9, x10, x11, x12, x13, x14, x15, x16, x17, x18, x19⟩ H
         rw [JaF] at H
         refine xS ?_
         refine xr ?_
         obtain ⟨hg5, H⟩ := gsplit H
         have F := xZ Y (all_map one_Token [(⟨x9, x10, x11, false, x13, x14, x15, x16, ([] : List (List UInt8)), ([] : List Call), x19⟩ : Token)])
         have L : [(⟨x9, x10, x11, false, x13, x14, x15, x16, ([] : List (List UInt8)), ([] : List Call), x19⟩ : Token)].length = 1 := rfl
         refine xR ?_
         refine xr ?_
         exact round_at (inl_fin H hF1) (xK ⟨[1,2,3,6], []⟩)
       ·obtain ⟨F, G, hq5⟩ := xH Y G hp5
        replace H := inrO_fin H hF1
        refine xE ?_
        obtain ⟨r2, hr2, H⟩ := osplit H
        have F := Y
        refine xQ ?_
        refine xc ⟨[3, 4], [0]⟩ (tabG 0 (Jfv x4 false ([] : List (List UInt8)) false x8 r2 hr2)) ?_
        refine xs 2 ?_
        refine xl ?_
        refine xS ?_
        refine xr ?_
        refine xe ?_
        replace H := Option.some.inj H
        refine xr ?_
        subst H
        refine xNf 4 11 (List.map d_Token x8) [] ?_
        exact xN
theorem Jfk (a0 : List Token) (r : Macro × Fault) (H : Jca a0 = some r) : PC Jb6 [(dL 11 d_Token) a0] (T2 d_Macro d_Fault r) := PF.c (a := a0) H
noncomputable def JbN (a0 : List Macro) (a1 : Macro) : Option ((List Macro) × Int) :=
 (JaE a0 a1.Name).bind fun r1 => if (leI 0 r1) = true then if (0 : Int) ≤ r1 ∧ r1.toNat < a0.length then none else none else if (leI 30 (a0.length : Int)) = true then some (([] : List Macro), 5) else (Jn a0).bind fun r2 => if (a0.length + [a1].length) * 80 ≤ 140737488355328 then some (a0 ++ [a1], 0) else none
noncomputable def JbP : PF := PF.of (E2 (dL 5 d_Macro) d_Macro) (fun a => JbN a.1 a.2) (T2 (dL 5 d_Macro) dI)
theorem Jex : PureOk Tryz.prog 57 JbP := by
 refine xFl mixed [8] [(86, Jae)] [(21, true, Jj)] ⟨⟨call_86, Jcp⟩, trivial⟩ ⟨Ji, trivial⟩ Tryz.func57 ?_
 rintro ⟨a0, a1⟩ out H
 have G := True.intro
 have Y := xZ y_9 <| xZ y_28 <| xZ y_63 <| xZ Tryz.results57 <| xZ d_Call.eq_1 <| xZ d_Token.eq_1 <| xZ d_Macro.eq_1 <| JJ.eq_1
 simp only [JbN] at H
 refine xS ?_
 refine xr ?_
 obtain ⟨r1, hr1, H⟩ := osplit H
 have F := xC Y (JcG a0 a1.Name r1 hr1)
 refine xR ?_
 refine xr ?_
 rcases bsplit H with ⟨hp1, H⟩ | ⟨hp1, H⟩
 ·obtain ⟨F, G, hq1⟩ := xH Y G hp1
  refine xT ?_
  obtain ⟨hg1, H⟩ := gsplit H
  have F := xZ Y (map_getD d_Macro a0 r1.toNat default default (by omega))
  cases H
 ·obtain ⟨F, G, hq1⟩ := xH Y G hp1
  refine xE ?_
  refine xr ?_
  rcases bsplit H with ⟨hp2, H⟩ | ⟨hp2, H⟩
  ·obtain ⟨F, G, hq2⟩ := xH Y G hp2
   refine xT ?_
   replace H := Option.some.inj H
   refine xr ?_
   subst H
   exact xN
  ·obtain ⟨F, G, hq2⟩ := xH Y G hp2
   refine xE ?_
   obtain ⟨r2, hr2, H⟩ := osplit H
   have F := Y
   obtain ⟨hg2, H⟩ := gsplit H
   have F := xZ F (all_map one_Macro [a1])
   have L : [a1].length = 1 := rfl
   refine xP [0, 2, 3, 1, 4, 5, 6] [27] ⟨Ji, trivial⟩ ?_
   refine xsX 1 ?_
   refine xaX ?_
   refine xsX 1 ?_
   refine xcX ⟨[], []⟩ (tabG 0 (VU a0 r2 hr2)) ?_
   refine xbX ?_
   refine xsX 2 ?_
   refine xlX ?_
   replace H := Option.some.inj H
   refine xS ?_
   subst H
   refine xNf 3 5 (List.map d_Macro (a0 ++ [a1])) [] ?_
   exact xN
theorem Jfg (a0 : List Macro) (a1 : Macro) (r : (List Macro) × Int) (H : JbN a0 a1 = some r) : PC JbP [(dL 5 d_Macro) a0, d_Macro a1] (T2 (dL 5 d_Macro) dI r) := PF.c (a := (a0, a1)) H
noncomputable def XD (a0 : List Int) (a1 : Int) : (Int × Int) → Option ((Int × Int) ⊕ Int)
 | (x1, x2) => if (ltI x2 x1) = true then if (0 : Int) ≤ x2 ∧ x2.toNat < a0.length then if (eqI a1 (a0.getD x2.toNat default)) = true then inrO (some x2) else some (.inl (x1, IntKind.i64.wrap (x2 + 1))) else none else inrO (some (-1))
noncomputable def VM (a0 : List Int) (a1 : Int) : Option Int :=
 loopO (XD a0 a1) ((a0.length : Int), 0)
noncomputable def XH : PF := PF.of (E2 (dL 1 dI) dI) (fun a => VM a.1 a.2) dI
theorem Jcu : PureOk Tryz.prog 116 XH := by
 refine xF mixed [] [] trivial trivial Tryz.func116 ?_
 rintro ⟨a0, a1⟩ out H
 have G := True.intro
 have Y := xZ y_3 <| xZ y_25 <| Tryz.results116
 simp only [VM] at H
 refine xS ?_
 refine xr ?_
 refine xr ?_
 refine w_loop (XD a0 a1) (fun s => [(0, .c (.d (.sl 1 (List.map dI a0)))), (1, .c (.d (.v (.int .i64 a1)))), (7, .c (.d (.v (.int .i64 s.1)))), (8, .c (.d (.v (.int .i64 s.2))))]) (fun s => []) [] H (xK ⟨[], []⟩) ?_
 rintro n1 ⟨x1, x2⟩ o1 H hF1
 rw [XD] at H
 refine xS ?_
 refine xr ?_
 rcases bsplit H with ⟨hp1, H⟩ | ⟨hp1, H⟩
 ·obtain ⟨F, G, hq1⟩ := xH Y G hp1
  refine xT ?_
  refine xr ?_
  obtain ⟨hg1, H⟩ := gsplit H
  have F := xZ Y (map_getD dI a0 x2.toNat default default (by omega))
  refine xR ?_
  rcases bsplit H with ⟨hp2, H⟩ | ⟨hp2, H⟩
  ·obtain ⟨F, G, hq2⟩ := xH Y G hp2
   refine xT ?_
   replace H := inrO_fin H hF1
   replace H := Option.some.inj H
   refine xr ?_
   subst H
   exact xN
  ·obtain ⟨F, G, hq2⟩ := xH Y G hp2
   refine xE ?_
   refine xr ?_
   exact round_at (inl_fin H hF1) (xK ⟨[], []⟩)
 ·obtain ⟨F, G, hq1⟩ := xH Y G hp1
  replace H := inrO_fin H hF1
  refine xE ?_
  replace H := Option.some.inj H
  refine xr ?_
  subst H
  exact xN
theorem JcE (a0 : List Int) (a1 : Int) (r : Int) (H : VM a0 a1 = some r) : PC XH [(dL 1 dI) a0, dI a1] (dI r) := PF.c (a := (a0, a1)) H
noncomputable def K7 (a0 : List Int) (a1 : Int) : Option Bool :=
 (VM a0 a1).bind fun r1 => some (leI 0 r1)
noncomputable def VF : PF := PF.of (E2 (dL 1 dI) dI) (fun a => K7 a.1 a.2) dB
theorem Jb7 : PureOk Tryz.prog 91 VF := by
 refine xF mixed [(116, XH)] [] ⟨⟨call_116, Jcu⟩, trivial⟩ trivial Tryz.func91 ?_
 rintro ⟨a0, a1⟩ out H
 have G := True.intro
 have Y := Tryz.results91
 simp only [K7] at H
 refine xS ?_
 refine xr ?_
 obtain ⟨r1, hr1, H⟩ := osplit H
 have F := xC Y (JcE a0 a1 r1 hr1)
 replace H := Option.some.inj H
 refine xR ?_
 subst H
 exact xN
theorem Jce (a0 : List Int) (a1 : Int) (r : Bool) (H : K7 a0 a1 = some r) : PC VF [(dL 1 dI) a0, dI a1] (dB r) := PF.c (a := (a0, a1)) H
def JdF (a0 : Int) (a1 : List Source) (a2 : Int) (a3 : Int) (a4 : Int) (a5 : List Macro) (a6 : List Int) (a7 : List Int) (a8 : Int) (a9 : List Token) : GR (Int × Int × Int × Int × (List Macro) × (List Int) × (List Int) × Int × (List Token)) (Int × (List Macro) × (List Int) × (List Int) × Int × (List Token)) → GOut
 | .ok r => .ret (.tu []) [[.d (.sl 2 (List.map d_Source a1)), .d (.v (.int .i64 r.1)), .d (.v (.int .i64 a3)), .d (.v (.int .i64 a4)), .d (.sl 5 (List.map d_Macro r.2.1)), .sl 1 (List.map dI r.2.2.1) 4, .os 3 11 0 r.2.2.2.2.2.length, .sl 1 (List.map dI r.2.2.2.1) 5, .d (.v (.int .i64 r.2.2.2.2.1))], [], [.arr 11 (List.map d_Token r.2.2.2.2.2)]] [3, 3]
 | .er r => .pan (.iface 78 (.agg ⟨[.int .i64 r.1, .int .i64 r.2.1, .int .i64 r.2.2.1]⟩)) [[.d (.sl 2 (List.map d_Source a1)), .d (.v (.int .i64 r.2.2.2.1)), .d (.v (.int .i64 a3)), .d (.v (.int .i64 a4)), .d (.sl 5 (List.map d_Macro r.2.2.2.2.1)), .sl 1 (List.map dI r.2.2.2.2.2.1) 4, .os 3 11 0 r.2.2.2.2.2.2.2.2.length, .sl 1 (List.map dI r.2.2.2.2.2.2.1) 5, .d (.v (.int .i64 r.2.2.2.2.2.2.2.1))], [], [.arr 11 (List.map d_Token r.2.2.2.2.2.2.2.2)]] [3, 3]
def J1 (a0 : Int) (a1 : List Source) (a2 : Int) (a3 : Int) (a4 : Int) (a5 : List Macro) (a6 : List Int) (a7 : List Int) (a8 : Int) (a9 : List Token) (r : GR (Int × Int × Int × Int × (List Macro) × (List Int) × (List Int) × Int × (List Token)) (Int × (List Macro) × (List Int) × (List Int) × Int × (List Token))) : GI :=
 ⟨[.c (.pt 1 0), .c (.d (.v (.int .i64 a0)))], [[.d (.sl 2 (List.map d_Source a1)), .d (.v (.int .i64 a2)), .d (.v (.int .i64 a3)), .d (.v (.int .i64 a4)), .d (.sl 5 (List.map d_Macro a5)), .sl 1 (List.map dI a6) 3, .os 2 11 0 a9.length, .sl 1 (List.map dI a7) 4, .d (.v (.int .i64 a8))], [.arr 11 (List.map d_Token a9)]], [3, 3], JdF a0 a1 a2 a3 a4 a5 a6 a7 a8 a9 r⟩
def JL (q : Int → (List Source) → Int → Int → Int → (List Macro) → (List Int) → (List Int) → Int → (List Token) → Option (GR (Int × Int × Int × Int × (List Macro) × (List Int) × (List Int) × Int × (List Token)) (Int × (List Macro) × (List Int) × (List Int) × Int × (List Token)))) : GI → Prop := fun g => ∃ (a0 : Int) (a1 : List Source) (a2 : Int) (a3 : Int) (a4 : Int) (a5 : List Macro) (a6 : List Int) (a7 : List Int) (a8 : Int) (a9 : List Token) (r : GR (Int × Int × Int × Int × (List Macro) × (List Int) × (List Int) × Int × (List Token)) (Int × (List Macro) × (List Int) × (List Int) × Int × (List Token))), q a0 a1 a2 a3 a4 a5 a6 a7 a8 a9 = some r ∧ g = J1 a0 a1 a2 a3 a4 a5 a6 a7 a8 a9 r
theorem ZX (q : Int → (List Source) → Int → Int → Int → (List Macro) → (List Int) → (List Int) → Int → (List Token) → Option (GR (Int × Int × Int × Int × (List Macro) × (List Int) × (List Int) × Int × (List Token)) (Int × (List Macro) × (List Int) × (List Int) × Int × (List Token)))) (a0 : Int) (a1 : List Source) (a2 : Int) (a3 : Int) (a4 : Int) (a5 : List Macro) (a6 : List Int) (a7 : List Int) (a8 : Int) (a9 : List Token) (r : GR (Int × Int × Int × Int × (List Macro) × (List Int) × (List Int) × Int × (List Token)) (Int × (List Macro) × (List Int) × (List Int) × Int × (List Token))) (H : q a0 a1 a2 a3 a4 a5 a6 a7 a8 a9 = some r) : JL q (J1 a0 a1 a2 a3 a4 a5 a6 a7 a8 a9 r) := ⟨a0, a1, a2, a3, a4, a5, a6, a7, a8, a9, r, H, rfl⟩
def Jdt (a0 : List Token) (a1 : List Source) (a2 : Int) (a3 : Int) (a4 : Int) (a5 : List Macro) (a6 : List Int) (a7 : List Int) (a8 : Int) (a9 : List Token) : GR (Int × Int × Int × Int × (List Macro) × (List Int) × (List Int) × Int × (List Token)) (Int × (List Macro) × (List Int) × (List Int) × Int × (List Token)) → GOut
 | .ok r => .ret (.tu []) [[.d (.sl 2 (List.map d_Source a1)), .d (.v (.int .i64 r.1)), .d (.v (.int .i64 a3)), .d (.v (.int .i64 a4)), .d (.sl 5 (List.map d_Macro r.2.1)), .sl 1 (List.map dI r.2.2.1) 4, .os 3 11 0 r.2.2.2.2.2.length, .sl 1 (List.map dI r.2.2.2.1) 5, .d (.v (.int .i64 r.2.2.2.2.1))], [], [.arr 11 (List.map d_Token r.2.2.2.2.2)]] [3, 3]
 | .er r => .pan (.iface 78 (.agg ⟨[.int .i64 r.1, .int .i64 r.2.1, .int .i64 r.2.2.1]⟩)) [[.d (.sl 2 (List.map d_Source a1)), .d (.v (.int .i64 r.2.2.2.1)), .d (.v (.int .i64 a3)), .d (.v (.int .i64 a4)), .d (.sl 5 (List.map d_Macro r.2.2.2.2.1)), .sl 1 (List.map dI r.2.2.2.2.2.1) 4, .os 3 11 0 r.2.2.2.2.2.2.2.2.length, .sl 1 (List.map dI r.2.2.2.2.2.2.1) 5, .d (.v (.int .i64 r.2.2.2.2.2.2.2.1))], [], [.arr 11 (List.map d_Token r.2.2.2.2.2.2.2.2)]] [3, 3]
def Vg (a0 : List Token) (a1 : List Source) (a2 : Int) (a3 : Int) (a4 : Int) (a5 : List Macro) (a6 : List Int) (a7 : List Int) (a8 : Int) (a9 : List Token) (r : GR (Int × Int × Int × Int × (List Macro) × (List Int) × (List Int) × Int × (List Token)) (Int × (List Macro) × (List Int) × (List Int) × Int × (List Token))) : GI :=
 ⟨[.c (.pt 1 0), .c (.d (.sl 11 (List.map d_Token a0)))], [[.d (.sl 2 (List.map d_Source a1)), .d (.v (.int .i64 a2)), .d (.v (.int .i64 a3)), .d (.v (.int .i64 a4)), .d (.sl 5 (List.map d_Macro a5)), .sl 1 (List.map dI a6) 3, .os 2 11 0 a9.length, .sl 1 (List.map dI a7) 4, .d (.v (.int .i64 a8))], [.arr 11 (List.map d_Token a9)]], [3, 3], Jdt a0 a1 a2 a3 a4 a5 a6 a7 a8 a9 r⟩
def JQ (q : (List Token) → (List Source) → Int → Int → Int → (List Macro) → (List Int) → (List Int) → Int → (List Token) → Option (GR (Int × Int × Int × Int × (List Macro) × (List Int) × (List Int) × Int × (List Token)) (Int × (List Macro) × (List Int) × (List Int) × Int × (List Token)))) : GI → Prop := fun g => ∃ (a0 : List Token) (a1 : List Source) (a2 : Int) (a3 : Int) (a4 : Int) (a5 : List Macro) (a6 : List Int) (a7 : List Int) (a8 : Int) (a9 : List Token) (r : GR (Int × Int × Int × Int × (List Macro) × (List Int) × (List Int) × Int × (List Token)) (Int × (List Macro) × (List Int) × (List Int) × Int × (List Token))), q a0 a1 a2 a3 a4 a5 a6 a7 a8 a9 = some r ∧ g = Vg a0 a1 a2 a3 a4 a5 a6 a7 a8 a9 r
theorem Jbj (q : (List Token) → (List Source) → Int → Int → Int → (List Macro) → (List Int) → (List Int) → Int → (List Token) → Option (GR (Int × Int × Int × Int × (List Macro) × (List Int) × (List Int) × Int × (List Token)) (Int × (List Macro) × (List Int) × (List Int) × Int × (List Token)))) (a0 : List Token) (a1 : List Source) (a2 : Int) (a3 : Int) (a4 : Int) (a5 : List Macro) (a6 : List Int) (a7 : List Int) (a8 : Int) (a9 : List Token) (r : GR (Int × Int × Int × Int × (List Macro) × (List Int) × (List Int) × Int × (List Token)) (Int × (List Macro) × (List Int) × (List Int) × Int × (List Token))) (H : q a0 a1 a2 a3 a4 a5 a6 a7 a8 a9 = some r) : JQ q (Vg a0 a1 a2 a3 a4 a5 a6 a7 a8 a9 r) := ⟨a0, a1, a2, a3, a4, a5, a6, a7, a8, a9, r, H, rfl⟩
def JcV (a0 : List Token) (a1 : List Source) (a2 : Int) (a3 : Int) (a4 : Int) (a5 : List Macro) (a6 : List Int) (a7 : List Int) (a8 : Int) (a9 : List Token) : GR (Int × Int × Int × Int × (List Macro) × (List Int) × (List Int) × Int × (List Token)) (Int × (List Macro) × (List Int) × (List Int) × Int × (List Token)) → GOut
 | .ok r => .ret (.tu []) [[.d (.sl 2 (List.map d_Source a1)), .d (.v (.int .i64 r.1)), .d (.v (.int .i64 a3)), .d (.v (.int .i64 a4)), .d (.sl 5 (List.map d_Macro r.2.1)), .sl 1 (List.map dI r.2.2.1) 4, .os 3 11 0 r.2.2.2.2.2.length, .sl 1 (List.map dI r.2.2.2.1) 5, .d (.v (.int .i64 r.2.2.2.2.1))], [], [.arr 11 (List.map d_Token r.2.2.2.2.2)]] [3, 3]
 | .er r => .pan (.iface 78 (.agg ⟨[.int .i64 r.1, .int .i64 r.2.1, .int .i64 r.2.2.1]⟩)) [[.d (.sl 2 (List.map d_Source a1)), .d (.v (.int .i64 r.2.2.2.1)), .d (.v (.int .i64 a3)), .d (.v (.int .i64 a4)), .d (.sl 5 (List.map d_Macro r.2.2.2.2.1)), .sl 1 (List.map dI r.2.2.2.2.2.1) 4, .os 3 11 0 r.2.2.2.2.2.2.2.2.length, .sl 1 (List.map dI r.2.2.2.2.2.2.1) 5, .d (.v (.int .i64 r.2.2.2.2.2.2.2.1))], [], [.arr 11 (List.map d_Token r.2.2.2.2.2.2.2.2)]] [3, 3]
def Kz (a0 : List Token) (a1 : List Source) (a2 : Int) (a3 : Int) (a4 : Int) (a5 : List Macro) (a6 : List Int) (a7 : List Int) (a8 : Int) (a9 : List Token) (r : GR (Int × Int × Int × Int × (List Macro) × (List Int) × (List Int) × Int × (List Token)) (Int × (List Macro) × (List Int) × (List Int) × Int × (List Token))) : GI :=
 ⟨[.c (.pt 1 0), .c (.d (.sl 11 (List.map d_Token a0)))], [[.d (.sl 2 (List.map d_Source a1)), .d (.v (.int .i64 a2)), .d (.v (.int .i64 a3)), .d (.v (.int .i64 a4)), .d (.sl 5 (List.map d_Macro a5)), .sl 1 (List.map dI a6) 3, .os 2 11 0 a9.length, .sl 1 (List.map dI a7) 4, .d (.v (.int .i64 a8))], [.arr 11 (List.map d_Token a9)]], [3, 3], JcV a0 a1 a2 a3 a4 a5 a6 a7 a8 a9 r⟩
def JH (q : (List Token) → (List Source) → Int → Int → Int → (List Macro) → (List Int) → (List Int) → Int → (List Token) → Option (GR (Int × Int × Int × Int × (List Macro) × (List Int) × (List Int) × Int × (List Token)) (Int × (List Macro) × (List Int) × (List Int) × Int × (List Token)))) : GI → Prop := fun g => ∃ (a0 : List Token) (a1 : List Source) (a2 : Int) (a3 : Int) (a4 : Int) (a5 : List Macro) (a6 : List Int) (a7 : List Int) (a8 : Int) (a9 : List Token) (r : GR (Int × Int × Int × Int × (List Macro) × (List Int) × (List Int) × Int × (List Token)) (Int × (List Macro) × (List Int) × (List Int) × Int × (List Token))), q a0 a1 a2 a3 a4 a5 a6 a7 a8 a9 = some r ∧ g = Kz a0 a1 a2 a3 a4 a5 a6 a7 a8 a9 r
theorem JaL (q : (List Token) → (List Source) → Int → Int → Int → (List Macro) → (List Int) → (List Int) → Int → (List Token) → Option (GR (Int × Int × Int × Int × (List Macro) × (List Int) × (List Int) × Int × (List Token)) (Int × (List Macro) × (List Int) × (List Int) × Int × (List Token)))) (a0 : List Token) (a1 : List Source) (a2 : Int) (a3 : Int) (a4 : Int) (a5 : List Macro) (a6 : List Int) (a7 : List Int) (a8 : Int) (a9 : List Token) (r : GR (Int × Int × Int × Int × (List Macro) × (List Int) × (List Int) × Int × (List Token)) (Int × (List Macro) × (List Int) × (List Int) × Int × (List Token))) (H : q a0 a1 a2 a3 a4 a5 a6 a7 a8 a9 = some r) : JH q (Kz a0 a1 a2 a3 a4 a5 a6 a7 a8 a9 r) := ⟨a0, a1, a2, a3, a4, a5, a6, a7, a8, a9, r, H, rfl⟩
noncomputable def Kj (x2 : Int) (x3 : Int) : (Nat × Int × (List Macro) × (List Int) × (List Int) × Int × (List drive_group) × (List Token) × (List Token)) → Option ((Nat × Int × Int × Int × (List Macro) × (List Int) × (List Int) × Int × (List drive_group) × (List Token) × (List Token)) ⊕ (GR (Int × Int × Int × Int × (List Macro) × (List Int) × (List Int) × Int × (List Token)) (Int × (List Macro) × (List Int) × (List Int) × Int × (List Token))))
 | (x12, x13, x14, x15, x16, x17, x18, x19, x20) => some (.inl (x12, x2, IntKind.i64.wrap (x3 + 1), x13, x14, x15, x16, x17, x18, x19, x20))
noncomputable def XG (x2 : Int) (x3 : Int) (x4 : Int) (x5 : List Macro) (x6 : List Int) (x7 : List Int) (x8 : Int) (x9 : List drive_group) (x11 : List Token) : (Nat × (List Token)) → Option ((Nat × Int × Int × Int × (List Macro) × (List Int) × (List Int) × Int × (List drive_group) × (List Token) × (List Token)) ⊕ (GR (Int × Int × Int × Int × (List Macro) × (List Int) × (List Int) × Int × (List Token)) (Int × (List Macro) × (List Int) × (List Int) × Int × (List Token))))
 | (x24, x25) => Kj x2 x3 (x24, x4, x5, x6, x7, x8, x9, x25, x11)
noncomputable def Xx (q2 : (List Token) → (List Source) → Int → Int → Int → (List Macro) → (List Int) → (List Int) → Int → (List Token) → Option (GR (Int × Int × Int × Int × (List Macro) × (List Int) × (List Int) × Int × (List Token)) (Int × (List Macro) × (List Int) × (List Int) × Int × (List Token)))) (a1 : List Source) (a3 : Int) (a4 : Int) (x2 : Int) (x3 : Int) (x5 : List Macro) (x6 : List Int) (x7 : List Int) (x8 : Int) (x22 : List Token) (r5 : (Int × (List Token))) (r6 : (Nat × Bool × (List drive_group))) : (Nat × Bool) → Option ((Nat × Int × Int × Int × (List Macro) × (List Int) × (List Int) × Int × (List drive_group) × (List Token) × (List Token)) ⊕ (GR (Int × Int × Int × Int × (List Macro) × (List Int) × (List Int) × Int × (List Token)) (Int × (List Macro) × (List Int) × (List Int) × Int × (List Token))))
 | (x26, x27) => if x27 = true then grB (q2 x22 a1 r5.1 a3 a4 x5 x6 x7 x8 r5.2) (fun r7 => Kj x2 x3 (x26, r7.1, r7.2.1, r7.2.2.1, r7.2.2.2.1, r7.2.2.2.2.1, r6.2.2, ([] : List Token), r7.2.2.2.2.2)) (fun e3 => inrO (some (.er (e3.1, e3.2.1, e3.2.2.1, e3.2.2.2.1, e3.2.2.2.2.1, e3.2.2.2.2.2.1, e3.2.2.2.2.2.2.1, e3.2.2.2.2.2.2.2.1, e3.2.2.2.2.2.2.2.2)))) else Kj x2 x3 (x26, r5.1, x5, x6, x7, x8, r6.2.2, ([] : List Token), r5.2)
noncomputable def Xw (q2 : (List Token) → (List Source) → Int → Int → Int → (List Macro) → (List Int) → (List Int) → Int → (List Token) → Option (GR (Int × Int × Int × Int × (List Macro) × (List Int) × (List Int) × Int × (List Token)) (Int × (List Macro) × (List Int) × (List Int) × Int × (List Token)))) (a1 : List Source) (a3 : Int) (a4 : Int) (x2 : Int) (x3 : Int) (x4 : Int) (x5 : List Macro) (x6 : List Int) (x7 : List Int) (x8 : Int) (x9 : List drive_group) (x10 : List Token) (x11 : List Token) : (Nat × (List Token) × Bool) → Option ((Nat × Int × Int × Int × (List Macro) × (List Int) × (List Int) × Int × (List drive_group) × (List Token) × (List Token)) ⊕ (GR (Int × Int × Int × Int × (List Macro) × (List Int) × (List Int) × Int × (List Token)) (Int × (List Macro) × (List Int) × (List Int) × Int × (List Token))))
 | (x21, x22, x23) => if x23 = true then (XL x21 x9).bind fun r4 => if r4 = true then if (x10.length + x22.length) * 120 ≤ 140737488355328 then XG x2 x3 x4 x5 x6 x7 x8 x9 x11 (x21, x10 ++ x22) else none else XG x2 x3 x4 x5 x6 x7 x8 x9 x11 (x21, x10) else grB (V3 x10 a1 x4 a3 a4 x5 x6 x7 x8 x11) (fun r5 => if (eqI (x22.length : Int) 1) = true then Kj x2 x3 (x21, r5.1, x5, x6, x7, x8, x9, ([] : List Token), r5.2) else (VN x21 x22 a1 r5.1 a3 a4 x5 x6 x7 x8 x9 r5.2).bind fun r6 => if (!r6.2.1) = true then (XL r6.1 r6.2.2).bind fun r8 => Xx q2 a1 a3 a4 x2 x3 x5 x6 x7 x8 x22 r5 r6 (r6.1, r8) else Xx q2 a1 a3 a4 x2 x3 x5 x6 x7 x8 x22 r5 r6 (r6.1, false)) (fun e2 => inrO (some (.er (e2.1, e2.2.1, e2.2.2.1, e2.2.2.2.1, x5, x6, x7, x8, e2.2.2.2.2))))
noncomputable def Xy (q2 : (List Token) → (List Source) → Int → Int → Int → (List Macro) → (List Int) → (List Int) → Int → (List Token) → Option (GR (Int × Int × Int × Int × (List Macro) × (List Int) × (List Int) × Int × (List Token)) (Int × (List Macro) × (List Int) × (List Int) × Int × (List Token)))) (a1 : List Source) (a3 : Int) (a4 : Int) (r3 : (List (List Token))) : (Nat × Int × Int × Int × (List Macro) × (List Int) × (List Int) × Int × (List drive_group) × (List Token) × (List Token)) → Option ((Nat × Int × Int × Int × (List Macro) × (List Int) × (List Int) × Int × (List drive_group) × (List Token) × (List Token)) ⊕ (GR (Int × Int × Int × Int × (List Macro) × (List Int) × (List Int) × Int × (List Token)) (Int × (List Macro) × (List Int) × (List Int) × Int × (List Token))))
 | (x1, x2, x3, x4, x5, x6, x7, x8, x9, x10, x11) => if (ltI x3 x2) = true then if (0 : Int) ≤ x3 ∧ x3.toNat < r3.length then if 0 < (r3.getD x3.toNat default).length then if (!eqS (((r3.getD x3.toNat default).getD 0 default).Text) [35]) = true then Xw q2 a1 a3 a4 x2 x3 x4 x5 x6 x7 x8 x9 x10 x11 (x1, (r3.getD x3.toNat default), true) else if 0 < (r3.getD x3.toNat default).length then Xw q2 a1 a3 a4 x2 x3 x4 x5 x6 x7 x8 x9 x10 x11 (x1, (r3.getD x3.toNat default), !eqI (((r3.getD x3.toNat default).getD 0 default).Kind) 5) else none else none else none else inrO (grB (V3 x10 a1 x4 a3 a4 x5 x6 x7 x8 x11) (fun r9 => if (ltI 0 ((x1 : Nat) : Int)) = true then if x1 ≤ x9.length then if (0 : Int) ≤ (IntKind.i64.wrap (((x1 : Nat) : Int) - 1)) ∧ (IntKind.i64.wrap (((x1 : Nat) : Int) - 1)).toNat < (List.take x1 x9).length then none else none else none else some (.ok (r9.1, x5, x6, x7, x8, r9.2))) (fun e4 => some (.er (e4.1, e4.2.1, e4.2.2.1, e4.2.2.2.1, x5, x6, x7, x8, e4.2.2.2.2))))
noncomputable def X0 (q1 : Int → (List Source) → Int → Int → Int → (List Macro) → (List Int) → (List Int) → Int → (List Token) → Option (GR (Int × Int × Int × Int × (List Macro) × (List Int) × (List Int) × Int × (List Token)) (Int × (List Macro) × (List Int) × (List Int) × Int × (List Token)))) (q2 : (List Token) → (List Source) → Int → Int → Int → (List Macro) → (List Int) → (List Int) → Int → (List Token) → Option (GR (Int × Int × Int × Int × (List Macro) × (List Int) × (List Int) × Int × (List Token)) (Int × (List Macro) × (List Int) × (List Int) × Int × (List Token)))) (q3 : (List Token) → (List Source) → Int → Int → Int → (List Macro) → (List Int) → (List Int) → Int → (List Token) → Option (GR (Int × Int × Int × Int × (List Macro) × (List Int) × (List Int) × Int × (List Token)) (Int × (List Macro) × (List Int) × (List Int) × Int × (List Token)))) (a0 : Int) (a1 : List Source) (a2 : Int) (a3 : Int) (a4 : Int) (a5 : List Macro) (a6 : List Int) (a7 : List Int) (a8 : Int) (a9 : List Token) : Option (GR (Int × Int × Int × Int × (List Macro) × (List Int) × (List Int) × Int × (List Token)) (Int × (List Macro) × (List Int) × (List Int) × Int × (List Token))) :=
 if (a7.length + [a0].length) * 8 ≤ 140737488355328 then if (0 : Int) ≤ a0 ∧ a0.toNat < a1.length then (JB a0 ((a1.getD a0.toNat default).Text)).bind fun r1 => grB (Z0 r1.2) (fun r2 => (Jbh r1.1).bind fun r3 => loopO (Xy q2 a1 a3 a4 r3) (0, (r3.length : Int), 0, a2, a5, a6, a7 ++ [a0], a8, ([] : List drive_group), ([] : List Token), a9)) (fun e1 => some (.er (r1.2.Err, r1.2.File, r1.2.At, a2, a5, a6, a7 ++ [a0], a8, a9))) else none else none
theorem Jdk (q1 : Int → (List Source) → Int → Int → Int → (List Macro) → (List Int) → (List Int) → Int → (List Token) → Option (GR (Int × Int × Int × Int × (List Macro) × (List Int) × (List Int) × Int × (List Token)) (Int × (List Macro) × (List Int) × (List Int) × Int × (List Token)))) (q2 : (List Token) → (List Source) → Int → Int → Int → (List Macro) → (List Int) → (List Int) → Int → (List Token) → Option (GR (Int × Int × Int × Int × (List Macro) × (List Int) × (List Int) × Int × (List Token)) (Int × (List Macro) × (List Int) × (List Int) × Int × (List Token)))) (q3 : (List Token) → (List Source) → Int → Int → Int → (List Macro) → (List Int) → (List Int) → Int → (List Token) → Option (GR (Int × Int × Int × Int × (List Macro) × (List Int) × (List Int) × Int × (List Token)) (Int × (List Macro) × (List Int) × (List Int) × Int × (List Token)))) (kq1 : Kok Tryz.prog 24 false (JL q1)) (kq2 : Kok Tryz.prog 38 false (JQ q2)) (kq3 : Kok Tryz.prog 60 false (JH q3)) : ∀ g, JL (X0 q1 q2 q3) g → GenOk Tryz.prog 24 g := by
 rintro _ ⟨a0, a1, a2, a3, a4, a5, a6, a7, a8, a9, r, H, rfl⟩
 refine xGn mixed [(32, Jcm), (34, JcL)] [(33, false, XO), (35, true, VJ), (36, false, Ve), (37, true, Kc), (38, false, (JQ q2))] [] ⟨⟨call_32, Jft⟩, ⟨call_34, Jfx⟩, trivial⟩ ⟨JbK, JcC, Jdv, Jcy, kq2, trivial⟩ trivial Tryz.func24 _ ?_
 have G := True.intro
 have Y := xZ y_3 <| xZ y_9 <| xZ y_24 <| xZ y_25 <| xZ y_27 <| xZ y_31 <| xZ y_35 <| xZ y_37 <| xZ y_44 <| xZ y_65 <| xZ y_80 <| xZ y_81 <| xZ y_90 <| xZ Tryz.results24 <| xZ d_Source.eq_1 <| xZ d_Call.eq_1 <| xZ d_Token.eq_1 <| xZ d_Macro.eq_1 <| xZ d_Limits.eq_1 <| xZ d_Fault.eq_1 <| xZ Ja.eq_1 <| xZ XM.eq_1 <| xZ VH.eq_1 <| xZ Vo.eq_1 <| xZ Kh.eq_1 <| xZ Vg.eq_1 <| J1.eq_1
 dsimp only [J1]
 simp only [X0] at H
 refine xS ?_
 refine xrn 2 1 ?_
 obtain ⟨hg1, H⟩ := gsplit H
 have F := xZ Y (all_map one_dI [a0])
 refine xR ?_
 obtain ⟨hg2, H⟩ := gsplit H
 have F := xZ Y (map_getD d_Source a1 a0.toNat default default (by omega))
 obtain ⟨r1, hr1, H⟩ := osplit H
 have F := xCf F (Jfw a0 ((a1.getD a0.toNat default).Text) r1 hr1)
 refine xR ?_
 rcases rsplit H with ⟨r2, hr2, H⟩ | ⟨e1, hr3, H⟩
 ·have F := Y
  refine xQ ?_
  refine xs 1 ?_
  refine xc ⟨[], []⟩ (tabG 0 (ZK r1.2 (.ok r2) hr2)) ?_
  refine xl ?_
  refine xS ?_
  refine xr ?_
  refine xr ?_
  obtain ⟨r3, hr4, H⟩ := osplit H
  have F := xC Y (JfI r1.1 r3 hr4)
  refine xR ?_
  refine w_loop (Xy q2 a1 a3 a4 r3) (fun s => [(0, .c (.pt 1 0)), (6, .c (.os 3 14 0 s.1)), (7, .c (.os 4 11 0 s.2.2.2.2.2.2.2.2.2.1.length)), (40, .c (.d (.sl 1 (List.map (dL 11 d_Token) r3)))), (41, .c (.d (.v (.int .i64 s.2.1)))), (42, .c (.d (.v (.int .i64 s.2.2.1))))]) (fun s => [[.d (.sl 2 (List.map d_Source a1)), .d (.v (.int .i64 s.2.2.2.1)), .d (.v (.int .i64 a3)), .d (.v (.int .i64 a4)), .d (.sl 5 (List.map d_Macro s.2.2.2.2.1)), .sl 1 (List.map dI s.2.2.2.2.2.1) 6, .os 5 11 0 s.2.2.2.2.2.2.2.2.2.2.length, .sl 1 (List.map dI s.2.2.2.2.2.2.1) 7, .d (.v (.int .i64 s.2.2.2.2.2.2.2.1))], [], [.arr 14 (List.map Ja s.2.2.2.2.2.2.2.2.1)], [.arr 11 (List.map d_Token s.2.2.2.2.2.2.2.2.2.1)], [.arr 11 (List.map d_Token s.2.2.2.2.2.2.2.2.2.2)]]) [3, 3] H (xK ⟨[1,2,0,0,5], [3,6]⟩) ?_
  rintro n1 ⟨x1, x2, x3, x4, x5, x6, x7, x8, x9, x10, x11⟩ o1 H hF1
  rw [Xy] at H
  refine xS ?_
  refine xr ?_
  rcases bsplit H with ⟨hp1, H⟩ | ⟨hp1, H⟩
  ·obtain ⟨F, G, hq1⟩ := xH Y G hp1
   refine xT0 ?_
   refine w_skip ?_
   refine then_normal ?_
   refine w_cut (Kj x2 x3) (fun s => [(0, .c (.pt 1 0)), (6, .c (.os 3 14 0 s.1)), (7, .c (.os 4 11 0 s.2.2.2.2.2.2.2.1.length)), (40, .c (.d (.sl 1 (List.map (dL 11 d_Token) r3)))), (41, .c (.d (.v (.int .i64 x2)))), (42, .c (.d (.v (.int .i64 x3))))]) (fun s => [[.d (.sl 2 (List.map d_Source a1)), .d (.v (.int .i64 s.2.1)), .d (.v (.int .i64 a3)), .d (.v (.int .i64 a4)), .d (.sl 5 (List.map d_Macro s.2.2.1)), .sl 1 (List.map dI s.2.2.2.1) 6, .os 5 11 0 s.2.2.2.2.2.2.2.2.length, .sl 1 (List.map dI s.2.2.2.2.1) 7, .d (.v (.int .i64 s.2.2.2.2.2.1))], [], [.arr 14 (List.map Ja s.2.2.2.2.2.2.1)], [.arr 11 (List.map d_Token s.2.2.2.2.2.2.2.1)], [.arr 11 (List.map d_Token s.2.2.2.2.2.2.2.2)]]) [3, 3] o1 ?_ ?_
   ·refine xS ?_
    obtain ⟨hg3, H⟩ := gsplit H
    have F := xZ Y (map_getD (dL 11 d_Token) r3 x3.toNat default default (by omega))
    refine xR0 ?_
    refine then_normal ?_
    refine w_seq ?_
    refine w_cut (Xw q2 a1 a3 a4 x2 x3 x4 x5 x6 x7 x8 x9 x10 x11) (fun s => [(0, .c (.pt 1 0)), (6, .c (.os 3 14 0 s.1)), (7, .c (.os 4 11 0 x10.length)), (9, .c (.d (.sl 11 (List.map d_Token s.2.1)))), (40, .c (.d (.sl 1 (List.map (dL 11 d_Token) r3)))), (41, .c (.d (.v (.int .i64 x2)))), (42, .c (.d (.v (.int .i64 x3)))), (57, .c (.d (.v (.bool s.2.2))))]) (fun s => [[.d (.sl 2 (List.map d_Source a1)), .d (.v (.int .i64 x4)), .d (.v (.int .i64 a3)), .d (.v (.int .i64 a4)), .d (.sl 5 (List.map d_Macro x5)), .sl 1 (List.map dI x6) 6, .os 5 11 0 x11.length, .sl 1 (List.map dI x7) 7, .d (.v (.int .i64 x8))], [], [.arr 14 (List.map Ja x9)], [.arr 11 (List.map d_Token x10)], [.arr 11 (List.map d_Token x11)]]) [3, 3] o1 ?_ ?_
    ·obtain ⟨hg5, H⟩ := gsplit H
     have F := xZ Y (map_getD d_Token (r3.getD x3.toNat default) 0 default default (by omega))
     rcases bsplit H with ⟨hp7, H⟩ | ⟨hp7, H⟩
     ·obtain ⟨F, G, hq7⟩ := xH F G hp7
      refine xR ?_
      exact cut_at H (xK ⟨[1,2,3,4,5], [6,7]⟩)
     ·obtain ⟨F, G, hq7⟩ := xH F G hp7
      obtain ⟨hg6, H⟩ := gsplit H
      have F := xZ F (map_getD d_Token (r3.getD x3.toNat default) 0 default default (by omega))
      refine xR ?_
      exact cut_at H (xK ⟨[1,2,3,4,5], [6,7]⟩)
    ·rintro ⟨x21, x22, x23⟩ H
     rw [Xw] at H
     rcases bsplit H with ⟨hp2, H⟩ | ⟨hp2, H⟩
     ·obtain ⟨F, G, hq2⟩ := xH Y G hp2
      refine xT0 ?_
      refine w_cut (XG x2 x3 x4 x5 x6 x7 x8 x9 x11) (fun s => [(0, .c (.pt 1 0)), (6, .c (.os 3 14 0 s.1)), (7, .c (.os 4 11 0 s.2.length)), (40, .c (.d (.sl 1 (List.map (dL 11 d_Token) r3)))), (41, .c (.d (.v (.int .i64 x2)))), (42, .c (.d (.v (.int .i64 x3))))]) (fun s => [[.d (.sl 2 (List.map d_Source a1)), .d (.v (.int .i64 x4)), .d (.v (.int .i64 a3)), .d (.v (.int .i64 a4)), .d (.sl 5 (List.map d_Macro x5)), .sl 1 (List.map dI x6) 6, .os 5 11 0 x11.length, .sl 1 (List.map dI x7) 7, .d (.v (.int .i64 x8))], [], [.arr 14 (List.map Ja x9)], [.arr 11 (List.map d_Token s.2)], [.arr 11 (List.map d_Token x11)]]) [3, 3] o1 ?_ ?_
      ·refine xS ?_
       obtain ⟨r4, hr5, H⟩ := osplit H
       have F := Y
       refine xQ ?_
       refine xs 1 ?_
       refine xc ⟨[3], []⟩ (tabG 1 (Jbg x21 x9 r4 hr5)) ?_
       refine xl ?_
       refine xS ?_
       rcases bsplit H with ⟨hp3, H⟩ | ⟨hp3, H⟩
       ·obtain ⟨F, G, hq3⟩ := xH Y G hp3
        refine xT ?_
        obtain ⟨hg4, H⟩ := gsplit H
        have F := xZ Y (all_map one_Token x22)
        have A := all_map one_Token x22
        refine xR ?_
        exact cut_at H (xK ⟨[1,2,3,9,5], [6,7]⟩)
       ·obtain ⟨F, G, hq3⟩ := xH Y G hp3
        refine xE ?_
        exact cut_at H (xK ⟨[1,2,3,4,5], [6,7]⟩)
      ·rintro ⟨x24, x25⟩ H
       rw [XG] at H
       refine xS ?_
       exact cut_at H (xK ⟨[1,2,3,4,5], [6,7]⟩)
     ·obtain ⟨F, G, hq2⟩ := xH Y G hp2
      refine xE ?_
      refine xfz 4 11 (List.map d_Token x10) [] ?_
      rcases rsplit H with ⟨r5, hr6, H⟩ | ⟨e2, hr7, H⟩
      ·have F := Y
       refine xQ ?_
       refine xs 2 ?_
       refine xc ⟨[1, 5], [6, 7]⟩ (tabG 2 (XA x10 a1 x4 a3 a4 x5 x6 x7 x8 x11 (.ok r5) hr6)) ?_
       refine xl ?_
       refine xS ?_
       refine xr ?_
       refine xr ?_
       rcases bsplit H with ⟨hp4, H⟩ | ⟨hp4, H⟩
       ·obtain ⟨F, G, hq4⟩ := xH Y G hp4
        refine xT ?_
        exact cut_at H (xK ⟨[1,2,3,0,10], [11,12]⟩)
       ·obtain ⟨F, G, hq4⟩ := xH Y G hp4
        refine xE ?_
        obtain ⟨r6, hr8, H⟩ := osplit H
        have F := Y
        refine xQ ?_
        refine xs 3 ?_
        refine xc ⟨[1, 3, 10], [11, 12]⟩ (tabG 3 (Jcv x21 x22 a1 r5.1 a3 a4 x5 x6 x7 x8 x9 r5.2 r6 hr8)) ?_
        refine xs 5 ?_
        refine xl ?_
        refine xS ?_
        refine xr0 ?_
        refine then_normal ?_
        refine w_cut (Xx q2 a1 a3 a4 x2 x3 x5 x6 x7 x8 x22 r5 r6) (fun s => [(0, .c (.pt 1 0)), (6, .c (.os 3 14 0 s.1)), (7, .c (.sl 11 [] 0)), (9, .c (.d (.sl 11 (List.map d_Token x22)))), (40, .c (.d (.sl 1 (List.map (dL 11 d_Token) r3)))), (41, .c (.d (.v (.int .i64 x2)))), (42, .c (.d (.v (.int .i64 x3)))), (82, .c (.d (.v (.bool s.2))))]) (fun s => [[.d (.sl 2 (List.map d_Source a1)), .d (.v (.int .i64 r5.1)), .d (.v (.int .i64 a3)), .d (.v (.int .i64 a4)), .d (.sl 5 (List.map d_Macro x5)), .sl 1 (List.map dI x6) 5, .os 4 11 0 r5.2.length, .sl 1 (List.map dI x7) 6, .d (.v (.int .i64 x8))], [], [.arr 14 (List.map Ja r6.2.2)], [.arr 11 (List.map d_Token r5.2)]]) [3, 3] o1 ?_ ?_
        ·rcases bsplit H with ⟨hp6, H⟩ | ⟨hp6, H⟩
         ·obtain ⟨F, G, hq6⟩ := xH Y G hp6
          obtain ⟨r8, hr11, H⟩ := osplit H
          have F := F
          refine xQ ?_
          refine xs 4 ?_
          refine xc ⟨[16], []⟩ (tabG 1 (Jbg r6.1 r6.2.2 r8 hr11)) ?_
          refine xs 1 ?_
          refine xl ?_
          refine xS ?_
          exact cut_at H (xK ⟨[1,2,16,17], [18,19]⟩)
         ·obtain ⟨F, G, hq6⟩ := xH Y G hp6
          refine xR ?_
          exact cut_at H (xK ⟨[1,2,16,17], [18,19]⟩)
        ·rintro ⟨x26, x27⟩ H
         rw [Xx] at H
         rcases bsplit H with ⟨hp5, H⟩ | ⟨hp5, H⟩
         ·obtain ⟨F, G, hq5⟩ := xH Y G hp5
          refine xT ?_
          rcases rsplit H with ⟨r7, hr9, H⟩ | ⟨e3, hr10, H⟩
          ·have F := Y
           refine xQ ?_
           refine xs 2 ?_
           refine xc ⟨[1, 4], [5, 6]⟩ (tabG 4 (Jbj q2 x22 a1 r5.1 a3 a4 x5 x6 x7 x8 r5.2 (.ok r7) hr9)) ?_
           refine xl ?_
           refine xS ?_
           exact cut_at H (xK ⟨[1,2,3,0,9], [10,11]⟩)
          ·have F := Y
           refine xQp [83, 84, 85] ?_
           refine xs 2 ?_
           refine xp ⟨[1, 4], [5, 6]⟩ (tabG 4 (Jbj q2 x22 a1 r5.1 a3 a4 x5 x6 x7 x8 r5.2 (.er e3) hr10)) ?_
           replace H := inrO_fin H hF1
           replace H := Option.some.inj H
           refine xS ?_
           subst H
           refine xpD [] ?_
           exact xOv ⟨[1, 2, 9], [10, 11]⟩
         ·obtain ⟨F, G, hq5⟩ := xH Y G hp5
          refine xE ?_
          exact cut_at H (xK ⟨[1,2,3,0,4], [5,6]⟩)
      ·have F := Y
       refine xQp [63, 64, 65] ?_
       refine xs 2 ?_
       refine xp ⟨[1, 5], [6, 7]⟩ (tabG 2 (XA x10 a1 x4 a3 a4 x5 x6 x7 x8 x11 (.er e2) hr7)) ?_
       replace H := inrO_fin H hF1
       replace H := Option.some.inj H
       refine xS ?_
       subst H
       refine xpD [] ?_
       exact xOv ⟨[1, 2, 10], [11, 12]⟩
   ·rintro ⟨x12, x13, x14, x15, x16, x17, x18, x19, x20⟩ H
    rw [Kj] at H
    refine xr ?_
    exact round_at (inl_fin H hF1) (xK ⟨[1,2,3,4,5], [6,7]⟩)
  ·obtain ⟨F, G, hq1⟩ := xH Y G hp1
   replace H := inrO_fin H hF1
   refine xE ?_
   refine xfz 4 11 (List.map d_Token x10) [] ?_
   rcases rsplit H with ⟨r9, hr12, H⟩ | ⟨e4, hr13, H⟩
   ·have F := Y
    refine xQ ?_
    refine xs 2 ?_
    refine xc ⟨[1, 5], [6, 7]⟩ (tabG 2 (XA x10 a1 x4 a3 a4 x5 x6 x7 x8 x11 (.ok r9) hr12)) ?_
    refine xl ?_
    refine xS ?_
    refine xr ?_
    rcases bsplit H with ⟨hp8, H⟩ | ⟨hp8, H⟩
    ·obtain ⟨F, G, hq8⟩ := xH Y G hp8
     refine xT ?_
     obtain ⟨hg, H⟩ := gsplit H
     have T := take_len x9 x1 hg
     have Y := xZ Y T
     refine xft 3 x1 ?_
     refine xfz 3 14 (List.map Ja (List.take x1 x9)) [] ?_
     obtain ⟨hg7, H⟩ := gsplit H
     have F := xZ Y (map_getD Ja (List.take x1 x9) ((IntKind.i64.wrap (((x1 : Nat) : Int) - 1)).toNat) default default (by omega))
     cases H
    ·obtain ⟨F, G, hq8⟩ := xH Y G hp8
     replace H := Option.some.inj H
     refine xE ?_
     subst H
     refine xnD [] ?_
     exact xO ⟨[1, 2, 10], [11, 12]⟩
   ·have F := Y
    refine xQp [87, 88, 89] ?_
    refine xs 2 ?_
    refine xp ⟨[1, 5], [6, 7]⟩ (tabG 2 (XA x10 a1 x4 a3 a4 x5 x6 x7 x8 x11 (.er e4) hr13)) ?_
    replace H := Option.some.inj H
    refine xS ?_
    subst H
    refine xpD [] ?_
    exact xOv ⟨[1, 2, 10], [11, 12]⟩
 ·have F := Y
  refine xQp [37, 38] ?_
  refine xs 1 ?_
  refine xp ⟨[], []⟩ (tabG 0 (ZK r1.2 (.er e1) hr3)) ?_
  replace H := Option.some.inj H
  refine xS ?_
  subst H
  refine xpD [] ?_
  exact xOv ⟨[1, 2, 5], [3, 6]⟩
noncomputable def Xe (a0 : List Token) (a2 : Int) (a5 : List Macro) (a6 : List Int) (a7 : List Int) (a8 : Int) (a9 : List Token) (r1 : Macro × Fault) : (Int × Int) → Option (GR (Int × Int × Int × Int × (List Macro) × (List Int) × (List Int) × Int × (List Token)) (Int × (List Macro) × (List Int) × (List Int) × Int × (List Token)))
 | (x1, x2) => grB (Z0 (⟨r1.2.Err, x1, x2⟩ : Fault)) (fun r2 => (JbN a5 r1.1).bind fun r3 => if (!eqI r3.2 0) = true then if 2 < a0.length then none else none else some (.ok (a2, r3.1, a6, a7, a8, a9))) (fun e1 => some (.er ((⟨r1.2.Err, x1, x2⟩ : Fault).Err, (⟨r1.2.Err, x1, x2⟩ : Fault).File, (⟨r1.2.Err, x1, x2⟩ : Fault).At, a2, a5, a6, a7, a8, a9)))
noncomputable def Xd (a0 : List Token) (a2 : Int) (a5 : List Macro) (a6 : List Int) (a7 : List Int) (a8 : Int) (a9 : List Token) (r1 : Macro × Fault) : Bool → Option (GR (Int × Int × Int × Int × (List Macro) × (List Int) × (List Int) × Int × (List Token)) (Int × (List Macro) × (List Int) × (List Int) × Int × (List Token)))
 | x3 => if x3 = true then if 1 < a0.length then if 1 < a0.length then Xe a0 a2 a5 a6 a7 a8 a9 r1 ((a0.getD 1 default).File, (a0.getD 1 default).At) else none else none else Xe a0 a2 a5 a6 a7 a8 a9 r1 (r1.2.File, r1.2.At)
noncomputable def Xa (a0 : List Token) : Bool → Option (GR (Int × Int × Int × Int × (List Macro) × (List Int) × (List Int) × Int × (List Token)) (Int × (List Macro) × (List Int) × (List Int) × Int × (List Token)))
 | x4 => if x4 = true then if 1 < a0.length then none else none else if 2 < a0.length then (Z7 ((a0.getD 2 default).Text)).bind fun r4 => if r4 = true then if 2 < a0.length then none else none else if 2 < a0.length then none else none else none
noncomputable def Xl (a0 : List Token) (a2 : Int) (a5 : List Macro) (a6 : List Int) (a7 : List Int) (a8 : Int) (a9 : List Token) : Bool → Option (GR (Int × Int × Int × Int × (List Macro) × (List Int) × (List Int) × Int × (List Token)) (Int × (List Macro) × (List Int) × (List Int) × Int × (List Token)))
 | x5 => if x5 = true then if 2 < a0.length then if (a6.length + [(a0.getD 2 default).File].length) * 8 ≤ 140737488355328 then some (.ok (a2, a5, a6 ++ [(a0.getD 2 default).File], a7, a8, a9)) else none else none else some (.ok (a2, a5, a6, a7, a8, a9))
noncomputable def XF (q1 : Int → (List Source) → Int → Int → Int → (List Macro) → (List Int) → (List Int) → Int → (List Token) → Option (GR (Int × Int × Int × Int × (List Macro) × (List Int) × (List Int) × Int × (List Token)) (Int × (List Macro) × (List Int) × (List Int) × Int × (List Token)))) (q2 : (List Token) → (List Source) → Int → Int → Int → (List Macro) → (List Int) → (List Int) → Int → (List Token) → Option (GR (Int × Int × Int × Int × (List Macro) × (List Int) × (List Int) × Int × (List Token)) (Int × (List Macro) × (List Int) × (List Int) × Int × (List Token)))) (q3 : (List Token) → (List Source) → Int → Int → Int → (List Macro) → (List Int) → (List Int) → Int → (List Token) → Option (GR (Int × Int × Int × Int × (List Macro) × (List Int) × (List Int) × Int × (List Token)) (Int × (List Macro) × (List Int) × (List Int) × Int × (List Token)))) (a0 : List Token) (a1 : List Source) (a2 : Int) (a3 : Int) (a4 : Int) (a5 : List Macro) (a6 : List Int) (a7 : List Int) (a8 : Int) (a9 : List Token) : Option (GR (Int × Int × Int × Int × (List Macro) × (List Int) × (List Int) × Int × (List Token)) (Int × (List Macro) × (List Int) × (List Int) × Int × (List Token))) :=
 if 1 < a0.length then if (eqS ((a0.getD 1 default).Text) [100, 101, 102, 105, 110, 101]) = true then if (0 : Int) ≤ 2 ∧ 2 ≤ (a0.length : Int) ∧ (a0.length : Int) ≤ (a0.length : Int) then (Jca (List.drop 2 a0)).bind fun r1 => if (ltI r1.2.File 0) = true then Xd a0 a2 a5 a6 a7 a8 a9 r1 (!eqI r1.2.Err 0) else Xd a0 a2 a5 a6 a7 a8 a9 r1 false else none else if (eqS ((a0.getD 1 default).Text) [117, 110, 100, 101, 102]) = true then if (!eqI (a0.length : Int) 3) = true then Xa a0 true else if 2 < a0.length then Xa a0 (!eqI ((a0.getD 2 default).Kind) 1) else none else if (eqS ((a0.getD 1 default).Text) [105, 110, 99, 108, 117, 100, 101]) = true then grB (q3 a0 a1 a2 a3 a4 a5 a6 a7 a8 a9) (fun r5 => some (.ok (r5.1, r5.2.1, r5.2.2.1, r5.2.2.2.1, r5.2.2.2.2.1, r5.2.2.2.2.2))) (fun e2 => some (.er (e2.1, e2.2.1, e2.2.2.1, e2.2.2.2.1, e2.2.2.2.2.1, e2.2.2.2.2.2.1, e2.2.2.2.2.2.2.1, e2.2.2.2.2.2.2.2.1, e2.2.2.2.2.2.2.2.2))) else if (eqS ((a0.getD 1 default).Text) [101, 114, 114, 111, 114]) = true then if 1 < a0.length then none else none else if (eqS ((a0.getD 1 default).Text) [112, 114, 97, 103, 109, 97]) = true then if (eqI (a0.length : Int) 3) = true then if 2 < a0.length then Xl a0 a2 a5 a6 a7 a8 a9 (eqS ((a0.getD 2 default).Text) [111, 110, 99, 101]) else none else Xl a0 a2 a5 a6 a7 a8 a9 false else if 1 < a0.length then none else none else none
theorem JcX (q1 : Int → (List Source) → Int → Int → Int → (List Macro) → (List Int) → (List Int) → Int → (List Token) → Option (GR (Int × Int × Int × Int × (List Macro) × (List Int) × (List Int) × Int × (List Token)) (Int × (List Macro) × (List Int) × (List Int) × Int × (List Token)))) (q2 : (List Token) → (List Source) → Int → Int → Int → (List Macro) → (List Int) → (List Int) → Int → (List Token) → Option (GR (Int × Int × Int × Int × (List Macro) × (List Int) × (List Int) × Int × (List Token)) (Int × (List Macro) × (List Int) × (List Int) × Int × (List Token)))) (q3 : (List Token) → (List Source) → Int → Int → Int → (List Macro) → (List Int) → (List Int) → Int → (List Token) → Option (GR (Int × Int × Int × Int × (List Macro) × (List Int) × (List Int) × Int × (List Token)) (Int × (List Macro) × (List Int) × (List Int) × Int × (List Token)))) (kq1 : Kok Tryz.prog 24 false (JL q1)) (kq2 : Kok Tryz.prog 38 false (JQ q2)) (kq3 : Kok Tryz.prog 60 false (JH q3)) : ∀ g, JQ (XF q1 q2 q3) g → GenOk Tryz.prog 38 g := by
 rintro _ ⟨a0, a1, a2, a3, a4, a5, a6, a7, a8, a9, r, H, rfl⟩
 refine xGnl mixed [5] [(56, Jb6), (57, JbP), (58, Z4)] [(33, false, XO), (60, false, (JH q3))] [] ⟨⟨call_56, Je7⟩, ⟨call_57, Jex⟩, ⟨call_58, JcB⟩, trivial⟩ ⟨JbK, kq3, trivial⟩ trivial Tryz.func38 _ ?_
 have G := True.intro
 have Y := xZ y_3 <| xZ y_9 <| xZ y_24 <| xZ y_25 <| xZ y_28 <| xZ y_29 <| xZ y_31 <| xZ y_44 <| xZ y_63 <| xZ y_65 <| xZ Tryz.results38 <| xZ d_Source.eq_1 <| xZ d_Call.eq_1 <| xZ d_Token.eq_1 <| xZ d_Macro.eq_1 <| xZ d_Limits.eq_1 <| xZ d_Fault.eq_1 <| xZ XM.eq_1 <| xZ Kz.eq_1 <| Vg.eq_1
 dsimp only [Vg]
 simp only [XF] at H
 refine xS ?_
 refine xrn 2 1 ?_
 obtain ⟨hg1, H⟩ := gsplit H
 have F := xZ Y (map_getD d_Token a0 1 default default (by omega))
 refine xR ?_
 refine xr ?_
 rcases bsplit H with ⟨hp1, H⟩ | ⟨hp1, H⟩
 ·obtain ⟨F, G, hq1⟩ := xH Y G hp1
  refine xT ?_
  obtain ⟨hg2, H⟩ := gsplit H
  obtain ⟨r1, hr1, H⟩ := osplit H
  have F := xC Y (Jfk (List.drop 2 a0) r1 hr1)
  refine xR0 ?_
  refine then_normal ?_
  refine w_cut (Xe a0 a2 a5 a6 a7 a8 a9 r1) (fun s => [(0, .c (.pt 1 0)), (1, .c (.d (.sl 11 (List.map d_Token a0)))), (4, .c (.pt 3 0)), (5, .c (.pt 4 0))]) (fun s => [[.d (.sl 2 (List.map d_Source a1)), .d (.v (.int .i64 a2)), .d (.v (.int .i64 a3)), .d (.v (.int .i64 a4)), .d (.sl 5 (List.map d_Macro a5)), .sl 1 (List.map dI a6) 6, .os 5 11 0 a9.length, .sl 1 (List.map dI a7) 7, .d (.v (.int .i64 a8))], [], [.d (.v (str r1.1.Name)), .d (.v (.bool r1.1.Call)), .d (.sl 1 (List.map dS r1.1.Params)), .d (.v (.bool r1.1.More)), .d (.sl 11 (List.map d_Token r1.1.Body))], [.d (.v (.int .i64 r1.2.Err)), .d (.v (.int .i64 s.1)), .d (.v (.int .i64 s.2))], [.arr 11 (List.map d_Token a9)]]) [3, 3] r ?_ ?_
  ·refine w_cut (Xd a0 a2 a5 a6 a7 a8 a9 r1) (fun s => [(0, .c (.pt 1 0)), (1, .c (.d (.sl 11 (List.map d_Token a0)))), (4, .c (.pt 3 0)), (5, .c (.pt 4 0)), (30, .c (.d (.v (.bool s))))]) (fun s => [[.d (.sl 2 (List.map d_Source a1)), .d (.v (.int .i64 a2)), .d (.v (.int .i64 a3)), .d (.v (.int .i64 a4)), .d (.sl 5 (List.map d_Macro a5)), .sl 1 (List.map dI a6) 6, .os 5 11 0 a9.length, .sl 1 (List.map dI a7) 7, .d (.v (.int .i64 a8))], [], [.d (.v (str r1.1.Name)), .d (.v (.bool r1.1.Call)), .d (.sl 1 (List.map dS r1.1.Params)), .d (.v (.bool r1.1.More)), .d (.sl 11 (List.map d_Token r1.1.Body))], [.d (.v (.int .i64 r1.2.Err)), .d (.v (.int .i64 r1.2.File)), .d (.v (.int .i64 r1.2.At))], [.arr 11 (List.map d_Token a9)]]) [3, 3] r ?_ ?_
   ·rcases bsplit H with ⟨hp4, H⟩ | ⟨hp4, H⟩
    ·obtain ⟨F, G, hq4⟩ := xH Y G hp4
     refine xR ?_
     exact cut_at H (xK ⟨[1,2,6,7,5], [3,4]⟩)
    ·obtain ⟨F, G, hq4⟩ := xH Y G hp4
     refine xR ?_
     exact cut_at H (xK ⟨[1,2,6,7,5], [3,4]⟩)
   ·rintro x3 H
    rw [Xd] at H
    rcases bsplit H with ⟨hp3, H⟩ | ⟨hp3, H⟩
    ·obtain ⟨F, G, hq3⟩ := xH Y G hp3
     refine xT ?_
     obtain ⟨hg4, H⟩ := gsplit H
     have F := xZ Y (map_getD d_Token a0 1 default default (by omega))
     obtain ⟨hg5, H⟩ := gsplit H
     have F := xZ F (map_getD d_Token a0 1 default default (by omega))
     refine xP [0, 1, 2, 3, 4, 5, 6, 7, 8, 9, 10, 11] [38] ⟨JbK, kq3, trivial⟩ ?_
     refine xsX 7 ?_
     refine xaX ?_
     refine xsX 1 ?_
     refine xbX ?_
     refine xsX 1 ?_
     refine xbX ?_
     refine xlX ?_
     refine xS ?_
     exact cut_at H (xK ⟨[1,2,3,4,5], [6,7]⟩)
    ·obtain ⟨F, G, hq3⟩ := xH Y G hp3
     refine xE ?_
     exact cut_at H (xK ⟨[1,2,3,4,5], [6,7]⟩)
  ·rintro ⟨x1, x2⟩ H
   rw [Xe] at H
   refine xS ?_
   rcases rsplit H with ⟨r2, hr2, H⟩ | ⟨e1, hr3, H⟩
   ·have F := Y
    refine xQ ?_
    refine xs 1 ?_
    refine xc ⟨[], []⟩ (tabG 0 (ZK (⟨r1.2.Err, x1, x2⟩ : Fault) (.ok r2) hr2)) ?_
    refine xl ?_
    refine xS ?_
    obtain ⟨r3, hr4, H⟩ := osplit H
    have F := xC Y (Jfg a5 r1.1 r3 hr4)
    refine xR ?_
    refine xr ?_
    rcases bsplit H with ⟨hp2, H⟩ | ⟨hp2, H⟩
    ·obtain ⟨F, G, hq2⟩ := xH Y G hp2
     refine xT ?_
     obtain ⟨hg3, H⟩ := gsplit H
     have F := xZ Y (map_getD d_Token a0 2 default default (by omega))
     cases H
    ·obtain ⟨F, G, hq2⟩ := xH Y G hp2
     refine xE ?_
     replace H := Option.some.inj H
     refine xr ?_
     subst H
     refine xnD [] ?_
     exact xO ⟨[1, 2, 5], [6, 7]⟩
   ·have F := Y
    refine xQp [41, 42] ?_
    refine xs 1 ?_
    refine xp ⟨[], []⟩ (tabG 0 (ZK (⟨r1.2.Err, x1, x2⟩ : Fault) (.er e1) hr3)) ?_
    replace H := Option.some.inj H
    refine xS ?_
    subst H
    refine xpD [] ?_
    exact xOv ⟨[1, 2, 5], [6, 7]⟩
 ·obtain ⟨F, G, hq1⟩ := xH Y G hp1
  refine xE ?_
  refine xr ?_
  rcases bsplit H with ⟨hp5, H⟩ | ⟨hp5, H⟩
  ·obtain ⟨F, G, hq5⟩ := xH Y G hp5
   refine xT0 ?_
   refine w_seq ?_
   refine w_cut (Xa a0) (fun s => [(0, .c (.pt 1 0)), (1, .c (.d (.sl 11 (List.map d_Token a0)))), (73, .c (.d (.v (.bool s))))]) (fun s => [[.d (.sl 2 (List.map d_Source a1)), .d (.v (.int .i64 a2)), .d (.v (.int .i64 a3)), .d (.v (.int .i64 a4)), .d (.sl 5 (List.map d_Macro a5)), .sl 1 (List.map dI a6) 4, .os 3 11 0 a9.length, .sl 1 (List.map dI a7) 5, .d (.v (.int .i64 a8))], [], [.arr 11 (List.map d_Token a9)]]) [3, 3] r ?_ ?_
   ·rcases bsplit H with ⟨hp8, H⟩ | ⟨hp8, H⟩
    ·obtain ⟨F, G, hq8⟩ := xH Y G hp8
     refine xR ?_
     exact cut_at H (xK ⟨[1,2,5], [3,4]⟩)
    ·obtain ⟨F, G, hq8⟩ := xH Y G hp8
     obtain ⟨hg10, H⟩ := gsplit H
     have F := xZ F (map_getD d_Token a0 2 default default (by omega))
     refine xR ?_
     exact cut_at H (xK ⟨[1,2,5], [3,4]⟩)
   ·rintro x4 H
    rw [Xa] at H
    rcases bsplit H with ⟨hp6, H⟩ | ⟨hp6, H⟩
    ·obtain ⟨F, G, hq6⟩ := xH Y G hp6
     refine xT ?_
     obtain ⟨hg6, H⟩ := gsplit H
     have F := xZ Y (map_getD d_Token a0 1 default default (by omega))
     cases H
    ·obtain ⟨F, G, hq6⟩ := xH Y G hp6
     refine xE ?_
     obtain ⟨hg7, H⟩ := gsplit H
     have F := xZ Y (map_getD d_Token a0 2 default default (by omega))
     obtain ⟨r4, hr5, H⟩ := osplit H
     have F := xCf F (JcU ((a0.getD 2 default).Text) r4 hr5)
     refine xR ?_
     rcases bsplit H with ⟨hp7, H⟩ | ⟨hp7, H⟩
     ·obtain ⟨F, G, hq7⟩ := xH Y G hp7
      refine xT ?_
      obtain ⟨hg8, H⟩ := gsplit H
      have F := xZ Y (map_getD d_Token a0 2 default default (by omega))
      cases H
     ·obtain ⟨F, G, hq7⟩ := xH Y G hp7
      refine xE ?_
      obtain ⟨hg9, H⟩ := gsplit H
      have F := xZ Y (map_getD d_Token a0 2 default default (by omega))
      cases H
  ·obtain ⟨F, G, hq5⟩ := xH Y G hp5
   refine xE ?_
   refine xr ?_
   rcases bsplit H with ⟨hp9, H⟩ | ⟨hp9, H⟩
   ·obtain ⟨F, G, hq9⟩ := xH Y G hp9
    refine xT ?_
    rcases rsplit H with ⟨r5, hr6, H⟩ | ⟨e2, hr7, H⟩
    ·have F := Y
     refine xQ ?_
     refine xs 2 ?_
     refine xc ⟨[1, 5], [3, 4]⟩ (tabG 1 (JaL q3 a0 a1 a2 a3 a4 a5 a6 a7 a8 a9 (.ok r5) hr6)) ?_
     refine xl ?_
     replace H := Option.some.inj H
     refine xS ?_
     subst H
     refine xnD [] ?_
     exact xO ⟨[1, 2, 8], [9, 10]⟩
    ·have F := Y
     refine xQp [99, 100, 101] ?_
     refine xs 2 ?_
     refine xp ⟨[1, 5], [3, 4]⟩ (tabG 1 (JaL q3 a0 a1 a2 a3 a4 a5 a6 a7 a8 a9 (.er e2) hr7)) ?_
     replace H := Option.some.inj H
     refine xS ?_
     subst H
     refine xpD [] ?_
     exact xOv ⟨[1, 2, 8], [9, 10]⟩
   ·obtain ⟨F, G, hq9⟩ := xH Y G hp9
    refine xE ?_
    refine xr ?_
    rcases bsplit H with ⟨hp10, H⟩ | ⟨hp10, H⟩
    ·obtain ⟨F, G, hq10⟩ := xH Y G hp10
     refine xT ?_
     obtain ⟨hg11, H⟩ := gsplit H
     have F := xZ Y (map_getD d_Token a0 1 default default (by omega))
     cases H
    ·obtain ⟨F, G, hq10⟩ := xH Y G hp10
     refine xE ?_
     refine xr ?_
     rcases bsplit H with ⟨hp11, H⟩ | ⟨hp11, H⟩
     ·obtain ⟨F, G, hq11⟩ := xH Y G hp11
      refine xT0 ?_
      refine w_cut (Xl a0 a2 a5 a6 a7 a8 a9) (fun s => [(0, .c (.pt 1 0)), (1, .c (.d (.sl 11 (List.map d_Token a0)))), (118, .c (.d (.v (.bool s))))]) (fun s => [[.d (.sl 2 (List.map d_Source a1)), .d (.v (.int .i64 a2)), .d (.v (.int .i64 a3)), .d (.v (.int .i64 a4)), .d (.sl 5 (List.map d_Macro a5)), .sl 1 (List.map dI a6) 4, .os 3 11 0 a9.length, .sl 1 (List.map dI a7) 5, .d (.v (.int .i64 a8))], [], [.arr 11 (List.map d_Token a9)]]) [3, 3] r ?_ ?_
      ·rcases bsplit H with ⟨hp13, H⟩ | ⟨hp13, H⟩
       ·obtain ⟨F, G, hq13⟩ := xH Y G hp13
        obtain ⟨hg14, H⟩ := gsplit H
        have F := xZ F (map_getD d_Token a0 2 default default (by omega))
        refine xR ?_
        exact cut_at H (xK ⟨[1,2,5], [3,4]⟩)
       ·obtain ⟨F, G, hq13⟩ := xH Y G hp13
        refine xR ?_
        exact cut_at H (xK ⟨[1,2,5], [3,4]⟩)
      ·rintro x5 H
       rw [Xl] at H
       rcases bsplit H with ⟨hp12, H⟩ | ⟨hp12, H⟩
       ·obtain ⟨F, G, hq12⟩ := xH Y G hp12
        refine xT ?_
        obtain ⟨hg12, H⟩ := gsplit H
        have F := xZ Y (map_getD d_Token a0 2 default default (by omega))
        obtain ⟨hg13, H⟩ := gsplit H
        have F := xZ F (all_map one_dI [(a0.getD 2 default).File])
        replace H := Option.some.inj H
        refine xR ?_
        subst H
        refine xnD [] ?_
        exact xO ⟨[1, 2, 3], [6, 5]⟩
       ·obtain ⟨F, G, hq12⟩ := xH Y G hp12
        replace H := Option.some.inj H
        refine xE ?_
        subst H
        refine xnD [] ?_
        exact xO ⟨[1, 2, 3], [4, 5]⟩
     ·obtain ⟨F, G, hq11⟩ := xH Y G hp11
      refine xE ?_
      obtain ⟨hg15, H⟩ := gsplit H
      have F := xZ Y (map_getD d_Token a0 1 default default (by omega))
      cases H
noncomputable def Kn (q1 : Int → (List Source) → Int → Int → Int → (List Macro) → (List Int) → (List Int) → Int → (List Token) → Option (GR (Int × Int × Int × Int × (List Macro) × (List Int) × (List Int) × Int × (List Token)) (Int × (List Macro) × (List Int) × (List Int) × Int × (List Token)))) (a0 : List Token) (a1 : List Source) (a2 : Int) (a3 : Int) (a4 : Int) (a5 : List Macro) (a6 : List Int) (a7 : List Int) (a8 : Int) (a9 : List Token) : Bool → Option (GR (Int × Int × Int × Int × (List Macro) × (List Int) × (List Int) × Int × (List Token)) (Int × (List Macro) × (List Int) × (List Int) × Int × (List Token)))
 | x1 => if x1 = true then if 1 < a0.length then (Z1 2 (a0.getD 1 default)).bind fun e1 => some (.er (2, (a0.getD 1 default).File, (a0.getD 1 default).At, a2, a5, a6, a7, a8, a9)) else none else if 2 < a0.length then if 2 < a0.length then if (0 : Int) ≤ 1 ∧ 1 ≤ (IntKind.i64.wrap ((((a0.getD 2 default).Text).length : Int) - 1)) ∧ (IntKind.i64.wrap ((((a0.getD 2 default).Text).length : Int) - 1)) ≤ (((a0.getD 2 default).Text).length : Int) then if 2 < a0.length then if 2 < a0.length then (Ja4 a1 ((a0.getD 2 default).File) (List.take ((IntKind.i64.wrap ((((a0.getD 2 default).Text).length : Int) - 1)).toNat - 1) (List.drop 1 ((a0.getD 2 default).Text))) (eqI ((a0.getD 2 default).Kind) 4)).bind fun r2 => if (ltI r2 0) = true then if 2 < a0.length then (Z1 6 (a0.getD 2 default)).bind fun e2 => some (.er (6, (a0.getD 2 default).File, (a0.getD 2 default).At, a2, a5, a6, a7, a8, a9)) else none else (K7 a6 r2).bind fun r4 => if r4 = true then some (.ok (a2, a5, a6, a7, a8, a9)) else if (leI a4 a8) = true then if 2 < a0.length then (Z1 10 (a0.getD 2 default)).bind fun e3 => some (.er (10, (a0.getD 2 default).File, (a0.getD 2 default).At, a2, a5, a6, a7, a8, a9)) else none else grB (q1 r2 a1 a2 a3 a4 a5 a6 a7 (IntKind.i64.wrap (a8 + 1)) a9) (fun r6 => some (.ok (r6.1, r6.2.1, r6.2.2.1, r6.2.2.2.1, IntKind.i64.wrap (r6.2.2.2.2.1 - 1), r6.2.2.2.2.2))) (fun e4 => some (.er (e4.1, e4.2.1, e4.2.2.1, e4.2.2.2.1, e4.2.2.2.2.1, e4.2.2.2.2.2.1, e4.2.2.2.2.2.2.1, e4.2.2.2.2.2.2.2.1, e4.2.2.2.2.2.2.2.2))) else none else none else none else none else none
noncomputable def VL (q1 : Int → (List Source) → Int → Int → Int → (List Macro) → (List Int) → (List Int) → Int → (List Token) → Option (GR (Int × Int × Int × Int × (List Macro) × (List Int) × (List Int) × Int × (List Token)) (Int × (List Macro) × (List Int) × (List Int) × Int × (List Token)))) (q2 : (List Token) → (List Source) → Int → Int → Int → (List Macro) → (List Int) → (List Int) → Int → (List Token) → Option (GR (Int × Int × Int × Int × (List Macro) × (List Int) × (List Int) × Int × (List Token)) (Int × (List Macro) × (List Int) × (List Int) × Int × (List Token)))) (q3 : (List Token) → (List Source) → Int → Int → Int → (List Macro) → (List Int) → (List Int) → Int → (List Token) → Option (GR (Int × Int × Int × Int × (List Macro) × (List Int) × (List Int) × Int × (List Token)) (Int × (List Macro) × (List Int) × (List Int) × Int × (List Token)))) (a0 : List Token) (a1 : List Source) (a2 : Int) (a3 : Int) (a4 : Int) (a5 : List Macro) (a6 : List Int) (a7 : List Int) (a8 : Int) (a9 : List Token) : Option (GR (Int × Int × Int × Int × (List Macro) × (List Int) × (List Int) × Int × (List Token)) (Int × (List Macro) × (List Int) × (List Int) × Int × (List Token))) :=
 if (!eqI (a0.length : Int) 3) = true then Kn q1 a0 a1 a2 a3 a4 a5 a6 a7 a8 a9 true else if 2 < a0.length then if (!eqI ((a0.getD 2 default).Kind) 4) = true then if 2 < a0.length then Kn q1 a0 a1 a2 a3 a4 a5 a6 a7 a8 a9 (!eqI ((a0.getD 2 default).Kind) 7) else none else Kn q1 a0 a1 a2 a3 a4 a5 a6 a7 a8 a9 false else none
theorem JcM (q1 : Int → (List Source) → Int → Int → Int → (List Macro) → (List Int) → (List Int) → Int → (List Token) → Option (GR (Int × Int × Int × Int × (List Macro) × (List Int) × (List Int) × Int × (List Token)) (Int × (List Macro) × (List Int) × (List Int) × Int × (List Token)))) (q2 : (List Token) → (List Source) → Int → Int → Int → (List Macro) → (List Int) → (List Int) → Int → (List Token) → Option (GR (Int × Int × Int × Int × (List Macro) × (List Int) × (List Int) × Int × (List Token)) (Int × (List Macro) × (List Int) × (List Int) × Int × (List Token)))) (q3 : (List Token) → (List Source) → Int → Int → Int → (List Macro) → (List Int) → (List Int) → Int → (List Token) → Option (GR (Int × Int × Int × Int × (List Macro) × (List Int) × (List Int) × Int × (List Token)) (Int × (List Macro) × (List Int) × (List Int) × Int × (List Token)))) (kq1 : Kok Tryz.prog 24 false (JL q1)) (kq2 : Kok Tryz.prog 38 false (JQ q2)) (kq3 : Kok Tryz.prog 60 false (JH q3)) : ∀ g, JH (VL q1 q2 q3) g → GenOk Tryz.prog 60 g := by
 rintro _ ⟨a0, a1, a2, a3, a4, a5, a6, a7, a8, a9, r, H, rfl⟩
 refine xGn mixed [(90, Jbf), (91, VF)] [(39, false, ZD), (24, false, (JL q1))] [] ⟨⟨call_90, Jew⟩, ⟨call_91, Jb7⟩, trivial⟩ ⟨Jbu, kq1, trivial⟩ trivial Tryz.func60 _ ?_
 have G := True.intro
 have Y := xZ y_3 <| xZ y_9 <| xZ y_24 <| xZ y_25 <| xZ y_37 <| xZ y_39 <| xZ y_44 <| xZ y_65 <| xZ Tryz.results60 <| xZ d_Source.eq_1 <| xZ d_Call.eq_1 <| xZ d_Token.eq_1 <| xZ d_Macro.eq_1 <| xZ d_Limits.eq_1 <| xZ ZJ.eq_1 <| xZ J1.eq_1 <| Kz.eq_1
 dsimp only [Kz]
 simp only [VL] at H
 refine w_seq ?_
 refine w_cut (Kn q1 a0 a1 a2 a3 a4 a5 a6 a7 a8 a9) (fun s => [(0, .c (.pt 1 0)), (1, .c (.d (.sl 11 (List.map d_Token a0)))), (22, .c (.d (.v (.bool s))))]) (fun s => [[.d (.sl 2 (List.map d_Source a1)), .d (.v (.int .i64 a2)), .d (.v (.int .i64 a3)), .d (.v (.int .i64 a4)), .d (.sl 5 (List.map d_Macro a5)), .sl 1 (List.map dI a6) 4, .os 3 11 0 a9.length, .sl 1 (List.map dI a7) 5, .d (.v (.int .i64 a8))], [], [.arr 11 (List.map d_Token a9)]]) [3, 3] r ?_ ?_
 ·refine xrn 2 1 ?_
  rcases bsplit H with ⟨hp5, H⟩ | ⟨hp5, H⟩
  ·obtain ⟨F, G, hq5⟩ := xH Y G hp5
   refine xR ?_
   exact cut_at H (xK ⟨[1,2,5], [3,4]⟩)
  ·obtain ⟨F, G, hq5⟩ := xH Y G hp5
   obtain ⟨hg9, H⟩ := gsplit H
   have F := xZ F (map_getD d_Token a0 2 default default (by omega))
   rcases bsplit H with ⟨hp6, H⟩ | ⟨hp6, H⟩
   ·obtain ⟨F, G, hq6⟩ := xH F G hp6
    obtain ⟨hg10, H⟩ := gsplit H
    have F := xZ F (map_getD d_Token a0 2 default default (by omega))
    refine xR ?_
    exact cut_at H (xK ⟨[1,2,5], [3,4]⟩)
   ·obtain ⟨F, G, hq6⟩ := xH F G hp6
    refine xR ?_
    exact cut_at H (xK ⟨[1,2,5], [3,4]⟩)
 ·rintro x1 H
  rw [Kn] at H
  rcases bsplit H with ⟨hp1, H⟩ | ⟨hp1, H⟩
  ·obtain ⟨F, G, hq1⟩ := xH Y G hp1
   refine xT ?_
   obtain ⟨hg1, H⟩ := gsplit H
   have F := xZ Y (map_getD d_Token a0 1 default default (by omega))
   obtain ⟨e1, hr2, H⟩ := osplit H
   have F := F
   refine xQp [23, 24, 25] ?_
   refine xs 2 ?_
   refine xp ⟨[], []⟩ (tabG 0 (JbF 2 (a0.getD 1 default) e1 hr2)) ?_
   replace H := Option.some.inj H
   refine xS ?_
   subst H
   refine xpD [] ?_
   exact xOv ⟨[1, 2, 3], [4, 5]⟩
  ·obtain ⟨F, G, hq1⟩ := xH Y G hp1
   refine xE ?_
   obtain ⟨hg2, H⟩ := gsplit H
   have F := xZ Y (map_getD d_Token a0 2 default default (by omega))
   obtain ⟨hg3, H⟩ := gsplit H
   have F := xZ F (map_getD d_Token a0 2 default default (by omega))
   obtain ⟨hg4, H⟩ := gsplit H
   refine xR ?_
   obtain ⟨hg5, H⟩ := gsplit H
   have F := xZ Y (map_getD d_Token a0 2 default default (by omega))
   obtain ⟨hg6, H⟩ := gsplit H
   have F := xZ F (map_getD d_Token a0 2 default default (by omega))
   obtain ⟨r2, hr3, H⟩ := osplit H
   have F := xCf F (JeL a1 ((a0.getD 2 default).File) (List.take ((IntKind.i64.wrap ((((a0.getD 2 default).Text).length : Int) - 1)).toNat - 1) (List.drop 1 ((a0.getD 2 default).Text))) (eqI ((a0.getD 2 default).Kind) 4) r2 hr3)
   refine xR ?_
   refine xr ?_
   rcases bsplit H with ⟨hp2, H⟩ | ⟨hp2, H⟩
   ·obtain ⟨F, G, hq2⟩ := xH Y G hp2
    refine xT ?_
    obtain ⟨hg7, H⟩ := gsplit H
    have F := xZ Y (map_getD d_Token a0 2 default default (by omega))
    obtain ⟨e2, hr5, H⟩ := osplit H
    have F := F
    refine xQp [55, 56, 57] ?_
    refine xs 2 ?_
    refine xp ⟨[], []⟩ (tabG 0 (JbF 6 (a0.getD 2 default) e2 hr5)) ?_
    replace H := Option.some.inj H
    refine xS ?_
    subst H
    refine xpD [] ?_
    exact xOv ⟨[1, 2, 3], [4, 5]⟩
   ·obtain ⟨F, G, hq2⟩ := xH Y G hp2
    refine xE ?_
    obtain ⟨r4, hr6, H⟩ := osplit H
    have F := xC Y (Jce a6 r2 r4 hr6)
    refine xR ?_
    rcases bsplit H with ⟨hp3, H⟩ | ⟨hp3, H⟩
    ·obtain ⟨F, G, hq3⟩ := xH Y G hp3
     replace H := Option.some.inj H
     refine xT ?_
     subst H
     refine xrD [] ?_
     exact xO ⟨[1, 2, 3], [4, 5]⟩
    ·obtain ⟨F, G, hq3⟩ := xH Y G hp3
     refine xE ?_
     refine xr ?_
     rcases bsplit H with ⟨hp4, H⟩ | ⟨hp4, H⟩
     ·obtain ⟨F, G, hq4⟩ := xH Y G hp4
      refine xT ?_
      obtain ⟨hg8, H⟩ := gsplit H
      have F := xZ Y (map_getD d_Token a0 2 default default (by omega))
      obtain ⟨e3, hr8, H⟩ := osplit H
      have F := F
      refine xQp [76, 77, 78] ?_
      refine xs 2 ?_
      refine xp ⟨[], []⟩ (tabG 0 (JbF 10 (a0.getD 2 default) e3 hr8)) ?_
      replace H := Option.some.inj H
      refine xS ?_
      subst H
      refine xpD [] ?_
      exact xOv ⟨[1, 2, 3], [4, 5]⟩
     ·obtain ⟨F, G, hq4⟩ := xH Y G hp4
      refine xE ?_
      refine xr ?_
      rcases rsplit H with ⟨r6, hr9, H⟩ | ⟨e4, hr10, H⟩
      ·have F := Y
       refine xQ ?_
       refine xs 2 ?_
       refine xc ⟨[1, 3], [4, 5]⟩ (tabG 1 (ZX q1 r2 a1 a2 a3 a4 a5 a6 a7 (IntKind.i64.wrap (a8 + 1)) a9 (.ok r6) hr9)) ?_
       refine xl ?_
       refine xS ?_
       replace H := Option.some.inj H
       refine xr ?_
       subst H
       refine xnD [] ?_
       exact xO ⟨[1, 2, 8], [9, 10]⟩
      ·have F := Y
       refine xQp [86, 87, 88] ?_
       refine xs 2 ?_
       refine xp ⟨[1, 3], [4, 5]⟩ (tabG 1 (ZX q1 r2 a1 a2 a3 a4 a5 a6 a7 (IntKind.i64.wrap (a8 + 1)) a9 (.er e4) hr10)) ?_
       replace H := Option.some.inj H
       refine xS ?_
       subst H
       refine xpD [] ?_
       exact xOv ⟨[1, 2, 8], [9, 10]⟩
noncomputable def Jc : Nat → (Int → (List Source) → Int → Int → Int → (List Macro) → (List Int) → (List Int) → Int → (List Token) → Option (GR (Int × Int × Int × Int × (List Macro) × (List Int) × (List Int) × Int × (List Token)) (Int × (List Macro) × (List Int) × (List Int) × Int × (List Token)))) × ((List Token) → (List Source) → Int → Int → Int → (List Macro) → (List Int) → (List Int) → Int → (List Token) → Option (GR (Int × Int × Int × Int × (List Macro) × (List Int) × (List Int) × Int × (List Token)) (Int × (List Macro) × (List Int) × (List Int) × Int × (List Token)))) × ((List Token) → (List Source) → Int → Int → Int → (List Macro) → (List Int) → (List Int) → Int → (List Token) → Option (GR (Int × Int × Int × Int × (List Macro) × (List Int) × (List Int) × Int × (List Token)) (Int × (List Macro) × (List Int) × (List Int) × Int × (List Token))))
 | 0 => (fun _ _ _ _ _ _ _ _ _ _ => none, fun _ _ _ _ _ _ _ _ _ _ => none, fun _ _ _ _ _ _ _ _ _ _ => none)
 | n + 1 => (X0 ((Jc n).1) ((Jc n).2.1) ((Jc n).2.2), XF ((Jc n).1) ((Jc n).2.1) ((Jc n).2.2), VL ((Jc n).1) ((Jc n).2.1) ((Jc n).2.2))
theorem JaM : ∀ n, Kok Tryz.prog 24 false (JL (Jc n).1) ∧ Kok Tryz.prog 38 false (JQ (Jc n).2.1) ∧ Kok Tryz.prog 60 false (JH (Jc n).2.2)
 | 0 => ⟨⟨call_24, (by rintro _ ⟨_, _, _, _, _, _, _, _, _, _, _, H, _⟩; cases H), nofun⟩, ⟨call_38, (by rintro _ ⟨_, _, _, _, _, _, _, _, _, _, _, H, _⟩; cases H), nofun⟩, ⟨call_60, (by rintro _ ⟨_, _, _, _, _, _, _, _, _, _, _, H, _⟩; cases H), nofun⟩⟩
 | n + 1 => have h := JaM n; ⟨⟨call_24, Jdk _ _ _ h.1 h.2.1 h.2.2, nofun⟩, ⟨call_38, JcX _ _ _ h.1 h.2.1 h.2.2, nofun⟩, ⟨call_60, JcM _ _ _ h.1 h.2.1 h.2.2, nofun⟩⟩
noncomputable def Vv : Int → (List Source) → Int → Int → Int → (List Macro) → (List Int) → (List Int) → Int → (List Token) → Option (GR (Int × Int × Int × Int × (List Macro) × (List Int) × (List Int) × Int × (List Token)) (Int × (List Macro) × (List Int) × (List Int) × Int × (List Token))) := (Jc bigF).1
def Jal : GI → Prop := JL Vv
theorem JbW (a0 : Int) (a1 : List Source) (a2 : Int) (a3 : Int) (a4 : Int) (a5 : List Macro) (a6 : List Int) (a7 : List Int) (a8 : Int) (a9 : List Token) (r : GR (Int × Int × Int × Int × (List Macro) × (List Int) × (List Int) × Int × (List Token)) (Int × (List Macro) × (List Int) × (List Int) × Int × (List Token))) (H : Vv a0 a1 a2 a3 a4 a5 a6 a7 a8 a9 = some r) : Jal (J1 a0 a1 a2 a3 a4 a5 a6 a7 a8 a9 r) := ZX Vv a0 a1 a2 a3 a4 a5 a6 a7 a8 a9 r H
theorem X1 : Kok Tryz.prog 24 false Jal := (JaM bigF).1
noncomputable def JaX (a0 : Int) (a1 : Int) (a2 : Int) : Option Unit :=
 some ()
def di_drive_guard (a0 : Int) (a1 : Int) (a2 : Int) (r : Unit) : DI :=
 ⟨[.c (.pt 1 0)], [[.d (.v (.int .i64 a0)), .d (.v (.int .i64 a1)), .d (.v (.int .i64 a2))]], [], none, [[.d (.v (.int .i64 a0)), .d (.v (.int .i64 a1)), .d (.v (.int .i64 a2))]], [], none⟩
def SD_drive_guard : DI → Prop := fun d => ∃ (a0 : Int) (a1 : Int) (a2 : Int) (r : Unit), JaX a0 a1 a2 = some r ∧ d = di_drive_guard a0 a1 a2 r
theorem Jfc (a0 : Int) (a1 : Int) (a2 : Int) (r : Unit) (H : JaX a0 a1 a2 = some r) : SD_drive_guard (di_drive_guard a0 a1 a2 r) := ⟨a0, a1, a2, r, H, rfl⟩
theorem JeN : ∀ d, SD_drive_guard d → DOk Tryz.prog 23 d := by
 rintro _ ⟨a0, a1, a2, r, H, rfl⟩
 refine xRcl mixed [] [] [] trivial trivial Tryz.func23 _ ?_
 have G := True.intro
 have Y := xZ y_20 <| xZ y_31 <| xZ y_78 <| xZ Tryz.results23 <| xZ d_Fault.eq_1 <| di_drive_guard.eq_1
 dsimp only [di_drive_guard, Option.getD_some, Option.getD_none]
 unfold JaX at H
 refine xS ?_
 refine xr ?_
 refine xt ?_
 replace H := Option.some.inj H
 refine xr ?_
 subst H
 exact xDn ⟨[1], []⟩
noncomputable def JaR (a0 : Int) (a1 : Int) (a2 : Int) (a3 : List Token) (a4 : List Int) (a5 : List Macro) : Option ((List Token) × (List Int) × (List Macro)) :=
 if (!eqI a0 0) = true then some (([] : List Token), ([] : List Int), ([] : List Macro)) else some (a3, a4, a5)
def di_drive_Run_1 (a0 : Int) (a1 : Int) (a2 : Int) (a3 : List Token) (a4 : List Int) (a5 : List Macro) (r : ((List Token) × (List Int) × (List Macro))) (u : Option Value) : DI :=
 ⟨[.c (.pt 1 0), .c (.pt 2 0), .c (.pt 3 0)], [[.d (.v (.int .i64 a0)), .d (.v (.int .i64 a1)), .d (.v (.int .i64 a2))], [.d (.sl 11 (List.map d_Token a3)), .sl 1 (List.map dI a4) 4], [.d (.sl 5 (List.map d_Macro a5))]], [3], u, [[.d (.v (.int .i64 a0)), .d (.v (.int .i64 a1)), .d (.v (.int .i64 a2))], [.d (.sl 11 (List.map d_Token r.1)), .sl 1 (List.map dI r.2.1) 4], [.d (.sl 5 (List.map d_Macro r.2.2))]], [3], u⟩
def SD_drive_Run_1 : DI → Prop := fun d => ∃ (a0 : Int) (a1 : Int) (a2 : Int) (a3 : List Token) (a4 : List Int) (a5 : List Macro) (r : ((List Token) × (List Int) × (List Macro))) (u : Option Value), JaR a0 a1 a2 a3 a4 a5 = some r ∧ d = di_drive_Run_1 a0 a1 a2 a3 a4 a5 r u
theorem JeZ (a0 : Int) (a1 : Int) (a2 : Int) (a3 : List Token) (a4 : List Int) (a5 : List Macro) (r : ((List Token) × (List Int) × (List Macro))) (u : Option Value) (H : JaR a0 a1 a2 a3 a4 a5 = some r) : SD_drive_Run_1 (di_drive_Run_1 a0 a1 a2 a3 a4 a5 r u) := ⟨a0, a1, a2, a3, a4, a5, r, u, H, rfl⟩
theorem JeP : ∀ d, SD_drive_Run_1 d → DOk Tryz.prog 22 d := by
 rintro _ ⟨a0, a1, a2, a3, a4, a5, r, u, H, rfl⟩
 refine xDf mixed [] [] trivial trivial Tryz.func22 _ ?_
 have G := True.intro
 have Y := xZ y_24 <| xZ y_25 <| xZ y_27 <| xZ y_28 <| xZ y_29 <| xZ y_31 <| xZ Tryz.results22 <| xZ d_Call.eq_1 <| xZ d_Token.eq_1 <| xZ d_Macro.eq_1 <| di_drive_Run_1.eq_1
 dsimp only [di_drive_Run_1]
 simp only [JaR] at H
 refine xS ?_
 refine xr ?_
 rcases bsplit H with ⟨hp1, H⟩ | ⟨hp1, H⟩
 ·obtain ⟨F, G, hq1⟩ := xH Y G hp1
  refine xT ?_
  replace H := Option.some.inj H
  refine xr ?_
  subst H
  exact xDn ⟨[1, 2, 3], [0]⟩
 ·obtain ⟨F, G, hq1⟩ := xH Y G hp1
  replace H := Option.some.inj H
  refine xE ?_
  subst H
  exact xDn ⟨[1, 2, 3], [4]⟩
noncomputable def ZL (a0 : Int) (a1 : Int) (a2 : Int) (a3 : Int) (a4 : Int) (a5 : Int) : Option Unit :=
 some ()
def di_drive_guard_v2 (a0 : Int) (a1 : Int) (a2 : Int) (a3 : Int) (a4 : Int) (a5 : Int) (r : Unit) : DI :=
 ⟨[.c (.pt 1 0)], [[.d (.v (.int .i64 a0)), .d (.v (.int .i64 a1)), .d (.v (.int .i64 a2))]], [], (some (.iface 78 (.agg ⟨[.int .i64 a3, .int .i64 a4, .int .i64 a5]⟩))), [[.d (.v (.int .i64 a3)), .d (.v (.int .i64 a4)), .d (.v (.int .i64 a5))]], [], none⟩
def SD_drive_guard_v2 : DI → Prop := fun d => ∃ (a0 : Int) (a1 : Int) (a2 : Int) (a3 : Int) (a4 : Int) (a5 : Int) (r : Unit), ZL a0 a1 a2 a3 a4 a5 = some r ∧ d = di_drive_guard_v2 a0 a1 a2 a3 a4 a5 r
theorem Jen (a0 : Int) (a1 : Int) (a2 : Int) (a3 : Int) (a4 : Int) (a5 : Int) (r : Unit) (H : ZL a0 a1 a2 a3 a4 a5 = some r) : SD_drive_guard_v2 (di_drive_guard_v2 a0 a1 a2 a3 a4 a5 r) := ⟨a0, a1, a2, a3, a4, a5, r, H, rfl⟩
theorem Jeb : ∀ d, SD_drive_guard_v2 d → DOk Tryz.prog 23 d := by
 rintro _ ⟨a0, a1, a2, a3, a4, a5, r, H, rfl⟩
 refine xRcl mixed [] [] [] trivial trivial Tryz.func23 _ ?_
 have G := True.intro
 have Y := xZ y_20 <| xZ y_31 <| xZ y_78 <| xZ Tryz.results23 <| xZ d_Fault.eq_1 <| di_drive_guard_v2.eq_1
 dsimp only [di_drive_guard_v2, Option.getD_some, Option.getD_none]
 unfold ZL at H
 refine xS ?_
 refine xr ?_
 refine xe ?_
 refine xr ?_
 refine xt ?_
 refine xr ?_
 replace H := Option.some.inj H
 refine xr ?_
 subst H
 exact xDn ⟨[1], []⟩
noncomputable def ZG (a0 : Int) (a1 : Int) (a2 : Int) (a3 : List Token) (a4 : List Int) (a5 : List Macro) : Option ((List Token) × (List Int) × (List Macro)) :=
 if (!eqI a0 0) = true then some (([] : List Token), ([] : List Int), ([] : List Macro)) else some (a3, a4, a5)
def di_drive_Run_1_v2 (a0 : Int) (a1 : Int) (a2 : Int) (a3 : List Token) (a4 : List Int) (a5 : List Macro) (r : ((List Token) × (List Int) × (List Macro))) (u : Option Value) : DI :=
 ⟨[.c (.pt 1 0), .c (.pt 2 0), .c (.pt 3 0)], [[.d (.v (.int .i64 a0)), .d (.v (.int .i64 a1)), .d (.v (.int .i64 a2))], [.sl 11 (List.map d_Token a3) 4, .sl 1 (List.map dI a4) 5], [.sl 5 (List.map d_Macro a5) 6]], [44, 3, 63], u, [[.d (.v (.int .i64 a0)), .d (.v (.int .i64 a1)), .d (.v (.int .i64 a2))], [.sl 11 (List.map d_Token r.1) 4, .sl 1 (List.map dI r.2.1) 5], [.sl 5 (List.map d_Macro r.2.2) 6]], [44, 3, 63], u⟩
def SD_drive_Run_1_v2 : DI → Prop := fun d => ∃ (a0 : Int) (a1 : Int) (a2 : Int) (a3 : List Token) (a4 : List Int) (a5 : List Macro) (r : ((List Token) × (List Int) × (List Macro))) (u : Option Value), ZG a0 a1 a2 a3 a4 a5 = some r ∧ d = di_drive_Run_1_v2 a0 a1 a2 a3 a4 a5 r u
theorem Jei (a0 : Int) (a1 : Int) (a2 : Int) (a3 : List Token) (a4 : List Int) (a5 : List Macro) (r : ((List Token) × (List Int) × (List Macro))) (u : Option Value) (H : ZG a0 a1 a2 a3 a4 a5 = some r) : SD_drive_Run_1_v2 (di_drive_Run_1_v2 a0 a1 a2 a3 a4 a5 r u) := ⟨a0, a1, a2, a3, a4, a5, r, u, H, rfl⟩
theorem JdS : ∀ d, SD_drive_Run_1_v2 d → DOk Tryz.prog 22 d := by
 rintro _ ⟨a0, a1, a2, a3, a4, a5, r, u, H, rfl⟩
 refine xDf mixed [] [] trivial trivial Tryz.func22 _ ?_
 have G := True.intro
 have Y := xZ y_24 <| xZ y_25 <| xZ y_27 <| xZ y_28 <| xZ y_29 <| xZ y_31 <| xZ Tryz.results22 <| xZ d_Call.eq_1 <| xZ d_Token.eq_1 <| xZ d_Macro.eq_1 <| di_drive_Run_1_v2.eq_1
 dsimp only [di_drive_Run_1_v2]
 simp only [ZG] at H
 refine xS ?_
 refine xr ?_
 rcases bsplit H with ⟨hp1, H⟩ | ⟨hp1, H⟩
 ·obtain ⟨F, G, hq1⟩ := xH Y G hp1
  refine xT ?_
  replace H := Option.some.inj H
  refine xr ?_
  subst H
  exact xDn ⟨[1, 2, 3], [0, 0, 0]⟩
 ·obtain ⟨F, G, hq1⟩ := xH Y G hp1
  replace H := Option.some.inj H
  refine xE ?_
  subst H
  exact xDn ⟨[1, 2, 3], [4, 5, 6]⟩
noncomputable def Ky (a0 : List Source) (a1 : Int) (a2 : List Macro) (a3 : Limits) : Bool → Option ((List Token) × (List Int) × (List Macro) × Int × Int × Int)
 | x2 => if x2 = true then some (([] : List Token), ([] : List Int), ([] : List Macro), 3, (-1), 0) else (Jn a2).bind fun r2 => grB (Vv a1 a0 a3.Fuel a3.Out a3.Deep a2 ([] : List Int) ([] : List Int) 0 []) (fun r3 => (JaX 0 (-1) 0).bind fun r4 => (JaR 0 (-1) 0 r3.2.2.2.2.2 r3.2.2.2.1 r3.2.1).bind fun r5 => some (r5.1, r5.2.1, r5.2.2, 0, (-1), 0)) (fun e1 => (ZL 0 0 0 e1.1 e1.2.1 e1.2.2.1).bind fun r6 => (ZG e1.1 e1.2.1 e1.2.2.1 ([] : List Token) ([] : List Int) ([] : List Macro)).bind fun r7 => some (r7.1, r7.2.1, r7.2.2, e1.1, e1.2.1, e1.2.2.1))
noncomputable def ZM (a0 : List Source) (a1 : Int) (a2 : List Macro) (a3 : Limits) : Bool → Option ((List Token) × (List Int) × (List Macro) × Int × Int × Int)
 | x1 => if x1 = true then some (([] : List Token), ([] : List Int), ([] : List Macro), 6, (-1), 0) else if (ltI a3.Fuel 0) = true then Ky a0 a1 a2 a3 true else if (ltI 4000 a3.Fuel) = true then Ky a0 a1 a2 a3 true else if (ltI a3.Out 0) = true then Ky a0 a1 a2 a3 true else if (ltI 1500 a3.Out) = true then Ky a0 a1 a2 a3 true else if (ltI a3.Deep 0) = true then Ky a0 a1 a2 a3 true else Ky a0 a1 a2 a3 (ltI 6 a3.Deep)
noncomputable def Jbn (a0 : List Source) (a1 : Int) (a2 : List Macro) (a3 : Limits) : Option ((List Token) × (List Int) × (List Macro) × Int × Int × Int) :=
 (JaW a0).bind fun r1 => if (!eqI r1.Err 0) = true then some (([] : List Token), ([] : List Int), ([] : List Macro), r1.Err, r1.File, r1.At) else if (ltI a1 0) = true then ZM a0 a1 a2 a3 true else ZM a0 a1 a2 a3 (leI (a0.length : Int) a1)
def JaV (a0 : List Source) (a1 : Int) (a2 : List Macro) (a3 : Limits) (r : ((List Token) × (List Int) × (List Macro) × Int × Int × Int)) : GI :=
 ⟨[.c (.d (.sl 2 (List.map d_Source a0))), .c (.d (.v (.int .i64 a1))), .c (.d (.sl 5 (List.map d_Macro a2))), .ag [.d (.v (.int .i64 a3.Fuel)), .d (.v (.int .i64 a3.Out)), .d (.v (.int .i64 a3.Deep))]], [], [], .ret (.tu [(true, [.d (.sl 11 (List.map d_Token r.1)), .sl 1 (List.map dI r.2.1) 1]), (false, [.d (.sl 5 (List.map d_Macro r.2.2.1))]), (true, [.d (.v (.int .i64 r.2.2.2.1)), .d (.v (.int .i64 r.2.2.2.2.1)), .d (.v (.int .i64 r.2.2.2.2.2))])]) [] [3]⟩
def JaY : GI → Prop := fun g => ∃ (a0 : List Source) (a1 : Int) (a2 : List Macro) (a3 : Limits) (r : ((List Token) × (List Int) × (List Macro) × Int × Int × Int)), Jbn a0 a1 a2 a3 = some r ∧ g = JaV a0 a1 a2 a3 r
theorem JfG (a0 : List Source) (a1 : Int) (a2 : List Macro) (a3 : Limits) (r : ((List Token) × (List Int) × (List Macro) × Int × Int × Int)) (H : Jbn a0 a1 a2 a3 = some r) : JaY (JaV a0 a1 a2 a3 r) := ⟨a0, a1, a2, a3, r, H, rfl⟩
theorem Jfz : ∀ g, JaY g → GenOk Tryz.prog 11 g := by
 rintro _ ⟨a0, a1, a2, a3, r, H, rfl⟩
 refine xGnl mixed [3, 8, 12] [(20, Jb1)] [(21, true, Jj), (24, false, Jal)] [(23, SD_drive_guard), (22, SD_drive_Run_1), (23, SD_drive_guard_v2), (22, SD_drive_Run_1_v2)] ⟨⟨call_20, Je2⟩, trivial⟩ ⟨Ji, X1, trivial⟩ ⟨⟨call_23, JeN⟩, ⟨call_22, JeP⟩, ⟨call_23, Jeb⟩, ⟨call_22, JdS⟩, trivial⟩ Tryz.func11 _ ?_
 have G := True.intro
 have Y := xZ y_3 <| xZ y_24 <| xZ y_25 <| xZ y_27 <| xZ y_28 <| xZ y_29 <| xZ y_31 <| xZ y_35 <| xZ y_37 <| xZ y_39 <| xZ y_65 <| xZ Tryz.results11 <| xZ d_Source.eq_1 <| xZ d_Call.eq_1 <| xZ d_Token.eq_1 <| xZ d_Macro.eq_1 <| xZ d_Limits.eq_1 <| xZ d_Fault.eq_1 <| xZ JJ.eq_1 <| xZ J1.eq_1 <| xZ di_drive_guard.eq_1 <| xZ di_drive_Run_1.eq_1 <| xZ di_drive_guard_v2.eq_1 <| xZ di_drive_Run_1_v2.eq_1 <| JaV.eq_1
 dsimp only [JaV]
 simp only [Jbn] at H
 refine xS ?_
 refine xr ?_
 obtain ⟨r1, hr1, H⟩ := osplit H
 have F := xC Y (Jfm a0 r1 hr1)
 refine xR ?_
 refine xr ?_
 rcases bsplit H with ⟨hp1, H⟩ | ⟨hp1, H⟩
 ·obtain ⟨F, G, hq1⟩ := xH Y G hp1
  refine xT ?_
  have F := Y
  refine xP [0, 1, 2, 3, 4] [19] ⟨Ji, X1, trivial⟩ ?_
  refine xsX 1 ?_
  refine xaX ?_
  refine xbX ?_
  refine xbX ?_
  refine xbX ?_
  refine xlX ?_
  replace H := Option.some.inj H
  refine xS ?_
  subst H
  refine xrD [] ?_
  exact xO ⟨[], [0]⟩
 ·obtain ⟨F, G, hq1⟩ := xH Y G hp1
  refine xE0 ?_
  refine w_skip ?_
  refine then_normal ?_
  refine w_seq ?_
  refine w_block ?_
  refine w_cut (ZM a0 a1 a2 a3) (fun s => [(0, .c (.d (.sl 2 (List.map d_Source a0)))), (1, .c (.d (.v (.int .i64 a1)))), (2, .c (.d (.sl 5 (List.map d_Macro a2)))), (7, .c (.pt 1 0)), (8, .c (.pt 2 0)), (9, .c (.pt 3 0)), (10, .c (.pt 4 0)), (20, .c (.d (.v (.bool s))))]) (fun s => [[.d (.v (.int .i64 a3.Fuel)), .d (.v (.int .i64 a3.Out)), .d (.v (.int .i64 a3.Deep))], [.sl 11 [] 0, .sl 1 [] 0], [.sl 5 [] 0], [.d (.v (.int .i64 0)), .d (.v (.int .i64 0)), .d (.v (.int .i64 0))]]) [] r ?_ ?_
  ·rcases bsplit H with ⟨hp9, H⟩ | ⟨hp9, H⟩
   ·obtain ⟨F, G, hq9⟩ := xH Y G hp9
    refine xR ?_
    exact cut_at H (xK ⟨[1,2,3,4], []⟩)
   ·obtain ⟨F, G, hq9⟩ := xH Y G hp9
    refine xR ?_
    exact cut_at H (xK ⟨[1,2,3,4], []⟩)
  ·rintro x1 H
   rw [ZM] at H
   rcases bsplit H with ⟨hp2, H⟩ | ⟨hp2, H⟩
   ·obtain ⟨F, G, hq2⟩ := xH Y G hp2
    refine xT ?_
    replace H := Option.some.inj H
    refine xr ?_
    subst H
    refine xrD [] ?_
    exact xO ⟨[], [0]⟩
   ·obtain ⟨F, G, hq2⟩ := xH Y G hp2
    refine xE0 ?_
    refine w_cut (Ky a0 a1 a2 a3) (fun s => [(0, .c (.d (.sl 2 (List.map d_Source a0)))), (1, .c (.d (.v (.int .i64 a1)))), (2, .c (.d (.sl 5 (List.map d_Macro a2)))), (7, .c (.pt 1 0)), (8, .c (.pt 2 0)), (9, .c (.pt 3 0)), (10, .c (.pt 4 0)), (31, .c (.d (.v (.bool s))))]) (fun s => [[.d (.v (.int .i64 a3.Fuel)), .d (.v (.int .i64 a3.Out)), .d (.v (.int .i64 a3.Deep))], [.sl 11 [] 0, .sl 1 [] 0], [.sl 5 [] 0], [.d (.v (.int .i64 0)), .d (.v (.int .i64 0)), .d (.v (.int .i64 0))]]) [] r ?_ ?_
    ·rcases bsplit H with ⟨hp4, H⟩ | ⟨hp4, H⟩
     ·obtain ⟨F, G, hq4⟩ := xH Y G hp4
      refine xR ?_
      exact cut_at H (xK ⟨[1,2,3,4], []⟩)
     ·obtain ⟨F, G, hq4⟩ := xH Y G hp4
      rcases bsplit H with ⟨hp5, H⟩ | ⟨hp5, H⟩
      ·obtain ⟨F, G, hq5⟩ := xH F G hp5
       refine xR ?_
       exact cut_at H (xK ⟨[1,2,3,4], []⟩)
      ·obtain ⟨F, G, hq5⟩ := xH F G hp5
       rcases bsplit H with ⟨hp6, H⟩ | ⟨hp6, H⟩
       ·obtain ⟨F, G, hq6⟩ := xH F G hp6
        refine xR ?_
        exact cut_at H (xK ⟨[1,2,3,4], []⟩)
       ·obtain ⟨F, G, hq6⟩ := xH F G hp6
        rcases bsplit H with ⟨hp7, H⟩ | ⟨hp7, H⟩
        ·obtain ⟨F, G, hq7⟩ := xH F G hp7
         refine xR ?_
         exact cut_at H (xK ⟨[1,2,3,4], []⟩)
        ·obtain ⟨F, G, hq7⟩ := xH F G hp7
         rcases bsplit H with ⟨hp8, H⟩ | ⟨hp8, H⟩
         ·obtain ⟨F, G, hq8⟩ := xH F G hp8
          refine xR ?_
          exact cut_at H (xK ⟨[1,2,3,4], []⟩)
         ·obtain ⟨F, G, hq8⟩ := xH F G hp8
          refine xR ?_
          exact cut_at H (xK ⟨[1,2,3,4], []⟩)
    ·rintro x2 H
     rw [Ky] at H
     rcases bsplit H with ⟨hp3, H⟩ | ⟨hp3, H⟩
     ·obtain ⟨F, G, hq3⟩ := xH Y G hp3
      refine xT ?_
      replace H := Option.some.inj H
      refine xr ?_
      subst H
      refine xrD [] ?_
      exact xO ⟨[], [0]⟩
     ·obtain ⟨F, G, hq3⟩ := xH Y G hp3
      refine xE ?_
      obtain ⟨r2, hr2, H⟩ := osplit H
      have F := Y
      refine xP [0, 1, 2, 3, 4, 5, 6] [63] ⟨Ji, X1, trivial⟩ ?_
      refine xsX 1 ?_
      refine xaX ?_
      refine xsX 1 ?_
      refine xcX ⟨[], []⟩ (tabG 0 (VU a2 r2 hr2)) ?_
      refine xsX 1 ?_
      refine xbX ?_
      refine xsX 1 ?_
      refine xlX ?_
      refine xS ?_
      refine xfz 5 5 (List.map d_Macro a2) [] ?_
      have F := Y
      refine xQ ?_
      refine xs 1 ?_
      refine xw ?_
      refine xl ?_
      refine xS ?_
      have F := Y
      refine xQ ?_
      refine xw ?_
      refine xl ?_
      refine xS ?_
      rcases rsplit H with ⟨r3, hr3, H⟩ | ⟨e1, hr4, H⟩
      ·have F := Y
       refine xQ ?_
       refine xs 2 ?_
       refine xc ⟨[6, 0], [0, 0]⟩ (tabG 1 (JbW a1 a0 a3.Fuel a3.Out a3.Deep a2 ([] : List Int) ([] : List Int) 0 [] (.ok r3) hr3)) ?_
       refine xl ?_
       refine xS ?_
       refine xfz 9 11 (List.map d_Token r3.2.2.2.2.2) [] ?_
       have F := Y
       refine xP [0, 1, 2, 3, 4, 5, 6, 7, 8, 9, 10, 11] [79] ⟨Ji, X1, trivial⟩ ?_
       refine xsX 7 ?_
       refine xaX ?_
       refine xsX 1 ?_
       refine xbX ?_
       refine xbX ?_
       refine xbX ?_
       refine xlX ?_
       refine xS ?_
       refine xrD [(23, [.pt 4 0]), (22, [.pt 4 0, .pt 2 0, .pt 3 0])] ?_
       obtain ⟨r4, hr5, H⟩ := osplit H
       refine xD ⟨[4], []⟩ (tabD 0 (Jfc 0 (-1) 0 r4 hr5)) ?_
       obtain ⟨r5, hr6, H⟩ := osplit H
       refine xD ⟨[4, 2, 3], [11]⟩ (tabD 1 (JeZ 0 (-1) 0 r3.2.2.2.2.2 r3.2.2.2.1 r3.2.1 r5 none hr6)) ?_
       replace H := Option.some.inj H
       subst H
       exact xO ⟨[], [16]⟩
      ·have F := Y
       refine xQp [69, 70, 71] ?_
       refine xs 2 ?_
       refine xp ⟨[6, 0], [0, 0]⟩ (tabG 1 (JbW a1 a0 a3.Fuel a3.Out a3.Deep a2 ([] : List Int) ([] : List Int) 0 [] (.er e1) hr4)) ?_
       refine xS ?_
       refine xpD [(23, [.pt 4 0]), (22, [.pt 4 0, .pt 2 0, .pt 3 0])] ?_
       obtain ⟨r6, hr7, H⟩ := osplit H
       refine xD ⟨[4], []⟩ (tabD 2 (Jen 0 0 0 e1.1 e1.2.1 e1.2.2.1 r6 hr7)) ?_
       obtain ⟨r7, hr8, H⟩ := osplit H
       refine xD ⟨[4, 2, 3], [0, 0, 0]⟩ (tabD 3 (Jei e1.1 e1.2.1 e1.2.2.1 ([] : List Token) ([] : List Int) ([] : List Macro) r7 none hr8)) ?_
       replace H := Option.some.inj H
       subst H
       exact xO ⟨[], [17]⟩
theorem JfF : Callable Tryz.prog 11 ∧ (∀ g, JaY g → GenOk Tryz.prog 11 g) ∧ (true = true → ∀ g, JaY g → ∃ val bs ts, g.out = .ret val bs ts) :=
 ⟨call_11, Jfz, fun _ => by rintro _ ⟨_, _, _, _, _, _, rfl⟩; exact ⟨_, _, _, rfl⟩⟩
end Go.Proofs.YtfkhlbhjhdpkoaaGreatDoor
