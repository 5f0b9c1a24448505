/- Functions of data for functions of the program. Written by dec3.py. -/
import Derived.Test.YtjgimofnepechaaGreatDoorZas
set_option linter.unusedVariables false
set_option linter.unusedSimpArgs false
set_option maxHeartbeats 4000000
set_option maxRecDepth 100000
namespace Go.Proofs.YtjgimofnepechaaGreatDoor
open Go.RowKit
noncomputable def KG (a0 : List Token) : (Int × (List Token)) → Option ((Int × (List Token)) ⊕ (List Token))
 | (x1, x2) => if (leI 0 x1) = true then if (0 : Int) ≤ x1 ∧ x1.toNat < a0.length then if (x2.length + [(a0.getD x1.toNat default)].length) * 120 ≤ 140737488355328 then some (.inl (IntKind.i64.wrap (x1 - 1), x2 ++ [(a0.getD x1.toNat default)])) else none else none else inrO (some x2)
noncomputable def KQ (a0 : List Token) (a1 : List Token) : Option (List Token) :=
 loopO (KG a0) (IntKind.i64.wrap ((a0.length : Int) - 1), a1)
def VV (a0 : List Token) (a1 : List Token) (r : (List Token)) : GI :=
 ⟨[.c (.pt 1 0), .c (.d (.sl 11 (List.map d_Token a0)))], [[.os 2 11 0 a1.length], [.arr 11 (List.map d_Token a1)]], [], .ret (.tu []) [[.os 3 11 0 r.length], [], [.arr 11 (List.map d_Token r)]] []⟩
def VX : GI → Prop := fun g => ∃ (a0 : List Token) (a1 : List Token) (r : (List Token)), KQ a0 a1 = some r ∧ g = VV a0 a1 r
theorem JdV (a0 : List Token) (a1 : List Token) (r : (List Token)) (H : KQ a0 a1 = some r) : VX (VV a0 a1 r) := ⟨a0, a1, r, H, rfl⟩
theorem JdJ : ∀ g, VX g → GenOk Tryz.prog 33 g := by
 rintro _ ⟨a0, a1, r, H, rfl⟩
 refine xGn mixed [] [] [] trivial trivial trivial Tryz.func33 _ ?_
 have G := True.intro
 have Y := xZ y_25 <| xZ y_39 <| xZ y_79 <| xZ Tryz.results33 <| xZ d_Call.eq_1 <| xZ d_Token.eq_1 <| VV.eq_1
 dsimp only [VV]
 simp only [KQ] at H
 refine xS ?_
 refine xrn 2 1 ?_
 refine xr ?_
 refine w_loop (KG a0) (fun s => [(0, .c (.pt 1 0)), (1, .c (.d (.sl 11 (List.map d_Token a0)))), (4, .c (.d (.v (.int .i64 s.1))))]) (fun s => [[.os 3 11 0 s.2.length], [], [.arr 11 (List.map d_Token s.2)]]) [] H (xK ⟨[1,2,3], []⟩) ?_
 rintro n1 ⟨x1, x2⟩ o1 H hF1
 rw [KG] at H
 refine xS ?_
 refine xr ?_
 rcases bsplit H with ⟨hp1, H⟩ | ⟨hp1, H⟩
 ·obtain ⟨F, G, hq1⟩ := xH Y G hp1
  refine xT ?_
  obtain ⟨hg1, H⟩ := gsplit H
  have F := xZ Y (map_getD d_Token a0 x1.toNat default default (by omega))
  obtain ⟨hg2, H⟩ := gsplit H
  have F := xZ F (all_map one_Token [(a0.getD x1.toNat default)])
  have L : [(a0.getD x1.toNat default)].length = 1 := rfl
  refine xR ?_
  refine xr ?_
  exact round_at (inl_fin H hF1) (xK ⟨[1,2,4], []⟩)
 ·obtain ⟨F, G, hq1⟩ := xH Y G hp1
  replace H := inrO_fin H hF1
  replace H := Option.some.inj H
  refine xE ?_
  subst H
  refine xOn ?_
  refine qDf [] ?_
  exact xO ⟨[1, 2, 3], []⟩
theorem JdT : Callable Tryz.prog 33 ∧ (∀ g, VX g → GenOk Tryz.prog 33 g) ∧ (true = true → ∀ g, VX g → ∃ val bs ts, g.out = .ret val bs ts) :=
 ⟨call_33, JdJ, fun _ => by rintro _ ⟨_, _, _, _, rfl⟩; exact ⟨_, _, _, rfl⟩⟩
noncomputable def ZD (a0 : Int) (a1 : Int) (a2 : List UInt8) (a3 : Bool) (a4 : Bool) (a5 : Int) (a6 : Int) (a7 : Int) (a8 : Int) (a9 : List (List UInt8)) (a10 : List Call) (a11 : Int) : Option Unit :=
 some ()
def VO (a0 : Int) (a1 : Int) (a2 : List UInt8) (a3 : Bool) (a4 : Bool) (a5 : Int) (a6 : Int) (a7 : Int) (a8 : Int) (a9 : List (List UInt8)) (a10 : List Call) (a11 : Int) (r : Unit) : GI :=
 ⟨[.c (.d (.v (.int .i64 a0))), .c (.pt 1 0)], [[.d (.v (.int .i64 a1)), .d (.v (str a2)), .d (.v (.bool a3)), .d (.v (.bool a4)), .d (.v (.int .i64 a5)), .d (.v (.int .i64 a6)), .d (.v (.int .i64 a7)), .d (.v (.int .i64 a8)), .d (.sl 1 (List.map dS a9)), .d (.sl 3 (List.map d_Call a10)), .d (.v (.int .i64 a11))]], [], .pan (.iface 78 (.agg ⟨[.int .i64 a0, .int .i64 a5, .int .i64 a6]⟩)) [[.d (.v (.int .i64 a1)), .d (.v (str a2)), .d (.v (.bool a3)), .d (.v (.bool a4)), .d (.v (.int .i64 a5)), .d (.v (.int .i64 a6)), .d (.v (.int .i64 a7)), .d (.v (.int .i64 a8)), .d (.sl 1 (List.map dS a9)), .d (.sl 3 (List.map d_Call a10)), .d (.v (.int .i64 a11))]] []⟩
def VN : GI → Prop := fun g => ∃ (a0 : Int) (a1 : Int) (a2 : List UInt8) (a3 : Bool) (a4 : Bool) (a5 : Int) (a6 : Int) (a7 : Int) (a8 : Int) (a9 : List (List UInt8)) (a10 : List Call) (a11 : Int) (r : Unit), ZD a0 a1 a2 a3 a4 a5 a6 a7 a8 a9 a10 a11 = some r ∧ g = VO a0 a1 a2 a3 a4 a5 a6 a7 a8 a9 a10 a11 r
theorem JbB (a0 : Int) (a1 : Int) (a2 : List UInt8) (a3 : Bool) (a4 : Bool) (a5 : Int) (a6 : Int) (a7 : Int) (a8 : Int) (a9 : List (List UInt8)) (a10 : List Call) (a11 : Int) (r : Unit) (H : ZD a0 a1 a2 a3 a4 a5 a6 a7 a8 a9 a10 a11 = some r) : VN (VO a0 a1 a2 a3 a4 a5 a6 a7 a8 a9 a10 a11 r) := ⟨a0, a1, a2, a3, a4, a5, a6, a7, a8, a9, a10, a11, r, H, rfl⟩
theorem Jfc : ∀ g, VN g → GenOk Tryz.prog 39 g := by
 rintro _ ⟨a0, a1, a2, a3, a4, a5, a6, a7, a8, a9, a10, a11, r, H, rfl⟩
 refine xGn mixed [] [] [] trivial trivial trivial Tryz.func39 _ ?_
 have G := True.intro
 have Y := xZ y_3 <| xZ y_27 <| xZ y_29 <| xZ y_39 <| xZ y_78 <| xZ Tryz.results39 <| xZ d_Call.eq_1 <| xZ d_Token.eq_1 <| VO.eq_1
 dsimp only [VO]
 unfold ZD at H
 have F := Y
 refine xQp [4, 5, 6, 7, 8, 9, 10, 11, 12, 13, 14, 15] ?_
 refine xs 12 ?_
 refine xv ?_
 refine xS ?_
 refine xOp ?_
 refine qDf [] ?_
 exact xOv ⟨[1], []⟩
theorem Jbz : Callable Tryz.prog 39 ∧ (∀ g, VN g → GenOk Tryz.prog 39 g) ∧ (false = true → ∀ g, VN g → ∃ val bs ts, g.out = .ret val bs ts) :=
 ⟨call_39, Jfc, nofun⟩
noncomputable def Vr (a0 : List Macro) (a1 : List Source) (a2 : Int) (a3 : Int) (a4 : Int) (a5 : List UInt8) (a6 : Bool) (a7 : Bool) (a8 : Int) (a9 : Int) (a10 : Int) (a11 : Int) (a12 : List (List UInt8)) (a13 : List Call) (a14 : Int) : Option (GR Unit Int) :=
 if (eqI a2 0) = true then (ZD 11 a4 a5 a6 a7 a8 a9 a10 a11 a12 a13 a14).bind fun e1 => some (.er ()) else some (.ok (IntKind.i64.wrap (a2 - 1)))
def Jds (a0 : List Macro) (a1 : List Source) (a2 : Int) (a3 : Int) (a4 : Int) (a5 : List UInt8) (a6 : Bool) (a7 : Bool) (a8 : Int) (a9 : Int) (a10 : Int) (a11 : Int) (a12 : List (List UInt8)) (a13 : List Call) (a14 : Int) : GR Unit Int → GOut
 | .ok r => .ret (.tu []) [[.d (.sl 5 (List.map d_Macro a0)), .d (.sl 2 (List.map d_Source a1)), .d (.v (.int .i64 r)), .d (.v (.int .i64 a3))], [.d (.v (.int .i64 a4)), .d (.v (str a5)), .d (.v (.bool a6)), .d (.v (.bool a7)), .d (.v (.int .i64 a8)), .d (.v (.int .i64 a9)), .d (.v (.int .i64 a10)), .d (.v (.int .i64 a11)), .d (.sl 1 (List.map dS a12)), .d (.sl 3 (List.map d_Call a13)), .d (.v (.int .i64 a14))]] []
 | .er r => .pan (.iface 78 (.agg ⟨[.int .i64 11, .int .i64 a8, .int .i64 a9]⟩)) [[.d (.sl 5 (List.map d_Macro a0)), .d (.sl 2 (List.map d_Source a1)), .d (.v (.int .i64 a2)), .d (.v (.int .i64 a3))], [.d (.v (.int .i64 a4)), .d (.v (str a5)), .d (.v (.bool a6)), .d (.v (.bool a7)), .d (.v (.int .i64 a8)), .d (.v (.int .i64 a9)), .d (.v (.int .i64 a10)), .d (.v (.int .i64 a11)), .d (.sl 1 (List.map dS a12)), .d (.sl 3 (List.map d_Call a13)), .d (.v (.int .i64 a14))]] []
def K5 (a0 : List Macro) (a1 : List Source) (a2 : Int) (a3 : Int) (a4 : Int) (a5 : List UInt8) (a6 : Bool) (a7 : Bool) (a8 : Int) (a9 : Int) (a10 : Int) (a11 : Int) (a12 : List (List UInt8)) (a13 : List Call) (a14 : Int) (r : GR Unit Int) : GI :=
 ⟨[.c (.pt 1 0), .c (.pt 2 0)], [[.d (.sl 5 (List.map d_Macro a0)), .d (.sl 2 (List.map d_Source a1)), .d (.v (.int .i64 a2)), .d (.v (.int .i64 a3))], [.d (.v (.int .i64 a4)), .d (.v (str a5)), .d (.v (.bool a6)), .d (.v (.bool a7)), .d (.v (.int .i64 a8)), .d (.v (.int .i64 a9)), .d (.v (.int .i64 a10)), .d (.v (.int .i64 a11)), .d (.sl 1 (List.map dS a12)), .d (.sl 3 (List.map d_Call a13)), .d (.v (.int .i64 a14))]], [], Jds a0 a1 a2 a3 a4 a5 a6 a7 a8 a9 a10 a11 a12 a13 a14 r⟩
def K4 : GI → Prop := fun g => ∃ (a0 : List Macro) (a1 : List Source) (a2 : Int) (a3 : Int) (a4 : Int) (a5 : List UInt8) (a6 : Bool) (a7 : Bool) (a8 : Int) (a9 : Int) (a10 : Int) (a11 : Int) (a12 : List (List UInt8)) (a13 : List Call) (a14 : Int) (r : GR Unit Int), Vr a0 a1 a2 a3 a4 a5 a6 a7 a8 a9 a10 a11 a12 a13 a14 = some r ∧ g = K5 a0 a1 a2 a3 a4 a5 a6 a7 a8 a9 a10 a11 a12 a13 a14 r
theorem Jbr (a0 : List Macro) (a1 : List Source) (a2 : Int) (a3 : Int) (a4 : Int) (a5 : List UInt8) (a6 : Bool) (a7 : Bool) (a8 : Int) (a9 : Int) (a10 : Int) (a11 : Int) (a12 : List (List UInt8)) (a13 : List Call) (a14 : Int) (r : GR Unit Int) (H : Vr a0 a1 a2 a3 a4 a5 a6 a7 a8 a9 a10 a11 a12 a13 a14 = some r) : K4 (K5 a0 a1 a2 a3 a4 a5 a6 a7 a8 a9 a10 a11 a12 a13 a14 r) := ⟨a0, a1, a2, a3, a4, a5, a6, a7, a8, a9, a10, a11, a12, a13, a14, r, H, rfl⟩
theorem Jdc : ∀ g, K4 g → GenOk Tryz.prog 35 g := by
 rintro _ ⟨a0, a1, a2, a3, a4, a5, a6, a7, a8, a9, a10, a11, a12, a13, a14, r, H, rfl⟩
 refine xGn mixed [] [(39, false, VN)] [] trivial ⟨Jbz, trivial⟩ trivial Tryz.func35 _ ?_
 have G := True.intro
 have Y := xZ y_3 <| xZ y_57 <| xZ Tryz.results35 <| xZ d_Source.eq_1 <| xZ d_Call.eq_1 <| xZ d_Token.eq_1 <| xZ d_Macro.eq_1 <| xZ VO.eq_1 <| K5.eq_1
 dsimp only [K5]
 simp only [Vr] at H
 refine xS ?_
 refine xr ?_
 rcases bsplit H with ⟨hp1, H⟩ | ⟨hp1, H⟩
 ·obtain ⟨F, G, hq1⟩ := xH Y G hp1
  refine xT ?_
  obtain ⟨e1, hr2, H⟩ := osplit H
  have F := Y
  refine xQp [9, 10] ?_
  refine xs 1 ?_
  refine xp ⟨[2], []⟩ (tabG 0 (JbB 11 a4 a5 a6 a7 a8 a9 a10 a11 a12 a13 a14 e1 hr2)) ?_
  replace H := Option.some.inj H
  refine xS ?_
  subst H
  refine xOp ?_
  refine qDf [] ?_
  exact xOv ⟨[1, 2], []⟩
 ·obtain ⟨F, G, hq1⟩ := xH Y G hp1
  refine xE ?_
  replace H := Option.some.inj H
  refine xr ?_
  subst H
  refine xOn ?_
  refine qDf [] ?_
  exact xO ⟨[1, 2], []⟩
theorem Jdr : Callable Tryz.prog 35 ∧ (∀ g, K4 g → GenOk Tryz.prog 35 g) ∧ (false = true → ∀ g, K4 g → ∃ val bs ts, g.out = .ret val bs ts) :=
 ⟨call_35, Jdc, nofun⟩
noncomputable def Vz : (Int × (List UInt8) × (List UInt8)) → Option (Int × (List UInt8) × Int × Bool)
 | (x1, x2, x3) => some (x1, x2, 3, true)
noncomputable def Vu : ((List UInt8) × (List UInt8)) → Option (Int × (List UInt8) × Int × Bool)
 | (x4, x5) => if 1 + x4.length ≤ 9223372036854775807 then if 1 + x4.length + 1 ≤ 9223372036854775807 then Vz (4, ([34] ++ x4) ++ [34], x5) else none else none
noncomputable def VB (a0 : Token) (a2 : List Source) : ((List UInt8) × Bool × (List UInt8)) → Option (Int × (List UInt8) × Int × Bool)
 | (x6, x7, x8) => if x7 = true then if (0 : Int) ≤ a0.File ∧ a0.File.toNat < a2.length then Vu ((a2.getD a0.File.toNat default).Path, x8) else none else Vu (x6, x8)
noncomputable def Ko (a0 : Token) (a1 : List Macro) (a2 : List Source) (a3 : Int) (a4 : Int) : Option (Int × (List UInt8) × Int × Bool) :=
 if (eqS a0.Text [95, 95, 76, 73, 78, 69, 95, 95]) = true then (Z6 a0.Line).bind fun r1 => Vz (2, r1, []) else if (eqS a0.Text [95, 95, 70, 73, 76, 69, 95, 95]) = true then if (leI 0 a0.File) = true then VB a0 a2 ([], ltI a0.File (a2.length : Int), []) else VB a0 a2 ([], false, []) else some (a0.Kind, a0.Text, a0.Made, false)
def KN (a0 : Token) (a1 : List Macro) (a2 : List Source) (a3 : Int) (a4 : Int) (r : (Int × (List UInt8) × Int × Bool)) : GI :=
 ⟨[.c (.pt 1 0), .ag [.d (.v (.int .i64 a0.Kind)), .d (.v (str a0.Text)), .d (.v (.bool a0.Space)), .d (.v (.bool a0.First)), .d (.v (.int .i64 a0.File)), .d (.v (.int .i64 a0.At)), .d (.v (.int .i64 a0.End)), .d (.v (.int .i64 a0.Line)), .d (.sl 1 (List.map dS a0.Hide)), .d (.sl 3 (List.map d_Call a0.Calls)), .d (.v (.int .i64 a0.Made))]], [[.d (.sl 5 (List.map d_Macro a1)), .d (.sl 2 (List.map d_Source a2)), .d (.v (.int .i64 a3)), .d (.v (.int .i64 a4))]], [], .ret (.tu [(true, [.d (.v (.int .i64 r.1)), .d (.v (str r.2.1)), .d (.v (.bool a0.Space)), .d (.v (.bool a0.First)), .d (.v (.int .i64 a0.File)), .d (.v (.int .i64 a0.At)), .d (.v (.int .i64 a0.End)), .d (.v (.int .i64 a0.Line)), .d (.sl 1 (List.map dS a0.Hide)), .d (.sl 3 (List.map d_Call a0.Calls)), .d (.v (.int .i64 r.2.2.1))]), (false, [.d (.v (.bool r.2.2.2))])]) [[.d (.sl 5 (List.map d_Macro a1)), .d (.sl 2 (List.map d_Source a2)), .d (.v (.int .i64 a3)), .d (.v (.int .i64 a4))]] []⟩
def KM : GI → Prop := fun g => ∃ (a0 : Token) (a1 : List Macro) (a2 : List Source) (a3 : Int) (a4 : Int) (r : (Int × (List UInt8) × Int × Bool)), Ko a0 a1 a2 a3 a4 = some r ∧ g = KN a0 a1 a2 a3 a4 r
theorem Jdf (a0 : Token) (a1 : List Macro) (a2 : List Source) (a3 : Int) (a4 : Int) (r : (Int × (List UInt8) × Int × Bool)) (H : Ko a0 a1 a2 a3 a4 = some r) : KM (KN a0 a1 a2 a3 a4 r) := ⟨a0, a1, a2, a3, a4, r, H, rfl⟩
theorem JcX : ∀ g, KM g → GenOk Tryz.prog 36 g := by
 rintro _ ⟨a0, a1, a2, a3, a4, r, H, rfl⟩
 refine xGn mixed [(45, JaF)] [] [] ⟨⟨call_45, JeI⟩, trivial⟩ trivial trivial Tryz.func36 _ ?_
 have G := True.intro
 have Y := xZ y_3 <| xZ y_9 <| xZ y_23 <| xZ y_39 <| xZ y_57 <| xZ y_97 <| xZ Tryz.results36 <| xZ d_Source.eq_1 <| xZ d_Call.eq_1 <| xZ d_Token.eq_1 <| xZ d_Macro.eq_1 <| KN.eq_1
 dsimp only [KN]
 simp only [Ko] at H
 refine xS ?_
 refine xr0 ?_
 refine then_normal ?_
 refine w_cut Vz (fun s => [(3, .c (.pt 2 0)), (4, .c (.pt 3 0))]) (fun s => [[.d (.sl 5 (List.map d_Macro a1)), .d (.sl 2 (List.map d_Source a2)), .d (.v (.int .i64 a3)), .d (.v (.int .i64 a4))], [.d (.v (.int .i64 s.1)), .d (.v (str s.2.1)), .d (.v (.bool a0.Space)), .d (.v (.bool a0.First)), .d (.v (.int .i64 a0.File)), .d (.v (.int .i64 a0.At)), .d (.v (.int .i64 a0.End)), .d (.v (.int .i64 a0.Line)), .d (.sl 1 (List.map dS a0.Hide)), .d (.sl 3 (List.map d_Call a0.Calls)), .d (.v (.int .i64 a0.Made))], [.d (.v (.int .i64 0)), .d (.v (str s.2.2)), .d (.v (.bool false)), .d (.v (.bool false)), .d (.v (.int .i64 0)), .d (.v (.int .i64 0)), .d (.v (.int .i64 0)), .d (.v (.int .i64 0)), .sl 1 [] 0, .sl 3 [] 0, .d (.v (.int .i64 0))]]) [] r ?_ ?_
 ·refine xS ?_
  refine xr ?_
  refine xr ?_
  rcases bsplit H with ⟨hp1, H⟩ | ⟨hp1, H⟩
  ·obtain ⟨F, G, hq1⟩ := xH Y G hp1
   refine xT ?_
   obtain ⟨r1, hr1, H⟩ := osplit H
   have F := xC Y (Je2 a0.Line r1 hr1)
   refine xR ?_
   exact cut_at H (xK ⟨[1,2,3], []⟩)
  ·obtain ⟨F, G, hq1⟩ := xH Y G hp1
   refine xE ?_
   refine xr ?_
   rcases bsplit H with ⟨hp2, H⟩ | ⟨hp2, H⟩
   ·obtain ⟨F, G, hq2⟩ := xH Y G hp2
    refine xT ?_
    refine xr0 ?_
    refine then_normal ?_
    refine w_cut Vu (fun s => [(3, .c (.pt 2 0)), (4, .c (.pt 3 0)), (6, .c (.d (.v (str s.1))))]) (fun s => [[.d (.sl 5 (List.map d_Macro a1)), .d (.sl 2 (List.map d_Source a2)), .d (.v (.int .i64 a3)), .d (.v (.int .i64 a4))], [.d (.v (.int .i64 a0.Kind)), .d (.v (str a0.Text)), .d (.v (.bool a0.Space)), .d (.v (.bool a0.First)), .d (.v (.int .i64 a0.File)), .d (.v (.int .i64 a0.At)), .d (.v (.int .i64 a0.End)), .d (.v (.int .i64 a0.Line)), .d (.sl 1 (List.map dS a0.Hide)), .d (.sl 3 (List.map d_Call a0.Calls)), .d (.v (.int .i64 a0.Made))], [.d (.v (.int .i64 0)), .d (.v (str s.2)), .d (.v (.bool false)), .d (.v (.bool false)), .d (.v (.int .i64 0)), .d (.v (.int .i64 0)), .d (.v (.int .i64 0)), .d (.v (.int .i64 0)), .sl 1 [] 0, .sl 3 [] 0, .d (.v (.int .i64 0))]]) [] r ?_ ?_
    ·refine w_cut (VB a0 a2) (fun s => [(0, .c (.pt 1 0)), (3, .c (.pt 2 0)), (4, .c (.pt 3 0)), (6, .c (.d (.v (str s.1)))), (31, .c (.d (.v (.bool s.2.1))))]) (fun s => [[.d (.sl 5 (List.map d_Macro a1)), .d (.sl 2 (List.map d_Source a2)), .d (.v (.int .i64 a3)), .d (.v (.int .i64 a4))], [.d (.v (.int .i64 a0.Kind)), .d (.v (str a0.Text)), .d (.v (.bool a0.Space)), .d (.v (.bool a0.First)), .d (.v (.int .i64 a0.File)), .d (.v (.int .i64 a0.At)), .d (.v (.int .i64 a0.End)), .d (.v (.int .i64 a0.Line)), .d (.sl 1 (List.map dS a0.Hide)), .d (.sl 3 (List.map d_Call a0.Calls)), .d (.v (.int .i64 a0.Made))], [.d (.v (.int .i64 0)), .d (.v (str s.2.2)), .d (.v (.bool false)), .d (.v (.bool false)), .d (.v (.int .i64 0)), .d (.v (.int .i64 0)), .d (.v (.int .i64 0)), .d (.v (.int .i64 0)), .sl 1 [] 0, .sl 3 [] 0, .d (.v (.int .i64 0))]]) [] r ?_ ?_
     ·rcases bsplit H with ⟨hp4, H⟩ | ⟨hp4, H⟩
      ·obtain ⟨F, G, hq4⟩ := xH Y G hp4
       refine xR ?_
       exact cut_at H (xK ⟨[1,2,3], []⟩)
      ·obtain ⟨F, G, hq4⟩ := xH Y G hp4
       refine xR ?_
       exact cut_at H (xK ⟨[1,2,3], []⟩)
     ·rintro ⟨x6, x7, x8⟩ H
      rw [VB] at H
      rcases bsplit H with ⟨hp3, H⟩ | ⟨hp3, H⟩
      ·obtain ⟨F, G, hq3⟩ := xH Y G hp3
       refine xT ?_
       obtain ⟨hg3, H⟩ := gsplit H
       have F := xZ Y (map_getD d_Source a2 a0.File.toNat default default (by omega))
       refine xR ?_
       exact cut_at H (xK ⟨[1,2,3], []⟩)
      ·obtain ⟨F, G, hq3⟩ := xH Y G hp3
       refine xE ?_
       exact cut_at H (xK ⟨[1,2,3], []⟩)
    ·rintro ⟨x4, x5⟩ H
     rw [Vu] at H
     obtain ⟨hg1, H⟩ := gsplit H
     obtain ⟨hg2, H⟩ := gsplit H
     refine xr ?_
     exact cut_at H (xK ⟨[1,2,3], []⟩)
   ·obtain ⟨F, G, hq2⟩ := xH Y G hp2
    refine xE ?_
    replace H := Option.some.inj H
    refine xr ?_
    subst H
    refine xOr ?_
    refine qDf [] ?_
    exact xO ⟨[1], []⟩
 ·rintro ⟨x1, x2, x3⟩ H
  rw [Vz] at H
  refine xS ?_
  refine xr ?_
  replace H := Option.some.inj H
  refine xr ?_
  subst H
  refine xOr ?_
  refine qDf [] ?_
  exact xO ⟨[1], []⟩
theorem Jdd : Callable Tryz.prog 36 ∧ (∀ g, KM g → GenOk Tryz.prog 36 g) ∧ (true = true → ∀ g, KM g → ∃ val bs ts, g.out = .ret val bs ts) :=
 ⟨call_36, JcX, fun _ => by rintro _ ⟨_, _, _, _, _, _, _, rfl⟩; exact ⟨_, _, _, rfl⟩⟩
noncomputable def JB (a0 : Nat) (a1 : List Token) : Option (Int × (List UInt8) × Bool × Bool × Int × Int × Int × Int × (List (List UInt8)) × (List Call) × Int × Nat) :=
 if (0 : Int) ≤ (IntKind.i64.wrap (((a0 : Nat) : Int) - 1)) ∧ (IntKind.i64.wrap (((a0 : Nat) : Int) - 1)).toNat < a0 then if (IntKind.i64.wrap (((a0 : Nat) : Int) - 1)).toNat < a1.length then if (0 : Int) ≤ 0 ∧ 0 ≤ (IntKind.i64.wrap (((a0 : Nat) : Int) - 1)) ∧ (IntKind.i64.wrap (((a0 : Nat) : Int) - 1)) ≤ ((a0 : Nat) : Int) then some ((a1.getD ((IntKind.i64.wrap (((a0 : Nat) : Int) - 1)).toNat) default).Kind, (a1.getD ((IntKind.i64.wrap (((a0 : Nat) : Int) - 1)).toNat) default).Text, (a1.getD ((IntKind.i64.wrap (((a0 : Nat) : Int) - 1)).toNat) default).Space, (a1.getD ((IntKind.i64.wrap (((a0 : Nat) : Int) - 1)).toNat) default).First, (a1.getD ((IntKind.i64.wrap (((a0 : Nat) : Int) - 1)).toNat) default).File, (a1.getD ((IntKind.i64.wrap (((a0 : Nat) : Int) - 1)).toNat) default).At, (a1.getD ((IntKind.i64.wrap (((a0 : Nat) : Int) - 1)).toNat) default).End, (a1.getD ((IntKind.i64.wrap (((a0 : Nat) : Int) - 1)).toNat) default).Line, (a1.getD ((IntKind.i64.wrap (((a0 : Nat) : Int) - 1)).toNat) default).Hide, (a1.getD ((IntKind.i64.wrap (((a0 : Nat) : Int) - 1)).toNat) default).Calls, (a1.getD ((IntKind.i64.wrap (((a0 : Nat) : Int) - 1)).toNat) default).Made, (IntKind.i64.wrap (((a0 : Nat) : Int) - 1)).toNat) else none else none else none
def JC (a0 : Nat) (a1 : List Token) (r : (Int × (List UInt8) × Bool × Bool × Int × Int × Int × Int × (List (List UInt8)) × (List Call) × Int × Nat)) : GI :=
 ⟨[.c (.pt 1 0)], [[.os 2 11 0 a0], [.arr 11 (List.map d_Token a1)]], [], .ret (.ag [.d (.v (.int .i64 r.1)), .d (.v (str r.2.1)), .d (.v (.bool r.2.2.1)), .d (.v (.bool r.2.2.2.1)), .d (.v (.int .i64 r.2.2.2.2.1)), .d (.v (.int .i64 r.2.2.2.2.2.1)), .d (.v (.int .i64 r.2.2.2.2.2.2.1)), .d (.v (.int .i64 r.2.2.2.2.2.2.2.1)), .d (.sl 1 (List.map dS r.2.2.2.2.2.2.2.2.1)), .d (.sl 3 (List.map d_Call r.2.2.2.2.2.2.2.2.2.1)), .d (.v (.int .i64 r.2.2.2.2.2.2.2.2.2.2.1))]) [[.os 2 11 0 r.2.2.2.2.2.2.2.2.2.2.2], [.arr 11 (List.map d_Token a1)]] []⟩
def JD : GI → Prop := fun g => ∃ (a0 : Nat) (a1 : List Token) (r : (Int × (List UInt8) × Bool × Bool × Int × Int × Int × Int × (List (List UInt8)) × (List Call) × Int × Nat)), JB a0 a1 = some r ∧ g = JC a0 a1 r
theorem Xu (a0 : Nat) (a1 : List Token) (r : (Int × (List UInt8) × Bool × Bool × Int × Int × Int × Int × (List (List UInt8)) × (List Call) × Int × Nat)) (H : JB a0 a1 = some r) : JD (JC a0 a1 r) := ⟨a0, a1, r, H, rfl⟩
theorem Jdp : ∀ g, JD g → GenOk Tryz.prog 34 g := by
 rintro _ ⟨a0, a1, r, H, rfl⟩
 refine xGn mixed [] [] [] trivial trivial trivial Tryz.func34 _ ?_
 have G := True.intro
 have Y := xZ y_39 <| xZ y_79 <| xZ Tryz.results34 <| xZ d_Call.eq_1 <| xZ d_Token.eq_1 <| JC.eq_1
 dsimp only [JC]
 simp only [JB] at H
 refine xS ?_
 refine xr ?_
 obtain ⟨hg1, H⟩ := gsplit H
 obtain ⟨hg, H⟩ := gsplit H
 have F := xZ Y (map_getD d_Token a1 ((IntKind.i64.wrap (((a0 : Nat) : Int) - 1)).toNat) default default (by omega))
 refine xR ?_
 obtain ⟨hg2, H⟩ := gsplit H
 refine xr ?_
 replace H := Option.some.inj H
 refine xr ?_
 subst H
 refine xOr ?_
 refine qDf [] ?_
 exact xO ⟨[1, 2], []⟩
theorem JZ : Callable Tryz.prog 34 ∧ (∀ g, JD g → GenOk Tryz.prog 34 g) ∧ (true = true → ∀ g, JD g → ∃ val bs ts, g.out = .ret val bs ts) :=
 ⟨call_34, Jdp, fun _ => by rintro _ ⟨_, _, _, _, rfl⟩; exact ⟨_, _, _, rfl⟩⟩
noncomputable def ZW (x1 : List (List Token)) (x4 : List UInt8) (x5 : List Token) (r1 : (Int × (List UInt8) × Bool × Bool × Int × Int × Int × Int × (List (List UInt8)) × (List Call) × Int × Nat)) : (Int × Nat) → Option (((List (List Token)) × Int × Nat × (List UInt8) × (List Token)) ⊕ (GR Nat ((List (List Token)) × Int × (List UInt8) × Bool × Bool × Int × Int × Int × Int × (List (List UInt8)) × (List Call) × Int × Nat)))
 | (x6, x7) => if (x5.length + [(⟨r1.1, r1.2.1, r1.2.2.1, r1.2.2.2.1, r1.2.2.2.2.1, r1.2.2.2.2.2.1, r1.2.2.2.2.2.2.1, r1.2.2.2.2.2.2.2.1, r1.2.2.2.2.2.2.2.2.1, r1.2.2.2.2.2.2.2.2.2.1, r1.2.2.2.2.2.2.2.2.2.2.1⟩ : Token)].length) * 120 ≤ 140737488355328 then some (.inl (x1, x6, x7, x4, x5 ++ [(⟨r1.1, r1.2.1, r1.2.2.1, r1.2.2.2.1, r1.2.2.2.2.1, r1.2.2.2.2.2.1, r1.2.2.2.2.2.2.1, r1.2.2.2.2.2.2.2.1, r1.2.2.2.2.2.2.2.2.1, r1.2.2.2.2.2.2.2.2.2.1, r1.2.2.2.2.2.2.2.2.2.2.1⟩ : Token)])) else none
noncomputable def Jbe (x1 : List (List Token)) (x2 : Int) (x4 : List UInt8) (x5 : List Token) (r1 : (Int × (List UInt8) × Bool × Bool × Int × Int × Int × Int × (List (List UInt8)) × (List Call) × Int × Nat)) : (Bool × Nat) → Option (((List (List Token)) × Int × Nat × (List UInt8) × (List Token)) ⊕ (GR Nat ((List (List Token)) × Int × (List UInt8) × Bool × Bool × Int × Int × Int × Int × (List (List UInt8)) × (List Call) × Int × Nat)))
 | (x14, x15) => if x14 = true then ZW x1 x4 x5 r1 (IntKind.i64.wrap (x2 - 1), x15) else ZW x1 x4 x5 r1 (x2, x15)
noncomputable def Jbb (x1 : List (List Token)) (x2 : Int) (x4 : List UInt8) (x5 : List Token) (r1 : (Int × (List UInt8) × Bool × Bool × Int × Int × Int × Int × (List (List UInt8)) × (List Call) × Int × Nat)) : (Bool × Nat) → Option (((List (List Token)) × Int × Nat × (List UInt8) × (List Token)) ⊕ (GR Nat ((List (List Token)) × Int × (List UInt8) × Bool × Bool × Int × Int × Int × Int × (List (List UInt8)) × (List Call) × Int × Nat)))
 | (x12, x13) => if x12 = true then ZW x1 x4 x5 r1 (IntKind.i64.wrap (x2 + 1), x13) else if (eqS r1.2.1 [41]) = true then Jbe x1 x2 x4 x5 r1 (eqI r1.1 5, x13) else Jbe x1 x2 x4 x5 r1 (false, x13)
noncomputable def ZU (x1 : List (List Token)) (x2 : Int) (x4 : List UInt8) (x5 : List Token) (r1 : (Int × (List UInt8) × Bool × Bool × Int × Int × Int × Int × (List (List UInt8)) × (List Call) × Int × Nat)) : (Bool × Nat) → Option (((List (List Token)) × Int × Nat × (List UInt8) × (List Token)) ⊕ (GR Nat ((List (List Token)) × Int × (List UInt8) × Bool × Bool × Int × Int × Int × Int × (List (List UInt8)) × (List Call) × Int × Nat)))
 | (x10, x11) => if x10 = true then if (x1.length + [x5].length) * 24 ≤ 140737488355328 then some (.inl (x1 ++ [x5], x2, x11, x4, ([] : List Token))) else none else if (eqS r1.2.1 [40]) = true then Jbb x1 x2 x4 x5 r1 (eqI r1.1 5, x11) else Jbb x1 x2 x4 x5 r1 (false, x11)
noncomputable def ZL (x1 : List (List Token)) (x2 : Int) (x4 : List UInt8) (x5 : List Token) (r1 : (Int × (List UInt8) × Bool × Bool × Int × Int × Int × Int × (List (List UInt8)) × (List Call) × Int × Nat)) : (Bool × Nat) → Option (((List (List Token)) × Int × Nat × (List UInt8) × (List Token)) ⊕ (GR Nat ((List (List Token)) × Int × (List UInt8) × Bool × Bool × Int × Int × Int × Int × (List (List UInt8)) × (List Call) × Int × Nat)))
 | (x8, x9) => if x8 = true then if (x1.length + [x5].length) * 24 ≤ 140737488355328 then inrO (some (.ok (x1 ++ [x5], r1.1, r1.2.1, r1.2.2.1, r1.2.2.2.1, r1.2.2.2.2.1, r1.2.2.2.2.2.1, r1.2.2.2.2.2.2.1, r1.2.2.2.2.2.2.2.1, r1.2.2.2.2.2.2.2.2.1, r1.2.2.2.2.2.2.2.2.2.1, r1.2.2.2.2.2.2.2.2.2.2.1, x9))) else none else if (eqI x2 0) = true then if (eqS r1.2.1 [44]) = true then ZU x1 x2 x4 x5 r1 (eqI r1.1 5, x9) else ZU x1 x2 x4 x5 r1 (false, x9) else ZU x1 x2 x4 x5 r1 (false, x9)
noncomputable def Jcs (a1 : Int) (a2 : List UInt8) (a3 : Bool) (a4 : Bool) (a5 : Int) (a6 : Int) (a7 : Int) (a8 : Int) (a9 : List (List UInt8)) (a10 : List Call) (a11 : Int) (a12 : List Token) : ((List (List Token)) × Int × Nat × (List UInt8) × (List Token)) → Option (((List (List Token)) × Int × Nat × (List UInt8) × (List Token)) ⊕ (GR Nat ((List (List Token)) × Int × (List UInt8) × Bool × Bool × Int × Int × Int × Int × (List (List UInt8)) × (List Call) × Int × Nat)))
 | (x1, x2, x3, x4, x5) => if (ltI 0 ((x3 : Nat) : Int)) = true then (JB x3 a12).bind fun r1 => if (eqI x2 0) = true then if (eqS r1.2.1 [41]) = true then ZL x1 x2 x4 x5 r1 (eqI r1.1 5, r1.2.2.2.2.2.2.2.2.2.2.2) else ZL x1 x2 x4 x5 r1 (false, r1.2.2.2.2.2.2.2.2.2.2.2) else ZL x1 x2 x4 x5 r1 (false, r1.2.2.2.2.2.2.2.2.2.2.2) else inrO ((ZD 9 a1 a2 a3 a4 a5 a6 a7 a8 a9 a10 a11).bind fun e1 => some (.er x3))
noncomputable def JcA (a0 : Nat) (a1 : Int) (a2 : List UInt8) (a3 : Bool) (a4 : Bool) (a5 : Int) (a6 : Int) (a7 : Int) (a8 : Int) (a9 : List (List UInt8)) (a10 : List Call) (a11 : Int) (a12 : List Token) : Option (GR Nat ((List (List Token)) × Int × (List UInt8) × Bool × Bool × Int × Int × Int × Int × (List (List UInt8)) × (List Call) × Int × Nat)) :=
 loopO (Jcs a1 a2 a3 a4 a5 a6 a7 a8 a9 a10 a11 a12) (([] : List (List Token)), 0, a0, [], ([] : List Token))
def Jfp (a0 : Nat) (a1 : Int) (a2 : List UInt8) (a3 : Bool) (a4 : Bool) (a5 : Int) (a6 : Int) (a7 : Int) (a8 : Int) (a9 : List (List UInt8)) (a10 : List Call) (a11 : Int) (a12 : List Token) : GR Nat ((List (List Token)) × Int × (List UInt8) × Bool × Bool × Int × Int × Int × Int × (List (List UInt8)) × (List Call) × Int × Nat) → GOut
 | .ok r => .ret (.tu [(false, [.sl 1 (List.map (dL 11 d_Token) r.1) 4]), (true, [.d (.v (.int .i64 r.2.1)), .d (.v (str r.2.2.1)), .d (.v (.bool r.2.2.2.1)), .d (.v (.bool r.2.2.2.2.1)), .d (.v (.int .i64 r.2.2.2.2.2.1)), .d (.v (.int .i64 r.2.2.2.2.2.2.1)), .d (.v (.int .i64 r.2.2.2.2.2.2.2.1)), .d (.v (.int .i64 r.2.2.2.2.2.2.2.2.1)), .d (.sl 1 (List.map dS r.2.2.2.2.2.2.2.2.2.1)), .d (.sl 3 (List.map d_Call r.2.2.2.2.2.2.2.2.2.2.1)), .d (.v (.int .i64 r.2.2.2.2.2.2.2.2.2.2.2.1))])]) [[.os 3 11 0 r.2.2.2.2.2.2.2.2.2.2.2.2], [.d (.v (.int .i64 a1)), .d (.v (str a2)), .d (.v (.bool a3)), .d (.v (.bool a4)), .d (.v (.int .i64 a5)), .d (.v (.int .i64 a6)), .d (.v (.int .i64 a7)), .d (.v (.int .i64 a8)), .d (.sl 1 (List.map dS a9)), .d (.sl 3 (List.map d_Call a10)), .d (.v (.int .i64 a11))], [.arr 11 (List.map d_Token a12)]] [25]
 | .er r => .pan (.iface 78 (.agg ⟨[.int .i64 9, .int .i64 a5, .int .i64 a6]⟩)) [[.os 3 11 0 r], [.d (.v (.int .i64 a1)), .d (.v (str a2)), .d (.v (.bool a3)), .d (.v (.bool a4)), .d (.v (.int .i64 a5)), .d (.v (.int .i64 a6)), .d (.v (.int .i64 a7)), .d (.v (.int .i64 a8)), .d (.sl 1 (List.map dS a9)), .d (.sl 3 (List.map d_Call a10)), .d (.v (.int .i64 a11))], [.arr 11 (List.map d_Token a12)]] []
def Jao (a0 : Nat) (a1 : Int) (a2 : List UInt8) (a3 : Bool) (a4 : Bool) (a5 : Int) (a6 : Int) (a7 : Int) (a8 : Int) (a9 : List (List UInt8)) (a10 : List Call) (a11 : Int) (a12 : List Token) (r : GR Nat ((List (List Token)) × Int × (List UInt8) × Bool × Bool × Int × Int × Int × Int × (List (List UInt8)) × (List Call) × Int × Nat)) : GI :=
 ⟨[.c (.pt 1 0), .c (.pt 2 0)], [[.os 3 11 0 a0], [.d (.v (.int .i64 a1)), .d (.v (str a2)), .d (.v (.bool a3)), .d (.v (.bool a4)), .d (.v (.int .i64 a5)), .d (.v (.int .i64 a6)), .d (.v (.int .i64 a7)), .d (.v (.int .i64 a8)), .d (.sl 1 (List.map dS a9)), .d (.sl 3 (List.map d_Call a10)), .d (.v (.int .i64 a11))], [.arr 11 (List.map d_Token a12)]], [], Jfp a0 a1 a2 a3 a4 a5 a6 a7 a8 a9 a10 a11 a12 r⟩
def Jat : GI → Prop := fun g => ∃ (a0 : Nat) (a1 : Int) (a2 : List UInt8) (a3 : Bool) (a4 : Bool) (a5 : Int) (a6 : Int) (a7 : Int) (a8 : Int) (a9 : List (List UInt8)) (a10 : List Call) (a11 : Int) (a12 : List Token) (r : GR Nat ((List (List Token)) × Int × (List UInt8) × Bool × Bool × Int × Int × Int × Int × (List (List UInt8)) × (List Call) × Int × Nat)), JcA a0 a1 a2 a3 a4 a5 a6 a7 a8 a9 a10 a11 a12 = some r ∧ g = Jao a0 a1 a2 a3 a4 a5 a6 a7 a8 a9 a10 a11 a12 r
theorem JdK (a0 : Nat) (a1 : Int) (a2 : List UInt8) (a3 : Bool) (a4 : Bool) (a5 : Int) (a6 : Int) (a7 : Int) (a8 : Int) (a9 : List (List UInt8)) (a10 : List Call) (a11 : Int) (a12 : List Token) (r : GR Nat ((List (List Token)) × Int × (List UInt8) × Bool × Bool × Int × Int × Int × Int × (List (List UInt8)) × (List Call) × Int × Nat)) (H : JcA a0 a1 a2 a3 a4 a5 a6 a7 a8 a9 a10 a11 a12 = some r) : Jat (Jao a0 a1 a2 a3 a4 a5 a6 a7 a8 a9 a10 a11 a12 r) := ⟨a0, a1, a2, a3, a4, a5, a6, a7, a8, a9, a10, a11, a12, r, H, rfl⟩
theorem Jfd : ∀ g, Jat g → GenOk Tryz.prog 62 g := by
 rintro _ ⟨a0, a1, a2, a3, a4, a5, a6, a7, a8, a9, a10, a11, a12, r, H, rfl⟩
 refine xGn mixed [] [(34, true, JD), (39, false, VN)] [] trivial ⟨JZ, Jbz, trivial⟩ trivial Tryz.func62 _ ?_
 have G := True.intro
 have Y := xZ y_3 <| xZ y_4 <| xZ y_9 <| xZ y_24 <| xZ y_25 <| xZ y_37 <| xZ y_39 <| xZ y_79 <| xZ y_99 <| xZ Tryz.results62 <| xZ d_Call.eq_1 <| xZ d_Token.eq_1 <| xZ JC.eq_1 <| xZ VO.eq_1 <| Jao.eq_1
 dsimp only [Jao]
 simp only [JcA] at H
 refine xS ?_
 refine xr ?_
 refine xr ?_
 refine xr ?_
 refine xr ?_
 refine w_loop (Jcs a1 a2 a3 a4 a5 a6 a7 a8 a9 a10 a11 a12) (fun s => [(0, .c (.pt 1 0)), (1, .c (.pt 2 0)), (5, .c (.pt 4 0)), (6, .c (.sl 1 (List.map (dL 11 d_Token) s.1) 6)), (7, .c (.os 5 11 0 s.2.2.2.2.length)), (8, .c (.d (.v (.int .i64 s.2.1))))]) (fun s => [[.os 3 11 0 s.2.2.1], [.d (.v (.int .i64 a1)), .d (.v (str a2)), .d (.v (.bool a3)), .d (.v (.bool a4)), .d (.v (.int .i64 a5)), .d (.v (.int .i64 a6)), .d (.v (.int .i64 a7)), .d (.v (.int .i64 a8)), .d (.sl 1 (List.map dS a9)), .d (.sl 3 (List.map d_Call a10)), .d (.v (.int .i64 a11))], [.arr 11 (List.map d_Token a12)], [.d (.v (.int .i64 0)), .d (.v (str s.2.2.2.1)), .d (.v (.bool false)), .d (.v (.bool false)), .d (.v (.int .i64 0)), .d (.v (.int .i64 0)), .d (.v (.int .i64 0)), .d (.v (.int .i64 0)), .sl 1 [] 0, .sl 3 [] 0, .d (.v (.int .i64 0))], [.arr 11 (List.map d_Token s.2.2.2.2)]]) [25] H (xK ⟨[1,2,3,4,0], [0]⟩) ?_
 rintro n1 ⟨x1, x2, x3, x4, x5⟩ o1 H hF1
 rw [Jcs] at H
 refine xS ?_
 refine xr ?_
 rcases bsplit H with ⟨hp1, H⟩ | ⟨hp1, H⟩
 ·obtain ⟨F, G, hq1⟩ := xH Y G hp1
  refine xT ?_
  obtain ⟨r1, hr1, H⟩ := osplit H
  have F := Y
  refine xQ ?_
  refine xs 1 ?_
  refine xc ⟨[1, 3], []⟩ (tabG 0 (Xu x3 a12 r1 hr1)) ?_
  refine xs 2 ?_
  refine xl ?_
  refine  ?_
  refine then_normal ?_
  refine w_cut (ZW x1 x4 x5 r1) (fun s => [(0, .c (.pt 1 0)), (1, .c (.pt 2 0)), (5, .c (.pt 4 0)), (6, .c (.sl 1 (List.map (dL 11 d_Token) x1) 7)), (7, .c (.os 5 11 0 x5.length)), (8, .c (.d (.v (.int .i64 s.1)))), (9, .c (.pt 6 0))]) (fun s => [[.os 3 11 0 s.2], [.d (.v (.int .i64 a1)), .d (.v (str a2)), .d (.v (.bool a3)), .d (.v (.bool a4)), .d (.v (.int .i64 a5)), .d (.v (.int .i64 a6)), .d (.v (.int .i64 a7)), .d (.v (.int .i64 a8)), .d (.sl 1 (List.map dS a9)), .d (.sl 3 (List.map d_Call a10)), .d (.v (.int .i64 a11))], [.arr 11 (List.map d_Token a12)], [.d (.v (.int .i64 0)), .d (.v (str x4)), .d (.v (.bool false)), .d (.v (.bool false)), .d (.v (.int .i64 0)), .d (.v (.int .i64 0)), .d (.v (.int .i64 0)), .d (.v (.int .i64 0)), .sl 1 [] 0, .sl 3 [] 0, .d (.v (.int .i64 0))], [.arr 11 (List.map d_Token x5)], [.d (.v (.int .i64 r1.1)), .d (.v (str r1.2.1)), .d (.v (.bool r1.2.2.1)), .d (.v (.bool r1.2.2.2.1)), .d (.v (.int .i64 r1.2.2.2.2.1)), .d (.v (.int .i64 r1.2.2.2.2.2.1)), .d (.v (.int .i64 r1.2.2.2.2.2.2.1)), .d (.v (.int .i64 r1.2.2.2.2.2.2.2.1)), .d (.sl 1 (List.map dS r1.2.2.2.2.2.2.2.2.1)), .d (.sl 3 (List.map d_Call r1.2.2.2.2.2.2.2.2.2.1)), .d (.v (.int .i64 r1.2.2.2.2.2.2.2.2.2.2.1))]]) [25] o1 ?_ ?_
  ·refine w_block ?_
   refine w_cut (ZL x1 x2 x4 x5 r1) (fun s => [(0, .c (.pt 1 0)), (1, .c (.pt 2 0)), (5, .c (.pt 4 0)), (6, .c (.sl 1 (List.map (dL 11 d_Token) x1) 7)), (7, .c (.os 5 11 0 x5.length)), (8, .c (.d (.v (.int .i64 x2)))), (9, .c (.pt 6 0)), (17, .c (.d (.v (.bool s.1))))]) (fun s => [[.os 3 11 0 s.2], [.d (.v (.int .i64 a1)), .d (.v (str a2)), .d (.v (.bool a3)), .d (.v (.bool a4)), .d (.v (.int .i64 a5)), .d (.v (.int .i64 a6)), .d (.v (.int .i64 a7)), .d (.v (.int .i64 a8)), .d (.sl 1 (List.map dS a9)), .d (.sl 3 (List.map d_Call a10)), .d (.v (.int .i64 a11))], [.arr 11 (List.map d_Token a12)], [.d (.v (.int .i64 0)), .d (.v (str x4)), .d (.v (.bool false)), .d (.v (.bool false)), .d (.v (.int .i64 0)), .d (.v (.int .i64 0)), .d (.v (.int .i64 0)), .d (.v (.int .i64 0)), .sl 1 [] 0, .sl 3 [] 0, .d (.v (.int .i64 0))], [.arr 11 (List.map d_Token x5)], [.d (.v (.int .i64 r1.1)), .d (.v (str r1.2.1)), .d (.v (.bool r1.2.2.1)), .d (.v (.bool r1.2.2.2.1)), .d (.v (.int .i64 r1.2.2.2.2.1)), .d (.v (.int .i64 r1.2.2.2.2.2.1)), .d (.v (.int .i64 r1.2.2.2.2.2.2.1)), .d (.v (.int .i64 r1.2.2.2.2.2.2.2.1)), .d (.sl 1 (List.map dS r1.2.2.2.2.2.2.2.2.1)), .d (.sl 3 (List.map d_Call r1.2.2.2.2.2.2.2.2.2.1)), .d (.v (.int .i64 r1.2.2.2.2.2.2.2.2.2.2.1))]]) [25] o1 ?_ ?_
   ·rcases bsplit H with ⟨hp10, H⟩ | ⟨hp10, H⟩
    ·obtain ⟨F, G, hq10⟩ := xH Y G hp10
     rcases bsplit H with ⟨hp11, H⟩ | ⟨hp11, H⟩
     ·obtain ⟨F, G, hq11⟩ := xH F G hp11
      refine xR ?_
      exact cut_at H (xK ⟨[1,2,3,4,5,9], [6]⟩)
     ·obtain ⟨F, G, hq11⟩ := xH F G hp11
      refine xR ?_
      exact cut_at H (xK ⟨[1,2,3,4,5,9], [6]⟩)
    ·obtain ⟨F, G, hq10⟩ := xH Y G hp10
     refine xR ?_
     exact cut_at H (xK ⟨[1,2,3,4,5,9], [6]⟩)
   ·rintro ⟨x8, x9⟩ H
    rw [ZL] at H
    rcases bsplit H with ⟨hp2, H⟩ | ⟨hp2, H⟩
    ·obtain ⟨F, G, hq2⟩ := xH Y G hp2
     refine xT ?_
     refine xfz 5 11 (List.map d_Token x5) [] ?_
     obtain ⟨hg2, H⟩ := gsplit H
     have F := xZ Y (all_map (one_dL 11 d_Token) [x5])
     replace H := inrO_fin H hF1
     replace H := Option.some.inj H
     refine xR ?_
     subst H
     refine xOr ?_
     refine qDf [] ?_
     exact xO ⟨[1, 2, 3], [8]⟩
    ·obtain ⟨F, G, hq2⟩ := xH Y G hp2
     refine xE0 ?_
     refine w_cut (ZU x1 x2 x4 x5 r1) (fun s => [(0, .c (.pt 1 0)), (1, .c (.pt 2 0)), (5, .c (.pt 4 0)), (6, .c (.sl 1 (List.map (dL 11 d_Token) x1) 7)), (7, .c (.os 5 11 0 x5.length)), (8, .c (.d (.v (.int .i64 x2)))), (9, .c (.pt 6 0)), (35, .c (.d (.v (.bool s.1))))]) (fun s => [[.os 3 11 0 s.2], [.d (.v (.int .i64 a1)), .d (.v (str a2)), .d (.v (.bool a3)), .d (.v (.bool a4)), .d (.v (.int .i64 a5)), .d (.v (.int .i64 a6)), .d (.v (.int .i64 a7)), .d (.v (.int .i64 a8)), .d (.sl 1 (List.map dS a9)), .d (.sl 3 (List.map d_Call a10)), .d (.v (.int .i64 a11))], [.arr 11 (List.map d_Token a12)], [.d (.v (.int .i64 0)), .d (.v (str x4)), .d (.v (.bool false)), .d (.v (.bool false)), .d (.v (.int .i64 0)), .d (.v (.int .i64 0)), .d (.v (.int .i64 0)), .d (.v (.int .i64 0)), .sl 1 [] 0, .sl 3 [] 0, .d (.v (.int .i64 0))], [.arr 11 (List.map d_Token x5)], [.d (.v (.int .i64 r1.1)), .d (.v (str r1.2.1)), .d (.v (.bool r1.2.2.1)), .d (.v (.bool r1.2.2.2.1)), .d (.v (.int .i64 r1.2.2.2.2.1)), .d (.v (.int .i64 r1.2.2.2.2.2.1)), .d (.v (.int .i64 r1.2.2.2.2.2.2.1)), .d (.v (.int .i64 r1.2.2.2.2.2.2.2.1)), .d (.sl 1 (List.map dS r1.2.2.2.2.2.2.2.2.1)), .d (.sl 3 (List.map d_Call r1.2.2.2.2.2.2.2.2.2.1)), .d (.v (.int .i64 r1.2.2.2.2.2.2.2.2.2.2.1))]]) [25] o1 ?_ ?_
     ·rcases bsplit H with ⟨hp8, H⟩ | ⟨hp8, H⟩
      ·obtain ⟨F, G, hq8⟩ := xH Y G hp8
       rcases bsplit H with ⟨hp9, H⟩ | ⟨hp9, H⟩
       ·obtain ⟨F, G, hq9⟩ := xH F G hp9
        refine xR ?_
        exact cut_at H (xK ⟨[1,2,3,4,5,6], [7]⟩)
       ·obtain ⟨F, G, hq9⟩ := xH F G hp9
        refine xR ?_
        exact cut_at H (xK ⟨[1,2,3,4,5,6], [7]⟩)
      ·obtain ⟨F, G, hq8⟩ := xH Y G hp8
       refine xR ?_
       exact cut_at H (xK ⟨[1,2,3,4,5,6], [7]⟩)
     ·rintro ⟨x10, x11⟩ H
      rw [ZU] at H
      rcases bsplit H with ⟨hp3, H⟩ | ⟨hp3, H⟩
      ·obtain ⟨F, G, hq3⟩ := xH Y G hp3
       refine xT ?_
       refine xfz 5 11 (List.map d_Token x5) [] ?_
       obtain ⟨hg3, H⟩ := gsplit H
       have F := xZ Y (all_map (one_dL 11 d_Token) [x5])
       refine xR ?_
       exact round_at (inl_fin H hF1) (xK ⟨[1,2,3,4,0], [8]⟩)
      ·obtain ⟨F, G, hq3⟩ := xH Y G hp3
       refine xE0 ?_
       refine w_cut (Jbb x1 x2 x4 x5 r1) (fun s => [(0, .c (.pt 1 0)), (1, .c (.pt 2 0)), (5, .c (.pt 4 0)), (6, .c (.sl 1 (List.map (dL 11 d_Token) x1) 7)), (7, .c (.os 5 11 0 x5.length)), (8, .c (.d (.v (.int .i64 x2)))), (9, .c (.pt 6 0)), (52, .c (.d (.v (.bool s.1))))]) (fun s => [[.os 3 11 0 s.2], [.d (.v (.int .i64 a1)), .d (.v (str a2)), .d (.v (.bool a3)), .d (.v (.bool a4)), .d (.v (.int .i64 a5)), .d (.v (.int .i64 a6)), .d (.v (.int .i64 a7)), .d (.v (.int .i64 a8)), .d (.sl 1 (List.map dS a9)), .d (.sl 3 (List.map d_Call a10)), .d (.v (.int .i64 a11))], [.arr 11 (List.map d_Token a12)], [.d (.v (.int .i64 0)), .d (.v (str x4)), .d (.v (.bool false)), .d (.v (.bool false)), .d (.v (.int .i64 0)), .d (.v (.int .i64 0)), .d (.v (.int .i64 0)), .d (.v (.int .i64 0)), .sl 1 [] 0, .sl 3 [] 0, .d (.v (.int .i64 0))], [.arr 11 (List.map d_Token x5)], [.d (.v (.int .i64 r1.1)), .d (.v (str r1.2.1)), .d (.v (.bool r1.2.2.1)), .d (.v (.bool r1.2.2.2.1)), .d (.v (.int .i64 r1.2.2.2.2.1)), .d (.v (.int .i64 r1.2.2.2.2.2.1)), .d (.v (.int .i64 r1.2.2.2.2.2.2.1)), .d (.v (.int .i64 r1.2.2.2.2.2.2.2.1)), .d (.sl 1 (List.map dS r1.2.2.2.2.2.2.2.2.1)), .d (.sl 3 (List.map d_Call r1.2.2.2.2.2.2.2.2.2.1)), .d (.v (.int .i64 r1.2.2.2.2.2.2.2.2.2.2.1))]]) [25] o1 ?_ ?_
       ·rcases bsplit H with ⟨hp7, H⟩ | ⟨hp7, H⟩
        ·obtain ⟨F, G, hq7⟩ := xH Y G hp7
         refine xR ?_
         exact cut_at H (xK ⟨[1,2,3,4,5,6], [7]⟩)
        ·obtain ⟨F, G, hq7⟩ := xH Y G hp7
         refine xR ?_
         exact cut_at H (xK ⟨[1,2,3,4,5,6], [7]⟩)
       ·rintro ⟨x12, x13⟩ H
        rw [Jbb] at H
        rcases bsplit H with ⟨hp4, H⟩ | ⟨hp4, H⟩
        ·obtain ⟨F, G, hq4⟩ := xH Y G hp4
         refine xT ?_
         refine xr ?_
         exact cut_at H (xK ⟨[1,2,3,4,5,6], [7]⟩)
        ·obtain ⟨F, G, hq4⟩ := xH Y G hp4
         refine xE0 ?_
         refine w_cut (Jbe x1 x2 x4 x5 r1) (fun s => [(0, .c (.pt 1 0)), (1, .c (.pt 2 0)), (5, .c (.pt 4 0)), (6, .c (.sl 1 (List.map (dL 11 d_Token) x1) 7)), (7, .c (.os 5 11 0 x5.length)), (8, .c (.d (.v (.int .i64 x2)))), (9, .c (.pt 6 0)), (63, .c (.d (.v (.bool s.1))))]) (fun s => [[.os 3 11 0 s.2], [.d (.v (.int .i64 a1)), .d (.v (str a2)), .d (.v (.bool a3)), .d (.v (.bool a4)), .d (.v (.int .i64 a5)), .d (.v (.int .i64 a6)), .d (.v (.int .i64 a7)), .d (.v (.int .i64 a8)), .d (.sl 1 (List.map dS a9)), .d (.sl 3 (List.map d_Call a10)), .d (.v (.int .i64 a11))], [.arr 11 (List.map d_Token a12)], [.d (.v (.int .i64 0)), .d (.v (str x4)), .d (.v (.bool false)), .d (.v (.bool false)), .d (.v (.int .i64 0)), .d (.v (.int .i64 0)), .d (.v (.int .i64 0)), .d (.v (.int .i64 0)), .sl 1 [] 0, .sl 3 [] 0, .d (.v (.int .i64 0))], [.arr 11 (List.map d_Token x5)], [.d (.v (.int .i64 r1.1)), .d (.v (str r1.2.1)), .d (.v (.bool r1.2.2.1)), .d (.v (.bool r1.2.2.2.1)), .d (.v (.int .i64 r1.2.2.2.2.1)), .d (.v (.int .i64 r1.2.2.2.2.2.1)), .d (.v (.int .i64 r1.2.2.2.2.2.2.1)), .d (.v (.int .i64 r1.2.2.2.2.2.2.2.1)), .d (.sl 1 (List.map dS r1.2.2.2.2.2.2.2.2.1)), .d (.sl 3 (List.map d_Call r1.2.2.2.2.2.2.2.2.2.1)), .d (.v (.int .i64 r1.2.2.2.2.2.2.2.2.2.2.1))]]) [25] o1 ?_ ?_
         ·rcases bsplit H with ⟨hp6, H⟩ | ⟨hp6, H⟩
          ·obtain ⟨F, G, hq6⟩ := xH Y G hp6
           refine xR ?_
           exact cut_at H (xK ⟨[1,2,3,4,5,6], [7]⟩)
          ·obtain ⟨F, G, hq6⟩ := xH Y G hp6
           refine xR ?_
           exact cut_at H (xK ⟨[1,2,3,4,5,6], [7]⟩)
         ·rintro ⟨x14, x15⟩ H
          rw [Jbe] at H
          rcases bsplit H with ⟨hp5, H⟩ | ⟨hp5, H⟩
          ·obtain ⟨F, G, hq5⟩ := xH Y G hp5
           refine xT ?_
           refine xr ?_
           exact cut_at H (xK ⟨[1,2,3,4,5,6], [7]⟩)
          ·obtain ⟨F, G, hq5⟩ := xH Y G hp5
           refine xE ?_
           exact cut_at H (xK ⟨[1,2,3,4,5,6], [7]⟩)
  ·rintro ⟨x6, x7⟩ H
   rw [ZW] at H
   obtain ⟨hg1, H⟩ := gsplit H
   have F := xZ Y (all_map one_Token [(⟨r1.1, r1.2.1, r1.2.2.1, r1.2.2.2.1, r1.2.2.2.2.1, r1.2.2.2.2.2.1, r1.2.2.2.2.2.2.1, r1.2.2.2.2.2.2.2.1, r1.2.2.2.2.2.2.2.2.1, r1.2.2.2.2.2.2.2.2.2.1, r1.2.2.2.2.2.2.2.2.2.2.1⟩ : Token)])
   have L : [(⟨r1.1, r1.2.1, r1.2.2.1, r1.2.2.2.1, r1.2.2.2.2.1, r1.2.2.2.2.2.1, r1.2.2.2.2.2.2.1, r1.2.2.2.2.2.2.2.1, r1.2.2.2.2.2.2.2.2.1, r1.2.2.2.2.2.2.2.2.2.1, r1.2.2.2.2.2.2.2.2.2.2.1⟩ : Token)].length = 1 := rfl
   refine xR ?_
   exact round_at (inl_fin H hF1) (xK ⟨[1,2,3,4,8], [7]⟩)
 ·obtain ⟨F, G, hq1⟩ := xH Y G hp1
  replace H := inrO_fin H hF1
  refine xE ?_
  obtain ⟨e1, hr3, H⟩ := osplit H
  have F := Y
  refine xQp [78, 79] ?_
  refine xs 1 ?_
  refine xp ⟨[2], []⟩ (tabG 1 (JbB 9 a1 a2 a3 a4 a5 a6 a7 a8 a9 a10 a11 e1 hr3)) ?_
  replace H := Option.some.inj H
  refine xS ?_
  subst H
  refine xOp ?_
  refine qDf [] ?_
  exact xOv ⟨[1, 2, 3], []⟩
theorem Jbw : Callable Tryz.prog 62 ∧ (∀ g, Jat g → GenOk Tryz.prog 62 g) ∧ (false = true → ∀ g, Jat g → ∃ val bs ts, g.out = .ret val bs ts) :=
 ⟨call_62, Jfd, nofun⟩
noncomputable def Z4 (a0 : Int) (a1 : Token) : Option Unit :=
 some ()
def Xa (a0 : Int) (a1 : Token) (r : Unit) : GI :=
 ⟨[.c (.d (.v (.int .i64 a0))), .c (.pp (List.drop 0 (d_Token a1).cells))], [], [], .pan (.iface 78 (.agg ⟨[.int .i64 a0, .int .i64 a1.File, .int .i64 a1.At]⟩)) [] []⟩
def VY : GI → Prop := fun g => ∃ (a0 : Int) (a1 : Token) (r : Unit), Z4 a0 a1 = some r ∧ g = Xa a0 a1 r
theorem Jc2 (a0 : Int) (a1 : Token) (r : Unit) (H : Z4 a0 a1 = some r) : VY (Xa a0 a1 r) := ⟨a0, a1, r, H, rfl⟩
theorem Jel : ∀ g, VY g → GenOk Tryz.prog 39 g := by
 rintro _ ⟨a0, a1, r, H, rfl⟩
 refine xGn mixed [] [] [] trivial trivial trivial Tryz.func39 _ ?_
 have G := True.intro
 have Y := xZ y_3 <| xZ y_27 <| xZ y_29 <| xZ y_39 <| xZ y_78 <| xZ Tryz.results39 <| xZ d_Call.eq_1 <| xZ d_Token.eq_1 <| Xa.eq_1
 dsimp only [Xa]
 unfold Z4 at H
 have F := Y
 refine xQp [4, 5, 6, 7, 8, 9, 10, 11, 12, 13, 14, 15] ?_
 refine xs 12 ?_
 refine xv ?_
 refine xS ?_
 refine xOp ?_
 refine qDf [] ?_
 exact xOv ⟨[], []⟩
theorem Jc9 : Callable Tryz.prog 39 ∧ (∀ g, VY g → GenOk Tryz.prog 39 g) ∧ (false = true → ∀ g, VY g → ∃ val bs ts, g.out = .ret val bs ts) :=
 ⟨call_39, Jel, nofun⟩
noncomputable def VQ (a0 : Token) (a1 : List Macro) (a2 : List Source) (a3 : Int) (a4 : Int) : Option (GR Unit Int) :=
 if (eqI a3 0) = true then (Z4 11 a0).bind fun e1 => some (.er ()) else some (.ok (IntKind.i64.wrap (a3 - 1)))
def JcV (a0 : Token) (a1 : List Macro) (a2 : List Source) (a3 : Int) (a4 : Int) : GR Unit Int → GOut
 | .ok r => .ret (.tu []) [[.d (.sl 5 (List.map d_Macro a1)), .d (.sl 2 (List.map d_Source a2)), .d (.v (.int .i64 r)), .d (.v (.int .i64 a4))]] []
 | .er r => .pan (.iface 78 (.agg ⟨[.int .i64 11, .int .i64 a0.File, .int .i64 a0.At]⟩)) [[.d (.sl 5 (List.map d_Macro a1)), .d (.sl 2 (List.map d_Source a2)), .d (.v (.int .i64 a3)), .d (.v (.int .i64 a4))]] []
def Kl (a0 : Token) (a1 : List Macro) (a2 : List Source) (a3 : Int) (a4 : Int) (r : GR Unit Int) : GI :=
 ⟨[.c (.pt 1 0), .c (.pp (List.drop 0 (d_Token a0).cells))], [[.d (.sl 5 (List.map d_Macro a1)), .d (.sl 2 (List.map d_Source a2)), .d (.v (.int .i64 a3)), .d (.v (.int .i64 a4))]], [], JcV a0 a1 a2 a3 a4 r⟩
def Kj : GI → Prop := fun g => ∃ (a0 : Token) (a1 : List Macro) (a2 : List Source) (a3 : Int) (a4 : Int) (r : GR Unit Int), VQ a0 a1 a2 a3 a4 = some r ∧ g = Kl a0 a1 a2 a3 a4 r
theorem JaI (a0 : Token) (a1 : List Macro) (a2 : List Source) (a3 : Int) (a4 : Int) (r : GR Unit Int) (H : VQ a0 a1 a2 a3 a4 = some r) : Kj (Kl a0 a1 a2 a3 a4 r) := ⟨a0, a1, a2, a3, a4, r, H, rfl⟩
theorem JcG : ∀ g, Kj g → GenOk Tryz.prog 35 g := by
 rintro _ ⟨a0, a1, a2, a3, a4, r, H, rfl⟩
 refine xGn mixed [] [(39, false, VY)] [] trivial ⟨Jc9, trivial⟩ trivial Tryz.func35 _ ?_
 have G := True.intro
 have Y := xZ y_3 <| xZ y_57 <| xZ Tryz.results35 <| xZ d_Source.eq_1 <| xZ d_Call.eq_1 <| xZ d_Token.eq_1 <| xZ d_Macro.eq_1 <| xZ Xa.eq_1 <| Kl.eq_1
 dsimp only [Kl]
 simp only [VQ] at H
 refine xS ?_
 refine xr ?_
 rcases bsplit H with ⟨hp1, H⟩ | ⟨hp1, H⟩
 ·obtain ⟨F, G, hq1⟩ := xH Y G hp1
  refine xT ?_
  obtain ⟨e1, hr2, H⟩ := osplit H
  have F := Y
  refine xQp [9, 10] ?_
  refine xs 1 ?_
  refine xp ⟨[], []⟩ (tabG 0 (Jc2 11 a0 e1 hr2)) ?_
  replace H := Option.some.inj H
  refine xS ?_
  subst H
  refine xOp ?_
  refine qDf [] ?_
  exact xOv ⟨[1], []⟩
 ·obtain ⟨F, G, hq1⟩ := xH Y G hp1
  refine xE ?_
  replace H := Option.some.inj H
  refine xr ?_
  subst H
  refine xOn ?_
  refine qDf [] ?_
  exact xO ⟨[1], []⟩
theorem Vn : Callable Tryz.prog 35 ∧ (∀ g, Kj g → GenOk Tryz.prog 35 g) ∧ (false = true → ∀ g, Kj g → ∃ val bs ts, g.out = .ret val bs ts) :=
 ⟨call_35, JcG, nofun⟩
noncomputable def Jah (x1 : Int) (x3 : List Token) (r1 : (Int × (List UInt8) × Bool × Bool × Int × Int × Int × Int × (List (List UInt8)) × (List Call) × Int × Nat)) : (Bool × Nat) → Option ((Int × Nat × (List Token)) ⊕ (List Token))
 | (x6, x7) => if x6 = true then if (x3.length + [(⟨r1.1, r1.2.1, r1.2.2.1, r1.2.2.2.1, r1.2.2.2.2.1, r1.2.2.2.2.2.1, r1.2.2.2.2.2.2.1, r1.2.2.2.2.2.2.2.1, r1.2.2.2.2.2.2.2.2.1, r1.2.2.2.2.2.2.2.2.2.1, r1.2.2.2.2.2.2.2.2.2.2.1⟩ : Token)].length) * 120 ≤ 140737488355328 then some (.inl (x1, x7, x3 ++ [(⟨r1.1, r1.2.1, r1.2.2.1, r1.2.2.2.1, r1.2.2.2.2.1, r1.2.2.2.2.2.1, r1.2.2.2.2.2.2.1, r1.2.2.2.2.2.2.2.1, r1.2.2.2.2.2.2.2.2.1, r1.2.2.2.2.2.2.2.2.2.1, r1.2.2.2.2.2.2.2.2.2.2.1⟩ : Token)])) else none else if (eqS r1.2.1 [40]) = true then some (.inl (IntKind.i64.wrap (x1 + 1), x7, x3)) else if (eqS r1.2.1 [41]) = true then some (.inl (IntKind.i64.wrap (x1 - 1), x7, x3)) else some (.inl (x1, x7, x3))
noncomputable def Z9 (x1 : Int) (x3 : List Token) (r1 : (Int × (List UInt8) × Bool × Bool × Int × Int × Int × Int × (List (List UInt8)) × (List Call) × Int × Nat)) : (Bool × Nat) → Option ((Int × Nat × (List Token)) ⊕ (List Token))
 | (x4, x5) => if x4 = true then inrO (some x3) else if (eqI x1 0) = true then Jah x1 x3 r1 (eqS r1.2.1 [44], x5) else Jah x1 x3 r1 (false, x5)
noncomputable def JbK (a0 : List Token) : (Int × Nat × (List Token)) → Option ((Int × Nat × (List Token)) ⊕ (List Token))
 | (x1, x2, x3) => if (ltI 0 ((x2 : Nat) : Int)) = true then (JB x2 a0).bind fun r1 => if (!eqI r1.1 5) = true then some (.inl (x1, r1.2.2.2.2.2.2.2.2.2.2.2, x3)) else if (eqI x1 0) = true then Z9 x1 x3 r1 (eqS r1.2.1 [41], r1.2.2.2.2.2.2.2.2.2.2.2) else Z9 x1 x3 r1 (false, r1.2.2.2.2.2.2.2.2.2.2.2) else inrO (some x3)
noncomputable def Jbx (a0 : List Token) : Option (List Token) :=
 loopO (JbK a0) (0, a0.length, ([] : List Token))
def Zw (a0 : List Token) (r : (List Token)) : GI :=
 ⟨[.c (.os 1 11 0 a0.length)], [[.arr 11 (List.map d_Token a0)]], [], .ret (.c (.os 2 11 0 r.length)) [[.arr 11 (List.map d_Token a0)], [.arr 11 (List.map d_Token r)]] []⟩
def Zo : GI → Prop := fun g => ∃ (a0 : List Token) (r : (List Token)), Jbx a0 = some r ∧ g = Zw a0 r
theorem Jdj (a0 : List Token) (r : (List Token)) (H : Jbx a0 = some r) : Zo (Zw a0 r) := ⟨a0, r, H, rfl⟩
theorem JeF : ∀ g, Zo g → GenOk Tryz.prog 64 g := by
 rintro _ ⟨a0, r, H, rfl⟩
 refine xGn mixed [] [(34, true, JD)] [] trivial ⟨JZ, trivial⟩ trivial Tryz.func64 _ ?_
 have G := True.intro
 have Y := xZ y_3 <| xZ y_9 <| xZ y_25 <| xZ y_39 <| xZ y_79 <| xZ Tryz.results64 <| xZ d_Call.eq_1 <| xZ d_Token.eq_1 <| xZ JC.eq_1 <| Zw.eq_1
 dsimp only [Zw]
 simp only [Jbx] at H
 refine xS ?_
 refine xr ?_
 refine xr ?_
 refine xr ?_
 refine w_loop (JbK a0) (fun s => [(1, .c (.pt 2 0)), (3, .c (.os 3 11 0 s.2.2.length)), (4, .c (.d (.v (.int .i64 s.1))))]) (fun s => [[.arr 11 (List.map d_Token a0)], [.os 1 11 0 s.2.1], [.arr 11 (List.map d_Token s.2.2)]]) [] H (xK ⟨[1,2,0], []⟩) ?_
 rintro n1 ⟨x1, x2, x3⟩ o1 H hF1
 rw [JbK] at H
 refine xS ?_
 refine xr ?_
 rcases bsplit H with ⟨hp1, H⟩ | ⟨hp1, H⟩
 ·obtain ⟨F, G, hq1⟩ := xH Y G hp1
  refine xT ?_
  obtain ⟨r1, hr1, H⟩ := osplit H
  have F := Y
  refine xQ ?_
  refine xc ⟨[2, 1], []⟩ (tabG 0 (Xu x2 a0 r1 hr1)) ?_
  refine xs 2 ?_
  refine xl ?_
  refine xS ?_
  refine xr ?_
  rcases bsplit H with ⟨hp2, H⟩ | ⟨hp2, H⟩
  ·obtain ⟨F, G, hq2⟩ := xH Y G hp2
   refine xT ?_
   exact round_at (inl_fin H hF1) (xK ⟨[1,2,3], []⟩)
  ·obtain ⟨F, G, hq2⟩ := xH Y G hp2
   refine xE0 ?_
   refine w_skip ?_
   refine then_normal ?_
   refine w_block ?_
   refine w_cut (Z9 x1 x3 r1) (fun s => [(1, .c (.pt 2 0)), (3, .c (.os 3 11 0 x3.length)), (4, .c (.d (.v (.int .i64 x1)))), (5, .c (.pt 4 0)), (13, .c (.d (.v (.bool s.1))))]) (fun s => [[.arr 11 (List.map d_Token a0)], [.os 1 11 0 s.2], [.arr 11 (List.map d_Token x3)], [.d (.v (.int .i64 r1.1)), .d (.v (str r1.2.1)), .d (.v (.bool r1.2.2.1)), .d (.v (.bool r1.2.2.2.1)), .d (.v (.int .i64 r1.2.2.2.2.1)), .d (.v (.int .i64 r1.2.2.2.2.2.1)), .d (.v (.int .i64 r1.2.2.2.2.2.2.1)), .d (.v (.int .i64 r1.2.2.2.2.2.2.2.1)), .d (.sl 1 (List.map dS r1.2.2.2.2.2.2.2.2.1)), .d (.sl 3 (List.map d_Call r1.2.2.2.2.2.2.2.2.2.1)), .d (.v (.int .i64 r1.2.2.2.2.2.2.2.2.2.2.1))]]) [] o1 ?_ ?_
   ·rcases bsplit H with ⟨hp8, H⟩ | ⟨hp8, H⟩
    ·obtain ⟨F, G, hq8⟩ := xH Y G hp8
     refine xR ?_
     exact cut_at H (xK ⟨[1,2,3,6], []⟩)
    ·obtain ⟨F, G, hq8⟩ := xH Y G hp8
     refine xR ?_
     exact cut_at H (xK ⟨[1,2,3,6], []⟩)
   ·rintro ⟨x4, x5⟩ H
    rw [Z9] at H
    rcases bsplit H with ⟨hp3, H⟩ | ⟨hp3, H⟩
    ·obtain ⟨F, G, hq3⟩ := xH Y G hp3
     refine xT ?_
     replace H := inrO_fin H hF1
     replace H := Option.some.inj H
     refine xr ?_
     subst H
     refine xOr ?_
     refine qDf [] ?_
     exact xO ⟨[1, 3], []⟩
    ·obtain ⟨F, G, hq3⟩ := xH Y G hp3
     refine xE0 ?_
     refine w_cut (Jah x1 x3 r1) (fun s => [(1, .c (.pt 2 0)), (3, .c (.os 3 11 0 x3.length)), (4, .c (.d (.v (.int .i64 x1)))), (5, .c (.pt 4 0)), (22, .c (.d (.v (.bool s.1))))]) (fun s => [[.arr 11 (List.map d_Token a0)], [.os 1 11 0 s.2], [.arr 11 (List.map d_Token x3)], [.d (.v (.int .i64 r1.1)), .d (.v (str r1.2.1)), .d (.v (.bool r1.2.2.1)), .d (.v (.bool r1.2.2.2.1)), .d (.v (.int .i64 r1.2.2.2.2.1)), .d (.v (.int .i64 r1.2.2.2.2.2.1)), .d (.v (.int .i64 r1.2.2.2.2.2.2.1)), .d (.v (.int .i64 r1.2.2.2.2.2.2.2.1)), .d (.sl 1 (List.map dS r1.2.2.2.2.2.2.2.2.1)), .d (.sl 3 (List.map d_Call r1.2.2.2.2.2.2.2.2.2.1)), .d (.v (.int .i64 r1.2.2.2.2.2.2.2.2.2.2.1))]]) [] o1 ?_ ?_
     ·rcases bsplit H with ⟨hp7, H⟩ | ⟨hp7, H⟩
      ·obtain ⟨F, G, hq7⟩ := xH Y G hp7
       refine xR ?_
       exact cut_at H (xK ⟨[1,2,3,4], []⟩)
      ·obtain ⟨F, G, hq7⟩ := xH Y G hp7
       refine xR ?_
       exact cut_at H (xK ⟨[1,2,3,4], []⟩)
     ·rintro ⟨x6, x7⟩ H
      rw [Jah] at H
      rcases bsplit H with ⟨hp4, H⟩ | ⟨hp4, H⟩
      ·obtain ⟨F, G, hq4⟩ := xH Y G hp4
       refine xT ?_
       obtain ⟨hg1, H⟩ := gsplit H
       have F := xZ Y (all_map one_Token [(⟨r1.1, r1.2.1, r1.2.2.1, r1.2.2.2.1, r1.2.2.2.2.1, r1.2.2.2.2.2.1, r1.2.2.2.2.2.2.1, r1.2.2.2.2.2.2.2.1, r1.2.2.2.2.2.2.2.2.1, r1.2.2.2.2.2.2.2.2.2.1, r1.2.2.2.2.2.2.2.2.2.2.1⟩ : Token)])
       have L : [(⟨r1.1, r1.2.1, r1.2.2.1, r1.2.2.2.1, r1.2.2.2.2.1, r1.2.2.2.2.2.1, r1.2.2.2.2.2.2.1, r1.2.2.2.2.2.2.2.1, r1.2.2.2.2.2.2.2.2.1, r1.2.2.2.2.2.2.2.2.2.1, r1.2.2.2.2.2.2.2.2.2.2.1⟩ : Token)].length = 1 := rfl
       refine xR ?_
       exact round_at (inl_fin H hF1) (xK ⟨[1,2,5], []⟩)
      ·obtain ⟨F, G, hq4⟩ := xH Y G hp4
       refine xE ?_
       refine xr ?_
       rcases bsplit H with ⟨hp5, H⟩ | ⟨hp5, H⟩
       ·obtain ⟨F, G, hq5⟩ := xH Y G hp5
        refine xT ?_
        refine xr ?_
        exact round_at (inl_fin H hF1) (xK ⟨[1,2,3], []⟩)
       ·obtain ⟨F, G, hq5⟩ := xH Y G hp5
        refine xE ?_
        refine xr ?_
        rcases bsplit H with ⟨hp6, H⟩ | ⟨hp6, H⟩
        ·obtain ⟨F, G, hq6⟩ := xH Y G hp6
         refine xT ?_
         refine xr ?_
         exact round_at (inl_fin H hF1) (xK ⟨[1,2,3], []⟩)
        ·obtain ⟨F, G, hq6⟩ := xH Y G hp6
         refine xE ?_
         exact round_at (inl_fin H hF1) (xK ⟨[1,2,3], []⟩)
 ·obtain ⟨F, G, hq1⟩ := xH Y G hp1
  replace H := inrO_fin H hF1
  refine xE ?_
  replace H := Option.some.inj H
  refine xr ?_
  subst H
  refine xOr ?_
  refine qDf [] ?_
  exact xO ⟨[1, 3], []⟩
theorem JaA : Callable Tryz.prog 64 ∧ (∀ g, Zo g → GenOk Tryz.prog 64 g) ∧ (true = true → ∀ g, Zo g → ∃ val bs ts, g.out = .ret val bs ts) :=
 ⟨call_64, JeF, fun _ => by rintro _ ⟨_, _, _, rfl⟩; exact ⟨_, _, _, rfl⟩⟩
noncomputable def Jau (a2 : Int) (a3 : List UInt8) (a4 : Bool) (a5 : Bool) (a6 : Int) (a7 : Int) (a8 : Int) (a9 : Int) (a10 : List (List UInt8)) (a11 : List Call) (a12 : Int) (x1 : Int) : (List (List Token)) → Option (GR Unit (List (List Token)))
 | x3 => if (!eqI (x3.length : Int) x1) = true then (ZD 5 a2 a3 a4 a5 a6 a7 a8 a9 a10 a11 a12).bind fun e1 => some (.er ()) else some (.ok x3)
noncomputable def JcO (a1 : List (List Token)) (a2 : Int) (a3 : List UInt8) (a4 : Bool) (a5 : Bool) (a6 : Int) (a7 : Int) (a8 : Int) (a9 : Int) (a10 : List (List UInt8)) (a11 : List Call) (a12 : Int) (a13 : List Token) (x1 : Int) : ((List (List Token)) × Int × Int × (List Token)) → Option (((List (List Token)) × Int × Int × (List Token)) ⊕ (GR Unit (List (List Token))))
 | (x4, x5, x6, x7) => if (ltI x6 x5) = true then if (0 : Int) ≤ x6 ∧ x6.toNat < x4.length then if (0 : Int) ≤ (IntKind.i64.wrap ((IntKind.i64.wrap (x1 - 1)) + x6)) ∧ (IntKind.i64.wrap ((IntKind.i64.wrap (x1 - 1)) + x6)).toNat < a13.length then if (IntKind.i64.wrap ((IntKind.i64.wrap (x1 - 1)) + x6)).toNat < a13.length then if (x7.length + [(a13.getD ((IntKind.i64.wrap ((IntKind.i64.wrap (x1 - 1)) + x6)).toNat) default)].length) * 120 ≤ 140737488355328 then if (x7.length + [(a13.getD ((IntKind.i64.wrap ((IntKind.i64.wrap (x1 - 1)) + x6)).toNat) default)].length + (x4.getD x6.toNat default).length) * 120 ≤ 140737488355328 then some (.inl (x4, x5, IntKind.i64.wrap (x6 + 1), (x7 ++ [(a13.getD ((IntKind.i64.wrap ((IntKind.i64.wrap (x1 - 1)) + x6)).toNat) default)]) ++ (x4.getD x6.toNat default))) else none else none else none else none else none else inrO (if (0 : Int) ≤ 0 ∧ 0 ≤ (IntKind.i64.wrap (x1 - 1)) ∧ (IntKind.i64.wrap (x1 - 1)) ≤ (a1.length : Int) then if ((List.take ((IntKind.i64.wrap (x1 - 1)).toNat) a1).length + [x7].length) * 24 ≤ 140737488355328 then Jau a2 a3 a4 a5 a6 a7 a8 a9 a10 a11 a12 x1 ((List.take ((IntKind.i64.wrap (x1 - 1)).toNat) a1) ++ [x7]) else none else none)
noncomputable def Jav (a0 : Macro) (a1 : List (List Token)) (a2 : Int) (a3 : List UInt8) (a4 : Bool) (a5 : Bool) (a6 : Int) (a7 : Int) (a8 : Int) (a9 : Int) (a10 : List (List UInt8)) (a11 : List Call) (a12 : Int) (a13 : List Token) : (Int × Bool) → Option (GR Unit (List (List Token)))
 | (x1, x2) => if x2 = true then some (.ok ([] : List (List Token))) else if a0.More = true then if (eqI (a1.length : Int) (IntKind.i64.wrap (x1 - 1))) = true then if (a1.length + [([] : List Token)].length) * 24 ≤ 140737488355328 then some (.ok (a1 ++ [([] : List Token)])) else none else if (ltI x1 (a1.length : Int)) = true then if (0 : Int) ≤ (IntKind.i64.wrap (x1 - 1)) ∧ (IntKind.i64.wrap (x1 - 1)).toNat < a1.length then (Jh (a1.getD ((IntKind.i64.wrap (x1 - 1)).toNat) default)).bind fun r2 => if (0 : Int) ≤ x1 ∧ x1 ≤ (a1.length : Int) ∧ (a1.length : Int) ≤ (a1.length : Int) then loopO (JcO a1 a2 a3 a4 a5 a6 a7 a8 a9 a10 a11 a12 a13 x1) (List.drop x1.toNat a1, ((List.drop x1.toNat a1).length : Int), 0, (a1.getD ((IntKind.i64.wrap (x1 - 1)).toNat) default)) else none else none else Jau a2 a3 a4 a5 a6 a7 a8 a9 a10 a11 a12 x1 a1 else Jau a2 a3 a4 a5 a6 a7 a8 a9 a10 a11 a12 x1 a1
noncomputable def JcR (a0 : Macro) (a1 : List (List Token)) (a2 : Int) (a3 : List UInt8) (a4 : Bool) (a5 : Bool) (a6 : Int) (a7 : Int) (a8 : Int) (a9 : Int) (a10 : List (List UInt8)) (a11 : List Call) (a12 : Int) (a13 : List Token) : Option (GR Unit (List (List Token))) :=
 if (eqI (a0.Params.length : Int) 0) = true then if (eqI (a1.length : Int) 1) = true then if 0 < a1.length then Jav a0 a1 a2 a3 a4 a5 a6 a7 a8 a9 a10 a11 a12 a13 ((a0.Params.length : Int), eqI ((a1.getD 0 default).length : Int) 0) else none else Jav a0 a1 a2 a3 a4 a5 a6 a7 a8 a9 a10 a11 a12 a13 ((a0.Params.length : Int), false) else Jav a0 a1 a2 a3 a4 a5 a6 a7 a8 a9 a10 a11 a12 a13 ((a0.Params.length : Int), false)
def Jfw (a0 : Macro) (a1 : List (List Token)) (a2 : Int) (a3 : List UInt8) (a4 : Bool) (a5 : Bool) (a6 : Int) (a7 : Int) (a8 : Int) (a9 : Int) (a10 : List (List UInt8)) (a11 : List Call) (a12 : Int) (a13 : List Token) : GR Unit (List (List Token)) → GOut
 | .ok r => .ret (.c (.sl 1 (List.map (dL 11 d_Token) r) 3)) [[.d (.v (.int .i64 a2)), .d (.v (str a3)), .d (.v (.bool a4)), .d (.v (.bool a5)), .d (.v (.int .i64 a6)), .d (.v (.int .i64 a7)), .d (.v (.int .i64 a8)), .d (.v (.int .i64 a9)), .d (.sl 1 (List.map dS a10)), .d (.sl 3 (List.map d_Call a11)), .d (.v (.int .i64 a12))], [.arr 11 (List.map d_Token a13)]] [25]
 | .er r => .pan (.iface 78 (.agg ⟨[.int .i64 5, .int .i64 a6, .int .i64 a7]⟩)) [[.d (.v (.int .i64 a2)), .d (.v (str a3)), .d (.v (.bool a4)), .d (.v (.bool a5)), .d (.v (.int .i64 a6)), .d (.v (.int .i64 a7)), .d (.v (.int .i64 a8)), .d (.v (.int .i64 a9)), .d (.sl 1 (List.map dS a10)), .d (.sl 3 (List.map d_Call a11)), .d (.v (.int .i64 a12))], [.arr 11 (List.map d_Token a13)]] []
def JaZ (a0 : Macro) (a1 : List (List Token)) (a2 : Int) (a3 : List UInt8) (a4 : Bool) (a5 : Bool) (a6 : Int) (a7 : Int) (a8 : Int) (a9 : Int) (a10 : List (List UInt8)) (a11 : List Call) (a12 : Int) (a13 : List Token) (r : GR Unit (List (List Token))) : GI :=
 ⟨[.c (.pp (List.drop 0 (d_Macro a0).cells)), .c (.sl 1 (List.map (dL 11 d_Token) a1) 3), .c (.pt 1 0), .c (.os 2 11 0 a13.length)], [[.d (.v (.int .i64 a2)), .d (.v (str a3)), .d (.v (.bool a4)), .d (.v (.bool a5)), .d (.v (.int .i64 a6)), .d (.v (.int .i64 a7)), .d (.v (.int .i64 a8)), .d (.v (.int .i64 a9)), .d (.sl 1 (List.map dS a10)), .d (.sl 3 (List.map d_Call a11)), .d (.v (.int .i64 a12))], [.arr 11 (List.map d_Token a13)]], [25], Jfw a0 a1 a2 a3 a4 a5 a6 a7 a8 a9 a10 a11 a12 a13 r⟩
def Ja6 : GI → Prop := fun g => ∃ (a0 : Macro) (a1 : List (List Token)) (a2 : Int) (a3 : List UInt8) (a4 : Bool) (a5 : Bool) (a6 : Int) (a7 : Int) (a8 : Int) (a9 : Int) (a10 : List (List UInt8)) (a11 : List Call) (a12 : Int) (a13 : List Token) (r : GR Unit (List (List Token))), JcR a0 a1 a2 a3 a4 a5 a6 a7 a8 a9 a10 a11 a12 a13 = some r ∧ g = JaZ a0 a1 a2 a3 a4 a5 a6 a7 a8 a9 a10 a11 a12 a13 r
theorem JdY (a0 : Macro) (a1 : List (List Token)) (a2 : Int) (a3 : List UInt8) (a4 : Bool) (a5 : Bool) (a6 : Int) (a7 : Int) (a8 : Int) (a9 : Int) (a10 : List (List UInt8)) (a11 : List Call) (a12 : Int) (a13 : List Token) (r : GR Unit (List (List Token))) (H : JcR a0 a1 a2 a3 a4 a5 a6 a7 a8 a9 a10 a11 a12 a13 = some r) : Ja6 (JaZ a0 a1 a2 a3 a4 a5 a6 a7 a8 a9 a10 a11 a12 a13 r) := ⟨a0, a1, a2, a3, a4, a5, a6, a7, a8, a9, a10, a11, a12, a13, r, H, rfl⟩
theorem Jfr : ∀ g, Ja6 g → GenOk Tryz.prog 63 g := by
 rintro _ ⟨a0, a1, a2, a3, a4, a5, a6, a7, a8, a9, a10, a11, a12, a13, r, H, rfl⟩
 refine xGn mixed [] [(39, false, VN), (75, true, Je)] [] trivial ⟨Jbz, Jb, trivial⟩ trivial Tryz.func63 _ ?_
 have G := True.intro
 have Y := xZ y_4 <| xZ y_9 <| xZ y_24 <| xZ y_25 <| xZ y_39 <| xZ y_43 <| xZ y_99 <| xZ Tryz.results63 <| xZ d_Call.eq_1 <| xZ d_Token.eq_1 <| xZ d_Macro.eq_1 <| xZ VO.eq_1 <| xZ JP.eq_1 <| JaZ.eq_1
 dsimp only [JaZ]
 simp only [JcR] at H
 refine xS ?_
 refine xr ?_
 refine xr0 ?_
 refine then_normal ?_
 refine w_seq ?_
 refine w_cut (Jav a0 a1 a2 a3 a4 a5 a6 a7 a8 a9 a10 a11 a12 a13) (fun s => [(0, .c (.pp (List.drop 0 (d_Macro a0).cells))), (1, .c (.sl 1 (List.map (dL 11 d_Token) a1) 3)), (2, .c (.pt 1 0)), (3, .c (.os 2 11 0 a13.length)), (9, .c (.d (.v (.int .i64 s.1)))), (31, .c (.d (.v (.bool s.2))))]) (fun s => [[.d (.v (.int .i64 a2)), .d (.v (str a3)), .d (.v (.bool a4)), .d (.v (.bool a5)), .d (.v (.int .i64 a6)), .d (.v (.int .i64 a7)), .d (.v (.int .i64 a8)), .d (.v (.int .i64 a9)), .d (.sl 1 (List.map dS a10)), .d (.sl 3 (List.map d_Call a11)), .d (.v (.int .i64 a12))], [.arr 11 (List.map d_Token a13)]]) [25] r ?_ ?_
 ·rcases bsplit H with ⟨hp7, H⟩ | ⟨hp7, H⟩
  ·obtain ⟨F, G, hq7⟩ := xH Y G hp7
   rcases bsplit H with ⟨hp8, H⟩ | ⟨hp8, H⟩
   ·obtain ⟨F, G, hq8⟩ := xH F G hp8
    obtain ⟨hg10, H⟩ := gsplit H
    have F := xZ F (map_getD (dL 11 d_Token) a1 0 default default (by omega))
    refine xR ?_
    exact cut_at H (xK ⟨[1,2], [3]⟩)
   ·obtain ⟨F, G, hq8⟩ := xH F G hp8
    refine xR ?_
    exact cut_at H (xK ⟨[1,2], [3]⟩)
  ·obtain ⟨F, G, hq7⟩ := xH Y G hp7
   refine xR ?_
   exact cut_at H (xK ⟨[1,2], [3]⟩)
 ·rintro ⟨x1, x2⟩ H
  rw [Jav] at H
  rcases bsplit H with ⟨hp1, H⟩ | ⟨hp1, H⟩
  ·obtain ⟨F, G, hq1⟩ := xH Y G hp1
   refine xT ?_
   replace H := Option.some.inj H
   refine xr ?_
   subst H
   refine xOr ?_
   refine qDf [] ?_
   exact xO ⟨[1, 2], [0]⟩
  ·obtain ⟨F, G, hq1⟩ := xH Y G hp1
   refine xE0 ?_
   refine w_skip ?_
   refine then_normal ?_
   refine w_cut (Jau a2 a3 a4 a5 a6 a7 a8 a9 a10 a11 a12 x1) (fun s => [(1, .c (.sl 1 (List.map (dL 11 d_Token) s) 3)), (2, .c (.pt 1 0)), (9, .c (.d (.v (.int .i64 x1))))]) (fun s => [[.d (.v (.int .i64 a2)), .d (.v (str a3)), .d (.v (.bool a4)), .d (.v (.bool a5)), .d (.v (.int .i64 a6)), .d (.v (.int .i64 a7)), .d (.v (.int .i64 a8)), .d (.v (.int .i64 a9)), .d (.sl 1 (List.map dS a10)), .d (.sl 3 (List.map d_Call a11)), .d (.v (.int .i64 a12))], [.arr 11 (List.map d_Token a13)]]) [25] r ?_ ?_
   ·refine xS ?_
    refine xr ?_
    rcases bsplit H with ⟨hp3, H⟩ | ⟨hp3, H⟩
    ·obtain ⟨F, G, hq3⟩ := xH Y G hp3
     refine xT ?_
     refine xr ?_
     rcases bsplit H with ⟨hp4, H⟩ | ⟨hp4, H⟩
     ·obtain ⟨F, G, hq4⟩ := xH Y G hp4
      refine xT ?_
      obtain ⟨hg1, H⟩ := gsplit H
      have F := xZ Y (all_map (one_dL 11 d_Token) [([] : List Token)])
      replace H := Option.some.inj H
      refine xR ?_
      subst H
      refine xOr ?_
      refine qDf [] ?_
      exact xO ⟨[1, 2], [4]⟩
     ·obtain ⟨F, G, hq4⟩ := xH Y G hp4
      refine xE ?_
      refine xr ?_
      rcases bsplit H with ⟨hp5, H⟩ | ⟨hp5, H⟩
      ·obtain ⟨F, G, hq5⟩ := xH Y G hp5
       refine xT ?_
       obtain ⟨hg2, H⟩ := gsplit H
       have F := xZ Y (map_getD (dL 11 d_Token) a1 ((IntKind.i64.wrap (x1 - 1)).toNat) default default (by omega))
       obtain ⟨r2, hr3, H⟩ := osplit H
       have F := F
       refine xQ ?_
       refine xs 5 ?_
       refine xc ⟨[], []⟩ (tabG 1 (JM (a1.getD ((IntKind.i64.wrap (x1 - 1)).toNat) default) r2 hr3)) ?_
       refine xs 1 ?_
       refine xl ?_
       refine xS ?_
       obtain ⟨hg3, H⟩ := gsplit H
       refine xr ?_
       refine w_loop (JcO a1 a2 a3 a4 a5 a6 a7 a8 a9 a10 a11 a12 a13 x1) (fun s => [(1, .c (.sl 1 (List.map (dL 11 d_Token) a1) 4)), (2, .c (.pt 1 0)), (3, .c (.os 2 11 0 a13.length)), (9, .c (.d (.v (.int .i64 x1)))), (10, .c (.os 3 11 0 s.2.2.2.length)), (56, .c (.d (.sl 1 (List.map (dL 11 d_Token) s.1)))), (57, .c (.d (.v (.int .i64 s.2.1)))), (58, .c (.d (.v (.int .i64 s.2.2.1))))]) (fun s => [[.d (.v (.int .i64 a2)), .d (.v (str a3)), .d (.v (.bool a4)), .d (.v (.bool a5)), .d (.v (.int .i64 a6)), .d (.v (.int .i64 a7)), .d (.v (.int .i64 a8)), .d (.v (.int .i64 a9)), .d (.sl 1 (List.map dS a10)), .d (.sl 3 (List.map d_Call a11)), .d (.v (.int .i64 a12))], [.arr 11 (List.map d_Token a13)], [.arr 11 (List.map d_Token s.2.2.2)]]) [25] H (xK ⟨[1,2,4], [3]⟩) ?_
       rintro n1 ⟨x4, x5, x6, x7⟩ o1 H hF1
       rw [JcO] at H
       refine xS ?_
       refine xr ?_
       rcases bsplit H with ⟨hp6, H⟩ | ⟨hp6, H⟩
       ·obtain ⟨F, G, hq6⟩ := xH Y G hp6
        refine xT ?_
        obtain ⟨hg4, H⟩ := gsplit H
        have F := xZ Y (map_getD (dL 11 d_Token) x4 x6.toNat default default (by omega))
        refine xR ?_
        obtain ⟨hg5, H⟩ := gsplit H
        obtain ⟨hg, H⟩ := gsplit H
        have F := xZ Y (map_getD d_Token a13 ((IntKind.i64.wrap ((IntKind.i64.wrap (x1 - 1)) + x6)).toNat) default default (by omega))
        obtain ⟨hg6, H⟩ := gsplit H
        have F := xZ F (all_map one_Token [(a13.getD ((IntKind.i64.wrap ((IntKind.i64.wrap (x1 - 1)) + x6)).toNat) default)])
        have L : [(a13.getD ((IntKind.i64.wrap ((IntKind.i64.wrap (x1 - 1)) + x6)).toNat) default)].length = 1 := rfl
        obtain ⟨hg7, H⟩ := gsplit H
        have F := xZ F (all_map one_Token (x4.getD x6.toNat default))
        have A := all_map one_Token (x4.getD x6.toNat default)
        refine xR ?_
        refine xr ?_
        exact round_at (inl_fin H hF1) (xK ⟨[1,2,6], [4]⟩)
       ·obtain ⟨F, G, hq6⟩ := xH Y G hp6
        replace H := inrO_fin H hF1
        refine xE ?_
        refine xfz 3 11 (List.map d_Token x7) [] ?_
        obtain ⟨hg8, H⟩ := gsplit H
        obtain ⟨hg9, H⟩ := gsplit H
        have F := xZ Y (all_map (one_dL 11 d_Token) [x7])
        refine xR ?_
        exact cut_at H (xK ⟨[1,2], [5]⟩)
      ·obtain ⟨F, G, hq5⟩ := xH Y G hp5
       refine xE ?_
       exact cut_at H (xK ⟨[1,2], [3]⟩)
    ·obtain ⟨F, G, hq3⟩ := xH Y G hp3
     refine xE ?_
     exact cut_at H (xK ⟨[1,2], [3]⟩)
   ·rintro x3 H
    rw [Jau] at H
    refine xS ?_
    refine xr ?_
    rcases bsplit H with ⟨hp2, H⟩ | ⟨hp2, H⟩
    ·obtain ⟨F, G, hq2⟩ := xH Y G hp2
     refine xT ?_
     obtain ⟨e1, hr2, H⟩ := osplit H
     have F := Y
     refine xQp [89, 90] ?_
     refine xs 1 ?_
     refine xp ⟨[1], []⟩ (tabG 0 (JbB 5 a2 a3 a4 a5 a6 a7 a8 a9 a10 a11 a12 e1 hr2)) ?_
     replace H := Option.some.inj H
     refine xS ?_
     subst H
     refine xOp ?_
     refine qDf [] ?_
     exact xOv ⟨[1, 2], []⟩
    ·obtain ⟨F, G, hq2⟩ := xH Y G hp2
     refine xE ?_
     replace H := Option.some.inj H
     refine xr ?_
     subst H
     refine xOr ?_
     refine qDf [] ?_
     exact xO ⟨[1, 2], [3]⟩
theorem JbY : Callable Tryz.prog 63 ∧ (∀ g, Ja6 g → GenOk Tryz.prog 63 g) ∧ (false = true → ∀ g, Ja6 g → ∃ val bs ts, g.out = .ret val bs ts) :=
 ⟨call_63, Jfr, nofun⟩
noncomputable def Jb2 (a0 : Macro) (a1 : Int) (a2 : List UInt8) (a3 : Bool) (a4 : Bool) (a5 : Int) (a6 : Int) (a7 : Int) (a8 : Int) (a9 : List (List UInt8)) (a10 : List Call) (a11 : Int) : Option Int :=
 if (!eqI a1 1) = true then some (-1) else (Jk a0.Params a2).bind fun r1 => some r1
def ZM (a0 : Macro) (a1 : Int) (a2 : List UInt8) (a3 : Bool) (a4 : Bool) (a5 : Int) (a6 : Int) (a7 : Int) (a8 : Int) (a9 : List (List UInt8)) (a10 : List Call) (a11 : Int) (r : Int) : GI :=
 ⟨[.c (.pp (List.drop 0 (d_Macro a0).cells)), .c (.pt 1 0)], [[.d (.v (.int .i64 a1)), .d (.v (str a2)), .d (.v (.bool a3)), .d (.v (.bool a4)), .d (.v (.int .i64 a5)), .d (.v (.int .i64 a6)), .d (.v (.int .i64 a7)), .d (.v (.int .i64 a8)), .d (.sl 1 (List.map dS a9)), .d (.sl 3 (List.map d_Call a10)), .d (.v (.int .i64 a11))]], [], .ret (.c (.d (.v (.int .i64 r)))) [[.d (.v (.int .i64 a1)), .d (.v (str a2)), .d (.v (.bool a3)), .d (.v (.bool a4)), .d (.v (.int .i64 a5)), .d (.v (.int .i64 a6)), .d (.v (.int .i64 a7)), .d (.v (.int .i64 a8)), .d (.sl 1 (List.map dS a9)), .d (.sl 3 (List.map d_Call a10)), .d (.v (.int .i64 a11))]] []⟩
def Z0 : GI → Prop := fun g => ∃ (a0 : Macro) (a1 : Int) (a2 : List UInt8) (a3 : Bool) (a4 : Bool) (a5 : Int) (a6 : Int) (a7 : Int) (a8 : Int) (a9 : List (List UInt8)) (a10 : List Call) (a11 : Int) (r : Int), Jb2 a0 a1 a2 a3 a4 a5 a6 a7 a8 a9 a10 a11 = some r ∧ g = ZM a0 a1 a2 a3 a4 a5 a6 a7 a8 a9 a10 a11 r
theorem Je8 (a0 : Macro) (a1 : Int) (a2 : List UInt8) (a3 : Bool) (a4 : Bool) (a5 : Int) (a6 : Int) (a7 : Int) (a8 : Int) (a9 : List (List UInt8)) (a10 : List Call) (a11 : Int) (r : Int) (H : Jb2 a0 a1 a2 a3 a4 a5 a6 a7 a8 a9 a10 a11 = some r) : Z0 (ZM a0 a1 a2 a3 a4 a5 a6 a7 a8 a9 a10 a11 r) := ⟨a0, a1, a2, a3, a4, a5, a6, a7, a8, a9, a10, a11, r, H, rfl⟩
theorem JeP : ∀ g, Z0 g → GenOk Tryz.prog 80 g := by
 rintro _ ⟨a0, a1, a2, a3, a4, a5, a6, a7, a8, a9, a10, a11, r, H, rfl⟩
 refine xGn mixed [(57, JH)] [] [] ⟨⟨call_57, Vo⟩, trivial⟩ trivial trivial Tryz.func80 _ ?_
 have G := True.intro
 have Y := xZ y_3 <| xZ y_9 <| xZ y_24 <| xZ y_39 <| xZ y_43 <| xZ Tryz.results80 <| xZ d_Call.eq_1 <| xZ d_Token.eq_1 <| xZ d_Macro.eq_1 <| ZM.eq_1
 dsimp only [ZM]
 simp only [Jb2] at H
 refine xS ?_
 refine xr ?_
 refine xr ?_
 rcases bsplit H with ⟨hp1, H⟩ | ⟨hp1, H⟩
 ·obtain ⟨F, G, hq1⟩ := xH Y G hp1
  refine xT ?_
  replace H := Option.some.inj H
  refine xr ?_
  subst H
  refine xOr ?_
  refine qDf [] ?_
  exact xO ⟨[1], []⟩
 ·obtain ⟨F, G, hq1⟩ := xH Y G hp1
  refine xE ?_
  obtain ⟨r1, hr1, H⟩ := osplit H
  have F := xC Y (VA a0.Params a2 r1 hr1)
  replace H := Option.some.inj H
  refine xR ?_
  subst H
  refine xOr ?_
  refine qDf [] ?_
  exact xO ⟨[1], []⟩
theorem V1 : Callable Tryz.prog 80 ∧ (∀ g, Z0 g → GenOk Tryz.prog 80 g) ∧ (true = true → ∀ g, Z0 g → ∃ val bs ts, g.out = .ret val bs ts) :=
 ⟨call_80, JeP, fun _ => by rintro _ ⟨_, _, _, _, _, _, _, _, _, _, _, _, _, _, rfl⟩; exact ⟨_, _, _, rfl⟩⟩
noncomputable def JaJ (a0 : Macro) (a1 : Token) : Option Int :=
 if (!eqI a1.Kind 1) = true then some (-1) else (Jk a0.Params a1.Text).bind fun r1 => some r1
def Xy (a0 : Macro) (a1 : Token) (r : Int) : GI :=
 ⟨[.c (.pp (List.drop 0 (d_Macro a0).cells)), .c (.pp (List.drop 0 (d_Token a1).cells))], [], [], .ret (.c (.d (.v (.int .i64 r)))) [] []⟩
def XE : GI → Prop := fun g => ∃ (a0 : Macro) (a1 : Token) (r : Int), JaJ a0 a1 = some r ∧ g = Xy a0 a1 r
theorem Jef (a0 : Macro) (a1 : Token) (r : Int) (H : JaJ a0 a1 = some r) : XE (Xy a0 a1 r) := ⟨a0, a1, r, H, rfl⟩
theorem JdZ : ∀ g, XE g → GenOk Tryz.prog 80 g := by
 rintro _ ⟨a0, a1, r, H, rfl⟩
 refine xGn mixed [(57, JH)] [] [] ⟨⟨call_57, Vo⟩, trivial⟩ trivial trivial Tryz.func80 _ ?_
 have G := True.intro
 have Y := xZ y_3 <| xZ y_9 <| xZ y_24 <| xZ y_39 <| xZ y_43 <| xZ Tryz.results80 <| xZ d_Call.eq_1 <| xZ d_Token.eq_1 <| xZ d_Macro.eq_1 <| Xy.eq_1
 dsimp only [Xy]
 simp only [JaJ] at H
 refine xS ?_
 refine xr ?_
 refine xr ?_
 rcases bsplit H with ⟨hp1, H⟩ | ⟨hp1, H⟩
 ·obtain ⟨F, G, hq1⟩ := xH Y G hp1
  refine xT ?_
  replace H := Option.some.inj H
  refine xr ?_
  subst H
  refine xOr ?_
  refine qDf [] ?_
  exact xO ⟨[], []⟩
 ·obtain ⟨F, G, hq1⟩ := xH Y G hp1
  refine xE ?_
  obtain ⟨r1, hr1, H⟩ := osplit H
  have F := xC Y (VA a0.Params a1.Text r1 hr1)
  replace H := Option.some.inj H
  refine xR ?_
  subst H
  refine xOr ?_
  refine qDf [] ?_
  exact xO ⟨[], []⟩
theorem KU : Callable Tryz.prog 80 ∧ (∀ g, XE g → GenOk Tryz.prog 80 g) ∧ (true = true → ∀ g, XE g → ∃ val bs ts, g.out = .ret val bs ts) :=
 ⟨call_80, JdZ, fun _ => by rintro _ ⟨_, _, _, _, rfl⟩; exact ⟨_, _, _, rfl⟩⟩
noncomputable def Jai : (List Token) → Option (List Token)
 | x1 => some x1
noncomputable def Zh (a0 : Bool) (a1 : List Token) : Option (List Token) :=
 if (ltI 0 ((a1.length : Nat) : Int)) = true then if 0 < a1.length then if 0 < a1.length then Jai (List.set a1 0 (⟨(a1.getD 0 default).Kind, (a1.getD 0 default).Text, a0, (a1.getD 0 default).First, (a1.getD 0 default).File, (a1.getD 0 default).At, (a1.getD 0 default).End, (a1.getD 0 default).Line, (a1.getD 0 default).Hide, (a1.getD 0 default).Calls, (a1.getD 0 default).Made⟩ : Token)) else none else none else Jai a1
def Xo (a0 : Bool) (a1 : List Token) (r : (List Token)) : GI :=
 ⟨[.c (.os 1 11 0 a1.length), .c (.d (.v (.bool a0)))], [[.arr 11 (List.map d_Token a1)]], [], .ret (.c (.os 1 11 0 r.length)) [[.arr 11 (List.map d_Token r)]] []⟩
def Xp : GI → Prop := fun g => ∃ (a0 : Bool) (a1 : List Token) (r : (List Token)), Zh a0 a1 = some r ∧ g = Xo a0 a1 r
theorem Jb0 (a0 : Bool) (a1 : List Token) (r : (List Token)) (H : Zh a0 a1 = some r) : Xp (Xo a0 a1 r) := ⟨a0, a1, r, H, rfl⟩
theorem Jet : ∀ g, Xp g → GenOk Tryz.prog 68 g := by
 rintro _ ⟨a0, a1, r, H, rfl⟩
 refine xGn mixed [] [] [] trivial trivial trivial Tryz.func68 _ ?_
 have G := True.intro
 have Y := xZ y_4 <| xZ y_25 <| xZ y_39 <| xZ Tryz.results68 <| xZ d_Call.eq_1 <| xZ d_Token.eq_1 <| Xo.eq_1
 dsimp only [Xo]
 simp only [Zh] at H
 refine xS ?_
 refine xr0 ?_
 refine then_normal ?_
 refine w_cut Jai (fun s => [(0, .c (.os 1 11 0 s.length))]) (fun s => [[.arr 11 (List.map d_Token s)]]) [] r ?_ ?_
 ·refine xS ?_
  refine xr ?_
  rcases bsplit H with ⟨hp1, H⟩ | ⟨hp1, H⟩
  ·obtain ⟨F, G, hq1⟩ := xH Y G hp1
   refine xT ?_
   obtain ⟨hg1, H⟩ := gsplit H
   obtain ⟨hg, H⟩ := gsplit H
   have F := xZ Y (map_getD d_Token a1 0 default default (by omega))
   have F := xZ F (set_len d_Token a1 0)
   have F := xZ F (set_get d_Token a1 (show 0 < a1.length by omega))
   have F := xZ F (set_set d_Token a1 0)
   refine xR ?_
   exact cut_at H (xK ⟨[1], []⟩)
  ·obtain ⟨F, G, hq1⟩ := xH Y G hp1
   refine xE ?_
   exact cut_at H (xK ⟨[1], []⟩)
 ·rintro x1 H
  rw [Jai] at H
  refine xS ?_
  replace H := Option.some.inj H
  refine xr ?_
  subst H
  refine xOr ?_
  refine qDf [] ?_
  exact xO ⟨[1], []⟩
theorem JN : Callable Tryz.prog 68 ∧ (∀ g, Xp g → GenOk Tryz.prog 68 g) ∧ (true = true → ∀ g, Xp g → ∃ val bs ts, g.out = .ret val bs ts) :=
 ⟨call_68, Jet, fun _ => by rintro _ ⟨_, _, _, _, rfl⟩; exact ⟨_, _, _, rfl⟩⟩
noncomputable def XL (a0 : List Token) (a1 : Token) (a2 : List Macro) (a3 : List Source) (a4 : Int) (a5 : Int) (a6 : List Token) : Option (GR Unit (List Token)) :=
 if (eqI (a0.length : Int) 0) = true then some (.ok a6) else if (eqI ((a6.length : Nat) : Int) 0) = true then if (a6.length + a0.length) * 120 ≤ 140737488355328 then some (.ok (a6 ++ a0)) else none else if (0 : Int) ≤ (IntKind.i64.wrap (((a6.length : Nat) : Int) - 1)) ∧ (IntKind.i64.wrap (((a6.length : Nat) : Int) - 1)).toNat < a6.length then if (IntKind.i64.wrap (((a6.length : Nat) : Int) - 1)).toNat < a6.length then if 0 < a0.length then (Jcw (a6.getD ((IntKind.i64.wrap (((a6.length : Nat) : Int) - 1)).toNat) default) (a0.getD 0 default)).bind fun r1 => if (!r1.2) = true then (Z4 12 a1).bind fun e1 => some (.er ()) else if (0 : Int) ≤ 0 ∧ 0 ≤ (IntKind.i64.wrap (((a6.length : Nat) : Int) - 1)) ∧ (IntKind.i64.wrap (((a6.length : Nat) : Int) - 1)) ≤ ((a6.length : Nat) : Int) then if (IntKind.i64.wrap (((a6.length : Nat) : Int) - 1)).toNat ≤ a6.length ∧ ((IntKind.i64.wrap (((a6.length : Nat) : Int) - 1)).toNat + [r1.1].length) * 120 ≤ 140737488355328 then if (0 : Int) ≤ 1 ∧ 1 ≤ (a0.length : Int) ∧ (a0.length : Int) ≤ (a0.length : Int) then if ((IntKind.i64.wrap (((a6.length : Nat) : Int) - 1)).toNat + [r1.1].length + (List.drop 1 a0).length) * 120 ≤ 140737488355328 then some (.ok (((List.take ((IntKind.i64.wrap (((a6.length : Nat) : Int) - 1)).toNat) a6) ++ [r1.1]) ++ (List.drop 1 a0))) else none else none else none else none else none else none else none
def Jdq (a0 : List Token) (a1 : Token) (a2 : List Macro) (a3 : List Source) (a4 : Int) (a5 : Int) (a6 : List Token) : GR Unit (List Token) → GOut
 | .ok r => .ret (.c (.os 3 11 0 r.length)) [[.d (.sl 5 (List.map d_Macro a2)), .d (.sl 2 (List.map d_Source a3)), .d (.v (.int .i64 a4)), .d (.v (.int .i64 a5))], [], [.arr 11 (List.map d_Token r)]] []
 | .er r => .pan (.iface 78 (.agg ⟨[.int .i64 12, .int .i64 a1.File, .int .i64 a1.At]⟩)) [[.d (.sl 5 (List.map d_Macro a2)), .d (.sl 2 (List.map d_Source a3)), .d (.v (.int .i64 a4)), .d (.v (.int .i64 a5))], []] []
def K7 (a0 : List Token) (a1 : Token) (a2 : List Macro) (a3 : List Source) (a4 : Int) (a5 : Int) (a6 : List Token) (r : GR Unit (List Token)) : GI :=
 ⟨[.c (.pt 1 0), .c (.os 2 11 0 a6.length), .c (.d (.sl 11 (List.map d_Token a0))), .c (.pp (List.drop 0 (d_Token a1).cells))], [[.d (.sl 5 (List.map d_Macro a2)), .d (.sl 2 (List.map d_Source a3)), .d (.v (.int .i64 a4)), .d (.v (.int .i64 a5))], [.arr 11 (List.map d_Token a6)]], [], Jdq a0 a1 a2 a3 a4 a5 a6 r⟩
def K8 : GI → Prop := fun g => ∃ (a0 : List Token) (a1 : Token) (a2 : List Macro) (a3 : List Source) (a4 : Int) (a5 : Int) (a6 : List Token) (r : GR Unit (List Token)), XL a0 a1 a2 a3 a4 a5 a6 = some r ∧ g = K7 a0 a1 a2 a3 a4 a5 a6 r
theorem Jbt (a0 : List Token) (a1 : Token) (a2 : List Macro) (a3 : List Source) (a4 : Int) (a5 : Int) (a6 : List Token) (r : GR Unit (List Token)) (H : XL a0 a1 a2 a3 a4 a5 a6 = some r) : K8 (K7 a0 a1 a2 a3 a4 a5 a6 r) := ⟨a0, a1, a2, a3, a4, a5, a6, r, H, rfl⟩
theorem Jdi : ∀ g, K8 g → GenOk Tryz.prog 82 g := by
 rintro _ ⟨a0, a1, a2, a3, a4, a5, a6, r, H, rfl⟩
 refine xGn mixed [(90, Jcm)] [(39, false, VY)] [] ⟨⟨call_90, Jfe⟩, trivial⟩ ⟨Jc9, trivial⟩ trivial Tryz.func82 _ ?_
 have G := True.intro
 have Y := xZ y_25 <| xZ y_39 <| xZ Tryz.results82 <| xZ d_Source.eq_1 <| xZ d_Call.eq_1 <| xZ d_Token.eq_1 <| xZ d_Macro.eq_1 <| xZ Xa.eq_1 <| K7.eq_1
 dsimp only [K7]
 simp only [XL] at H
 refine xS ?_
 refine xrn 2 1 ?_
 refine xr ?_
 refine xr ?_
 rcases bsplit H with ⟨hp1, H⟩ | ⟨hp1, H⟩
 ·obtain ⟨F, G, hq1⟩ := xH Y G hp1
  refine xT ?_
  replace H := Option.some.inj H
  refine xr ?_
  subst H
  refine xOr ?_
  refine qDf [] ?_
  exact xO ⟨[1, 2, 3], []⟩
 ·obtain ⟨F, G, hq1⟩ := xH Y G hp1
  refine xE ?_
  refine xr ?_
  rcases bsplit H with ⟨hp2, H⟩ | ⟨hp2, H⟩
  ·obtain ⟨F, G, hq2⟩ := xH Y G hp2
   refine xT ?_
   obtain ⟨hg1, H⟩ := gsplit H
   have F := xZ Y (all_map one_Token a0)
   have A := all_map one_Token a0
   replace H := Option.some.inj H
   refine xR ?_
   subst H
   refine xOr ?_
   refine qDf [] ?_
   exact xO ⟨[1, 2, 4], []⟩
  ·obtain ⟨F, G, hq2⟩ := xH Y G hp2
   refine xE ?_
   obtain ⟨hg2, H⟩ := gsplit H
   obtain ⟨hg, H⟩ := gsplit H
   have F := xZ Y (map_getD d_Token a6 ((IntKind.i64.wrap (((a6.length : Nat) : Int) - 1)).toNat) default default (by omega))
   obtain ⟨hg3, H⟩ := gsplit H
   have F := xZ F (map_getD d_Token a0 0 default default (by omega))
   obtain ⟨r1, hr1, H⟩ := osplit H
   have F := xCf F (Jfj (a6.getD ((IntKind.i64.wrap (((a6.length : Nat) : Int) - 1)).toNat) default) (a0.getD 0 default) r1 hr1)
   refine xR ?_
   refine xr ?_
   rcases bsplit H with ⟨hp3, H⟩ | ⟨hp3, H⟩
   ·obtain ⟨F, G, hq3⟩ := xH Y G hp3
    refine xT ?_
    obtain ⟨e1, hr3, H⟩ := osplit H
    have F := Y
    refine xQp [36, 37] ?_
    refine xs 1 ?_
    refine xp ⟨[], []⟩ (tabG 0 (Jc2 12 a1 e1 hr3)) ?_
    replace H := Option.some.inj H
    refine xS ?_
    subst H
    refine xOp ?_
    refine qDf [] ?_
    exact xOv ⟨[1, 2], []⟩
   ·obtain ⟨F, G, hq3⟩ := xH Y G hp3
    refine xE ?_
    obtain ⟨hg4, H⟩ := gsplit H
    obtain ⟨hg5, H⟩ := gsplit H
    have F := xZ Y (all_map one_Token [r1.1])
    have T := take_len a6 ((IntKind.i64.wrap (((a6.length : Nat) : Int) - 1)).toNat) (by omega)
    have F := xZ F (Nat.min_eq_left (show (IntKind.i64.wrap (((a6.length : Nat) : Int) - 1)).toNat ≤ a6.length by omega))
    have G := xZ G (Nat.min_eq_left (show (IntKind.i64.wrap (((a6.length : Nat) : Int) - 1)).toNat ≤ a6.length by omega))
    have F := xZ F (take_app2 d_Token T)
    have G := xZ G (take_app2 d_Token T)
    have L : [r1.1].length = 1 := rfl
    obtain ⟨hg6, H⟩ := gsplit H
    obtain ⟨hg7, H⟩ := gsplit H
    have F := xZ F (all_map one_Token (List.drop 1 a0))
    have A := all_map one_Token (List.drop 1 a0)
    replace H := Option.some.inj H
    refine xR ?_
    subst H
    refine xOr ?_
    refine qDf [] ?_
    exact xO ⟨[1, 2, 6], []⟩
theorem JR : Callable Tryz.prog 82 ∧ (∀ g, K8 g → GenOk Tryz.prog 82 g) ∧ (false = true → ∀ g, K8 g → ∃ val bs ts, g.out = .ret val bs ts) :=
 ⟨call_82, Jdi, nofun⟩
noncomputable def Vd (a0 : List (List (List UInt8))) : (Int × Int × (List (List UInt8))) → Option ((Int × Int × (List (List UInt8))) ⊕ (List (List UInt8)))
 | (x4, x5, x6) => if (ltI x5 x4) = true then if (0 : Int) ≤ x5 ∧ x5.toNat < a0.length then if (x6.length + (a0.getD x5.toNat default).length) * 16 ≤ 140737488355328 then some (.inl (x4, IntKind.i64.wrap (x5 + 1), x6 ++ (a0.getD x5.toNat default))) else none else none else inrO (some x6)
noncomputable def Vf (a0 : List (List (List UInt8))) : (Int × Int × Int) → Option ((Int × Int × Int) ⊕ (List (List UInt8)))
 | (x1, x2, x3) => if (ltI x3 x2) = true then if (0 : Int) ≤ x3 ∧ x3.toNat < a0.length then if (ltI (IntKind.i64.wrap (x1 + ((a0.getD x3.toNat default).length : Int))) 0) = true then none else some (.inl (IntKind.i64.wrap (x1 + ((a0.getD x3.toNat default).length : Int)), x2, IntKind.i64.wrap (x3 + 1))) else none else inrO ((KX x1).bind fun r1 => loopO (Vd a0) ((a0.length : Int), 0, ([] : List (List UInt8))))
noncomputable def Ks (a0 : List (List (List UInt8))) : Option (List (List UInt8)) :=
 loopO (Vf a0) (0, (a0.length : Int), 0)
def JI (a0 : List (List (List UInt8))) (r : (List (List UInt8))) : GI :=
 ⟨[.c (.d (.sl 1 (List.map (dL 1 dS) a0)))], [], [], .ret (.c (.os 1 1 0 r.length)) [[.arr 1 (List.map dS r)]] []⟩
def JJ : GI → Prop := fun g => ∃ (a0 : List (List (List UInt8))) (r : (List (List UInt8))), Ks a0 = some r ∧ g = JI a0 r
theorem JbV (a0 : List (List (List UInt8))) (r : (List (List UInt8))) (H : Ks a0 = some r) : JJ (JI a0 r) := ⟨a0, r, H, rfl⟩
theorem JbL : ∀ g, JJ g → GenOk Tryz.prog 76 g := by
 rintro _ ⟨a0, r, H, rfl⟩
 refine xGn mixed [] [(84, true, JV)] [] trivial ⟨Jcg, trivial⟩ trivial Tryz.func76 _ ?_
 have G := True.intro
 have Y := xZ y_9 <| xZ y_24 <| xZ y_131 <| xZ Tryz.results76 <| xZ Kt.eq_1 <| JI.eq_1
 dsimp only [JI]
 simp only [Ks] at H
 refine xS ?_
 refine xr ?_
 refine xr ?_
 refine xr ?_
 refine w_loop (Vf a0) (fun s => [(0, .c (.d (.sl 1 (List.map (dL 1 dS) a0)))), (3, .c (.d (.v (.int .i64 s.1)))), (9, .c (.d (.sl 1 (List.map (dL 1 dS) a0)))), (10, .c (.d (.v (.int .i64 s.2.1)))), (11, .c (.d (.v (.int .i64 s.2.2))))]) (fun s => []) [] H (xK ⟨[], []⟩) ?_
 rintro n1 ⟨x1, x2, x3⟩ o1 H hF1
 rw [Vf] at H
 refine xS ?_
 refine xr ?_
 rcases bsplit H with ⟨hp1, H⟩ | ⟨hp1, H⟩
 ·obtain ⟨F, G, hq1⟩ := xH Y G hp1
  refine xT ?_
  obtain ⟨hg1, H⟩ := gsplit H
  have F := xZ Y (map_getD (dL 1 dS) a0 x3.toNat default default (by omega))
  refine xR ?_
  refine xr ?_
  refine xr ?_
  rcases bsplit H with ⟨hp2, H⟩ | ⟨hp2, H⟩
  ·obtain ⟨F, G, hq2⟩ := xH Y G hp2
   refine xT ?_
   cases H
  ·obtain ⟨F, G, hq2⟩ := xH Y G hp2
   refine xE ?_
   refine xr ?_
   exact round_at (inl_fin H hF1) (xK ⟨[], []⟩)
 ·obtain ⟨F, G, hq1⟩ := xH Y G hp1
  replace H := inrO_fin H hF1
  refine xE ?_
  obtain ⟨r1, hr1, H⟩ := osplit H
  have F := Y
  refine xQ ?_
  refine xs 1 ?_
  refine xc ⟨[], []⟩ (tabG 0 (Jce x1 r1 hr1)) ?_
  refine xs 1 ?_
  refine xl ?_
  refine xS ?_
  refine xr ?_
  refine w_loop (Vd a0) (fun s => [(6, .c (.os 1 1 0 s.2.2.length)), (25, .c (.d (.sl 1 (List.map (dL 1 dS) a0)))), (26, .c (.d (.v (.int .i64 s.1)))), (27, .c (.d (.v (.int .i64 s.2.1))))]) (fun s => [[.arr 1 (List.map dS s.2.2)]]) [] H (xK ⟨[1], []⟩) ?_
  rintro n2 ⟨x4, x5, x6⟩ o2 H hF2
  rw [Vd] at H
  refine xS ?_
  refine xr ?_
  rcases bsplit H with ⟨hp3, H⟩ | ⟨hp3, H⟩
  ·obtain ⟨F, G, hq3⟩ := xH Y G hp3
   refine xT ?_
   obtain ⟨hg2, H⟩ := gsplit H
   have F := xZ Y (map_getD (dL 1 dS) a0 x5.toNat default default (by omega))
   refine xR ?_
   obtain ⟨hg3, H⟩ := gsplit H
   have F := xZ Y (all_map one_dS (a0.getD x5.toNat default))
   have A := all_map one_dS (a0.getD x5.toNat default)
   refine xR ?_
   refine xr ?_
   exact round_at (inl_fin H hF2) (xK ⟨[2], []⟩)
  ·obtain ⟨F, G, hq3⟩ := xH Y G hp3
   replace H := inrO_fin H hF2
   refine xE ?_
   replace H := Option.some.inj H
   refine xr ?_
   subst H
   refine xOr ?_
   refine qDf [] ?_
   exact xO ⟨[1], []⟩
theorem JbW : Callable Tryz.prog 76 ∧ (∀ g, JJ g → GenOk Tryz.prog 76 g) ∧ (true = true → ∀ g, JJ g → ∃ val bs ts, g.out = .ret val bs ts) :=
 ⟨call_76, JbL, fun _ => by rintro _ ⟨_, _, _, rfl⟩; exact ⟨_, _, _, rfl⟩⟩
noncomputable def Kx (a0 : List (List Call)) : ((List Call) × Int × Int) → Option (((List Call) × Int × Int) ⊕ (List Call))
 | (x4, x5, x6) => if (ltI x6 x5) = true then if (0 : Int) ≤ x6 ∧ x6.toNat < a0.length then if (x4.length + (a0.getD x6.toNat default).length) * 32 ≤ 140737488355328 then some (.inl (x4 ++ (a0.getD x6.toNat default), x5, IntKind.i64.wrap (x6 + 1))) else none else none else inrO (some x4)
noncomputable def KA (a0 : List (List Call)) : (Int × Int × Int) → Option ((Int × Int × Int) ⊕ (List Call))
 | (x1, x2, x3) => if (ltI x3 x2) = true then if (0 : Int) ≤ x3 ∧ x3.toNat < a0.length then if (ltI (IntKind.i64.wrap (x1 + ((a0.getD x3.toNat default).length : Int))) 0) = true then none else some (.inl (IntKind.i64.wrap (x1 + ((a0.getD x3.toNat default).length : Int)), x2, IntKind.i64.wrap (x3 + 1))) else none else inrO ((Kb x1).bind fun r1 => loopO (Kx a0) (([] : List Call), (a0.length : Int), 0))
noncomputable def J1 (a0 : List (List Call)) : Option (List Call) :=
 loopO (KA a0) (0, (a0.length : Int), 0)
def Jp (a0 : List (List Call)) (r : (List Call)) : GI :=
 ⟨[.c (.d (.sl 1 (List.map (dL 3 d_Call) a0)))], [], [], .ret (.c (.sl 3 (List.map d_Call r) 1)) [] [49]⟩
def Jo : GI → Prop := fun g => ∃ (a0 : List (List Call)) (r : (List Call)), J1 a0 = some r ∧ g = Jp a0 r
theorem Ja8 (a0 : List (List Call)) (r : (List Call)) (H : J1 a0 = some r) : Jo (Jp a0 r) := ⟨a0, r, H, rfl⟩
theorem Ja5 : ∀ g, Jo g → GenOk Tryz.prog 79 g := by
 rintro _ ⟨a0, r, H, rfl⟩
 refine xGn mixed [] [(87, true, Jv)] [] trivial ⟨Jbs, trivial⟩ trivial Tryz.func79 _ ?_
 have G := True.intro
 have Y := xZ y_9 <| xZ y_37 <| xZ y_49 <| xZ y_136 <| xZ Tryz.results79 <| xZ d_Call.eq_1 <| xZ J3.eq_1 <| Jp.eq_1
 dsimp only [Jp]
 simp only [J1] at H
 refine xS ?_
 refine xr ?_
 refine xr ?_
 refine xr ?_
 refine w_loop (KA a0) (fun s => [(0, .c (.d (.sl 1 (List.map (dL 3 d_Call) a0)))), (3, .c (.d (.v (.int .i64 s.1)))), (9, .c (.d (.sl 1 (List.map (dL 3 d_Call) a0)))), (10, .c (.d (.v (.int .i64 s.2.1)))), (11, .c (.d (.v (.int .i64 s.2.2))))]) (fun s => []) [] H (xK ⟨[], []⟩) ?_
 rintro n1 ⟨x1, x2, x3⟩ o1 H hF1
 rw [KA] at H
 refine xS ?_
 refine xr ?_
 rcases bsplit H with ⟨hp1, H⟩ | ⟨hp1, H⟩
 ·obtain ⟨F, G, hq1⟩ := xH Y G hp1
  refine xT ?_
  obtain ⟨hg1, H⟩ := gsplit H
  have F := xZ Y (map_getD (dL 3 d_Call) a0 x3.toNat default default (by omega))
  refine xR ?_
  refine xr ?_
  refine xr ?_
  rcases bsplit H with ⟨hp2, H⟩ | ⟨hp2, H⟩
  ·obtain ⟨F, G, hq2⟩ := xH Y G hp2
   refine xT ?_
   cases H
  ·obtain ⟨F, G, hq2⟩ := xH Y G hp2
   refine xE ?_
   refine xr ?_
   exact round_at (inl_fin H hF1) (xK ⟨[], []⟩)
 ·obtain ⟨F, G, hq1⟩ := xH Y G hp1
  replace H := inrO_fin H hF1
  refine xE ?_
  obtain ⟨r1, hr1, H⟩ := osplit H
  have F := Y
  refine xQ ?_
  refine xs 1 ?_
  refine xc ⟨[], []⟩ (tabG 0 (Jbv x1 r1 hr1)) ?_
  refine xs 1 ?_
  refine xl ?_
  refine xS ?_
  refine xr ?_
  refine w_loop (Kx a0) (fun s => [(6, .c (.sl 3 (List.map d_Call s.1) 1)), (25, .c (.d (.sl 1 (List.map (dL 3 d_Call) a0)))), (26, .c (.d (.v (.int .i64 s.2.1)))), (27, .c (.d (.v (.int .i64 s.2.2))))]) (fun s => []) [49] H (xK ⟨[], [1]⟩) ?_
  rintro n2 ⟨x4, x5, x6⟩ o2 H hF2
  rw [Kx] at H
  refine xS ?_
  refine xr ?_
  rcases bsplit H with ⟨hp3, H⟩ | ⟨hp3, H⟩
  ·obtain ⟨F, G, hq3⟩ := xH Y G hp3
   refine xT ?_
   obtain ⟨hg2, H⟩ := gsplit H
   have F := xZ Y (map_getD (dL 3 d_Call) a0 x6.toNat default default (by omega))
   refine xR ?_
   obtain ⟨hg3, H⟩ := gsplit H
   have F := xZ Y (all_map one_Call (a0.getD x6.toNat default))
   have A := all_map one_Call (a0.getD x6.toNat default)
   refine xR ?_
   refine xr ?_
   exact round_at (inl_fin H hF2) (xK ⟨[], [2]⟩)
  ·obtain ⟨F, G, hq3⟩ := xH Y G hp3
   replace H := inrO_fin H hF2
   refine xE ?_
   replace H := Option.some.inj H
   refine xr ?_
   subst H
   refine xOr ?_
   refine qDf [] ?_
   exact xO ⟨[], [1]⟩
theorem Jbg : Callable Tryz.prog 79 ∧ (∀ g, Jo g → GenOk Tryz.prog 79 g) ∧ (true = true → ∀ g, Jo g → ∃ val bs ts, g.out = .ret val bs ts) :=
 ⟨call_79, Ja5, fun _ => by rintro _ ⟨_, _, _, rfl⟩; exact ⟨_, _, _, rfl⟩⟩
noncomputable def Jcr (a0 : List (List UInt8)) (a1 : List Call) : (Int × Int × (List Token)) → Option ((Int × Int × (List Token)) ⊕ (List Token))
 | (x1, x2, x3) => if (ltI x2 x1) = true then if (0 : Int) ≤ x2 ∧ x2.toNat < x3.length then if x2.toNat < x3.length then (Ks [(x3.getD x2.toNat default).Hide, a0]).bind fun r1 => (KZ r1).bind fun r2 => (Ki (JbF r1)).bind fun r3 => if (0 : Int) ≤ x2 ∧ x2.toNat < x3.length then if x2.toNat < x3.length then if (0 : Int) ≤ x2 ∧ x2.toNat < x3.length then if x2.toNat < x3.length then (J1 [a1, (x3.getD x2.toNat default).Calls]).bind fun r4 => if (0 : Int) ≤ x2 ∧ x2.toNat < x3.length then if x2.toNat < x3.length then some (.inl (x1, IntKind.i64.wrap (x2 + 1), List.set x3 x2.toNat (⟨(x3.getD x2.toNat default).Kind, (x3.getD x2.toNat default).Text, (x3.getD x2.toNat default).Space, (x3.getD x2.toNat default).First, (x3.getD x2.toNat default).File, (x3.getD x2.toNat default).At, (x3.getD x2.toNat default).End, (x3.getD x2.toNat default).Line, compactS (JbF r1), r4, (x3.getD x2.toNat default).Made⟩ : Token))) else none else none else none else none else none else none else none else none else inrO (some x3)
noncomputable def Jcx (a0 : List (List UInt8)) (a1 : List Call) (a2 : List Token) : Option (List Token) :=
 loopO (Jcr a0 a1) (((a2.length : Nat) : Int), 0, a2)
def Jaq (a0 : List (List UInt8)) (a1 : List Call) (a2 : List Token) (r : (List Token)) : GI :=
 ⟨[.c (.os 1 11 0 a2.length), .c (.d (.sl 1 (List.map dS a0))), .c (.d (.sl 3 (List.map d_Call a1)))], [[.arr 11 (List.map d_Token a2)]], [], .ret (.c (.os 1 11 0 r.length)) [[.arr 11 (List.map d_Token r)]] []⟩
def Jar : GI → Prop := fun g => ∃ (a0 : List (List UInt8)) (a1 : List Call) (a2 : List Token) (r : (List Token)), Jcx a0 a1 a2 = some r ∧ g = Jaq a0 a1 a2 r
theorem Jfm (a0 : List (List UInt8)) (a1 : List Call) (a2 : List Token) (r : (List Token)) (H : Jcx a0 a1 a2 = some r) : Jar (Jaq a0 a1 a2 r) := ⟨a0, a1, a2, r, H, rfl⟩
theorem Je1 : ∀ g, Jar g → GenOk Tryz.prog 65 g := by
 rintro _ ⟨a0, a1, a2, r, H, rfl⟩
 refine xGn mixed [] [(76, true, JJ), (77, true, JU), (78, true, Jx), (79, true, Jo)] [] trivial ⟨JbW, Jch, JbR, Jbg, trivial⟩ trivial Tryz.func65 _ ?_
 have G := True.intro
 have Y := xZ y_24 <| xZ y_25 <| xZ y_37 <| xZ y_39 <| xZ y_131 <| xZ y_136 <| xZ Tryz.results65 <| xZ d_Call.eq_1 <| xZ d_Token.eq_1 <| xZ JI.eq_1 <| xZ Ku.eq_1 <| xZ J7.eq_1 <| xZ Jp.eq_1 <| Jaq.eq_1
 dsimp only [Jaq]
 simp only [Jcx] at H
 refine xS ?_
 refine xr ?_
 refine xr ?_
 refine w_loop (Jcr a0 a1) (fun s => [(0, .c (.os 1 11 0 s.2.2.length)), (1, .c (.d (.sl 1 (List.map dS a0)))), (2, .c (.d (.sl 3 (List.map d_Call a1)))), (10, .c (.d (.v (.int .i64 s.1)))), (11, .c (.d (.v (.int .i64 s.2.1))))]) (fun s => [[.arr 11 (List.map d_Token s.2.2)]]) [] H (xK ⟨[1], []⟩) ?_
 rintro n1 ⟨x1, x2, x3⟩ o1 H hF1
 rw [Jcr] at H
 refine xS ?_
 refine xr ?_
 rcases bsplit H with ⟨hp1, H⟩ | ⟨hp1, H⟩
 ·obtain ⟨F, G, hq1⟩ := xH Y G hp1
  refine xT ?_
  refine xr ?_
  obtain ⟨hg1, H⟩ := gsplit H
  obtain ⟨hg, H⟩ := gsplit H
  have F := xZ Y (map_getD d_Token x3 x2.toNat default default (by omega))
  obtain ⟨r1, hr1, H⟩ := osplit H
  have F := F
  refine xQ ?_
  refine xs 7 ?_
  refine xc ⟨[], []⟩ (tabG 0 (JbV [(x3.getD x2.toNat default).Hide, a0] r1 hr1)) ?_
  refine xs 1 ?_
  refine xl ?_
  refine xS ?_
  obtain ⟨r2, hr2, H⟩ := osplit H
  have F := Y
  refine xQ ?_
  refine xs 1 ?_
  refine xc ⟨[2], []⟩ (tabG 1 (Jcf r1 r2 hr2)) ?_
  refine xl ?_
  refine xS ?_
  obtain ⟨r3, hr3, H⟩ := osplit H
  have F := xZ Y JdW
  obtain ⟨hg2, H⟩ := gsplit H
  obtain ⟨hg, H⟩ := gsplit H
  have F := xZ F (map_getD d_Token x3 x2.toNat default default (by omega))
  have F := xZ F (set_len d_Token x3 x2.toNat)
  have F := xZ F (set_get d_Token x3 (show x2.toNat < x3.length by omega))
  have F := xZ F (set_set d_Token x3 x2.toNat)
  refine xQ ?_
  refine xs 3 ?_
  refine xc ⟨[2], []⟩ (tabG 2 (JbQ (JbF r1) r3 hr3)) ?_
  refine xs 3 ?_
  refine xl ?_
  refine xS ?_
  obtain ⟨hg3, H⟩ := gsplit H
  obtain ⟨hg, H⟩ := gsplit H
  have F := xZ Y (map_getD d_Token x3 x2.toNat default default (by omega))
  have F := xZ F (set_len d_Token x3 x2.toNat)
  have F := xZ F (set_get d_Token x3 (show x2.toNat < x3.length by omega))
  have F := xZ F (set_set d_Token x3 x2.toNat)
  obtain ⟨r4, hr4, H⟩ := osplit H
  have F := F
  obtain ⟨hg4, H⟩ := gsplit H
  obtain ⟨hg, H⟩ := gsplit H
  have F := xZ F (map_getD d_Token x3 x2.toNat default default (by omega))
  have F := xZ F (set_len d_Token x3 x2.toNat)
  have F := xZ F (set_get d_Token x3 (show x2.toNat < x3.length by omega))
  have F := xZ F (set_set d_Token x3 x2.toNat)
  refine xQ ?_
  refine xs 9 ?_
  refine xc ⟨[], []⟩ (tabG 3 (Ja8 [a1, (x3.getD x2.toNat default).Calls] r4 hr4)) ?_
  refine xs 3 ?_
  refine xl ?_
  refine xS ?_
  refine xr ?_
  exact round_at (inl_fin H hF1) (xK ⟨[1], []⟩)
 ·obtain ⟨F, G, hq1⟩ := xH Y G hp1
  replace H := inrO_fin H hF1
  refine xE ?_
  replace H := Option.some.inj H
  refine xr ?_
  subst H
  refine xOr ?_
  refine qDf [] ?_
  exact xO ⟨[1], []⟩
theorem JbA : Callable Tryz.prog 65 ∧ (∀ g, Jar g → GenOk Tryz.prog 65 g) ∧ (true = true → ∀ g, Jar g → ∃ val bs ts, g.out = .ret val bs ts) :=
 ⟨call_65, Je1, fun _ => by rintro _ ⟨_, _, _, _, _, rfl⟩; exact ⟨_, _, _, rfl⟩⟩
noncomputable def Zd (a1 : List Token) : (Int × Nat × (List Token)) → Option ((Int × Nat × (List Token)) ⊕ (Nat × (List Token)))
 | (x1, x2, x3) => if (leI 0 x1) = true then if (0 : Int) ≤ x1 ∧ x1.toNat < a1.length then if x1.toNat < a1.length then if x2 ≤ x3.length ∧ (x2 + [(a1.getD x1.toNat default)].length) * 120 ≤ 140737488355328 then some (.inl (IntKind.i64.wrap (x1 - 1), x2 + [(a1.getD x1.toNat default)].length, (List.take x2 x3) ++ [(a1.getD x1.toNat default)])) else none else none else none else inrO (some (x2, x3))
noncomputable def XN (a0 : Nat) (a1 : List Token) (a2 : List Token) : Option (Nat × (List Token)) :=
 loopO (Zd a1) (IntKind.i64.wrap (((a1.length : Nat) : Int) - 1), a0, a2)
def K9 (a0 : Nat) (a1 : List Token) (a2 : List Token) (r : (Nat × (List Token))) : GI :=
 ⟨[.c (.pt 1 0), .c (.os 2 11 0 a1.length)], [[.os 3 11 0 a0], [.arr 11 (List.map d_Token a1)], [.arr 11 (List.map d_Token a2)]], [], .ret (.tu []) [[.os 4 11 0 r.1], [], [], [.arr 11 (List.map d_Token r.2)]] []⟩
def Va : GI → Prop := fun g => ∃ (a0 : Nat) (a1 : List Token) (a2 : List Token) (r : (Nat × (List Token))), XN a0 a1 a2 = some r ∧ g = K9 a0 a1 a2 r
theorem Jdm (a0 : Nat) (a1 : List Token) (a2 : List Token) (r : (Nat × (List Token))) (H : XN a0 a1 a2 = some r) : Va (K9 a0 a1 a2 r) := ⟨a0, a1, a2, r, H, rfl⟩
theorem Jde : ∀ g, Va g → GenOk Tryz.prog 33 g := by
 rintro _ ⟨a0, a1, a2, r, H, rfl⟩
 refine xGn mixed [] [] [] trivial trivial trivial Tryz.func33 _ ?_
 have G := True.intro
 have Y := xZ y_25 <| xZ y_39 <| xZ y_79 <| xZ Tryz.results33 <| xZ d_Call.eq_1 <| xZ d_Token.eq_1 <| K9.eq_1
 dsimp only [K9]
 simp only [XN] at H
 refine xS ?_
 refine xrn 2 1 ?_
 refine xrn 3 1 ?_
 refine xr ?_
 refine w_loop (Zd a1) (fun s => [(0, .c (.pt 1 0)), (1, .c (.os 4 11 0 a1.length)), (4, .c (.d (.v (.int .i64 s.1))))]) (fun s => [[.os 5 11 0 s.2.1], [], [], [.arr 11 (List.map d_Token a1)], [.arr 11 (List.map d_Token s.2.2)]]) [] H (xK ⟨[1,2,3,4,5], []⟩) ?_
 rintro n1 ⟨x1, x2, x3⟩ o1 H hF1
 rw [Zd] at H
 refine xS ?_
 refine xr ?_
 rcases bsplit H with ⟨hp1, H⟩ | ⟨hp1, H⟩
 ·obtain ⟨F, G, hq1⟩ := xH Y G hp1
  refine xT ?_
  obtain ⟨hg1, H⟩ := gsplit H
  obtain ⟨hg, H⟩ := gsplit H
  have F := xZ Y (map_getD d_Token a1 x1.toNat default default (by omega))
  obtain ⟨hg2, H⟩ := gsplit H
  have F := xZ F (all_map one_Token [(a1.getD x1.toNat default)])
  have T := take_len x3 x2 (by omega)
  have F := xZ F (Nat.min_eq_left (show x2 ≤ x3.length by omega))
  have G := xZ G (Nat.min_eq_left (show x2 ≤ x3.length by omega))
  have F := xZ F (take_app2 d_Token T)
  have G := xZ G (take_app2 d_Token T)
  have L : [(a1.getD x1.toNat default)].length = 1 := rfl
  refine xR ?_
  refine xr ?_
  exact round_at (inl_fin H hF1) (xK ⟨[1,2,3,4,6], []⟩)
 ·obtain ⟨F, G, hq1⟩ := xH Y G hp1
  replace H := inrO_fin H hF1
  replace H := Option.some.inj H
  refine xE ?_
  subst H
  refine xOn ?_
  refine qDf [] ?_
  exact xO ⟨[1, 2, 3, 5], []⟩
theorem Jdo : Callable Tryz.prog 33 ∧ (∀ g, Va g → GenOk Tryz.prog 33 g) ∧ (true = true → ∀ g, Va g → ∃ val bs ts, g.out = .ret val bs ts) :=
 ⟨call_33, Jde, fun _ => by rintro _ ⟨_, _, _, _, _, rfl⟩; exact ⟨_, _, _, rfl⟩⟩
def Jdv (a0 : List Token) (a1 : List Macro) (a2 : List Source) (a3 : Int) (a4 : Int) : GR (Int × Int × Int × Int) (Int × (List Token)) → GOut
 | .ok r => .ret (.c (.os 2 11 0 r.2.length)) [[.d (.sl 5 (List.map d_Macro a1)), .d (.sl 2 (List.map d_Source a2)), .d (.v (.int .i64 r.1)), .d (.v (.int .i64 a4))], [.arr 11 (List.map d_Token r.2)]] []
 | .er r => .pan (.iface 78 (.agg ⟨[.int .i64 r.1, .int .i64 r.2.1, .int .i64 r.2.2.1]⟩)) [[.d (.sl 5 (List.map d_Macro a1)), .d (.sl 2 (List.map d_Source a2)), .d (.v (.int .i64 r.2.2.2)), .d (.v (.int .i64 a4))]] []
def J0 (a0 : List Token) (a1 : List Macro) (a2 : List Source) (a3 : Int) (a4 : Int) (r : GR (Int × Int × Int × Int) (Int × (List Token))) : GI :=
 ⟨[.c (.pt 1 0), .c (.d (.sl 11 (List.map d_Token a0)))], [[.d (.sl 5 (List.map d_Macro a1)), .d (.sl 2 (List.map d_Source a2)), .d (.v (.int .i64 a3)), .d (.v (.int .i64 a4))]], [], Jdv a0 a1 a2 a3 a4 r⟩
def Jt (q : (List Token) → (List Macro) → (List Source) → Int → Int → Option (GR (Int × Int × Int × Int) (Int × (List Token)))) : GI → Prop := fun g => ∃ (a0 : List Token) (a1 : List Macro) (a2 : List Source) (a3 : Int) (a4 : Int) (r : GR (Int × Int × Int × Int) (Int × (List Token))), q a0 a1 a2 a3 a4 = some r ∧ g = J0 a0 a1 a2 a3 a4 r
theorem ZB (q : (List Token) → (List Macro) → (List Source) → Int → Int → Option (GR (Int × Int × Int × Int) (Int × (List Token)))) (a0 : List Token) (a1 : List Macro) (a2 : List Source) (a3 : Int) (a4 : Int) (r : GR (Int × Int × Int × Int) (Int × (List Token))) (H : q a0 a1 a2 a3 a4 = some r) : Jt q (J0 a0 a1 a2 a3 a4 r) := ⟨a0, a1, a2, a3, a4, r, H, rfl⟩
def Jdn (a0 : Macro) (a1 : Token) (a2 : List Macro) (a3 : List Source) (a4 : Int) (a5 : Int) (a6 : Nat) (a7 : List Token) : GR (Int × Int × Int × Int × Nat) (Int × Nat × (List Token)) → GOut
 | .ok r => .ret (.c (.os 4 11 0 r.2.2.length)) [[.d (.sl 5 (List.map d_Macro a2)), .d (.sl 2 (List.map d_Source a3)), .d (.v (.int .i64 r.1)), .d (.v (.int .i64 a5))], [.os 3 11 0 r.2.1], [.arr 11 (List.map d_Token a7)], [.arr 11 (List.map d_Token r.2.2)]] []
 | .er r => .pan (.iface 78 (.agg ⟨[.int .i64 r.1, .int .i64 r.2.1, .int .i64 r.2.2.1]⟩)) [[.d (.sl 5 (List.map d_Macro a2)), .d (.sl 2 (List.map d_Source a3)), .d (.v (.int .i64 r.2.2.2.1)), .d (.v (.int .i64 a5))], [.os 3 11 0 r.2.2.2.2], [.arr 11 (List.map d_Token a7)]] []
def Vb (a0 : Macro) (a1 : Token) (a2 : List Macro) (a3 : List Source) (a4 : Int) (a5 : Int) (a6 : Nat) (a7 : List Token) (r : GR (Int × Int × Int × Int × Nat) (Int × Nat × (List Token))) : GI :=
 ⟨[.c (.pt 1 0), .c (.pp (List.drop 0 (d_Macro a0).cells)), .ag [.d (.v (.int .i64 a1.Kind)), .d (.v (str a1.Text)), .d (.v (.bool a1.Space)), .d (.v (.bool a1.First)), .d (.v (.int .i64 a1.File)), .d (.v (.int .i64 a1.At)), .d (.v (.int .i64 a1.End)), .d (.v (.int .i64 a1.Line)), .d (.sl 1 (List.map dS a1.Hide)), .d (.sl 3 (List.map d_Call a1.Calls)), .d (.v (.int .i64 a1.Made))], .c (.pt 2 0)], [[.d (.sl 5 (List.map d_Macro a2)), .d (.sl 2 (List.map d_Source a3)), .d (.v (.int .i64 a4)), .d (.v (.int .i64 a5))], [.os 3 11 0 a6], [.arr 11 (List.map d_Token a7)]], [], Jdn a0 a1 a2 a3 a4 a5 a6 a7 r⟩
def JL (q : Macro → Token → (List Macro) → (List Source) → Int → Int → Nat → (List Token) → Option (GR (Int × Int × Int × Int × Nat) (Int × Nat × (List Token)))) : GI → Prop := fun g => ∃ (a0 : Macro) (a1 : Token) (a2 : List Macro) (a3 : List Source) (a4 : Int) (a5 : Int) (a6 : Nat) (a7 : List Token) (r : GR (Int × Int × Int × Int × Nat) (Int × Nat × (List Token))), q a0 a1 a2 a3 a4 a5 a6 a7 = some r ∧ g = Vb a0 a1 a2 a3 a4 a5 a6 a7 r
theorem Jbi (q : Macro → Token → (List Macro) → (List Source) → Int → Int → Nat → (List Token) → Option (GR (Int × Int × Int × Int × Nat) (Int × Nat × (List Token)))) (a0 : Macro) (a1 : Token) (a2 : List Macro) (a3 : List Source) (a4 : Int) (a5 : Int) (a6 : Nat) (a7 : List Token) (r : GR (Int × Int × Int × Int × Nat) (Int × Nat × (List Token))) (H : q a0 a1 a2 a3 a4 a5 a6 a7 = some r) : JL q (Vb a0 a1 a2 a3 a4 a5 a6 a7 r) := ⟨a0, a1, a2, a3, a4, a5, a6, a7, r, H, rfl⟩
def Jdh (a0 : Macro) (a1 : List (List Token)) (a2 : List Macro) (a3 : List Source) (a4 : Int) (a5 : Int) : GR (Int × Int × Int × Int) (Int × (List Token)) → GOut
 | .ok r => .ret (.c (.os 2 11 0 r.2.length)) [[.d (.sl 5 (List.map d_Macro a2)), .d (.sl 2 (List.map d_Source a3)), .d (.v (.int .i64 r.1)), .d (.v (.int .i64 a5))], [.arr 11 (List.map d_Token r.2)]] []
 | .er r => .pan (.iface 78 (.agg ⟨[.int .i64 r.1, .int .i64 r.2.1, .int .i64 r.2.2.1]⟩)) [[.d (.sl 5 (List.map d_Macro a2)), .d (.sl 2 (List.map d_Source a3)), .d (.v (.int .i64 r.2.2.2)), .d (.v (.int .i64 a5))]] []
def KO (a0 : Macro) (a1 : List (List Token)) (a2 : List Macro) (a3 : List Source) (a4 : Int) (a5 : Int) (r : GR (Int × Int × Int × Int) (Int × (List Token))) : GI :=
 ⟨[.c (.pt 1 0), .c (.pp (List.drop 0 (d_Macro a0).cells)), .c (.d (.sl 1 (List.map (dL 11 d_Token) a1)))], [[.d (.sl 5 (List.map d_Macro a2)), .d (.sl 2 (List.map d_Source a3)), .d (.v (.int .i64 a4)), .d (.v (.int .i64 a5))]], [], Jdh a0 a1 a2 a3 a4 a5 r⟩
def Jy (q : Macro → (List (List Token)) → (List Macro) → (List Source) → Int → Int → Option (GR (Int × Int × Int × Int) (Int × (List Token)))) : GI → Prop := fun g => ∃ (a0 : Macro) (a1 : List (List Token)) (a2 : List Macro) (a3 : List Source) (a4 : Int) (a5 : Int) (r : GR (Int × Int × Int × Int) (Int × (List Token))), q a0 a1 a2 a3 a4 a5 = some r ∧ g = KO a0 a1 a2 a3 a4 a5 r
theorem Ja0 (q : Macro → (List (List Token)) → (List Macro) → (List Source) → Int → Int → Option (GR (Int × Int × Int × Int) (Int × (List Token)))) (a0 : Macro) (a1 : List (List Token)) (a2 : List Macro) (a3 : List Source) (a4 : Int) (a5 : Int) (r : GR (Int × Int × Int × Int) (Int × (List Token))) (H : q a0 a1 a2 a3 a4 a5 = some r) : Jy q (KO a0 a1 a2 a3 a4 a5 r) := ⟨a0, a1, a2, a3, a4, a5, r, H, rfl⟩
noncomputable def Jw (q2 : Macro → Token → (List Macro) → (List Source) → Int → Int → Nat → (List Token) → Option (GR (Int × Int × Int × Int × Nat) (Int × Nat × (List Token)))) (a1 : List Macro) (a2 : List Source) (a4 : Int) (x3 : List Token) (x4 : List Token) (r3 : Int) (x5 : Int) (x7 : Int) (x8 : List UInt8) (x9 : Bool) (x10 : Bool) (x11 : Int) (x12 : Int) (x13 : Int) (x14 : Int) (x15 : List (List UInt8)) (x16 : List Call) (x17 : Int) : (Bool × Nat) → Option ((Int × Nat × (List Token) × (List Token)) ⊕ (GR (Int × Int × Int × Int) (Int × (List Token))))
 | (x18, x19) => if x18 = true then if (x3.length + [(⟨x7, x8, x9, x10, x11, x12, x13, x14, x15, x16, x17⟩ : Token)].length) * 120 ≤ 140737488355328 then if (ltI a4 ((x3.length + [(⟨x7, x8, x9, x10, x11, x12, x13, x14, x15, x16, x17⟩ : Token)].length : Nat) : Int)) = true then (ZD 4 x7 x8 x9 x10 x11 x12 x13 x14 x15 x16 x17).bind fun e2 => inrO (some (.er (4, x11, x12, r3))) else some (.inl (r3, x19, x3 ++ [(⟨x7, x8, x9, x10, x11, x12, x13, x14, x15, x16, x17⟩ : Token)], x4)) else none else if (0 : Int) ≤ x5 ∧ x5.toNat < a1.length then grB (q2 (a1.getD x5.toNat default) (⟨x7, x8, x9, x10, x11, x12, x13, x14, x15, x16, x17⟩ : Token) a1 a2 r3 a4 x19 x4) (fun r5 => (XN r5.2.1 r5.2.2 x4).bind fun r6 => some (.inl (r5.1, r6.1, x3, r6.2))) (fun e3 => inrO (some (.er (e3.1, e3.2.1, e3.2.2.1, e3.2.2.2.1)))) else none
noncomputable def Ju (q2 : Macro → Token → (List Macro) → (List Source) → Int → Int → Nat → (List Token) → Option (GR (Int × Int × Int × Int × Nat) (Int × Nat × (List Token)))) (a1 : List Macro) (a2 : List Source) (a4 : Int) (x3 : List Token) (x4 : List Token) (r3 : Int) : (Int × Nat × Int × (List UInt8) × Bool × Bool × Int × Int × Int × Int × (List (List UInt8)) × (List Call) × Int) → Option ((Int × Nat × (List Token) × (List Token)) ⊕ (GR (Int × Int × Int × Int) (Int × (List Token))))
 | (x5, x6, x7, x8, x9, x10, x11, x12, x13, x14, x15, x16, x17) => if (ltI x5 0) = true then Jw q2 a1 a2 a4 x3 x4 r3 x5 x7 x8 x9 x10 x11 x12 x13 x14 x15 x16 x17 (true, x6) else if (0 : Int) ≤ x5 ∧ x5.toNat < a1.length then if ((a1.getD x5.toNat default).Call) = true then if (eqI ((x6 : Nat) : Int) 0) = true then Jw q2 a1 a2 a4 x3 x4 r3 x5 x7 x8 x9 x10 x11 x12 x13 x14 x15 x16 x17 (true, x6) else if (0 : Int) ≤ (IntKind.i64.wrap (((x6 : Nat) : Int) - 1)) ∧ (IntKind.i64.wrap (((x6 : Nat) : Int) - 1)).toNat < x6 then if (IntKind.i64.wrap (((x6 : Nat) : Int) - 1)).toNat < x4.length then if (!eqS ((x4.getD ((IntKind.i64.wrap (((x6 : Nat) : Int) - 1)).toNat) default).Text) [40]) = true then Jw q2 a1 a2 a4 x3 x4 r3 x5 x7 x8 x9 x10 x11 x12 x13 x14 x15 x16 x17 (true, x6) else if (0 : Int) ≤ (IntKind.i64.wrap (((x6 : Nat) : Int) - 1)) ∧ (IntKind.i64.wrap (((x6 : Nat) : Int) - 1)).toNat < x6 then if (IntKind.i64.wrap (((x6 : Nat) : Int) - 1)).toNat < x4.length then Jw q2 a1 a2 a4 x3 x4 r3 x5 x7 x8 x9 x10 x11 x12 x13 x14 x15 x16 x17 (!eqI ((x4.getD ((IntKind.i64.wrap (((x6 : Nat) : Int) - 1)).toNat) default).Kind) 5, x6) else none else none else none else none else Jw q2 a1 a2 a4 x3 x4 r3 x5 x7 x8 x9 x10 x11 x12 x13 x14 x15 x16 x17 (false, x6) else none
noncomputable def JS (q2 : Macro → Token → (List Macro) → (List Source) → Int → Int → Nat → (List Token) → Option (GR (Int × Int × Int × Int × Nat) (Int × Nat × (List Token)))) (a1 : List Macro) (a2 : List Source) (a4 : Int) (x3 : List Token) (x4 : List Token) (r2 : (Int × (List UInt8) × Bool × Bool × Int × Int × Int × Int × (List (List UInt8)) × (List Call) × Int × Nat)) (r3 : Int) : (Bool × Nat) → Option ((Int × Nat × (List Token) × (List Token)) ⊕ (GR (Int × Int × Int × Int) (Int × (List Token))))
 | (x30, x31) => if x30 = true then (Jal a1 r2.2.1).bind fun r8 => Ju q2 a1 a2 a4 x3 x4 r3 (r8, x31, r2.1, r2.2.1, r2.2.2.1, r2.2.2.2.1, r2.2.2.2.2.1, r2.2.2.2.2.2.1, r2.2.2.2.2.2.2.1, r2.2.2.2.2.2.2.2.1, r2.2.2.2.2.2.2.2.2.1, r2.2.2.2.2.2.2.2.2.2.1, r2.2.2.2.2.2.2.2.2.2.2.1) else Ju q2 a1 a2 a4 x3 x4 r3 ((-1), x31, r2.1, r2.2.1, r2.2.2.1, r2.2.2.2.1, r2.2.2.2.2.1, r2.2.2.2.2.2.1, r2.2.2.2.2.2.2.1, r2.2.2.2.2.2.2.2.1, r2.2.2.2.2.2.2.2.2.1, r2.2.2.2.2.2.2.2.2.2.1, r2.2.2.2.2.2.2.2.2.2.2.1)
noncomputable def Kd (q2 : Macro → Token → (List Macro) → (List Source) → Int → Int → Nat → (List Token) → Option (GR (Int × Int × Int × Int × Nat) (Int × Nat × (List Token)))) (a1 : List Macro) (a2 : List Source) (a4 : Int) (x3 : List Token) (x4 : List Token) (r2 : (Int × (List UInt8) × Bool × Bool × Int × Int × Int × Int × (List (List UInt8)) × (List Call) × Int × Nat)) (r3 : Int) (r7 : (Int × (List UInt8) × Int × Bool)) : (Bool × Nat × Bool × Bool × Int × Int × Int × Int × (List (List UInt8)) × (List Call)) → Option ((Int × Nat × (List Token) × (List Token)) ⊕ (GR (Int × Int × Int × Int) (Int × (List Token))))
 | (x20, x21, x22, x23, x24, x25, x26, x27, x28, x29) => if x20 = true then Ju q2 a1 a2 a4 x3 x4 r3 ((-1), x21, r7.1, r7.2.1, x22, x23, x24, x25, x26, x27, x28, x29, r7.2.2.1) else if (eqI r2.1 1) = true then (Jd r2.2.2.2.2.2.2.2.2.1 r2.2.1).bind fun r9 => JS q2 a1 a2 a4 x3 x4 r2 r3 (!r9, x21) else JS q2 a1 a2 a4 x3 x4 r2 r3 (false, x21)
noncomputable def Ke (q2 : Macro → Token → (List Macro) → (List Source) → Int → Int → Nat → (List Token) → Option (GR (Int × Int × Int × Int × Nat) (Int × Nat × (List Token)))) (a1 : List Macro) (a2 : List Source) (a4 : Int) : (Int × Nat × (List Token) × (List Token)) → Option ((Int × Nat × (List Token) × (List Token)) ⊕ (GR (Int × Int × Int × Int) (Int × (List Token))))
 | (x1, x2, x3, x4) => if (ltI 0 ((x2 : Nat) : Int)) = true then (JB x2 x4).bind fun r2 => grB (Vr a1 a2 x1 a4 r2.1 r2.2.1 r2.2.2.1 r2.2.2.2.1 r2.2.2.2.2.1 r2.2.2.2.2.2.1 r2.2.2.2.2.2.2.1 r2.2.2.2.2.2.2.2.1 r2.2.2.2.2.2.2.2.2.1 r2.2.2.2.2.2.2.2.2.2.1 r2.2.2.2.2.2.2.2.2.2.2.1) (fun r3 => (Ko (⟨r2.1, r2.2.1, r2.2.2.1, r2.2.2.2.1, r2.2.2.2.2.1, r2.2.2.2.2.2.1, r2.2.2.2.2.2.2.1, r2.2.2.2.2.2.2.2.1, r2.2.2.2.2.2.2.2.2.1, r2.2.2.2.2.2.2.2.2.2.1, r2.2.2.2.2.2.2.2.2.2.2.1⟩ : Token) a1 a2 r3 a4).bind fun r7 => if r7.2.2.2 = true then Kd q2 a1 a2 a4 x3 x4 r2 r3 r7 (eqI r2.1 1, r2.2.2.2.2.2.2.2.2.2.2.2, (⟨r2.1, r2.2.1, r2.2.2.1, r2.2.2.2.1, r2.2.2.2.2.1, r2.2.2.2.2.2.1, r2.2.2.2.2.2.2.1, r2.2.2.2.2.2.2.2.1, r2.2.2.2.2.2.2.2.2.1, r2.2.2.2.2.2.2.2.2.2.1, r2.2.2.2.2.2.2.2.2.2.2.1⟩ : Token).Space, (⟨r2.1, r2.2.1, r2.2.2.1, r2.2.2.2.1, r2.2.2.2.2.1, r2.2.2.2.2.2.1, r2.2.2.2.2.2.2.1, r2.2.2.2.2.2.2.2.1, r2.2.2.2.2.2.2.2.2.1, r2.2.2.2.2.2.2.2.2.2.1, r2.2.2.2.2.2.2.2.2.2.2.1⟩ : Token).First, (⟨r2.1, r2.2.1, r2.2.2.1, r2.2.2.2.1, r2.2.2.2.2.1, r2.2.2.2.2.2.1, r2.2.2.2.2.2.2.1, r2.2.2.2.2.2.2.2.1, r2.2.2.2.2.2.2.2.2.1, r2.2.2.2.2.2.2.2.2.2.1, r2.2.2.2.2.2.2.2.2.2.2.1⟩ : Token).File, (⟨r2.1, r2.2.1, r2.2.2.1, r2.2.2.2.1, r2.2.2.2.2.1, r2.2.2.2.2.2.1, r2.2.2.2.2.2.2.1, r2.2.2.2.2.2.2.2.1, r2.2.2.2.2.2.2.2.2.1, r2.2.2.2.2.2.2.2.2.2.1, r2.2.2.2.2.2.2.2.2.2.2.1⟩ : Token).At, (⟨r2.1, r2.2.1, r2.2.2.1, r2.2.2.2.1, r2.2.2.2.2.1, r2.2.2.2.2.2.1, r2.2.2.2.2.2.2.1, r2.2.2.2.2.2.2.2.1, r2.2.2.2.2.2.2.2.2.1, r2.2.2.2.2.2.2.2.2.2.1, r2.2.2.2.2.2.2.2.2.2.2.1⟩ : Token).End, (⟨r2.1, r2.2.1, r2.2.2.1, r2.2.2.2.1, r2.2.2.2.2.1, r2.2.2.2.2.2.1, r2.2.2.2.2.2.2.1, r2.2.2.2.2.2.2.2.1, r2.2.2.2.2.2.2.2.2.1, r2.2.2.2.2.2.2.2.2.2.1, r2.2.2.2.2.2.2.2.2.2.2.1⟩ : Token).Line, (⟨r2.1, r2.2.1, r2.2.2.1, r2.2.2.2.1, r2.2.2.2.2.1, r2.2.2.2.2.2.1, r2.2.2.2.2.2.2.1, r2.2.2.2.2.2.2.2.1, r2.2.2.2.2.2.2.2.2.1, r2.2.2.2.2.2.2.2.2.2.1, r2.2.2.2.2.2.2.2.2.2.2.1⟩ : Token).Hide, (⟨r2.1, r2.2.1, r2.2.2.1, r2.2.2.2.1, r2.2.2.2.2.1, r2.2.2.2.2.2.1, r2.2.2.2.2.2.2.1, r2.2.2.2.2.2.2.2.1, r2.2.2.2.2.2.2.2.2.1, r2.2.2.2.2.2.2.2.2.2.1, r2.2.2.2.2.2.2.2.2.2.2.1⟩ : Token).Calls) else Kd q2 a1 a2 a4 x3 x4 r2 r3 r7 (false, r2.2.2.2.2.2.2.2.2.2.2.2, (⟨r2.1, r2.2.1, r2.2.2.1, r2.2.2.2.1, r2.2.2.2.2.1, r2.2.2.2.2.2.1, r2.2.2.2.2.2.2.1, r2.2.2.2.2.2.2.2.1, r2.2.2.2.2.2.2.2.2.1, r2.2.2.2.2.2.2.2.2.2.1, r2.2.2.2.2.2.2.2.2.2.2.1⟩ : Token).Space, (⟨r2.1, r2.2.1, r2.2.2.1, r2.2.2.2.1, r2.2.2.2.2.1, r2.2.2.2.2.2.1, r2.2.2.2.2.2.2.1, r2.2.2.2.2.2.2.2.1, r2.2.2.2.2.2.2.2.2.1, r2.2.2.2.2.2.2.2.2.2.1, r2.2.2.2.2.2.2.2.2.2.2.1⟩ : Token).First, (⟨r2.1, r2.2.1, r2.2.2.1, r2.2.2.2.1, r2.2.2.2.2.1, r2.2.2.2.2.2.1, r2.2.2.2.2.2.2.1, r2.2.2.2.2.2.2.2.1, r2.2.2.2.2.2.2.2.2.1, r2.2.2.2.2.2.2.2.2.2.1, r2.2.2.2.2.2.2.2.2.2.2.1⟩ : Token).File, (⟨r2.1, r2.2.1, r2.2.2.1, r2.2.2.2.1, r2.2.2.2.2.1, r2.2.2.2.2.2.1, r2.2.2.2.2.2.2.1, r2.2.2.2.2.2.2.2.1, r2.2.2.2.2.2.2.2.2.1, r2.2.2.2.2.2.2.2.2.2.1, r2.2.2.2.2.2.2.2.2.2.2.1⟩ : Token).At, (⟨r2.1, r2.2.1, r2.2.2.1, r2.2.2.2.1, r2.2.2.2.2.1, r2.2.2.2.2.2.1, r2.2.2.2.2.2.2.1, r2.2.2.2.2.2.2.2.1, r2.2.2.2.2.2.2.2.2.1, r2.2.2.2.2.2.2.2.2.2.1, r2.2.2.2.2.2.2.2.2.2.2.1⟩ : Token).End, (⟨r2.1, r2.2.1, r2.2.2.1, r2.2.2.2.1, r2.2.2.2.2.1, r2.2.2.2.2.2.1, r2.2.2.2.2.2.2.1, r2.2.2.2.2.2.2.2.1, r2.2.2.2.2.2.2.2.2.1, r2.2.2.2.2.2.2.2.2.2.1, r2.2.2.2.2.2.2.2.2.2.2.1⟩ : Token).Line, (⟨r2.1, r2.2.1, r2.2.2.1, r2.2.2.2.1, r2.2.2.2.2.1, r2.2.2.2.2.2.1, r2.2.2.2.2.2.2.1, r2.2.2.2.2.2.2.2.1, r2.2.2.2.2.2.2.2.2.1, r2.2.2.2.2.2.2.2.2.2.1, r2.2.2.2.2.2.2.2.2.2.2.1⟩ : Token).Hide, (⟨r2.1, r2.2.1, r2.2.2.1, r2.2.2.2.1, r2.2.2.2.2.1, r2.2.2.2.2.2.1, r2.2.2.2.2.2.2.1, r2.2.2.2.2.2.2.2.1, r2.2.2.2.2.2.2.2.2.1, r2.2.2.2.2.2.2.2.2.2.1, r2.2.2.2.2.2.2.2.2.2.2.1⟩ : Token).Calls)) (fun e1 => inrO (some (.er (11, r2.2.2.2.2.1, r2.2.2.2.2.2.1, x1)))) else inrO (some (.ok (x1, x3)))
noncomputable def ZT (q1 : (List Token) → (List Macro) → (List Source) → Int → Int → Option (GR (Int × Int × Int × Int) (Int × (List Token)))) (q2 : Macro → Token → (List Macro) → (List Source) → Int → Int → Nat → (List Token) → Option (GR (Int × Int × Int × Int × Nat) (Int × Nat × (List Token)))) (q3 : Macro → (List (List Token)) → (List Macro) → (List Source) → Int → Int → Option (GR (Int × Int × Int × Int) (Int × (List Token)))) (a0 : List Token) (a1 : List Macro) (a2 : List Source) (a3 : Int) (a4 : Int) : Option (GR (Int × Int × Int × Int) (Int × (List Token))) :=
 (KQ a0 []).bind fun r1 => loopO (Ke q2 a1 a2 a4) (a3, r1.length, ([] : List Token), r1)
theorem Jdg (q1 : (List Token) → (List Macro) → (List Source) → Int → Int → Option (GR (Int × Int × Int × Int) (Int × (List Token)))) (q2 : Macro → Token → (List Macro) → (List Source) → Int → Int → Nat → (List Token) → Option (GR (Int × Int × Int × Int × Nat) (Int × Nat × (List Token)))) (q3 : Macro → (List (List Token)) → (List Macro) → (List Source) → Int → Int → Option (GR (Int × Int × Int × Int) (Int × (List Token)))) (kq1 : Kok Tryz.prog 23 false (Jt q1)) (kq2 : Kok Tryz.prog 40 false (JL q2)) (kq3 : Kok Tryz.prog 66 false (Jy q3)) : ∀ g, Jt (ZT q1 q2 q3) g → GenOk Tryz.prog 23 g := by
 rintro _ ⟨a0, a1, a2, a3, a4, r, H, rfl⟩
 refine xGn mixed [(38, JcM), (37, Jr)] [(33, true, VX), (34, true, JD), (35, false, K4), (39, false, VN), (40, false, (JL q2)), (33, true, Va), (36, true, KM)] [] ⟨⟨call_38, Jfn⟩, ⟨call_37, KR⟩, trivial⟩ ⟨JdT, JZ, Jdr, Jbz, kq2, Jdo, Jdd, trivial⟩ trivial Tryz.func23 _ ?_
 have G := True.intro
 have Y := xZ y_3 <| xZ y_4 <| xZ y_9 <| xZ y_24 <| xZ y_25 <| xZ y_32 <| xZ y_39 <| xZ y_43 <| xZ y_57 <| xZ y_79 <| xZ Tryz.results23 <| xZ d_Source.eq_1 <| xZ d_Call.eq_1 <| xZ d_Token.eq_1 <| xZ d_Macro.eq_1 <| xZ VV.eq_1 <| xZ JC.eq_1 <| xZ K5.eq_1 <| xZ VO.eq_1 <| xZ Vb.eq_1 <| xZ K9.eq_1 <| xZ KN.eq_1 <| J0.eq_1
 dsimp only [J0]
 simp only [ZT] at H
 refine xS ?_
 refine xr ?_
 refine xr ?_
 obtain ⟨r1, hr1, H⟩ := osplit H
 have F := Y
 refine xQ ?_
 refine xs 1 ?_
 refine xc ⟨[2, 0], []⟩ (tabG 0 (JdV a0 [] r1 hr1)) ?_
 refine xl ?_
 refine xS ?_
 refine xr ?_
 refine w_loop (Ke q2 a1 a2 a4) (fun s => [(0, .c (.pt 1 0)), (5, .c (.pt 2 0)), (6, .c (.os 3 11 0 s.2.2.1.length))]) (fun s => [[.d (.sl 5 (List.map d_Macro a1)), .d (.sl 2 (List.map d_Source a2)), .d (.v (.int .i64 s.1)), .d (.v (.int .i64 a4))], [.os 4 11 0 s.2.1], [.arr 11 (List.map d_Token s.2.2.1)], [.arr 11 (List.map d_Token s.2.2.2)]]) [] H (xK ⟨[1,2,0,5], []⟩) ?_
 rintro n1 ⟨x1, x2, x3, x4⟩ o1 H hF1
 rw [Ke] at H
 refine xS ?_
 refine xr ?_
 rcases bsplit H with ⟨hp1, H⟩ | ⟨hp1, H⟩
 ·obtain ⟨F, G, hq1⟩ := xH Y G hp1
  refine xT ?_
  obtain ⟨r2, hr2, H⟩ := osplit H
  have F := Y
  refine xQ ?_
  refine xc ⟨[2, 4], []⟩ (tabG 1 (Xu x2 x4 r2 hr2)) ?_
  refine xs 2 ?_
  refine xl ?_
  refine xS ?_
  rcases rsplit H with ⟨r3, hr3, H⟩ | ⟨e1, hr4, H⟩
  ·have F := Y
   refine xQ ?_
   refine xs 1 ?_
   refine xc ⟨[1, 7], []⟩ (tabG 2 (Jbr a1 a2 x1 a4 r2.1 r2.2.1 r2.2.2.1 r2.2.2.2.1 r2.2.2.2.2.1 r2.2.2.2.2.2.1 r2.2.2.2.2.2.2.1 r2.2.2.2.2.2.2.2.1 r2.2.2.2.2.2.2.2.2.1 r2.2.2.2.2.2.2.2.2.2.1 r2.2.2.2.2.2.2.2.2.2.2.1 (.ok r3) hr3)) ?_
   refine xl ?_
   refine xS ?_
   refine xr0 ?_
   refine then_normal ?_
   refine w_cut (Ju q2 a1 a2 a4 x3 x4 r3) (fun s => [(0, .c (.pt 1 0)), (5, .c (.pt 2 0)), (6, .c (.os 3 11 0 x3.length)), (7, .c (.pt 4 0)), (8, .c (.d (.v (.int .i64 s.1))))]) (fun s => [[.d (.sl 5 (List.map d_Macro a1)), .d (.sl 2 (List.map d_Source a2)), .d (.v (.int .i64 r3)), .d (.v (.int .i64 a4))], [.os 5 11 0 s.2.1], [.arr 11 (List.map d_Token x3)], [.d (.v (.int .i64 s.2.2.1)), .d (.v (str s.2.2.2.1)), .d (.v (.bool s.2.2.2.2.1)), .d (.v (.bool s.2.2.2.2.2.1)), .d (.v (.int .i64 s.2.2.2.2.2.2.1)), .d (.v (.int .i64 s.2.2.2.2.2.2.2.1)), .d (.v (.int .i64 s.2.2.2.2.2.2.2.2.1)), .d (.v (.int .i64 s.2.2.2.2.2.2.2.2.2.1)), .d (.sl 1 (List.map dS s.2.2.2.2.2.2.2.2.2.2.1)), .d (.sl 3 (List.map d_Call s.2.2.2.2.2.2.2.2.2.2.2.1)), .d (.v (.int .i64 s.2.2.2.2.2.2.2.2.2.2.2.2))], [.arr 11 (List.map d_Token x4)]]) [] o1 ?_ ?_
   ·refine xS ?_
    obtain ⟨r7, hr10, H⟩ := osplit H
    have F := Y
    refine xQ ?_
    refine xs 2 ?_
    refine xc ⟨[1], []⟩ (tabG 6 (Jdf (⟨r2.1, r2.2.1, r2.2.2.1, r2.2.2.2.1, r2.2.2.2.2.1, r2.2.2.2.2.2.1, r2.2.2.2.2.2.2.1, r2.2.2.2.2.2.2.2.1, r2.2.2.2.2.2.2.2.2.1, r2.2.2.2.2.2.2.2.2.2.1, r2.2.2.2.2.2.2.2.2.2.2.1⟩ : Token) a1 a2 r3 a4 r7 hr10)) ?_
    refine xs 6 ?_
    refine xl ?_
    refine  ?_
    refine then_normal ?_
    refine w_cut (Kd q2 a1 a2 a4 x3 x4 r2 r3 r7) (fun s => [(0, .c (.pt 1 0)), (5, .c (.pt 2 0)), (6, .c (.os 3 11 0 x3.length)), (7, .c (.pt 4 0)), (8, .c (.d (.v (.int .i64 (-1))))), (9, .c (.pt 5 0)), (30, .c (.d (.v (.bool s.1))))]) (fun s => [[.d (.sl 5 (List.map d_Macro a1)), .d (.sl 2 (List.map d_Source a2)), .d (.v (.int .i64 r3)), .d (.v (.int .i64 a4))], [.os 6 11 0 s.2.1], [.arr 11 (List.map d_Token x3)], [.d (.v (.int .i64 r2.1)), .d (.v (str r2.2.1)), .d (.v (.bool r2.2.2.1)), .d (.v (.bool r2.2.2.2.1)), .d (.v (.int .i64 r2.2.2.2.2.1)), .d (.v (.int .i64 r2.2.2.2.2.2.1)), .d (.v (.int .i64 r2.2.2.2.2.2.2.1)), .d (.v (.int .i64 r2.2.2.2.2.2.2.2.1)), .d (.sl 1 (List.map dS r2.2.2.2.2.2.2.2.2.1)), .d (.sl 3 (List.map d_Call r2.2.2.2.2.2.2.2.2.2.1)), .d (.v (.int .i64 r2.2.2.2.2.2.2.2.2.2.2.1))], [.d (.v (.int .i64 r7.1)), .d (.v (str r7.2.1)), .d (.v (.bool s.2.2.1)), .d (.v (.bool s.2.2.2.1)), .d (.v (.int .i64 s.2.2.2.2.1)), .d (.v (.int .i64 s.2.2.2.2.2.1)), .d (.v (.int .i64 s.2.2.2.2.2.2.1)), .d (.v (.int .i64 s.2.2.2.2.2.2.2.1)), .d (.sl 1 (List.map dS s.2.2.2.2.2.2.2.2.1)), .d (.sl 3 (List.map d_Call s.2.2.2.2.2.2.2.2.2)), .d (.v (.int .i64 r7.2.2.1))], [.arr 11 (List.map d_Token x4)]]) [] o1 ?_ ?_
    ·rcases bsplit H with ⟨hp11, H⟩ | ⟨hp11, H⟩
     ·obtain ⟨F, G, hq11⟩ := xH Y G hp11
      refine xR ?_
      exact cut_at H (xK ⟨[1,2,3,7,11,4], []⟩)
     ·obtain ⟨F, G, hq11⟩ := xH Y G hp11
      refine xR ?_
      exact cut_at H (xK ⟨[1,2,3,7,11,4], []⟩)
    ·rintro ⟨x20, x21, x22, x23, x24, x25, x26, x27, x28, x29⟩ H
     rw [Kd] at H
     rcases bsplit H with ⟨hp8, H⟩ | ⟨hp8, H⟩
     ·obtain ⟨F, G, hq8⟩ := xH Y G hp8
      refine xT ?_
      refine xr ?_
      exact cut_at H (xK ⟨[1,2,3,4,6], []⟩)
     ·obtain ⟨F, G, hq8⟩ := xH Y G hp8
      refine xE0 ?_
      refine w_cut (JS q2 a1 a2 a4 x3 x4 r2 r3) (fun s => [(0, .c (.pt 1 0)), (5, .c (.pt 2 0)), (6, .c (.os 3 11 0 x3.length)), (7, .c (.pt 4 0)), (8, .c (.d (.v (.int .i64 (-1))))), (42, .c (.d (.v (.bool s.1))))]) (fun s => [[.d (.sl 5 (List.map d_Macro a1)), .d (.sl 2 (List.map d_Source a2)), .d (.v (.int .i64 r3)), .d (.v (.int .i64 a4))], [.os 5 11 0 s.2], [.arr 11 (List.map d_Token x3)], [.d (.v (.int .i64 r2.1)), .d (.v (str r2.2.1)), .d (.v (.bool r2.2.2.1)), .d (.v (.bool r2.2.2.2.1)), .d (.v (.int .i64 r2.2.2.2.2.1)), .d (.v (.int .i64 r2.2.2.2.2.2.1)), .d (.v (.int .i64 r2.2.2.2.2.2.2.1)), .d (.v (.int .i64 r2.2.2.2.2.2.2.2.1)), .d (.sl 1 (List.map dS r2.2.2.2.2.2.2.2.2.1)), .d (.sl 3 (List.map d_Call r2.2.2.2.2.2.2.2.2.2.1)), .d (.v (.int .i64 r2.2.2.2.2.2.2.2.2.2.2.1))], [.arr 11 (List.map d_Token x4)]]) [] o1 ?_ ?_
      ·rcases bsplit H with ⟨hp10, H⟩ | ⟨hp10, H⟩
       ·obtain ⟨F, G, hq10⟩ := xH Y G hp10
        obtain ⟨r9, hr12, H⟩ := osplit H
        have F := xCf F (K6 r2.2.2.2.2.2.2.2.2.1 r2.2.1 r9 hr12)
        refine xR ?_
        exact cut_at H (xK ⟨[1,2,3,4,6], []⟩)
       ·obtain ⟨F, G, hq10⟩ := xH Y G hp10
        refine xR ?_
        exact cut_at H (xK ⟨[1,2,3,4,6], []⟩)
      ·rintro ⟨x30, x31⟩ H
       rw [JS] at H
       rcases bsplit H with ⟨hp9, H⟩ | ⟨hp9, H⟩
       ·obtain ⟨F, G, hq9⟩ := xH Y G hp9
        refine xT ?_
        obtain ⟨r8, hr11, H⟩ := osplit H
        have F := xC Y (Jfx a1 r2.2.1 r8 hr11)
        refine xR ?_
        exact cut_at H (xK ⟨[1,2,3,4,5], []⟩)
       ·obtain ⟨F, G, hq9⟩ := xH Y G hp9
        refine xE ?_
        exact cut_at H (xK ⟨[1,2,3,4,5], []⟩)
   ·rintro ⟨x5, x6, x7, x8, x9, x10, x11, x12, x13, x14, x15, x16, x17⟩ H
    rw [Ju] at H
    refine w_seq ?_
    refine w_cut (Jw q2 a1 a2 a4 x3 x4 r3 x5 x7 x8 x9 x10 x11 x12 x13 x14 x15 x16 x17) (fun s => [(0, .c (.pt 1 0)), (5, .c (.pt 2 0)), (6, .c (.os 3 11 0 x3.length)), (7, .c (.pt 4 0)), (8, .c (.d (.v (.int .i64 x5)))), (86, .c (.d (.v (.bool s.1))))]) (fun s => [[.d (.sl 5 (List.map d_Macro a1)), .d (.sl 2 (List.map d_Source a2)), .d (.v (.int .i64 r3)), .d (.v (.int .i64 a4))], [.os 5 11 0 s.2], [.arr 11 (List.map d_Token x3)], [.d (.v (.int .i64 x7)), .d (.v (str x8)), .d (.v (.bool x9)), .d (.v (.bool x10)), .d (.v (.int .i64 x11)), .d (.v (.int .i64 x12)), .d (.v (.int .i64 x13)), .d (.v (.int .i64 x14)), .d (.sl 1 (List.map dS x15)), .d (.sl 3 (List.map d_Call x16)), .d (.v (.int .i64 x17))], [.arr 11 (List.map d_Token x4)]]) [] o1 ?_ ?_
    ·rcases bsplit H with ⟨hp4, H⟩ | ⟨hp4, H⟩
     ·obtain ⟨F, G, hq4⟩ := xH Y G hp4
      refine xR ?_
      exact cut_at H (xK ⟨[1,2,3,4,5], []⟩)
     ·obtain ⟨F, G, hq4⟩ := xH Y G hp4
      obtain ⟨hg3, H⟩ := gsplit H
      have F := xZ F (map_getD d_Macro a1 x5.toNat default default (by omega))
      rcases bsplit H with ⟨hp5, H⟩ | ⟨hp5, H⟩
      ·obtain ⟨F, G, hq5⟩ := xH F G hp5
       rcases bsplit H with ⟨hp6, H⟩ | ⟨hp6, H⟩
       ·obtain ⟨F, G, hq6⟩ := xH F G hp6
        refine xR ?_
        exact cut_at H (xK ⟨[1,2,3,4,5], []⟩)
       ·obtain ⟨F, G, hq6⟩ := xH F G hp6
        obtain ⟨hg4, H⟩ := gsplit H
        obtain ⟨hg, H⟩ := gsplit H
        have F := xZ F (map_getD d_Token x4 ((IntKind.i64.wrap (((x6 : Nat) : Int) - 1)).toNat) default default (by omega))
        rcases bsplit H with ⟨hp7, H⟩ | ⟨hp7, H⟩
        ·obtain ⟨F, G, hq7⟩ := xH F G hp7
         refine xR ?_
         exact cut_at H (xK ⟨[1,2,3,4,5], []⟩)
        ·obtain ⟨F, G, hq7⟩ := xH F G hp7
         obtain ⟨hg5, H⟩ := gsplit H
         obtain ⟨hg, H⟩ := gsplit H
         have F := xZ F (map_getD d_Token x4 ((IntKind.i64.wrap (((x6 : Nat) : Int) - 1)).toNat) default default (by omega))
         refine xR ?_
         exact cut_at H (xK ⟨[1,2,3,4,5], []⟩)
      ·obtain ⟨F, G, hq5⟩ := xH F G hp5
       refine xR ?_
       exact cut_at H (xK ⟨[1,2,3,4,5], []⟩)
    ·rintro ⟨x18, x19⟩ H
     rw [Jw] at H
     rcases bsplit H with ⟨hp2, H⟩ | ⟨hp2, H⟩
     ·obtain ⟨F, G, hq2⟩ := xH Y G hp2
      refine xT ?_
      obtain ⟨hg1, H⟩ := gsplit H
      have F := xZ Y (all_map one_Token [(⟨x7, x8, x9, x10, x11, x12, x13, x14, x15, x16, x17⟩ : Token)])
      have L : [(⟨x7, x8, x9, x10, x11, x12, x13, x14, x15, x16, x17⟩ : Token)].length = 1 := rfl
      refine xR ?_
      refine xr ?_
      rcases bsplit H with ⟨hp3, H⟩ | ⟨hp3, H⟩
      ·obtain ⟨F, G, hq3⟩ := xH Y G hp3
       refine xT ?_
       obtain ⟨e2, hr6, H⟩ := osplit H
       have F := Y
       refine xQp [98] ?_
       refine xp ⟨[4], []⟩ (tabG 3 (JbB 4 x7 x8 x9 x10 x11 x12 x13 x14 x15 x16 x17 e2 hr6)) ?_
       replace H := inrO_fin H hF1
       replace H := Option.some.inj H
       refine xS ?_
       subst H
       refine xOp ?_
       refine qDf [] ?_
       exact xOv ⟨[1], []⟩
      ·obtain ⟨F, G, hq3⟩ := xH Y G hp3
       refine xE ?_
       exact round_at (inl_fin H hF1) (xK ⟨[1,2,6,5], []⟩)
     ·obtain ⟨F, G, hq2⟩ := xH Y G hp2
      refine xE ?_
      obtain ⟨hg2, H⟩ := gsplit H
      have F := xZ Y (map_getD d_Macro a1 x5.toNat default default (by omega))
      rcases rsplit H with ⟨r5, hr7, H⟩ | ⟨e3, hr8, H⟩
      ·have F := F
       obtain ⟨r6, hr9, H⟩ := osplit H
       have F := F
       refine xQ ?_
       refine xs 8 ?_
       refine xc ⟨[1, 2, 5], []⟩ (tabG 4 (Jbi q2 (a1.getD x5.toNat default) (⟨x7, x8, x9, x10, x11, x12, x13, x14, x15, x16, x17⟩ : Token) a1 a2 r3 a4 x19 x4 (.ok r5) hr7)) ?_
       refine xc ⟨[2, 9, 5], []⟩ (tabG 5 (Jdm r5.2.1 r5.2.2 x4 r6 hr9)) ?_
       refine xl ?_
       refine xS ?_
       exact round_at (inl_fin H hF1) (xK ⟨[1,2,3,13], []⟩)
      ·have F := F
       refine xQp [99, 100, 101, 102, 103, 104, 105, 106, 107, 108] ?_
       refine xs 8 ?_
       refine xp ⟨[1, 2, 5], []⟩ (tabG 4 (Jbi q2 (a1.getD x5.toNat default) (⟨x7, x8, x9, x10, x11, x12, x13, x14, x15, x16, x17⟩ : Token) a1 a2 r3 a4 x19 x4 (.er e3) hr8)) ?_
       replace H := inrO_fin H hF1
       replace H := Option.some.inj H
       refine xS ?_
       subst H
       refine xOp ?_
       refine qDf [] ?_
       exact xOv ⟨[1], []⟩
  ·have F := Y
   refine xQp [17, 18] ?_
   refine xs 1 ?_
   refine xp ⟨[1, 7], []⟩ (tabG 2 (Jbr a1 a2 x1 a4 r2.1 r2.2.1 r2.2.2.1 r2.2.2.2.1 r2.2.2.2.2.1 r2.2.2.2.2.2.1 r2.2.2.2.2.2.2.1 r2.2.2.2.2.2.2.2.1 r2.2.2.2.2.2.2.2.2.1 r2.2.2.2.2.2.2.2.2.2.1 r2.2.2.2.2.2.2.2.2.2.2.1 (.er e1) hr4)) ?_
   replace H := inrO_fin H hF1
   replace H := Option.some.inj H
   refine xS ?_
   subst H
   refine xOp ?_
   refine qDf [] ?_
   exact xOv ⟨[1], []⟩
 ·obtain ⟨F, G, hq1⟩ := xH Y G hp1
  replace H := inrO_fin H hF1
  refine xE ?_
  replace H := Option.some.inj H
  refine xr ?_
  subst H
  refine xOr ?_
  refine qDf [] ?_
  exact xO ⟨[1, 3], []⟩
noncomputable def VS (q3 : Macro → (List (List Token)) → (List Macro) → (List Source) → Int → Int → Option (GR (Int × Int × Int × Int) (Int × (List Token)))) (a0 : Macro) (a1 : Token) (a2 : List Macro) (a3 : List Source) (a5 : Int) (x1 : List (List UInt8)) (x2 : List (List Token)) (x3 : Int) : (Nat × Int × Int) → Option (GR (Int × Int × Int × Int × Nat) (Int × Nat × (List Token)))
 | (x5, x6, x7) => grB (q3 a0 x2 a2 a3 x3 a5) (fun r2 => (J8 a1.Calls).bind fun r3 => if (a1.Calls.length + [(⟨a0.Name, x6, x7⟩ : Call)].length) * 32 ≤ 140737488355328 then (Jcx x1 (a1.Calls ++ [(⟨a0.Name, x6, x7⟩ : Call)]) r2.2).bind fun r4 => (Zh a1.Space r4).bind fun r5 => some (.ok (r2.1, x5, r5)) else none) (fun e1 => some (.er (e1.1, e1.2.1, e1.2.2.1, e1.2.2.2, x5)))
noncomputable def VP (q3 : Macro → (List (List Token)) → (List Macro) → (List Source) → Int → Int → Option (GR (Int × Int × Int × Int) (Int × (List Token)))) (a0 : Macro) (a1 : Token) (a2 : List Macro) (a3 : List Source) (a5 : Int) : ((List (List UInt8)) × (List (List Token)) × Int × Nat) → Option (GR (Int × Int × Int × Int × Nat) (Int × Nat × (List Token)))
 | (x1, x2, x3, x4) => if (!eqI a1.Made 0) = true then VS q3 a0 a1 a2 a3 a5 x1 x2 x3 (x4, (-1), 0) else VS q3 a0 a1 a2 a3 a5 x1 x2 x3 (x4, a1.File, a1.At)
noncomputable def Ze (a2 : List Macro) (a3 : List Source) (a5 : Int) (x8 : Int) (x9 : Int) (x12 : List Token) : ((List Token) × Int × Int × Int × Nat) → Option (((List Token) × Int × Int × Int × Nat) ⊕ ((Int × Int × Int × Nat × (List Token)) ⊕ (GR (Int × Int × Int × Int × Nat) (Int × Nat × (List Token)))))
 | (x13, x14, x15, x16, x17) => if (ltI x15 x14) = true then if (0 : Int) ≤ x15 ∧ x15.toNat < x13.length then grB (VQ (x13.getD x15.toNat default) a2 a3 x16 a5) (fun r9 => some (.inl (x13, x14, IntKind.i64.wrap (x15 + 1), r9, x17))) (fun e3 => inrO (inrO (some (.er (11, (x13.getD x15.toNat default).File, (x13.getD x15.toNat default).At, x16, x17))))) else none else inrO (some (.inl (x8, IntKind.i64.wrap (x9 + 1), x16, x17, x12)))
noncomputable def VT (x19 : Int) (x20 : Int) : ((List (List UInt8)) × Nat) → Option (((List (List UInt8)) × Int × Int × Nat) ⊕ (GR (Int × Int × Int × Int × Nat) (Int × Nat × (List Token))))
 | (x22, x23) => some (.inl (x22, x19, IntKind.i64.wrap (x20 + 1), x23))
noncomputable def Zb (q3 : Macro → (List (List Token)) → (List Macro) → (List Source) → Int → Int → Option (GR (Int × Int × Int × Int) (Int × (List Token)))) (a0 : Macro) (a1 : Token) (a2 : List Macro) (a3 : List Source) (a5 : Int) (r8 : ((List (List Token)) × Int × (List UInt8) × Bool × Bool × Int × Int × Int × Int × (List (List UInt8)) × (List Call) × Int × Nat)) (x10 : Int) (r11 : (List (List Token))) : ((List (List UInt8)) × Int × Int × Nat) → Option (((List (List UInt8)) × Int × Int × Nat) ⊕ (GR (Int × Int × Int × Int × Nat) (Int × Nat × (List Token))))
 | (x18, x19, x20, x21) => if (ltI x20 x19) = true then if (0 : Int) ≤ x20 ∧ x20.toNat < a1.Hide.length then (Jd r8.2.2.2.2.2.2.2.2.2.1 (a1.Hide.getD x20.toNat default)).bind fun r12 => if r12 = true then if (x18.length + [(a1.Hide.getD x20.toNat default)].length) * 16 ≤ 140737488355328 then VT x19 x20 (x18 ++ [(a1.Hide.getD x20.toNat default)], x21) else none else VT x19 x20 (x18, x21) else none else inrO (VP q3 a0 a1 a2 a3 a5 (x18, r11, x10, x21))
noncomputable def Zc (q3 : Macro → (List (List Token)) → (List Macro) → (List Source) → Int → Int → Option (GR (Int × Int × Int × Int) (Int × (List Token)))) (a0 : Macro) (a1 : Token) (a2 : List Macro) (a3 : List Source) (a5 : Int) (r8 : ((List (List Token)) × Int × (List UInt8) × Bool × Bool × Int × Int × Int × Int × (List (List UInt8)) × (List Call) × Int × Nat)) : (Int × Int × Int × Nat × (List Token)) → Option ((Int × Int × Int × Nat × (List Token)) ⊕ (GR (Int × Int × Int × Int × Nat) (Int × Nat × (List Token))))
 | (x8, x9, x10, x11, x12) => if (ltI x9 x8) = true then if (0 : Int) ≤ x9 ∧ x9.toNat < r8.1.length then loopO (Ze a2 a3 a5 x8 x9 x12) ((r8.1.getD x9.toNat default), ((r8.1.getD x9.toNat default).length : Int), 0, x10, x11) else none else inrO ((Jbx x12).bind fun r10 => grB (JcR a0 r8.1 a1.Kind a1.Text a1.Space a1.First a1.File a1.At a1.End a1.Line a1.Hide a1.Calls a1.Made r10) (fun r11 => loopO (Zb q3 a0 a1 a2 a3 a5 r8 x10 r11) ([a0.Name], (a1.Hide.length : Int), 0, x11)) (fun e4 => some (.er (5, a1.File, a1.At, x10, x11))))
noncomputable def ZC (q1 : (List Token) → (List Macro) → (List Source) → Int → Int → Option (GR (Int × Int × Int × Int) (Int × (List Token)))) (q2 : Macro → Token → (List Macro) → (List Source) → Int → Int → Nat → (List Token) → Option (GR (Int × Int × Int × Int × Nat) (Int × Nat × (List Token)))) (q3 : Macro → (List (List Token)) → (List Macro) → (List Source) → Int → Int → Option (GR (Int × Int × Int × Int) (Int × (List Token)))) (a0 : Macro) (a1 : Token) (a2 : List Macro) (a3 : List Source) (a4 : Int) (a5 : Int) (a6 : Nat) (a7 : List Token) : Option (GR (Int × Int × Int × Int × Nat) (Int × Nat × (List Token))) :=
 (KF a1.Hide).bind fun r1 => if (a1.Hide.length + [a0.Name].length) * 16 ≤ 140737488355328 then if a0.Call = true then (JB a6 a7).bind fun r6 => (JT r6.2.2.2.2.2.2.2.2.2.2.2 a7).bind fun r7 => grB (JcA r6.2.2.2.2.2.2.2.2.2.2.2 a1.Kind a1.Text a1.Space a1.First a1.File a1.At a1.End a1.Line a1.Hide a1.Calls a1.Made a7) (fun r8 => loopO (Zc q3 a0 a1 a2 a3 a5 r8) ((r8.1.length : Int), 0, a4, r8.2.2.2.2.2.2.2.2.2.2.2.2, List.take r6.2.2.2.2.2.2.2.2.2.2.2 a7)) (fun e2 => some (.er (9, a1.File, a1.At, a4, e2))) else VP q3 a0 a1 a2 a3 a5 (a1.Hide ++ [a0.Name], ([] : List (List Token)), a4, a6) else none
theorem Jdb (q1 : (List Token) → (List Macro) → (List Source) → Int → Int → Option (GR (Int × Int × Int × Int) (Int × (List Token)))) (q2 : Macro → Token → (List Macro) → (List Source) → Int → Int → Nat → (List Token) → Option (GR (Int × Int × Int × Int × Nat) (Int × Nat × (List Token)))) (q3 : Macro → (List (List Token)) → (List Macro) → (List Source) → Int → Int → Option (GR (Int × Int × Int × Int) (Int × (List Token)))) (kq1 : Kok Tryz.prog 23 false (Jt q1)) (kq2 : Kok Tryz.prog 40 false (JL q2)) (kq3 : Kok Tryz.prog 66 false (Jy q3)) : ∀ g, JL (ZC q1 q2 q3) g → GenOk Tryz.prog 40 g := by
 rintro _ ⟨a0, a1, a2, a3, a4, a5, a6, a7, r, H, rfl⟩
 refine xGnl mixed [1, 27] [(37, Jr)] [(60, true, JO), (66, false, (Jy q3)), (67, true, Js), (65, true, Jar), (68, true, Xp), (34, true, JD), (61, true, Jl), (62, false, Jat), (35, false, Kj), (64, true, Zo), (63, false, Ja6)] [] ⟨⟨call_37, KR⟩, trivial⟩ ⟨Kk, kq3, JW, JbA, JN, JZ, JK, Jbw, Vn, JaA, JbY, trivial⟩ trivial Tryz.func40 _ ?_
 have G := True.intro
 have Y := xZ y_3 <| xZ y_4 <| xZ y_9 <| xZ y_24 <| xZ y_25 <| xZ y_37 <| xZ y_39 <| xZ y_43 <| xZ y_49 <| xZ y_79 <| xZ y_99 <| xZ Tryz.results40 <| xZ d_Source.eq_1 <| xZ d_Call.eq_1 <| xZ d_Token.eq_1 <| xZ d_Macro.eq_1 <| xZ Vp.eq_1 <| xZ KO.eq_1 <| xZ KV.eq_1 <| xZ Jaq.eq_1 <| xZ Xo.eq_1 <| xZ JC.eq_1 <| xZ Km.eq_1 <| xZ Jao.eq_1 <| xZ Kl.eq_1 <| xZ Zw.eq_1 <| xZ JaZ.eq_1 <| Vb.eq_1
 dsimp only [Vb]
 simp only [ZC] at H
 refine xS ?_
 refine xr ?_
 obtain ⟨r1, hr1, H⟩ := osplit H
 have F := Y
 obtain ⟨hg1, H⟩ := gsplit H
 have F := xZ F (all_map one_dS [a0.Name])
 refine xP [0, 1, 3, 4, 5, 6, 7, 2, 8, 9] [27] ⟨Kk, kq3, JW, JbA, JN, JZ, JK, Jbw, Vn, JaA, JbY, trivial⟩ ?_
 refine xsX 5 ?_
 refine xaX ?_
 refine xsX 1 ?_
 refine xcX ⟨[], []⟩ (tabG 0 (Jb6 a1.Hide r1 hr1)) ?_
 refine xbX ?_
 refine xsX 1 ?_
 refine xlX ?_
 refine xS ?_
 refine xr0 ?_
 refine then_normal ?_
 refine w_cut (VP q3 a0 a1 a2 a3 a5) (fun s => [(0, .c (.pt 1 0)), (1, .c (.pp (List.drop 0 (d_Macro a0).cells))), (6, .c (.pt 4 0)), (9, .c (.sl 1 (List.map dS s.1) 6)), (10, .c (.sl 1 (List.map (dL 11 d_Token) s.2.1) 5))]) (fun s => [[.d (.sl 5 (List.map d_Macro a2)), .d (.sl 2 (List.map d_Source a3)), .d (.v (.int .i64 s.2.2.1)), .d (.v (.int .i64 a5))], [.os 3 11 0 s.2.2.2], [.arr 11 (List.map d_Token a7)], [.d (.v (.int .i64 a1.Kind)), .d (.v (str a1.Text)), .d (.v (.bool a1.Space)), .d (.v (.bool a1.First)), .d (.v (.int .i64 a1.File)), .d (.v (.int .i64 a1.At)), .d (.v (.int .i64 a1.End)), .d (.v (.int .i64 a1.Line)), .d (.sl 1 (List.map dS a1.Hide)), .d (.sl 3 (List.map d_Call a1.Calls)), .d (.v (.int .i64 a1.Made))]]) [25, 9] r ?_ ?_
 ·refine xS ?_
  refine xr ?_
  rcases bsplit H with ⟨hp2, H⟩ | ⟨hp2, H⟩
  ·obtain ⟨F, G, hq2⟩ := xH Y G hp2
   refine xT ?_
   obtain ⟨r6, hr7, H⟩ := osplit H
   have F := Y
   refine xQ ?_
   refine xs 1 ?_
   refine xc ⟨[2, 3], []⟩ (tabG 5 (Xu a6 a7 r6 hr7)) ?_
   refine xl ?_
   refine xS ?_
   obtain ⟨r7, hr8, H⟩ := osplit H
   have F := Y
   refine xQ ?_
   refine xs 3 ?_
   refine xc ⟨[3], []⟩ (tabG 6 (JaR r6.2.2.2.2.2.2.2.2.2.2.2 a7 r7 hr8)) ?_
   refine xs 1 ?_
   refine xl ?_
   refine xS ?_
   rcases rsplit H with ⟨r8, hr9, H⟩ | ⟨e2, hr10, H⟩
   ·have F := Y
    refine xQ ?_
    refine xs 1 ?_
    refine xc ⟨[2, 4, 3], []⟩ (tabG 7 (JdK r6.2.2.2.2.2.2.2.2.2.2.2 a1.Kind a1.Text a1.Space a1.First a1.File a1.At a1.End a1.Line a1.Hide a1.Calls a1.Made a7 (.ok r8) hr9)) ?_
    refine xs 6 ?_
    refine xl ?_
    refine xS ?_
    refine xr ?_
    refine w_loop (Zc q3 a0 a1 a2 a3 a5 r8) (fun s => [(0, .c (.pt 1 0)), (1, .c (.pp (List.drop 0 (d_Macro a0).cells))), (6, .c (.pt 4 0)), (11, .c (.os 5 11 0 s.2.2.2.2.length)), (12, .c (.sl 1 (List.map (dL 11 d_Token) r8.1) 7)), (13, .c (.pt 6 0)), (45, .c (.d (.sl 1 (List.map (dL 11 d_Token) r8.1)))), (46, .c (.d (.v (.int .i64 s.1)))), (47, .c (.d (.v (.int .i64 s.2.1))))]) (fun s => [[.d (.sl 5 (List.map d_Macro a2)), .d (.sl 2 (List.map d_Source a3)), .d (.v (.int .i64 s.2.2.1)), .d (.v (.int .i64 a5))], [.os 3 11 0 s.2.2.2.1], [.arr 11 (List.map d_Token a7)], [.d (.v (.int .i64 a1.Kind)), .d (.v (str a1.Text)), .d (.v (.bool a1.Space)), .d (.v (.bool a1.First)), .d (.v (.int .i64 a1.File)), .d (.v (.int .i64 a1.At)), .d (.v (.int .i64 a1.End)), .d (.v (.int .i64 a1.Line)), .d (.sl 1 (List.map dS a1.Hide)), .d (.sl 3 (List.map d_Call a1.Calls)), .d (.v (.int .i64 a1.Made))], [.arr 11 (List.map d_Token s.2.2.2.2)], [.d (.v (.int .i64 r8.2.1)), .d (.v (str r8.2.2.1)), .d (.v (.bool r8.2.2.2.1)), .d (.v (.bool r8.2.2.2.2.1)), .d (.v (.int .i64 r8.2.2.2.2.2.1)), .d (.v (.int .i64 r8.2.2.2.2.2.2.1)), .d (.v (.int .i64 r8.2.2.2.2.2.2.2.1)), .d (.v (.int .i64 r8.2.2.2.2.2.2.2.2.1)), .d (.sl 1 (List.map dS r8.2.2.2.2.2.2.2.2.2.1)), .d (.sl 3 (List.map d_Call r8.2.2.2.2.2.2.2.2.2.2.1)), .d (.v (.int .i64 r8.2.2.2.2.2.2.2.2.2.2.2.1))]]) [25] H (xK ⟨[1,2,3,4,10,15], [14]⟩) ?_
    rintro n1 ⟨x8, x9, x10, x11, x12⟩ o1 H hF1
    rw [Zc] at H
    refine xS ?_
    refine xr ?_
    rcases bsplit H with ⟨hp3, H⟩ | ⟨hp3, H⟩
    ·obtain ⟨F, G, hq3⟩ := xH Y G hp3
     refine xT ?_
     obtain ⟨hg3, H⟩ := gsplit H
     have F := xZ Y (map_getD (dL 11 d_Token) r8.1 x9.toNat default default (by omega))
     refine xR ?_
     refine xr ?_
     refine w_loop (Ze a2 a3 a5 x8 x9 x12) (fun s => [(0, .c (.pt 1 0)), (1, .c (.pp (List.drop 0 (d_Macro a0).cells))), (6, .c (.pt 4 0)), (11, .c (.os 5 11 0 x12.length)), (12, .c (.sl 1 (List.map (dL 11 d_Token) r8.1) 7)), (13, .c (.pt 6 0)), (15, .c (.d (.sl 11 (List.map d_Token s.1)))), (45, .c (.d (.sl 1 (List.map (dL 11 d_Token) r8.1)))), (46, .c (.d (.v (.int .i64 x8)))), (47, .c (.d (.v (.int .i64 x9)))), (52, .c (.d (.v (.int .i64 s.2.1)))), (53, .c (.d (.v (.int .i64 s.2.2.1))))]) (fun s => [[.d (.sl 5 (List.map d_Macro a2)), .d (.sl 2 (List.map d_Source a3)), .d (.v (.int .i64 s.2.2.2.1)), .d (.v (.int .i64 a5))], [.os 3 11 0 s.2.2.2.2], [.arr 11 (List.map d_Token a7)], [.d (.v (.int .i64 a1.Kind)), .d (.v (str a1.Text)), .d (.v (.bool a1.Space)), .d (.v (.bool a1.First)), .d (.v (.int .i64 a1.File)), .d (.v (.int .i64 a1.At)), .d (.v (.int .i64 a1.End)), .d (.v (.int .i64 a1.Line)), .d (.sl 1 (List.map dS a1.Hide)), .d (.sl 3 (List.map d_Call a1.Calls)), .d (.v (.int .i64 a1.Made))], [.arr 11 (List.map d_Token x12)], [.d (.v (.int .i64 r8.2.1)), .d (.v (str r8.2.2.1)), .d (.v (.bool r8.2.2.2.1)), .d (.v (.bool r8.2.2.2.2.1)), .d (.v (.int .i64 r8.2.2.2.2.2.1)), .d (.v (.int .i64 r8.2.2.2.2.2.2.1)), .d (.v (.int .i64 r8.2.2.2.2.2.2.2.1)), .d (.v (.int .i64 r8.2.2.2.2.2.2.2.2.1)), .d (.sl 1 (List.map dS r8.2.2.2.2.2.2.2.2.2.1)), .d (.sl 3 (List.map d_Call r8.2.2.2.2.2.2.2.2.2.2.1)), .d (.v (.int .i64 r8.2.2.2.2.2.2.2.2.2.2.2.1))]]) [25] H (xK ⟨[1,2,3,4,5,6], [7]⟩) ?_
     rintro n2 ⟨x13, x14, x15, x16, x17⟩ o2 H hF2
     rw [Ze] at H
     refine xS ?_
     refine xr ?_
     rcases bsplit H with ⟨hp4, H⟩ | ⟨hp4, H⟩
     ·obtain ⟨F, G, hq4⟩ := xH Y G hp4
      refine xT ?_
      refine xr ?_
      obtain ⟨hg4, H⟩ := gsplit H
      have F := xZ Y (map_getD d_Token x13 x15.toNat default default (by omega))
      rcases rsplit H with ⟨r9, hr11, H⟩ | ⟨e3, hr12, H⟩
      ·have F := F
       refine xQ ?_
       refine xs 4 ?_
       refine xc ⟨[1], []⟩ (tabG 8 (JaI (x13.getD x15.toNat default) a2 a3 x16 a5 (.ok r9) hr11)) ?_
       refine xl ?_
       refine xS ?_
       refine xr ?_
       exact round_at (inl_fin H hF2) (xK ⟨[1,2,3,4,5,6], [7]⟩)
      ·have F := F
       refine xQp [56, 57, 58, 59, 60] ?_
       refine xs 4 ?_
       refine xp ⟨[1], []⟩ (tabG 8 (JaI (x13.getD x15.toNat default) a2 a3 x16 a5 (.er e3) hr12)) ?_
       replace H := inrO_fin H hF2
       replace H := inrO_fin H hF1
       replace H := Option.some.inj H
       refine xS ?_
       subst H
       refine xOp ?_
       refine qDf [] ?_
       exact xOv ⟨[1, 2, 3], []⟩
     ·obtain ⟨F, G, hq4⟩ := xH Y G hp4
      replace H := inrO_fin H hF2
      refine xE ?_
      refine xr ?_
      exact round_at (inl_fin H hF1) (xK ⟨[1,2,3,4,5,6], [7]⟩)
    ·obtain ⟨F, G, hq3⟩ := xH Y G hp3
     replace H := inrO_fin H hF1
     refine xE ?_
     obtain ⟨r10, hr13, H⟩ := osplit H
     have F := Y
     rcases rsplit H with ⟨r11, hr14, H⟩ | ⟨e4, hr15, H⟩
     ·have F := F
      refine xQ ?_
      refine xs 3 ?_
      refine xc ⟨[5], []⟩ (tabG 9 (Jdj x12 r10 hr13)) ?_
      refine xc ⟨[4, 9], [7]⟩ (tabG 10 (JdY a0 r8.1 a1.Kind a1.Text a1.Space a1.First a1.File a1.At a1.End a1.Line a1.Hide a1.Calls a1.Made r10 (.ok r11) hr14)) ?_
      refine xs 1 ?_
      refine xl ?_
      refine xS ?_
      refine xr ?_
      refine xr ?_
      refine w_loop (Zb q3 a0 a1 a2 a3 a5 r8 x10 r11) (fun s => [(0, .c (.pt 1 0)), (1, .c (.pp (List.drop 0 (d_Macro a0).cells))), (6, .c (.pt 4 0)), (9, .c (.sl 1 (List.map dS s.1) 7)), (10, .c (.sl 1 (List.map (dL 11 d_Token) r11) 6)), (13, .c (.pt 5 0)), (74, .c (.d (.sl 1 (List.map dS a1.Hide)))), (75, .c (.d (.v (.int .i64 s.2.1)))), (76, .c (.d (.v (.int .i64 s.2.2.1))))]) (fun s => [[.d (.sl 5 (List.map d_Macro a2)), .d (.sl 2 (List.map d_Source a3)), .d (.v (.int .i64 x10)), .d (.v (.int .i64 a5))], [.os 3 11 0 s.2.2.2], [.arr 11 (List.map d_Token a7)], [.d (.v (.int .i64 a1.Kind)), .d (.v (str a1.Text)), .d (.v (.bool a1.Space)), .d (.v (.bool a1.First)), .d (.v (.int .i64 a1.File)), .d (.v (.int .i64 a1.At)), .d (.v (.int .i64 a1.End)), .d (.v (.int .i64 a1.Line)), .d (.sl 1 (List.map dS a1.Hide)), .d (.sl 3 (List.map d_Call a1.Calls)), .d (.v (.int .i64 a1.Made))], [.d (.v (.int .i64 r8.2.1)), .d (.v (str r8.2.2.1)), .d (.v (.bool r8.2.2.2.1)), .d (.v (.bool r8.2.2.2.2.1)), .d (.v (.int .i64 r8.2.2.2.2.2.1)), .d (.v (.int .i64 r8.2.2.2.2.2.2.1)), .d (.v (.int .i64 r8.2.2.2.2.2.2.2.1)), .d (.v (.int .i64 r8.2.2.2.2.2.2.2.2.1)), .d (.sl 1 (List.map dS r8.2.2.2.2.2.2.2.2.2.1)), .d (.sl 3 (List.map d_Call r8.2.2.2.2.2.2.2.2.2.2.1)), .d (.v (.int .i64 r8.2.2.2.2.2.2.2.2.2.2.2.1))]]) [25, 9] H (xK ⟨[1,2,3,4,6], [12,0]⟩) ?_
      rintro n3 ⟨x18, x19, x20, x21⟩ o3 H hF3
      rw [Zb] at H
      refine xS ?_
      refine xr ?_
      rcases bsplit H with ⟨hp5, H⟩ | ⟨hp5, H⟩
      ·obtain ⟨F, G, hq5⟩ := xH Y G hp5
       refine xT0 ?_
       refine w_skip ?_
       refine then_normal ?_
       refine w_cut (VT x19 x20) (fun s => [(0, .c (.pt 1 0)), (1, .c (.pp (List.drop 0 (d_Macro a0).cells))), (6, .c (.pt 4 0)), (9, .c (.sl 1 (List.map dS s.1) 7)), (10, .c (.sl 1 (List.map (dL 11 d_Token) r11) 6)), (13, .c (.pt 5 0)), (74, .c (.d (.sl 1 (List.map dS a1.Hide)))), (75, .c (.d (.v (.int .i64 x19)))), (76, .c (.d (.v (.int .i64 x20))))]) (fun s => [[.d (.sl 5 (List.map d_Macro a2)), .d (.sl 2 (List.map d_Source a3)), .d (.v (.int .i64 x10)), .d (.v (.int .i64 a5))], [.os 3 11 0 s.2], [.arr 11 (List.map d_Token a7)], [.d (.v (.int .i64 a1.Kind)), .d (.v (str a1.Text)), .d (.v (.bool a1.Space)), .d (.v (.bool a1.First)), .d (.v (.int .i64 a1.File)), .d (.v (.int .i64 a1.At)), .d (.v (.int .i64 a1.End)), .d (.v (.int .i64 a1.Line)), .d (.sl 1 (List.map dS a1.Hide)), .d (.sl 3 (List.map d_Call a1.Calls)), .d (.v (.int .i64 a1.Made))], [.d (.v (.int .i64 r8.2.1)), .d (.v (str r8.2.2.1)), .d (.v (.bool r8.2.2.2.1)), .d (.v (.bool r8.2.2.2.2.1)), .d (.v (.int .i64 r8.2.2.2.2.2.1)), .d (.v (.int .i64 r8.2.2.2.2.2.2.1)), .d (.v (.int .i64 r8.2.2.2.2.2.2.2.1)), .d (.v (.int .i64 r8.2.2.2.2.2.2.2.2.1)), .d (.sl 1 (List.map dS r8.2.2.2.2.2.2.2.2.2.1)), .d (.sl 3 (List.map d_Call r8.2.2.2.2.2.2.2.2.2.2.1)), .d (.v (.int .i64 r8.2.2.2.2.2.2.2.2.2.2.2.1))]]) [25, 9] o3 ?_ ?_
       ·refine xS ?_
        obtain ⟨hg5, H⟩ := gsplit H
        have F := xZ Y (map_getD dS a1.Hide x20.toNat default default (by omega))
        refine xR ?_
        obtain ⟨r12, hr16, H⟩ := osplit H
        have F := xC Y (K6 r8.2.2.2.2.2.2.2.2.2.1 (a1.Hide.getD x20.toNat default) r12 hr16)
        refine xR ?_
        rcases bsplit H with ⟨hp6, H⟩ | ⟨hp6, H⟩
        ·obtain ⟨F, G, hq6⟩ := xH Y G hp6
         refine xT ?_
         obtain ⟨hg6, H⟩ := gsplit H
         have F := xZ Y (all_map one_dS [(a1.Hide.getD x20.toNat default)])
         refine xR ?_
         exact cut_at H (xK ⟨[1,2,3,4,5], [6,8]⟩)
        ·obtain ⟨F, G, hq6⟩ := xH Y G hp6
         refine xE ?_
         exact cut_at H (xK ⟨[1,2,3,4,5], [6,7]⟩)
       ·rintro ⟨x22, x23⟩ H
        rw [VT] at H
        refine xr ?_
        exact round_at (inl_fin H hF3) (xK ⟨[1,2,3,4,5], [6,7]⟩)
      ·obtain ⟨F, G, hq5⟩ := xH Y G hp5
       replace H := inrO_fin H hF3
       refine xE ?_
       exact cut_at H (xK ⟨[1,2,3,4], [6,7]⟩)
     ·have F := F
      refine xQp [63, 64, 65, 66, 67, 10] ?_
      refine xs 3 ?_
      refine xc ⟨[5], []⟩ (tabG 9 (Jdj x12 r10 hr13)) ?_
      refine xp ⟨[4, 9], [7]⟩ (tabG 10 (JdY a0 r8.1 a1.Kind a1.Text a1.Space a1.First a1.File a1.At a1.End a1.Line a1.Hide a1.Calls a1.Made r10 (.er e4) hr15)) ?_
      replace H := Option.some.inj H
      refine xS ?_
      subst H
      refine xOp ?_
      refine qDf [] ?_
      exact xOv ⟨[1, 2, 3], []⟩
   ·have F := Y
    refine xQp [41, 42, 40, 43, 44, 13, 12] ?_
    refine xs 1 ?_
    refine xp ⟨[2, 4, 3], []⟩ (tabG 7 (JdK r6.2.2.2.2.2.2.2.2.2.2.2 a1.Kind a1.Text a1.Space a1.First a1.File a1.At a1.End a1.Line a1.Hide a1.Calls a1.Made a7 (.er e2) hr10)) ?_
    replace H := Option.some.inj H
    refine xS ?_
    subst H
    refine xOp ?_
    refine qDf [] ?_
    exact xOv ⟨[1, 2, 3], []⟩
  ·obtain ⟨F, G, hq2⟩ := xH Y G hp2
   refine xE ?_
   exact cut_at H (xK ⟨[1,2,3,4], [0,6]⟩)
 ·rintro ⟨x1, x2, x3, x4⟩ H
  rw [VP] at H
  refine xS ?_
  refine xr0 ?_
  refine then_normal ?_
  refine w_cut (VS q3 a0 a1 a2 a3 a5 x1 x2 x3) (fun s => [(0, .c (.pt 1 0)), (1, .c (.pp (List.drop 0 (d_Macro a0).cells))), (6, .c (.pt 4 0)), (9, .c (.sl 1 (List.map dS x1) 7)), (10, .c (.sl 1 (List.map (dL 11 d_Token) x2) 6)), (19, .c (.pt 5 0))]) (fun s => [[.d (.sl 5 (List.map d_Macro a2)), .d (.sl 2 (List.map d_Source a3)), .d (.v (.int .i64 x3)), .d (.v (.int .i64 a5))], [.os 3 11 0 s.1], [.arr 11 (List.map d_Token a7)], [.d (.v (.int .i64 a1.Kind)), .d (.v (str a1.Text)), .d (.v (.bool a1.Space)), .d (.v (.bool a1.First)), .d (.v (.int .i64 a1.File)), .d (.v (.int .i64 a1.At)), .d (.v (.int .i64 a1.End)), .d (.v (.int .i64 a1.Line)), .d (.sl 1 (List.map dS a1.Hide)), .d (.sl 3 (List.map d_Call a1.Calls)), .d (.v (.int .i64 a1.Made))], [.d (.v (str a0.Name)), .d (.v (.int .i64 s.2.1)), .d (.v (.int .i64 s.2.2))]]) [25, 9] r ?_ ?_
  ·refine xS ?_
   refine xr ?_
   rcases bsplit H with ⟨hp1, H⟩ | ⟨hp1, H⟩
   ·obtain ⟨F, G, hq1⟩ := xH Y G hp1
    refine xT ?_
    refine xr ?_
    exact cut_at H (xK ⟨[1,2,3,4,7], [5,6]⟩)
   ·obtain ⟨F, G, hq1⟩ := xH Y G hp1
    refine xE ?_
    exact cut_at H (xK ⟨[1,2,3,4,7], [5,6]⟩)
  ·rintro ⟨x5, x6, x7⟩ H
   rw [VS] at H
   refine xS ?_
   rcases rsplit H with ⟨r2, hr2, H⟩ | ⟨e1, hr3, H⟩
   ·have F := Y
    obtain ⟨r3, hr4, H⟩ := osplit H
    have F := F
    obtain ⟨hg2, H⟩ := gsplit H
    have F := xZ F (all_map one_Call [(⟨a0.Name, x6, x7⟩ : Call)])
    obtain ⟨r4, hr5, H⟩ := osplit H
    have F := F
    refine xP [0, 1, 2, 4, 5, 6, 8, 9, 3, 7, 10, 11, 12] [109, 111] ⟨Kk, kq3, JW, JbA, JN, JZ, JK, Jbw, Vn, JaA, JbY, trivial⟩ ?_
    refine xsX 5 ?_
    refine xaX ?_
    refine xaX ?_
    refine xsX 1 ?_
    refine xcX ⟨[1], []⟩ (tabG 1 (Ja0 q3 a0 x2 a2 a3 x3 a5 (.ok r2) hr2)) ?_
    refine xcX ⟨[], []⟩ (tabG 2 (Jbn a1.Calls r3 hr4)) ?_
    refine xsX 1 ?_
    refine xcX ⟨[9], []⟩ (tabG 3 (Jfm x1 (a1.Calls ++ [(⟨a0.Name, x6, x7⟩ : Call)]) r2.2 r4 hr5)) ?_
    refine xsX 1 ?_
    refine xlX ?_
    refine xS ?_
    obtain ⟨r5, hr6, H⟩ := osplit H
    have F := Y
    refine xQ ?_
    refine xs 3 ?_
    refine xc ⟨[9], []⟩ (tabG 4 (Jb0 a1.Space r4 r5 hr6)) ?_
    refine xs 1 ?_
    refine xl ?_
    replace H := Option.some.inj H
    refine xS ?_
    subst H
    refine xOr ?_
    refine qDf [] ?_
    exact xO ⟨[1, 2, 3, 9], []⟩
   ·have F := Y
    refine xPp [103, 104, 105, 106, 107, 108, 109, 110, 111, 112, 113, 114, 20] [0, 1, 2, 4, 5, 6, 8, 9, 3, 7, 10, 11, 12] [109, 111] ⟨Kk, kq3, JW, JbA, JN, JZ, JK, Jbw, Vn, JaA, JbY, trivial⟩ ?_
    refine xsX 5 ?_
    refine xaX ?_
    refine xaX ?_
    refine xsX 1 ?_
    refine xpX ⟨[1], []⟩ (tabG 1 (Ja0 q3 a0 x2 a2 a3 x3 a5 (.er e1) hr3)) ?_
    replace H := Option.some.inj H
    refine xS ?_
    subst H
    refine xOp ?_
    refine qDf [] ?_
    exact xOv ⟨[1, 2, 3], []⟩
noncomputable def Vy : (Bool × Int × Int × Int × (List Token)) → Option ((Bool × Int × Int × Int × (List Token)) ⊕ (GR (Int × Int × Int × Int) (Int × (List Token))))
 | (x6, x7, x8, x9, x10) => some (.inl (x6, x7, IntKind.i64.wrap (x8 + 1), x9, x10))
noncomputable def Vt (x24 : Int) (x26 : Int) : (Int × (List Token)) → Option ((Bool × Int × Int × Int × (List Token)) ⊕ (GR (Int × Int × Int × Int) (Int × (List Token))))
 | (x27, x28) => Vy (false, x27, x24, x26, x28)
noncomputable def Jn (a0 : Macro) (a2 : List Macro) (a3 : List Source) (a5 : Int) (x2 : Int) (x5 : List Token) : (Bool × Int × (List Token) × Int) → Option ((Bool × Int × Int × Int × (List Token)) ⊕ (GR (Int × Int × Int × Int) (Int × (List Token))))
 | (x23, x24, x25, x26) => if x23 = true then if (0 : Int) ≤ 0 ∧ 0 ≤ x2 ∧ x2 ≤ (x5.length : Int) then if (0 : Int) ≤ x2 ∧ x2 ≤ (x5.length : Int) ∧ (x5.length : Int) ≤ (x5.length : Int) then if (0 : Int) ≤ x24 ∧ x24.toNat < a0.Body.length then (Jh (List.drop x2.toNat x5)).bind fun r1 => grB (XL x25 (a0.Body.getD x24.toNat default) a2 a3 x26 a5 (List.drop x2.toNat x5)) (fun r2 => if 0 < r2.length ∧ ((List.take x2.toNat x5).length + r2.length) * 120 ≤ 140737488355328 then Vt x24 x26 (x2, (List.take x2.toNat x5) ++ r2) else none) (fun e1 => inrO (some (.er (12, (a0.Body.getD x24.toNat default).File, (a0.Body.getD x24.toNat default).At, x26)))) else none else none else none else if (x5.length + x25.length) * 120 ≤ 140737488355328 then Vt x24 x26 (((x5.length : Nat) : Int), x5 ++ x25) else none
noncomputable def KC (q1 : (List Token) → (List Macro) → (List Source) → Int → Int → Option (GR (Int × Int × Int × Int) (Int × (List Token)))) (a0 : Macro) (a1 : List (List Token)) (a2 : List Macro) (a3 : List Source) (a5 : Int) (x2 : Int) (x3 : Int) (x4 : Int) (x5 : List Token) (x12 : Int) (x13 : List UInt8) (x14 : Bool) (x15 : Bool) (x16 : Int) (x17 : Int) (x18 : Int) (x19 : Int) (x20 : List (List UInt8)) (x21 : List Call) (x22 : Int) (r3 : Int) : (Bool × Bool) → Option ((Bool × Int × Int × Int × (List Token)) ⊕ (GR (Int × Int × Int × Int) (Int × (List Token))))
 | (x31, x32) => if x32 = true then if (0 : Int) ≤ r3 ∧ r3.toNat < a1.length then (Jh (a1.getD r3.toNat default)).bind fun r6 => (Zh x14 (a1.getD r3.toNat default)).bind fun r7 => Jn a0 a2 a3 a5 x2 x5 (x31, x3, r7, x4) else none else if (leI 0 r3) = true then if (0 : Int) ≤ r3 ∧ r3.toNat < a1.length then grB (q1 (a1.getD r3.toNat default) a2 a3 x4 a5) (fun r8 => (Zh x14 r8.2).bind fun r9 => Jn a0 a2 a3 a5 x2 x5 (x31, x3, r9, r8.1)) (fun e2 => inrO (some (.er (e2.1, e2.2.1, e2.2.2.1, e2.2.2.2)))) else none else Jn a0 a2 a3 a5 x2 x5 (x31, x3, [(⟨x12, x13, x14, x15, x16, x17, x18, x19, x20, x21, x22⟩ : Token)], x4)
noncomputable def Kv (q1 : (List Token) → (List Macro) → (List Source) → Int → Int → Option (GR (Int × Int × Int × Int) (Int × (List Token)))) (a0 : Macro) (a1 : List (List Token)) (a2 : List Macro) (a3 : List Source) (a5 : Int) (x1 : Bool) (x2 : Int) (x3 : Int) (x4 : Int) (x5 : List Token) (x11 : Bool) (x12 : Int) (x13 : List UInt8) (x14 : Bool) (x15 : Bool) (x16 : Int) (x17 : Int) (x18 : Int) (x19 : Int) (x20 : List (List UInt8)) (x21 : List Call) (x22 : Int) (r3 : Int) : Bool → Option ((Bool × Int × Int × Int × (List Token)) ⊕ (GR (Int × Int × Int × Int) (Int × (List Token))))
 | x30 => if x30 = true then if (0 : Int) ≤ (IntKind.i64.wrap (x3 + 1)) ∧ (IntKind.i64.wrap (x3 + 1)).toNat < a0.Body.length then (JaJ a0 (a0.Body.getD ((IntKind.i64.wrap (x3 + 1)).toNat) default)).bind fun r4 => if (0 : Int) ≤ r4 ∧ r4.toNat < a1.length then (Jcz (a1.getD r4.toNat default) (⟨x12, x13, x14, x15, x16, x17, x18, x19, x20, x21, x22⟩ : Token)).bind fun r5 => if (ltI (IntKind.i64.wrap ((IntKind.i64.wrap (x3 + 1)) + 1)) (a0.Body.length : Int)) = true then if (0 : Int) ≤ (IntKind.i64.wrap ((IntKind.i64.wrap (x3 + 1)) + 1)) ∧ (IntKind.i64.wrap ((IntKind.i64.wrap (x3 + 1)) + 1)).toNat < a0.Body.length then if (eqS ((a0.Body.getD ((IntKind.i64.wrap ((IntKind.i64.wrap (x3 + 1)) + 1)).toNat) default).Text) [35, 35]) = true then if (0 : Int) ≤ (IntKind.i64.wrap ((IntKind.i64.wrap (x3 + 1)) + 1)) ∧ (IntKind.i64.wrap ((IntKind.i64.wrap (x3 + 1)) + 1)).toNat < a0.Body.length then Jn a0 a2 a3 a5 x2 x5 (x1, IntKind.i64.wrap (x3 + 1), [r5], x4) else none else Jn a0 a2 a3 a5 x2 x5 (x1, IntKind.i64.wrap (x3 + 1), [r5], x4) else none else Jn a0 a2 a3 a5 x2 x5 (x1, IntKind.i64.wrap (x3 + 1), [r5], x4) else none else none else if (leI 0 r3) = true then if x1 = true then KC q1 a0 a1 a2 a3 a5 x2 x3 x4 x5 x12 x13 x14 x15 x16 x17 x18 x19 x20 x21 x22 r3 (true, true) else KC q1 a0 a1 a2 a3 a5 x2 x3 x4 x5 x12 x13 x14 x15 x16 x17 x18 x19 x20 x21 x22 r3 (false, x11) else KC q1 a0 a1 a2 a3 a5 x2 x3 x4 x5 x12 x13 x14 x15 x16 x17 x18 x19 x20 x21 x22 r3 (x1, false)
noncomputable def Vw (q1 : (List Token) → (List Macro) → (List Source) → Int → Int → Option (GR (Int × Int × Int × Int) (Int × (List Token)))) (a0 : Macro) (a1 : List (List Token)) (a2 : List Macro) (a3 : List Source) (a5 : Int) (x1 : Bool) (x2 : Int) (x3 : Int) (x4 : Int) (x5 : List Token) (x11 : Bool) (x12 : Int) (x13 : List UInt8) (x14 : Bool) (x15 : Bool) (x16 : Int) (x17 : Int) (x18 : Int) (x19 : Int) (x20 : List (List UInt8)) (x21 : List Call) (x22 : Int) (r3 : Int) : Bool → Option ((Bool × Int × Int × Int × (List Token)) ⊕ (GR (Int × Int × Int × Int) (Int × (List Token))))
 | x29 => if x29 = true then Vy (true, x2, x3, x4, x5) else if (eqS x13 [35]) = true then if (eqI x12 5) = true then Kv q1 a0 a1 a2 a3 a5 x1 x2 x3 x4 x5 x11 x12 x13 x14 x15 x16 x17 x18 x19 x20 x21 x22 r3 a0.Call else Kv q1 a0 a1 a2 a3 a5 x1 x2 x3 x4 x5 x11 x12 x13 x14 x15 x16 x17 x18 x19 x20 x21 x22 r3 false else Kv q1 a0 a1 a2 a3 a5 x1 x2 x3 x4 x5 x11 x12 x13 x14 x15 x16 x17 x18 x19 x20 x21 x22 r3 false
noncomputable def Ky (q1 : (List Token) → (List Macro) → (List Source) → Int → Int → Option (GR (Int × Int × Int × Int) (Int × (List Token)))) (a0 : Macro) (a1 : List (List Token)) (a2 : List Macro) (a3 : List Source) (a5 : Int) (x1 : Bool) (x2 : Int) (x3 : Int) (x4 : Int) (x5 : List Token) : (Bool × Int × (List UInt8) × Bool × Bool × Int × Int × Int × Int × (List (List UInt8)) × (List Call) × Int) → Option ((Bool × Int × Int × Int × (List Token)) ⊕ (GR (Int × Int × Int × Int) (Int × (List Token))))
 | (x11, x12, x13, x14, x15, x16, x17, x18, x19, x20, x21, x22) => (Jb2 a0 x12 x13 x14 x15 x16 x17 x18 x19 x20 x21 x22).bind fun r3 => if (eqS x13 [35, 35]) = true then Vw q1 a0 a1 a2 a3 a5 x1 x2 x3 x4 x5 x11 x12 x13 x14 x15 x16 x17 x18 x19 x20 x21 x22 r3 (eqI x12 5) else Vw q1 a0 a1 a2 a3 a5 x1 x2 x3 x4 x5 x11 x12 x13 x14 x15 x16 x17 x18 x19 x20 x21 x22 r3 false
noncomputable def X3 (q1 : (List Token) → (List Macro) → (List Source) → Int → Int → Option (GR (Int × Int × Int × Int) (Int × (List Token)))) (a0 : Macro) (a1 : List (List Token)) (a2 : List Macro) (a3 : List Source) (a5 : Int) : (Bool × Int × Int × Int × (List Token)) → Option ((Bool × Int × Int × Int × (List Token)) ⊕ (GR (Int × Int × Int × Int) (Int × (List Token))))
 | (x1, x2, x3, x4, x5) => if (ltI x3 (a0.Body.length : Int)) = true then if (0 : Int) ≤ x3 ∧ x3.toNat < a0.Body.length then if (ltI (IntKind.i64.wrap (x3 + 1)) (a0.Body.length : Int)) = true then if (0 : Int) ≤ (IntKind.i64.wrap (x3 + 1)) ∧ (IntKind.i64.wrap (x3 + 1)).toNat < a0.Body.length then if (eqS ((a0.Body.getD ((IntKind.i64.wrap (x3 + 1)).toNat) default).Text) [35, 35]) = true then if (0 : Int) ≤ (IntKind.i64.wrap (x3 + 1)) ∧ (IntKind.i64.wrap (x3 + 1)).toNat < a0.Body.length then Ky q1 a0 a1 a2 a3 a5 x1 x2 x3 x4 x5 (eqI ((a0.Body.getD ((IntKind.i64.wrap (x3 + 1)).toNat) default).Kind) 5, (a0.Body.getD x3.toNat default).Kind, (a0.Body.getD x3.toNat default).Text, (a0.Body.getD x3.toNat default).Space, (a0.Body.getD x3.toNat default).First, (a0.Body.getD x3.toNat default).File, (a0.Body.getD x3.toNat default).At, (a0.Body.getD x3.toNat default).End, (a0.Body.getD x3.toNat default).Line, (a0.Body.getD x3.toNat default).Hide, (a0.Body.getD x3.toNat default).Calls, (a0.Body.getD x3.toNat default).Made) else none else Ky q1 a0 a1 a2 a3 a5 x1 x2 x3 x4 x5 (false, (a0.Body.getD x3.toNat default).Kind, (a0.Body.getD x3.toNat default).Text, (a0.Body.getD x3.toNat default).Space, (a0.Body.getD x3.toNat default).First, (a0.Body.getD x3.toNat default).File, (a0.Body.getD x3.toNat default).At, (a0.Body.getD x3.toNat default).End, (a0.Body.getD x3.toNat default).Line, (a0.Body.getD x3.toNat default).Hide, (a0.Body.getD x3.toNat default).Calls, (a0.Body.getD x3.toNat default).Made) else none else Ky q1 a0 a1 a2 a3 a5 x1 x2 x3 x4 x5 (false, (a0.Body.getD x3.toNat default).Kind, (a0.Body.getD x3.toNat default).Text, (a0.Body.getD x3.toNat default).Space, (a0.Body.getD x3.toNat default).First, (a0.Body.getD x3.toNat default).File, (a0.Body.getD x3.toNat default).At, (a0.Body.getD x3.toNat default).End, (a0.Body.getD x3.toNat default).Line, (a0.Body.getD x3.toNat default).Hide, (a0.Body.getD x3.toNat default).Calls, (a0.Body.getD x3.toNat default).Made) else none else inrO (some (.ok (x4, x5)))
noncomputable def Za (q1 : (List Token) → (List Macro) → (List Source) → Int → Int → Option (GR (Int × Int × Int × Int) (Int × (List Token)))) (q2 : Macro → Token → (List Macro) → (List Source) → Int → Int → Nat → (List Token) → Option (GR (Int × Int × Int × Int × Nat) (Int × Nat × (List Token)))) (q3 : Macro → (List (List Token)) → (List Macro) → (List Source) → Int → Int → Option (GR (Int × Int × Int × Int) (Int × (List Token)))) (a0 : Macro) (a1 : List (List Token)) (a2 : List Macro) (a3 : List Source) (a4 : Int) (a5 : Int) : Option (GR (Int × Int × Int × Int) (Int × (List Token))) :=
 loopO (X3 q1 a0 a1 a2 a3 a5) (false, 0, 0, a4, ([] : List Token))
theorem JcS (q1 : (List Token) → (List Macro) → (List Source) → Int → Int → Option (GR (Int × Int × Int × Int) (Int × (List Token)))) (q2 : Macro → Token → (List Macro) → (List Source) → Int → Int → Nat → (List Token) → Option (GR (Int × Int × Int × Int × Nat) (Int × Nat × (List Token)))) (q3 : Macro → (List (List Token)) → (List Macro) → (List Source) → Int → Int → Option (GR (Int × Int × Int × Int) (Int × (List Token)))) (kq1 : Kok Tryz.prog 23 false (Jt q1)) (kq2 : Kok Tryz.prog 40 false (JL q2)) (kq3 : Kok Tryz.prog 66 false (Jy q3)) : ∀ g, Jy (Za q1 q2 q3) g → GenOk Tryz.prog 66 g := by
 rintro _ ⟨a0, a1, a2, a3, a4, a5, r, H, rfl⟩
 refine xGnl mixed [16, 19, 21, 23] [(81, Jcj)] [(75, true, Je), (82, false, K8), (80, true, Z0), (80, true, XE), (68, true, Xp), (23, false, (Jt q1))] [] ⟨⟨call_81, Je9⟩, trivial⟩ ⟨Jb, JR, V1, KU, JN, kq1, trivial⟩ trivial Tryz.func66 _ ?_
 have G := True.intro
 have Y := xZ y_3 <| xZ y_4 <| xZ y_9 <| xZ y_25 <| xZ y_39 <| xZ y_43 <| xZ y_99 <| xZ Tryz.results66 <| xZ d_Source.eq_1 <| xZ d_Call.eq_1 <| xZ d_Token.eq_1 <| xZ d_Macro.eq_1 <| xZ JP.eq_1 <| xZ K7.eq_1 <| xZ ZM.eq_1 <| xZ Xy.eq_1 <| xZ Xo.eq_1 <| xZ J0.eq_1 <| KO.eq_1
 dsimp only [KO]
 simp only [Za] at H
 refine xS ?_
 refine xr ?_
 refine xr ?_
 refine xr ?_
 refine xr ?_
 refine xr ?_
 refine w_loop (X3 q1 a0 a1 a2 a3 a5) (fun s => [(0, .c (.pt 1 0)), (1, .c (.pp (List.drop 0 (d_Macro a0).cells))), (2, .c (.d (.sl 1 (List.map (dL 11 d_Token) a1)))), (7, .c (.os 2 11 0 s.2.2.2.2.length)), (8, .c (.d (.v (.bool s.1)))), (9, .c (.d (.v (.int .i64 s.2.1)))), (10, .c (.d (.v (.int .i64 s.2.2.1))))]) (fun s => [[.d (.sl 5 (List.map d_Macro a2)), .d (.sl 2 (List.map d_Source a3)), .d (.v (.int .i64 s.2.2.2.1)), .d (.v (.int .i64 a5))], [.arr 11 (List.map d_Token s.2.2.2.2)]]) [] H (xK ⟨[1,0], []⟩) ?_
 rintro n1 ⟨x1, x2, x3, x4, x5⟩ o1 H hF1
 rw [X3] at H
 refine xS ?_
 refine xr ?_
 rcases bsplit H with ⟨hp1, H⟩ | ⟨hp1, H⟩
 ·obtain ⟨F, G, hq1⟩ := xH Y G hp1
  refine xT0 ?_
  refine w_skip ?_
  refine then_normal ?_
  refine w_cut Vy (fun s => [(0, .c (.pt 1 0)), (1, .c (.pp (List.drop 0 (d_Macro a0).cells))), (2, .c (.d (.sl 1 (List.map (dL 11 d_Token) a1)))), (7, .c (.os 2 11 0 s.2.2.2.2.length)), (8, .c (.d (.v (.bool s.1)))), (9, .c (.d (.v (.int .i64 s.2.1)))), (10, .c (.d (.v (.int .i64 s.2.2.1))))]) (fun s => [[.d (.sl 5 (List.map d_Macro a2)), .d (.sl 2 (List.map d_Source a3)), .d (.v (.int .i64 s.2.2.2.1)), .d (.v (.int .i64 a5))], [.arr 11 (List.map d_Token s.2.2.2.2)]]) [] o1 ?_ ?_
  ·refine xS ?_
   obtain ⟨hg1, H⟩ := gsplit H
   have F := xZ Y (map_getD d_Token a0.Body x3.toNat default default (by omega))
   refine xR0 ?_
   refine then_normal ?_
   refine w_cut (Ky q1 a0 a1 a2 a3 a5 x1 x2 x3 x4 x5) (fun s => [(0, .c (.pt 1 0)), (1, .c (.pp (List.drop 0 (d_Macro a0).cells))), (2, .c (.d (.sl 1 (List.map (dL 11 d_Token) a1)))), (7, .c (.os 2 11 0 x5.length)), (8, .c (.d (.v (.bool x1)))), (9, .c (.d (.v (.int .i64 x2)))), (10, .c (.d (.v (.int .i64 x3)))), (11, .c (.pt 3 0)), (12, .c (.d (.v (.bool s.1))))]) (fun s => [[.d (.sl 5 (List.map d_Macro a2)), .d (.sl 2 (List.map d_Source a3)), .d (.v (.int .i64 x4)), .d (.v (.int .i64 a5))], [.arr 11 (List.map d_Token x5)], [.d (.v (.int .i64 s.2.1)), .d (.v (str s.2.2.1)), .d (.v (.bool s.2.2.2.1)), .d (.v (.bool s.2.2.2.2.1)), .d (.v (.int .i64 s.2.2.2.2.2.1)), .d (.v (.int .i64 s.2.2.2.2.2.2.1)), .d (.v (.int .i64 s.2.2.2.2.2.2.2.1)), .d (.v (.int .i64 s.2.2.2.2.2.2.2.2.1)), .d (.sl 1 (List.map dS s.2.2.2.2.2.2.2.2.2.1)), .d (.sl 3 (List.map d_Call s.2.2.2.2.2.2.2.2.2.2.1)), .d (.v (.int .i64 s.2.2.2.2.2.2.2.2.2.2.2))]]) [] o1 ?_ ?_
   ·rcases bsplit H with ⟨hp14, H⟩ | ⟨hp14, H⟩
    ·obtain ⟨F, G, hq14⟩ := xH Y G hp14
     obtain ⟨hg13, H⟩ := gsplit H
     have F := xZ F (map_getD d_Token a0.Body ((IntKind.i64.wrap (x3 + 1)).toNat) default default (by omega))
     rcases bsplit H with ⟨hp15, H⟩ | ⟨hp15, H⟩
     ·obtain ⟨F, G, hq15⟩ := xH F G hp15
      obtain ⟨hg14, H⟩ := gsplit H
      have F := xZ F (map_getD d_Token a0.Body ((IntKind.i64.wrap (x3 + 1)).toNat) default default (by omega))
      refine xR ?_
      exact cut_at H (xK ⟨[1,2,3], []⟩)
     ·obtain ⟨F, G, hq15⟩ := xH F G hp15
      refine xR ?_
      exact cut_at H (xK ⟨[1,2,3], []⟩)
    ·obtain ⟨F, G, hq14⟩ := xH Y G hp14
     refine xR ?_
     exact cut_at H (xK ⟨[1,2,3], []⟩)
   ·rintro ⟨x11, x12, x13, x14, x15, x16, x17, x18, x19, x20, x21, x22⟩ H
    rw [Ky] at H
    refine xS ?_
    refine xr0 ?_
    refine then_normal ?_
    refine w_cut (Jn a0 a2 a3 a5 x2 x5) (fun s => [(0, .c (.pt 1 0)), (1, .c (.pp (List.drop 0 (d_Macro a0).cells))), (2, .c (.d (.sl 1 (List.map (dL 11 d_Token) a1)))), (7, .c (.os 2 11 0 x5.length)), (8, .c (.d (.v (.bool s.1)))), (9, .c (.d (.v (.int .i64 x2)))), (10, .c (.d (.v (.int .i64 s.2.1)))), (13, .c (.d (.sl 11 (List.map d_Token s.2.2.1))))]) (fun s => [[.d (.sl 5 (List.map d_Macro a2)), .d (.sl 2 (List.map d_Source a3)), .d (.v (.int .i64 s.2.2.2)), .d (.v (.int .i64 a5))], [.arr 11 (List.map d_Token x5)]]) [] o1 ?_ ?_
    ·refine xS ?_
     obtain ⟨r3, hr4, H⟩ := osplit H
     have F := Y
     refine xQ ?_
     refine xs 1 ?_
     refine xc ⟨[3], []⟩ (tabG 2 (Je8 a0 x12 x13 x14 x15 x16 x17 x18 x19 x20 x21 x22 r3 hr4)) ?_
     refine xs 1 ?_
     refine xl ?_
     refine  ?_
     refine then_normal ?_
     refine w_block ?_
     refine w_cut (Vw q1 a0 a1 a2 a3 a5 x1 x2 x3 x4 x5 x11 x12 x13 x14 x15 x16 x17 x18 x19 x20 x21 x22 r3) (fun s => [(0, .c (.pt 1 0)), (1, .c (.pp (List.drop 0 (d_Macro a0).cells))), (2, .c (.d (.sl 1 (List.map (dL 11 d_Token) a1)))), (7, .c (.os 2 11 0 x5.length)), (8, .c (.d (.v (.bool x1)))), (9, .c (.d (.v (.int .i64 x2)))), (10, .c (.d (.v (.int .i64 x3)))), (11, .c (.pt 3 0)), (12, .c (.d (.v (.bool x11)))), (14, .c (.d (.v (.int .i64 r3)))), (67, .c (.d (.v (.bool s))))]) (fun s => [[.d (.sl 5 (List.map d_Macro a2)), .d (.sl 2 (List.map d_Source a3)), .d (.v (.int .i64 x4)), .d (.v (.int .i64 a5))], [.arr 11 (List.map d_Token x5)], [.d (.v (.int .i64 x12)), .d (.v (str x13)), .d (.v (.bool x14)), .d (.v (.bool x15)), .d (.v (.int .i64 x16)), .d (.v (.int .i64 x17)), .d (.v (.int .i64 x18)), .d (.v (.int .i64 x19)), .d (.sl 1 (List.map dS x20)), .d (.sl 3 (List.map d_Call x21)), .d (.v (.int .i64 x22))]]) [] o1 ?_ ?_
     ·rcases bsplit H with ⟨hp13, H⟩ | ⟨hp13, H⟩
      ·obtain ⟨F, G, hq13⟩ := xH Y G hp13
       refine xR ?_
       exact cut_at H (xK ⟨[1,2,3], []⟩)
      ·obtain ⟨F, G, hq13⟩ := xH Y G hp13
       refine xR ?_
       exact cut_at H (xK ⟨[1,2,3], []⟩)
     ·rintro x29 H
      rw [Vw] at H
      rcases bsplit H with ⟨hp3, H⟩ | ⟨hp3, H⟩
      ·obtain ⟨F, G, hq3⟩ := xH Y G hp3
       refine xT ?_
       refine xr ?_
       exact cut_at H (xK ⟨[1,2], []⟩)
      ·obtain ⟨F, G, hq3⟩ := xH Y G hp3
       refine xE0 ?_
       refine w_cut (Kv q1 a0 a1 a2 a3 a5 x1 x2 x3 x4 x5 x11 x12 x13 x14 x15 x16 x17 x18 x19 x20 x21 x22 r3) (fun s => [(0, .c (.pt 1 0)), (1, .c (.pp (List.drop 0 (d_Macro a0).cells))), (2, .c (.d (.sl 1 (List.map (dL 11 d_Token) a1)))), (7, .c (.os 2 11 0 x5.length)), (8, .c (.d (.v (.bool x1)))), (9, .c (.d (.v (.int .i64 x2)))), (10, .c (.d (.v (.int .i64 x3)))), (11, .c (.pt 3 0)), (12, .c (.d (.v (.bool x11)))), (14, .c (.d (.v (.int .i64 r3)))), (76, .c (.d (.v (.bool s))))]) (fun s => [[.d (.sl 5 (List.map d_Macro a2)), .d (.sl 2 (List.map d_Source a3)), .d (.v (.int .i64 x4)), .d (.v (.int .i64 a5))], [.arr 11 (List.map d_Token x5)], [.d (.v (.int .i64 x12)), .d (.v (str x13)), .d (.v (.bool x14)), .d (.v (.bool x15)), .d (.v (.int .i64 x16)), .d (.v (.int .i64 x17)), .d (.v (.int .i64 x18)), .d (.v (.int .i64 x19)), .d (.sl 1 (List.map dS x20)), .d (.sl 3 (List.map d_Call x21)), .d (.v (.int .i64 x22))]]) [] o1 ?_ ?_
       ·rcases bsplit H with ⟨hp11, H⟩ | ⟨hp11, H⟩
        ·obtain ⟨F, G, hq11⟩ := xH Y G hp11
         rcases bsplit H with ⟨hp12, H⟩ | ⟨hp12, H⟩
         ·obtain ⟨F, G, hq12⟩ := xH F G hp12
          refine xR ?_
          exact cut_at H (xK ⟨[1,2,3], []⟩)
         ·obtain ⟨F, G, hq12⟩ := xH F G hp12
          refine xR ?_
          exact cut_at H (xK ⟨[1,2,3], []⟩)
        ·obtain ⟨F, G, hq11⟩ := xH Y G hp11
         refine xR ?_
         exact cut_at H (xK ⟨[1,2,3], []⟩)
       ·rintro x30 H
        rw [Kv] at H
        rcases bsplit H with ⟨hp4, H⟩ | ⟨hp4, H⟩
        ·obtain ⟨F, G, hq4⟩ := xH Y G hp4
         refine xT ?_
         refine xr ?_
         obtain ⟨hg7, H⟩ := gsplit H
         have F := xZ Y (map_getD d_Token a0.Body ((IntKind.i64.wrap (x3 + 1)).toNat) default default (by omega))
         obtain ⟨r4, hr5, H⟩ := osplit H
         have F := F
         obtain ⟨hg8, H⟩ := gsplit H
         have F := xZ F (map_getD (dL 11 d_Token) a1 r4.toNat default default (by omega))
         obtain ⟨r5, hr6, H⟩ := osplit H
         have F := xCf F (Jfi (a1.getD r4.toNat default) (⟨x12, x13, x14, x15, x16, x17, x18, x19, x20, x21, x22⟩ : Token) r5 hr6)
         refine xP [0, 1, 2, 3, 4, 5, 6, 7, 11, 8, 9, 10, 12, 13, 14] [104] ⟨Jb, JR, V1, KU, JN, kq1, trivial⟩ ?_
         refine xsX 8 ?_
         refine xaX ?_
         refine xcX ⟨[], []⟩ (tabG 3 (Jef a0 (a0.Body.getD ((IntKind.i64.wrap (x3 + 1)).toNat) default) r4 hr5)) ?_
         refine xsX 5 ?_
         refine xlX ?_
         refine xS ?_
         rcases bsplit H with ⟨hp5, H⟩ | ⟨hp5, H⟩
         ·obtain ⟨F, G, hq5⟩ := xH Y G hp5
          obtain ⟨hg9, H⟩ := gsplit H
          have F := xZ F (map_getD d_Token a0.Body ((IntKind.i64.wrap ((IntKind.i64.wrap (x3 + 1)) + 1)).toNat) default default (by omega))
          rcases bsplit H with ⟨hp6, H⟩ | ⟨hp6, H⟩
          ·obtain ⟨F, G, hq6⟩ := xH F G hp6
           obtain ⟨hg10, H⟩ := gsplit H
           have F := xZ F (map_getD d_Token a0.Body ((IntKind.i64.wrap ((IntKind.i64.wrap (x3 + 1)) + 1)).toNat) default default (by omega))
           refine xR ?_
           exact cut_at H (xK ⟨[1,2], []⟩)
          ·obtain ⟨F, G, hq6⟩ := xH F G hp6
           refine xR ?_
           exact cut_at H (xK ⟨[1,2], []⟩)
         ·obtain ⟨F, G, hq5⟩ := xH Y G hp5
          refine xR ?_
          exact cut_at H (xK ⟨[1,2], []⟩)
        ·obtain ⟨F, G, hq4⟩ := xH Y G hp4
         refine xE0 ?_
         refine w_cut (KC q1 a0 a1 a2 a3 a5 x2 x3 x4 x5 x12 x13 x14 x15 x16 x17 x18 x19 x20 x21 x22 r3) (fun s => [(0, .c (.pt 1 0)), (1, .c (.pp (List.drop 0 (d_Macro a0).cells))), (2, .c (.d (.sl 1 (List.map (dL 11 d_Token) a1)))), (7, .c (.os 2 11 0 x5.length)), (8, .c (.d (.v (.bool s.1)))), (9, .c (.d (.v (.int .i64 x2)))), (10, .c (.d (.v (.int .i64 x3)))), (11, .c (.pt 3 0)), (14, .c (.d (.v (.int .i64 r3)))), (139, .c (.d (.v (.bool s.2))))]) (fun s => [[.d (.sl 5 (List.map d_Macro a2)), .d (.sl 2 (List.map d_Source a3)), .d (.v (.int .i64 x4)), .d (.v (.int .i64 a5))], [.arr 11 (List.map d_Token x5)], [.d (.v (.int .i64 x12)), .d (.v (str x13)), .d (.v (.bool x14)), .d (.v (.bool x15)), .d (.v (.int .i64 x16)), .d (.v (.int .i64 x17)), .d (.v (.int .i64 x18)), .d (.v (.int .i64 x19)), .d (.sl 1 (List.map dS x20)), .d (.sl 3 (List.map d_Call x21)), .d (.v (.int .i64 x22))]]) [] o1 ?_ ?_
         ·rcases bsplit H with ⟨hp9, H⟩ | ⟨hp9, H⟩
          ·obtain ⟨F, G, hq9⟩ := xH Y G hp9
           rcases bsplit H with ⟨hp10, H⟩ | ⟨hp10, H⟩
           ·obtain ⟨F, G, hq10⟩ := xH F G hp10
            refine xR ?_
            exact cut_at H (xK ⟨[1,2,3], []⟩)
           ·obtain ⟨F, G, hq10⟩ := xH F G hp10
            refine xR ?_
            exact cut_at H (xK ⟨[1,2,3], []⟩)
          ·obtain ⟨F, G, hq9⟩ := xH Y G hp9
           refine xR ?_
           exact cut_at H (xK ⟨[1,2,3], []⟩)
         ·rintro ⟨x31, x32⟩ H
          rw [KC] at H
          rcases bsplit H with ⟨hp7, H⟩ | ⟨hp7, H⟩
          ·obtain ⟨F, G, hq7⟩ := xH Y G hp7
           refine xT ?_
           obtain ⟨hg11, H⟩ := gsplit H
           have F := xZ Y (map_getD (dL 11 d_Token) a1 r3.toNat default default (by omega))
           obtain ⟨r6, hr7, H⟩ := osplit H
           have F := F
           obtain ⟨r7, hr8, H⟩ := osplit H
           have F := F
           refine xP [0, 1, 2, 3, 5, 6, 4, 7, 8] [154] ⟨Jb, JR, V1, KU, JN, kq1, trivial⟩ ?_
           refine xsX 5 ?_
           refine xaX ?_
           refine xcX ⟨[], []⟩ (tabG 0 (JM (a1.getD r3.toNat default) r6 hr7)) ?_
           refine xcX ⟨[4], []⟩ (tabG 4 (Jb0 x14 (a1.getD r3.toNat default) r7 hr8)) ?_
           refine xsX 1 ?_
           refine xlX ?_
           refine xS ?_
           exact cut_at H (kf 4 11 (List.map d_Token r7) [] (xK ⟨[1,2], []⟩))
          ·obtain ⟨F, G, hq7⟩ := xH Y G hp7
           refine xE ?_
           refine xr ?_
           rcases bsplit H with ⟨hp8, H⟩ | ⟨hp8, H⟩
           ·obtain ⟨F, G, hq8⟩ := xH Y G hp8
            refine xT ?_
            obtain ⟨hg12, H⟩ := gsplit H
            have F := xZ Y (map_getD (dL 11 d_Token) a1 r3.toNat default default (by omega))
            rcases rsplit H with ⟨r8, hr9, H⟩ | ⟨e2, hr10, H⟩
            ·have F := F
             obtain ⟨r9, hr11, H⟩ := osplit H
             have F := F
             refine xP [0, 1, 2, 3, 4, 6, 7, 5, 8, 9] [166] ⟨Jb, JR, V1, KU, JN, kq1, trivial⟩ ?_
             refine xsX 6 ?_
             refine xaX ?_
             refine xcX ⟨[1], []⟩ (tabG 5 (ZB q1 (a1.getD r3.toNat default) a2 a3 x4 a5 (.ok r8) hr9)) ?_
             refine xcX ⟨[5], []⟩ (tabG 4 (Jb0 x14 r8.2 r9 hr11)) ?_
             refine xsX 1 ?_
             refine xlX ?_
             refine xS ?_
             exact cut_at H (kf 5 11 (List.map d_Token r9) [] (xK ⟨[1,2], []⟩))
            ·have F := F
             refine xPp [159, 160, 161, 162, 163, 164, 165, 166, 167, 13] [0, 1, 2, 3, 4, 6, 7, 5, 8, 9] [166] ⟨Jb, JR, V1, KU, JN, kq1, trivial⟩ ?_
             refine xsX 6 ?_
             refine xaX ?_
             refine xpX ⟨[1], []⟩ (tabG 5 (ZB q1 (a1.getD r3.toNat default) a2 a3 x4 a5 (.er e2) hr10)) ?_
             replace H := inrO_fin H hF1
             replace H := Option.some.inj H
             refine xS ?_
             subst H
             refine xOp ?_
             refine qDf [] ?_
             exact xOv ⟨[1], []⟩
           ·obtain ⟨F, G, hq8⟩ := xH Y G hp8
            refine xE ?_
            refine xr ?_
            exact cut_at H (xK ⟨[1,2], []⟩)
    ·rintro ⟨x23, x24, x25, x26⟩ H
     rw [Jn] at H
     refine w_cut (Vt x24 x26) (fun s => [(0, .c (.pt 1 0)), (1, .c (.pp (List.drop 0 (d_Macro a0).cells))), (2, .c (.d (.sl 1 (List.map (dL 11 d_Token) a1)))), (7, .c (.os 2 11 0 s.2.length)), (9, .c (.d (.v (.int .i64 s.1)))), (10, .c (.d (.v (.int .i64 x24))))]) (fun s => [[.d (.sl 5 (List.map d_Macro a2)), .d (.sl 2 (List.map d_Source a3)), .d (.v (.int .i64 x26)), .d (.v (.int .i64 a5))], [.arr 11 (List.map d_Token s.2)]]) [] o1 ?_ ?_
     ·refine xS ?_
      refine xr ?_
      rcases bsplit H with ⟨hp2, H⟩ | ⟨hp2, H⟩
      ·obtain ⟨F, G, hq2⟩ := xH Y G hp2
       refine xT ?_
       refine xfz 2 11 (List.map d_Token x5) [] ?_
       obtain ⟨hg2, H⟩ := gsplit H
       obtain ⟨hg3, H⟩ := gsplit H
       obtain ⟨hg4, H⟩ := gsplit H
       have F := xZ Y (map_getD d_Token a0.Body x24.toNat default default (by omega))
       obtain ⟨r1, hr1, H⟩ := osplit H
       have F := F
       rcases rsplit H with ⟨r2, hr2, H⟩ | ⟨e1, hr3, H⟩
       ·have F := F
        obtain ⟨hg5, H⟩ := gsplit H
        have F := xZ F (all_map one_Token r2)
        have A := all_map one_Token r2
        have T := take_len x5 x2.toNat (by omega)
        refine xP [0, 1, 2, 3, 4, 5, 6, 7, 9, 10, 11, 12, 13, 14, 15, 8, 16, 17, 18] [182] ⟨Jb, JR, V1, KU, JN, kq1, trivial⟩ ?_
        refine xsX 12 ?_
        refine xaX ?_
        refine xsX 2 ?_
        refine xcX ⟨[], []⟩ (tabG 0 (JM (List.drop x2.toNat x5) r1 hr1)) ?_
        refine xcX ⟨[1, 3], []⟩ (tabG 1 (Jbt x25 (a0.Body.getD x24.toNat default) a2 a3 x26 a5 (List.drop x2.toNat x5) (.ok r2) hr2)) ?_
        refine xbX ?_
        refine xsX 1 ?_
        refine xlX ?_
        refine xS ?_
        exact cut_at H (xK ⟨[1,7], []⟩)
       ·have F := F
        refine xPp [169, 170, 171, 172, 173, 174, 175, 176, 177, 178, 179, 180, 181, 182, 183, 184, 185, 186, 7] [0, 1, 2, 3, 4, 5, 6, 7, 9, 10, 11, 12, 13, 14, 15, 8, 16, 17, 18] [182] ⟨Jb, JR, V1, KU, JN, kq1, trivial⟩ ?_
        refine xsX 12 ?_
        refine xaX ?_
        refine xsX 2 ?_
        refine xcX ⟨[], []⟩ (tabG 0 (JM (List.drop x2.toNat x5) r1 hr1)) ?_
        refine xpX ⟨[1, 3], []⟩ (tabG 1 (Jbt x25 (a0.Body.getD x24.toNat default) a2 a3 x26 a5 (List.drop x2.toNat x5) (.er e1) hr3)) ?_
        replace H := inrO_fin H hF1
        replace H := Option.some.inj H
        refine xS ?_
        subst H
        refine xOp ?_
        refine qDf [] ?_
        exact xOv ⟨[1], []⟩
      ·obtain ⟨F, G, hq2⟩ := xH Y G hp2
       refine xE ?_
       refine xr ?_
       obtain ⟨hg6, H⟩ := gsplit H
       have F := xZ Y (all_map one_Token x25)
       have A := all_map one_Token x25
       refine xR ?_
       exact cut_at H (xK ⟨[1,3], []⟩)
     ·rintro ⟨x27, x28⟩ H
      rw [Vt] at H
      refine xr ?_
      exact cut_at H (xK ⟨[1,2], []⟩)
  ·rintro ⟨x6, x7, x8, x9, x10⟩ H
   rw [Vy] at H
   refine xr ?_
   exact round_at (inl_fin H hF1) (xK ⟨[1,2], []⟩)
 ·obtain ⟨F, G, hq1⟩ := xH Y G hp1
  replace H := inrO_fin H hF1
  refine xE ?_
  replace H := Option.some.inj H
  refine xr ?_
  subst H
  refine xOr ?_
  refine qDf [] ?_
  exact xO ⟨[1, 2], []⟩
noncomputable def Ja : Nat → ((List Token) → (List Macro) → (List Source) → Int → Int → Option (GR (Int × Int × Int × Int) (Int × (List Token)))) × (Macro → Token → (List Macro) → (List Source) → Int → Int → Nat → (List Token) → Option (GR (Int × Int × Int × Int × Nat) (Int × Nat × (List Token)))) × (Macro → (List (List Token)) → (List Macro) → (List Source) → Int → Int → Option (GR (Int × Int × Int × Int) (Int × (List Token))))
 | 0 => (fun _ _ _ _ _ => none, fun _ _ _ _ _ _ _ _ => none, fun _ _ _ _ _ _ => none)
 | n + 1 => (ZT ((Ja n).1) ((Ja n).2.1) ((Ja n).2.2), ZC ((Ja n).1) ((Ja n).2.1) ((Ja n).2.2), Za ((Ja n).1) ((Ja n).2.1) ((Ja n).2.2))
theorem JaK : ∀ n, Kok Tryz.prog 23 false (Jt (Ja n).1) ∧ Kok Tryz.prog 40 false (JL (Ja n).2.1) ∧ Kok Tryz.prog 66 false (Jy (Ja n).2.2)
 | 0 => ⟨⟨call_23, (by rintro _ ⟨_, _, _, _, _, _, H, _⟩; cases H), nofun⟩, ⟨call_40, (by rintro _ ⟨_, _, _, _, _, _, _, _, _, H, _⟩; cases H), nofun⟩, ⟨call_66, (by rintro _ ⟨_, _, _, _, _, _, _, H, _⟩; cases H), nofun⟩⟩
 | n + 1 => have h := JaK n; ⟨⟨call_23, Jdg _ _ _ h.1 h.2.1 h.2.2, nofun⟩, ⟨call_40, Jdb _ _ _ h.1 h.2.1 h.2.2, nofun⟩, ⟨call_66, JcS _ _ _ h.1 h.2.1 h.2.2, nofun⟩⟩
noncomputable def K3 : (List Token) → (List Macro) → (List Source) → Int → Int → Option (GR (Int × Int × Int × Int) (Int × (List Token))) := (Ja bigF).1
def ZO : GI → Prop := Jt K3
theorem JbS (a0 : List Token) (a1 : List Macro) (a2 : List Source) (a3 : Int) (a4 : Int) (r : GR (Int × Int × Int × Int) (Int × (List Token))) (H : K3 a0 a1 a2 a3 a4 = some r) : ZO (J0 a0 a1 a2 a3 a4 r) := ZB K3 a0 a1 a2 a3 a4 r H
theorem JbT : Kok Tryz.prog 23 false ZO := (JaK bigF).1
noncomputable def Ja2 (a0 : Int) (a1 : Int) (a2 : Int) : Option Unit :=
 some ()
def di_expand_guard (a0 : Int) (a1 : Int) (a2 : Int) (r : Unit) : DI :=
 ⟨[.c (.pt 1 0)], [[.d (.v (.int .i64 a0)), .d (.v (.int .i64 a1)), .d (.v (.int .i64 a2))]], [], none, [[.d (.v (.int .i64 a0)), .d (.v (.int .i64 a1)), .d (.v (.int .i64 a2))]], [], none⟩
def SD_expand_guard : DI → Prop := fun d => ∃ (a0 : Int) (a1 : Int) (a2 : Int) (r : Unit), Ja2 a0 a1 a2 = some r ∧ d = di_expand_guard a0 a1 a2 r
theorem JeV (a0 : Int) (a1 : Int) (a2 : Int) (r : Unit) (H : Ja2 a0 a1 a2 = some r) : SD_expand_guard (di_expand_guard a0 a1 a2 r) := ⟨a0, a1, a2, r, H, rfl⟩
theorem Jev : ∀ d, SD_expand_guard d → DOk Tryz.prog 22 d := by
 rintro _ ⟨a0, a1, a2, r, H, rfl⟩
 refine xRcl mixed [] [] [] trivial trivial Tryz.func22 _ ?_
 have G := True.intro
 have Y := xZ y_20 <| xZ y_29 <| xZ y_78 <| xZ Tryz.results22 <| xZ d_Fault.eq_1 <| di_expand_guard.eq_1
 dsimp only [di_expand_guard, Option.getD_some, Option.getD_none]
 unfold Ja2 at H
 refine xS ?_
 refine xr ?_
 refine xt ?_
 replace H := Option.some.inj H
 refine xr ?_
 subst H
 exact xDn ⟨[1], []⟩
noncomputable def JaU (a0 : Int) (a1 : Int) (a2 : Int) (a3 : List Token) (a4 : Int) : Option ((List Token) × Int) :=
 if (!eqI a0 0) = true then some (([] : List Token), 0) else some (a3, a4)
def di_expand_All_1 (a0 : Int) (a1 : Int) (a2 : Int) (a3 : List Token) (a4 : Int) (r : ((List Token) × Int)) (u : Option Value) : DI :=
 ⟨[.c (.pt 1 0), .c (.pt 2 0), .c (.pt 3 0)], [[.d (.v (.int .i64 a0)), .d (.v (.int .i64 a1)), .d (.v (.int .i64 a2))], [.d (.sl 11 (List.map d_Token a3))], [.d (.v (.int .i64 a4))]], [], u, [[.d (.v (.int .i64 a0)), .d (.v (.int .i64 a1)), .d (.v (.int .i64 a2))], [.d (.sl 11 (List.map d_Token r.1))], [.d (.v (.int .i64 r.2))]], [], u⟩
def SD_expand_All_1 : DI → Prop := fun d => ∃ (a0 : Int) (a1 : Int) (a2 : Int) (a3 : List Token) (a4 : Int) (r : ((List Token) × Int)) (u : Option Value), JaU a0 a1 a2 a3 a4 = some r ∧ d = di_expand_All_1 a0 a1 a2 a3 a4 r u
theorem JeX (a0 : Int) (a1 : Int) (a2 : Int) (a3 : List Token) (a4 : Int) (r : ((List Token) × Int)) (u : Option Value) (H : JaU a0 a1 a2 a3 a4 = some r) : SD_expand_All_1 (di_expand_All_1 a0 a1 a2 a3 a4 r u) := ⟨a0, a1, a2, a3, a4, r, u, H, rfl⟩
theorem Jew : ∀ d, SD_expand_All_1 d → DOk Tryz.prog 21 d := by
 rintro _ ⟨a0, a1, a2, a3, a4, r, u, H, rfl⟩
 refine xDf mixed [] [] trivial trivial Tryz.func21 _ ?_
 have G := True.intro
 have Y := xZ y_3 <| xZ y_25 <| xZ y_27 <| xZ y_29 <| xZ Tryz.results21 <| xZ d_Call.eq_1 <| xZ d_Token.eq_1 <| di_expand_All_1.eq_1
 dsimp only [di_expand_All_1]
 simp only [JaU] at H
 refine xS ?_
 refine xr ?_
 rcases bsplit H with ⟨hp1, H⟩ | ⟨hp1, H⟩
 ·obtain ⟨F, G, hq1⟩ := xH Y G hp1
  refine xT ?_
  replace H := Option.some.inj H
  refine xr ?_
  subst H
  exact xDn ⟨[1, 2, 3], []⟩
 ·obtain ⟨F, G, hq1⟩ := xH Y G hp1
  replace H := Option.some.inj H
  refine xE ?_
  subst H
  exact xDn ⟨[1, 2, 3], []⟩
noncomputable def JaE (a0 : Int) (a1 : Int) (a2 : Int) (a3 : Int) (a4 : Int) (a5 : Int) : Option Unit :=
 some ()
def di_expand_guard_v2 (a0 : Int) (a1 : Int) (a2 : Int) (a3 : Int) (a4 : Int) (a5 : Int) (r : Unit) : DI :=
 ⟨[.c (.pt 1 0)], [[.d (.v (.int .i64 a0)), .d (.v (.int .i64 a1)), .d (.v (.int .i64 a2))]], [], (some (.iface 78 (.agg ⟨[.int .i64 a3, .int .i64 a4, .int .i64 a5]⟩))), [[.d (.v (.int .i64 a3)), .d (.v (.int .i64 a4)), .d (.v (.int .i64 a5))]], [], none⟩
def SD_expand_guard_v2 : DI → Prop := fun d => ∃ (a0 : Int) (a1 : Int) (a2 : Int) (a3 : Int) (a4 : Int) (a5 : Int) (r : Unit), JaE a0 a1 a2 a3 a4 a5 = some r ∧ d = di_expand_guard_v2 a0 a1 a2 a3 a4 a5 r
theorem Jd8 (a0 : Int) (a1 : Int) (a2 : Int) (a3 : Int) (a4 : Int) (a5 : Int) (r : Unit) (H : JaE a0 a1 a2 a3 a4 a5 = some r) : SD_expand_guard_v2 (di_expand_guard_v2 a0 a1 a2 a3 a4 a5 r) := ⟨a0, a1, a2, a3, a4, a5, r, H, rfl⟩
theorem JdS : ∀ d, SD_expand_guard_v2 d → DOk Tryz.prog 22 d := by
 rintro _ ⟨a0, a1, a2, a3, a4, a5, r, H, rfl⟩
 refine xRcl mixed [] [] [] trivial trivial Tryz.func22 _ ?_
 have G := True.intro
 have Y := xZ y_20 <| xZ y_29 <| xZ y_78 <| xZ Tryz.results22 <| xZ d_Fault.eq_1 <| di_expand_guard_v2.eq_1
 dsimp only [di_expand_guard_v2, Option.getD_some, Option.getD_none]
 unfold JaE at H
 refine xS ?_
 refine xr ?_
 refine xe ?_
 refine xr ?_
 refine xt ?_
 refine xr ?_
 replace H := Option.some.inj H
 refine xr ?_
 subst H
 exact xDn ⟨[1], []⟩
noncomputable def JaP (a0 : Int) (a1 : Int) (a2 : Int) (a3 : List Token) (a4 : Int) : Option ((List Token) × Int) :=
 if (!eqI a0 0) = true then some (([] : List Token), 0) else some (a3, a4)
def di_expand_All_1_v2 (a0 : Int) (a1 : Int) (a2 : Int) (a3 : List Token) (a4 : Int) (r : ((List Token) × Int)) (u : Option Value) : DI :=
 ⟨[.c (.pt 1 0), .c (.pt 2 0), .c (.pt 3 0)], [[.d (.v (.int .i64 a0)), .d (.v (.int .i64 a1)), .d (.v (.int .i64 a2))], [.sl 11 (List.map d_Token a3) 4], [.d (.v (.int .i64 a4))]], [39], u, [[.d (.v (.int .i64 a0)), .d (.v (.int .i64 a1)), .d (.v (.int .i64 a2))], [.sl 11 (List.map d_Token r.1) 4], [.d (.v (.int .i64 r.2))]], [39], u⟩
def SD_expand_All_1_v2 : DI → Prop := fun d => ∃ (a0 : Int) (a1 : Int) (a2 : Int) (a3 : List Token) (a4 : Int) (r : ((List Token) × Int)) (u : Option Value), JaP a0 a1 a2 a3 a4 = some r ∧ d = di_expand_All_1_v2 a0 a1 a2 a3 a4 r u
theorem Jd5 (a0 : Int) (a1 : Int) (a2 : Int) (a3 : List Token) (a4 : Int) (r : ((List Token) × Int)) (u : Option Value) (H : JaP a0 a1 a2 a3 a4 = some r) : SD_expand_All_1_v2 (di_expand_All_1_v2 a0 a1 a2 a3 a4 r u) := ⟨a0, a1, a2, a3, a4, r, u, H, rfl⟩
theorem JdP : ∀ d, SD_expand_All_1_v2 d → DOk Tryz.prog 21 d := by
 rintro _ ⟨a0, a1, a2, a3, a4, r, u, H, rfl⟩
 refine xDf mixed [] [] trivial trivial Tryz.func21 _ ?_
 have G := True.intro
 have Y := xZ y_3 <| xZ y_25 <| xZ y_27 <| xZ y_29 <| xZ Tryz.results21 <| xZ d_Call.eq_1 <| xZ d_Token.eq_1 <| di_expand_All_1_v2.eq_1
 dsimp only [di_expand_All_1_v2]
 simp only [JaP] at H
 refine xS ?_
 refine xr ?_
 rcases bsplit H with ⟨hp1, H⟩ | ⟨hp1, H⟩
 ·obtain ⟨F, G, hq1⟩ := xH Y G hp1
  refine xT ?_
  replace H := Option.some.inj H
  refine xr ?_
  subst H
  exact xDn ⟨[1, 2, 3], [0]⟩
 ·obtain ⟨F, G, hq1⟩ := xH Y G hp1
  replace H := Option.some.inj H
  refine xE ?_
  subst H
  exact xDn ⟨[1, 2, 3], [4]⟩
noncomputable def Xx (a0 : List Source) (a1 : List Macro) (a2 : List Token) (a3 : Int) (a4 : Int) : Bool → Option ((List Token) × Int × Int × Int × Int)
 | x1 => if x1 = true then some (([] : List Token), 0, 3, (-1), 0) else grB (K3 a2 a1 a0 a3 a4) (fun r1 => (Ja2 0 (-1) 0).bind fun r2 => (JaU 0 (-1) 0 r1.2 r1.1).bind fun r3 => some (r3.1, r3.2, 0, (-1), 0)) (fun e1 => (JaE 0 0 0 e1.1 e1.2.1 e1.2.2.1).bind fun r4 => (JaP e1.1 e1.2.1 e1.2.2.1 ([] : List Token) 0).bind fun r5 => some (r5.1, r5.2, e1.1, e1.2.1, e1.2.2.1))
noncomputable def Jae (a0 : List Source) (a1 : List Macro) (a2 : List Token) (a3 : Int) (a4 : Int) : Option ((List Token) × Int × Int × Int × Int) :=
 if (ltI a3 0) = true then Xx a0 a1 a2 a3 a4 true else if (ltI 4000 a3) = true then Xx a0 a1 a2 a3 a4 true else if (ltI a4 0) = true then Xx a0 a1 a2 a3 a4 true else Xx a0 a1 a2 a3 a4 (ltI 1500 a4)
def Z1 (a0 : List Source) (a1 : List Macro) (a2 : List Token) (a3 : Int) (a4 : Int) (r : ((List Token) × Int × Int × Int × Int)) : GI :=
 ⟨[.c (.d (.sl 2 (List.map d_Source a0))), .c (.d (.sl 5 (List.map d_Macro a1))), .c (.d (.sl 11 (List.map d_Token a2))), .c (.d (.v (.int .i64 a3))), .c (.d (.v (.int .i64 a4)))], [], [], .ret (.tu [(false, [.d (.sl 11 (List.map d_Token r.1))]), (false, [.d (.v (.int .i64 r.2.1))]), (true, [.d (.v (.int .i64 r.2.2.1)), .d (.v (.int .i64 r.2.2.2.1)), .d (.v (.int .i64 r.2.2.2.2))])]) [] []⟩
def ZZ : GI → Prop := fun g => ∃ (a0 : List Source) (a1 : List Macro) (a2 : List Token) (a3 : Int) (a4 : Int) (r : ((List Token) × Int × Int × Int × Int)), Jae a0 a1 a2 a3 a4 = some r ∧ g = Z1 a0 a1 a2 a3 a4 r
theorem Jd0 (a0 : List Source) (a1 : List Macro) (a2 : List Token) (a3 : Int) (a4 : Int) (r : ((List Token) × Int × Int × Int × Int)) (H : Jae a0 a1 a2 a3 a4 = some r) : ZZ (Z1 a0 a1 a2 a3 a4 r) := ⟨a0, a1, a2, a3, a4, r, H, rfl⟩
theorem Jfh : ∀ g, ZZ g → GenOk Tryz.prog 10 g := by
 rintro _ ⟨a0, a1, a2, a3, a4, r, H, rfl⟩
 refine xGnl mixed [7] [] [(23, false, ZO)] [(22, SD_expand_guard), (21, SD_expand_All_1), (22, SD_expand_guard_v2), (21, SD_expand_All_1_v2)] trivial ⟨JbT, trivial⟩ ⟨⟨call_22, Jev⟩, ⟨call_21, Jew⟩, ⟨call_22, JdS⟩, ⟨call_21, JdP⟩, trivial⟩ Tryz.func10 _ ?_
 have G := True.intro
 have Y := xZ y_3 <| xZ y_23 <| xZ y_25 <| xZ y_27 <| xZ y_29 <| xZ y_32 <| xZ y_57 <| xZ Tryz.results10 <| xZ d_Source.eq_1 <| xZ d_Call.eq_1 <| xZ d_Token.eq_1 <| xZ d_Macro.eq_1 <| xZ d_Fault.eq_1 <| xZ J0.eq_1 <| xZ di_expand_guard.eq_1 <| xZ di_expand_All_1.eq_1 <| xZ di_expand_guard_v2.eq_1 <| xZ di_expand_All_1_v2.eq_1 <| Z1.eq_1
 dsimp only [Z1]
 simp only [Jae] at H
 refine xS ?_
 refine xr0 ?_
 refine then_normal ?_
 refine w_seq ?_
 refine w_cut (Xx a0 a1 a2 a3 a4) (fun s => [(0, .c (.d (.sl 2 (List.map d_Source a0)))), (1, .c (.d (.sl 5 (List.map d_Macro a1)))), (2, .c (.d (.sl 11 (List.map d_Token a2)))), (3, .c (.d (.v (.int .i64 a3)))), (4, .c (.d (.v (.int .i64 a4)))), (10, .c (.pt 1 0)), (11, .c (.pt 2 0)), (12, .c (.pt 3 0)), (27, .c (.d (.v (.bool s))))]) (fun s => [[.sl 11 [] 0], [.d (.v (.int .i64 0))], [.d (.v (.int .i64 0)), .d (.v (.int .i64 0)), .d (.v (.int .i64 0))]]) [] r ?_ ?_
 ·rcases bsplit H with ⟨hp2, H⟩ | ⟨hp2, H⟩
  ·obtain ⟨F, G, hq2⟩ := xH Y G hp2
   refine xR ?_
   exact cut_at H (xK ⟨[1,2,3], []⟩)
  ·obtain ⟨F, G, hq2⟩ := xH Y G hp2
   rcases bsplit H with ⟨hp3, H⟩ | ⟨hp3, H⟩
   ·obtain ⟨F, G, hq3⟩ := xH F G hp3
    refine xR ?_
    exact cut_at H (xK ⟨[1,2,3], []⟩)
   ·obtain ⟨F, G, hq3⟩ := xH F G hp3
    rcases bsplit H with ⟨hp4, H⟩ | ⟨hp4, H⟩
    ·obtain ⟨F, G, hq4⟩ := xH F G hp4
     refine xR ?_
     exact cut_at H (xK ⟨[1,2,3], []⟩)
    ·obtain ⟨F, G, hq4⟩ := xH F G hp4
     refine xR ?_
     exact cut_at H (xK ⟨[1,2,3], []⟩)
 ·rintro x1 H
  rw [Xx] at H
  rcases bsplit H with ⟨hp1, H⟩ | ⟨hp1, H⟩
  ·obtain ⟨F, G, hq1⟩ := xH Y G hp1
   refine xT ?_
   replace H := Option.some.inj H
   refine xr ?_
   subst H
   refine xOr ?_
   refine qDf [] ?_
   exact xO ⟨[], []⟩
  ·obtain ⟨F, G, hq1⟩ := xH Y G hp1
   refine xE ?_
   have F := Y
   refine xQ ?_
   refine xs 1 ?_
   refine xw ?_
   refine xl ?_
   refine xS ?_
   have F := Y
   refine xQ ?_
   refine xw ?_
   refine xl ?_
   refine xS ?_
   refine xr ?_
   rcases rsplit H with ⟨r1, hr1, H⟩ | ⟨e1, hr2, H⟩
   ·have F := Y
    refine xQ ?_
    refine xs 2 ?_
    refine xc ⟨[4], []⟩ (tabG 0 (JbS a2 a1 a0 a3 a4 (.ok r1) hr1)) ?_
    refine xs 1 ?_
    refine xl ?_
    refine xS ?_
    refine xfz 6 11 (List.map d_Token r1.2) [] ?_
    have F := Y
    refine xP [0, 1, 2, 3, 4, 5, 6, 7, 8] [43] ⟨JbT, trivial⟩ ?_
    refine xsX 4 ?_
    refine xaX ?_
    refine xsX 1 ?_
    refine xbX ?_
    refine xbX ?_
    refine xbX ?_
    refine xlX ?_
    refine xS ?_
    refine xOr ?_
    refine qDf [(22, [.pt 3 0]), (21, [.pt 3 0, .pt 1 0, .pt 2 0])] ?_
    obtain ⟨r2, hr3, H⟩ := osplit H
    refine xD ⟨[3], []⟩ (tabD 0 (JeV 0 (-1) 0 r2 hr3)) ?_
    obtain ⟨r3, hr4, H⟩ := osplit H
    refine xD ⟨[3, 1, 2], []⟩ (tabD 1 (JeX 0 (-1) 0 r1.2 r1.1 r3 none hr4)) ?_
    replace H := Option.some.inj H
    subst H
    exact xO ⟨[], []⟩
   ·have F := Y
    refine xQp [36, 37, 38] ?_
    refine xs 2 ?_
    refine xp ⟨[4], []⟩ (tabG 0 (JbS a2 a1 a0 a3 a4 (.er e1) hr2)) ?_
    refine xS ?_
    refine xOp ?_
    refine qDf [(22, [.pt 3 0]), (21, [.pt 3 0, .pt 1 0, .pt 2 0])] ?_
    obtain ⟨r4, hr5, H⟩ := osplit H
    refine xD ⟨[3], []⟩ (tabD 2 (Jd8 0 0 0 e1.1 e1.2.1 e1.2.2.1 r4 hr5)) ?_
    obtain ⟨r5, hr6, H⟩ := osplit H
    refine xD ⟨[3, 1, 2], [0]⟩ (tabD 3 (Jd5 e1.1 e1.2.1 e1.2.2.1 ([] : List Token) 0 r5 none hr6)) ?_
    replace H := Option.some.inj H
    subst H
    exact xO ⟨[], []⟩
theorem Jd4 : Callable Tryz.prog 10 ∧ (∀ g, ZZ g → GenOk Tryz.prog 10 g) ∧ (true = true → ∀ g, ZZ g → ∃ val bs ts, g.out = .ret val bs ts) :=
 ⟨call_10, Jfh, fun _ => by rintro _ ⟨_, _, _, _, _, _, _, rfl⟩; exact ⟨_, _, _, rfl⟩⟩
end Go.Proofs.YtjgimofnepechaaGreatDoor
