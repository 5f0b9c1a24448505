/- Functions of data for functions of the program. Written by dec3.py. -/
import Derived.Test.YtfkhlbhjhdpkoaaGreatDoorZrba
set_option linter.unusedVariables false
set_option linter.unusedSimpArgs false
set_option maxHeartbeats 4000000
set_option maxRecDepth 100000
namespace Go.Proofs.YtfkhlbhjhdpkoaaGreatDoor
open Go.RowKit
noncomputable def ZT (a0 : List Token) : (Int × (List Token)) → Option ((Int × (List Token)) ⊕ (List Token))
 | (x1, x2) => if (leI 0 x1) = true then if (0 : Int) ≤ x1 ∧ x1.toNat < a0.length then if (x2.length + [(a0.getD x1.toNat default)].length) * 120 ≤ 140737488355328 then some (.inl (IntKind.i64.wrap (x1 - 1), x2 ++ [(a0.getD x1.toNat default)])) else none else none else inrO (some x2)
noncomputable def Zw (a0 : List Token) (a1 : List Token) : Option (List Token) :=
 loopO (ZT a0) (IntKind.i64.wrap ((a0.length : Int) - 1), a1)
def VD (a0 : List Token) (a1 : List Token) (r : (List Token)) : GI :=
 ⟨[.c (.pt 1 0), .c (.d (.sl 11 (List.map d_Token a0)))], [[.os 2 11 0 a1.length], [.arr 11 (List.map d_Token a1)]], [], .ret (.tu []) [[.os 3 11 0 r.length], [], [.arr 11 (List.map d_Token r)]] []⟩
def VC : GI → Prop := fun g => ∃ (a0 : List Token) (a1 : List Token) (r : (List Token)), Zw a0 a1 = some r ∧ g = VD a0 a1 r
theorem JdN (a0 : List Token) (a1 : List Token) (r : (List Token)) (H : Zw a0 a1 = some r) : VC (VD a0 a1 r) := ⟨a0, a1, r, H, rfl⟩
theorem Jdo : ∀ g, VC g → GenOk Tryz.prog 121 g := by
 rintro _ ⟨a0, a1, r, H, rfl⟩
 refine xGn mixed [] [] [] trivial trivial trivial Tryz.func121 _ ?_
 have G := True.intro
 have Y := xZ y_24 <| xZ y_44 <| xZ y_171 <| xZ Tryz.results121 <| xZ d_Call.eq_1 <| xZ d_Token.eq_1 <| VD.eq_1
 dsimp only [VD]
 simp only [Zw] at H
 refine xS ?_
 refine xrn 2 1 ?_
 refine xr ?_
 refine w_loop (ZT a0) (fun s => [(0, .c (.pt 1 0)), (1, .c (.d (.sl 11 (List.map d_Token a0)))), (4, .c (.d (.v (.int .i64 s.1))))]) (fun s => [[.os 3 11 0 s.2.length], [], [.arr 11 (List.map d_Token s.2)]]) [] H (xK ⟨[1,2,3], []⟩) ?_
 rintro n1 ⟨x1, x2⟩ o1 H hF1
 rw [ZT] at H
 refine xS ?_
 refine xr ?_
 rcases bsplit H with ⟨hp1, H⟩ | ⟨hp1, H⟩
 ·obtain ⟨F, G, hq1⟩ := xH Y G hp1
  refine xT ?_
  obtain ⟨hg1, H⟩ := gsplit H
  have F := xZ Y (map_getD d_Token a0 x1.toNat default default (by omega))
  obtain ⟨hg2, H⟩ := gsplit H
  have F := xZ F (all_map one_Token [(a0.getD x1.toNat default)])
  have L : [(a0.getD x1.toNat default)].length = 1 := rfl
  refine xR ?_
  refine xr ?_
  exact round_at (inl_fin H hF1) (xK ⟨[1,2,4], []⟩)
 ·obtain ⟨F, G, hq1⟩ := xH Y G hp1
  replace H := inrO_fin H hF1
  replace H := Option.some.inj H
  refine xE ?_
  subst H
  refine xnD [] ?_
  exact xO ⟨[1, 2, 3], []⟩
theorem JdG : Callable Tryz.prog 121 ∧ (∀ g, VC g → GenOk Tryz.prog 121 g) ∧ (true = true → ∀ g, VC g → ∃ val bs ts, g.out = .ret val bs ts) :=
 ⟨call_121, Jdo, fun _ => by rintro _ ⟨_, _, _, _, rfl⟩; exact ⟨_, _, _, rfl⟩⟩
noncomputable def JaU (a0 : Int) (a1 : Int) (a2 : List UInt8) (a3 : Bool) (a4 : Bool) (a5 : Int) (a6 : Int) (a7 : Int) (a8 : Int) (a9 : List (List UInt8)) (a10 : List Call) (a11 : Int) : Option Unit :=
 some ()
def X9 (a0 : Int) (a1 : Int) (a2 : List UInt8) (a3 : Bool) (a4 : Bool) (a5 : Int) (a6 : Int) (a7 : Int) (a8 : Int) (a9 : List (List UInt8)) (a10 : List Call) (a11 : Int) (r : Unit) : GI :=
 ⟨[.c (.d (.v (.int .i64 a0))), .c (.pt 1 0)], [[.d (.v (.int .i64 a1)), .d (.v (str a2)), .d (.v (.bool a3)), .d (.v (.bool a4)), .d (.v (.int .i64 a5)), .d (.v (.int .i64 a6)), .d (.v (.int .i64 a7)), .d (.v (.int .i64 a8)), .d (.sl 1 (List.map dS a9)), .d (.sl 3 (List.map d_Call a10)), .d (.v (.int .i64 a11))]], [], .pan (.iface 170 (.agg ⟨[.int .i64 a0, .int .i64 a5, .int .i64 a6]⟩)) [[.d (.v (.int .i64 a1)), .d (.v (str a2)), .d (.v (.bool a3)), .d (.v (.bool a4)), .d (.v (.int .i64 a5)), .d (.v (.int .i64 a6)), .d (.v (.int .i64 a7)), .d (.v (.int .i64 a8)), .d (.sl 1 (List.map dS a9)), .d (.sl 3 (List.map d_Call a10)), .d (.v (.int .i64 a11))]] []⟩
def Za : GI → Prop := fun g => ∃ (a0 : Int) (a1 : Int) (a2 : List UInt8) (a3 : Bool) (a4 : Bool) (a5 : Int) (a6 : Int) (a7 : Int) (a8 : Int) (a9 : List (List UInt8)) (a10 : List Call) (a11 : Int) (r : Unit), JaU a0 a1 a2 a3 a4 a5 a6 a7 a8 a9 a10 a11 = some r ∧ g = X9 a0 a1 a2 a3 a4 a5 a6 a7 a8 a9 a10 a11 r
theorem JdC (a0 : Int) (a1 : Int) (a2 : List UInt8) (a3 : Bool) (a4 : Bool) (a5 : Int) (a6 : Int) (a7 : Int) (a8 : Int) (a9 : List (List UInt8)) (a10 : List Call) (a11 : Int) (r : Unit) (H : JaU a0 a1 a2 a3 a4 a5 a6 a7 a8 a9 a10 a11 = some r) : Za (X9 a0 a1 a2 a3 a4 a5 a6 a7 a8 a9 a10 a11 r) := ⟨a0, a1, a2, a3, a4, a5, a6, a7, a8, a9, a10, a11, r, H, rfl⟩
theorem Je1 : ∀ g, Za g → GenOk Tryz.prog 125 g := by
 rintro _ ⟨a0, a1, a2, a3, a4, a5, a6, a7, a8, a9, a10, a11, r, H, rfl⟩
 refine xGn mixed [] [] [] trivial trivial trivial Tryz.func125 _ ?_
 have G := True.intro
 have Y := xZ y_3 <| xZ y_29 <| xZ y_31 <| xZ y_44 <| xZ y_170 <| xZ Tryz.results125 <| xZ d_Call.eq_1 <| xZ d_Token.eq_1 <| X9.eq_1
 dsimp only [X9]
 unfold JaU at H
 have F := Y
 refine xQp [4, 5, 6, 7, 8, 9, 10, 11, 12, 13, 14, 15] ?_
 refine xs 12 ?_
 refine xv ?_
 refine xS ?_
 refine xpD [] ?_
 exact xOv ⟨[1], []⟩
theorem JdB : Callable Tryz.prog 125 ∧ (∀ g, Za g → GenOk Tryz.prog 125 g) ∧ (false = true → ∀ g, Za g → ∃ val bs ts, g.out = .ret val bs ts) :=
 ⟨call_125, Je1, nofun⟩
noncomputable def XI (a0 : List Macro) (a1 : List Source) (a2 : Int) (a3 : Int) (a4 : Int) (a5 : List UInt8) (a6 : Bool) (a7 : Bool) (a8 : Int) (a9 : Int) (a10 : Int) (a11 : Int) (a12 : List (List UInt8)) (a13 : List Call) (a14 : Int) : Option (GR Unit Int) :=
 if (eqI a2 0) = true then (JaU 11 a4 a5 a6 a7 a8 a9 a10 a11 a12 a13 a14).bind fun e1 => some (.er ()) else some (.ok (IntKind.i64.wrap (a2 - 1)))
def JcY (a0 : List Macro) (a1 : List Source) (a2 : Int) (a3 : Int) (a4 : Int) (a5 : List UInt8) (a6 : Bool) (a7 : Bool) (a8 : Int) (a9 : Int) (a10 : Int) (a11 : Int) (a12 : List (List UInt8)) (a13 : List Call) (a14 : Int) : GR Unit Int → GOut
 | .ok r => .ret (.tu []) [[.d (.sl 5 (List.map d_Macro a0)), .d (.sl 2 (List.map d_Source a1)), .d (.v (.int .i64 r)), .d (.v (.int .i64 a3))], [.d (.v (.int .i64 a4)), .d (.v (str a5)), .d (.v (.bool a6)), .d (.v (.bool a7)), .d (.v (.int .i64 a8)), .d (.v (.int .i64 a9)), .d (.v (.int .i64 a10)), .d (.v (.int .i64 a11)), .d (.sl 1 (List.map dS a12)), .d (.sl 3 (List.map d_Call a13)), .d (.v (.int .i64 a14))]] []
 | .er r => .pan (.iface 170 (.agg ⟨[.int .i64 11, .int .i64 a8, .int .i64 a9]⟩)) [[.d (.sl 5 (List.map d_Macro a0)), .d (.sl 2 (List.map d_Source a1)), .d (.v (.int .i64 a2)), .d (.v (.int .i64 a3))], [.d (.v (.int .i64 a4)), .d (.v (str a5)), .d (.v (.bool a6)), .d (.v (.bool a7)), .d (.v (.int .i64 a8)), .d (.v (.int .i64 a9)), .d (.v (.int .i64 a10)), .d (.v (.int .i64 a11)), .d (.sl 1 (List.map dS a12)), .d (.sl 3 (List.map d_Call a13)), .d (.v (.int .i64 a14))]] []
def KH (a0 : List Macro) (a1 : List Source) (a2 : Int) (a3 : Int) (a4 : Int) (a5 : List UInt8) (a6 : Bool) (a7 : Bool) (a8 : Int) (a9 : Int) (a10 : Int) (a11 : Int) (a12 : List (List UInt8)) (a13 : List Call) (a14 : Int) (r : GR Unit Int) : GI :=
 ⟨[.c (.pt 1 0), .c (.pt 2 0)], [[.d (.sl 5 (List.map d_Macro a0)), .d (.sl 2 (List.map d_Source a1)), .d (.v (.int .i64 a2)), .d (.v (.int .i64 a3))], [.d (.v (.int .i64 a4)), .d (.v (str a5)), .d (.v (.bool a6)), .d (.v (.bool a7)), .d (.v (.int .i64 a8)), .d (.v (.int .i64 a9)), .d (.v (.int .i64 a10)), .d (.v (.int .i64 a11)), .d (.sl 1 (List.map dS a12)), .d (.sl 3 (List.map d_Call a13)), .d (.v (.int .i64 a14))]], [], JcY a0 a1 a2 a3 a4 a5 a6 a7 a8 a9 a10 a11 a12 a13 a14 r⟩
def KI : GI → Prop := fun g => ∃ (a0 : List Macro) (a1 : List Source) (a2 : Int) (a3 : Int) (a4 : Int) (a5 : List UInt8) (a6 : Bool) (a7 : Bool) (a8 : Int) (a9 : Int) (a10 : Int) (a11 : Int) (a12 : List (List UInt8)) (a13 : List Call) (a14 : Int) (r : GR Unit Int), XI a0 a1 a2 a3 a4 a5 a6 a7 a8 a9 a10 a11 a12 a13 a14 = some r ∧ g = KH a0 a1 a2 a3 a4 a5 a6 a7 a8 a9 a10 a11 a12 a13 a14 r
theorem JaZ (a0 : List Macro) (a1 : List Source) (a2 : Int) (a3 : Int) (a4 : Int) (a5 : List UInt8) (a6 : Bool) (a7 : Bool) (a8 : Int) (a9 : Int) (a10 : Int) (a11 : Int) (a12 : List (List UInt8)) (a13 : List Call) (a14 : Int) (r : GR Unit Int) (H : XI a0 a1 a2 a3 a4 a5 a6 a7 a8 a9 a10 a11 a12 a13 a14 = some r) : KI (KH a0 a1 a2 a3 a4 a5 a6 a7 a8 a9 a10 a11 a12 a13 a14 r) := ⟨a0, a1, a2, a3, a4, a5, a6, a7, a8, a9, a10, a11, a12, a13, a14, r, H, rfl⟩
theorem JcN : ∀ g, KI g → GenOk Tryz.prog 123 g := by
 rintro _ ⟨a0, a1, a2, a3, a4, a5, a6, a7, a8, a9, a10, a11, a12, a13, a14, r, H, rfl⟩
 refine xGn mixed [] [(125, false, Za)] [] trivial ⟨JdB, trivial⟩ trivial Tryz.func123 _ ?_
 have G := True.intro
 have Y := xZ y_3 <| xZ y_155 <| xZ Tryz.results123 <| xZ d_Source.eq_1 <| xZ d_Call.eq_1 <| xZ d_Token.eq_1 <| xZ d_Macro.eq_1 <| xZ X9.eq_1 <| KH.eq_1
 dsimp only [KH]
 simp only [XI] at H
 refine xS ?_
 refine xr ?_
 rcases bsplit H with ⟨hp1, H⟩ | ⟨hp1, H⟩
 ·obtain ⟨F, G, hq1⟩ := xH Y G hp1
  refine xT ?_
  obtain ⟨e1, hr2, H⟩ := osplit H
  have F := Y
  refine xQp [9, 10] ?_
  refine xs 1 ?_
  refine xp ⟨[2], []⟩ (tabG 0 (JdC 11 a4 a5 a6 a7 a8 a9 a10 a11 a12 a13 a14 e1 hr2)) ?_
  replace H := Option.some.inj H
  refine xS ?_
  subst H
  refine xpD [] ?_
  exact xOv ⟨[1, 2], []⟩
 ·obtain ⟨F, G, hq1⟩ := xH Y G hp1
  refine xE ?_
  replace H := Option.some.inj H
  refine xr ?_
  subst H
  refine xnD [] ?_
  exact xO ⟨[1, 2], []⟩
theorem Jc1 : Callable Tryz.prog 123 ∧ (∀ g, KI g → GenOk Tryz.prog 123 g) ∧ (false = true → ∀ g, KI g → ∃ val bs ts, g.out = .ret val bs ts) :=
 ⟨call_123, JcN, nofun⟩
noncomputable def Vi : (Int × (List UInt8) × (List UInt8)) → Option (Int × (List UInt8) × Int × Bool)
 | (x1, x2, x3) => some (x1, x2, 3, true)
noncomputable def Vh : ((List UInt8) × (List UInt8)) → Option (Int × (List UInt8) × Int × Bool)
 | (x4, x5) => if 1 + x4.length ≤ 9223372036854775807 then if 1 + x4.length + 1 ≤ 9223372036854775807 then Vi (4, ([34] ++ x4) ++ [34], x5) else none else none
noncomputable def Vk (a0 : Token) (a2 : List Source) : ((List UInt8) × Bool × (List UInt8)) → Option (Int × (List UInt8) × Int × Bool)
 | (x6, x7, x8) => if x7 = true then if (0 : Int) ≤ a0.File ∧ a0.File.toNat < a2.length then Vh ((a2.getD a0.File.toNat default).Path, x8) else none else Vh (x6, x8)
noncomputable def Xg (a0 : Token) (a1 : List Macro) (a2 : List Source) (a3 : Int) (a4 : Int) : Option (Int × (List UInt8) × Int × Bool) :=
 if (eqS a0.Text [95, 95, 76, 73, 78, 69, 95, 95]) = true then (KD a0.Line).bind fun r1 => Vi (2, r1, []) else if (eqS a0.Text [95, 95, 70, 73, 76, 69, 95, 95]) = true then if (leI 0 a0.File) = true then Vk a0 a2 ([], ltI a0.File (a2.length : Int), []) else Vk a0 a2 ([], false, []) else some (a0.Kind, a0.Text, a0.Made, false)
def Km (a0 : Token) (a1 : List Macro) (a2 : List Source) (a3 : Int) (a4 : Int) (r : (Int × (List UInt8) × Int × Bool)) : GI :=
 ⟨[.c (.pt 1 0), .ag [.d (.v (.int .i64 a0.Kind)), .d (.v (str a0.Text)), .d (.v (.bool a0.Space)), .d (.v (.bool a0.First)), .d (.v (.int .i64 a0.File)), .d (.v (.int .i64 a0.At)), .d (.v (.int .i64 a0.End)), .d (.v (.int .i64 a0.Line)), .d (.sl 1 (List.map dS a0.Hide)), .d (.sl 3 (List.map d_Call a0.Calls)), .d (.v (.int .i64 a0.Made))]], [[.d (.sl 5 (List.map d_Macro a1)), .d (.sl 2 (List.map d_Source a2)), .d (.v (.int .i64 a3)), .d (.v (.int .i64 a4))]], [], .ret (.tu [(true, [.d (.v (.int .i64 r.1)), .d (.v (str r.2.1)), .d (.v (.bool a0.Space)), .d (.v (.bool a0.First)), .d (.v (.int .i64 a0.File)), .d (.v (.int .i64 a0.At)), .d (.v (.int .i64 a0.End)), .d (.v (.int .i64 a0.Line)), .d (.sl 1 (List.map dS a0.Hide)), .d (.sl 3 (List.map d_Call a0.Calls)), .d (.v (.int .i64 r.2.2.1))]), (false, [.d (.v (.bool r.2.2.2))])]) [[.d (.sl 5 (List.map d_Macro a1)), .d (.sl 2 (List.map d_Source a2)), .d (.v (.int .i64 a3)), .d (.v (.int .i64 a4))]] []⟩
def Kq : GI → Prop := fun g => ∃ (a0 : Token) (a1 : List Macro) (a2 : List Source) (a3 : Int) (a4 : Int) (r : (Int × (List UInt8) × Int × Bool)), Xg a0 a1 a2 a3 a4 = some r ∧ g = Km a0 a1 a2 a3 a4 r
theorem JcT (a0 : Token) (a1 : List Macro) (a2 : List Source) (a3 : Int) (a4 : Int) (r : (Int × (List UInt8) × Int × Bool)) (H : Xg a0 a1 a2 a3 a4 = some r) : Kq (Km a0 a1 a2 a3 a4 r) := ⟨a0, a1, a2, a3, a4, r, H, rfl⟩
theorem Jcz : ∀ g, Kq g → GenOk Tryz.prog 124 g := by
 rintro _ ⟨a0, a1, a2, a3, a4, r, H, rfl⟩
 refine xGn mixed [(13, Xk)] [] [] ⟨⟨call_13, JbD⟩, trivial⟩ trivial trivial Tryz.func124 _ ?_
 have G := True.intro
 have Y := xZ y_3 <| xZ y_9 <| xZ y_35 <| xZ y_37 <| xZ y_44 <| xZ y_155 <| xZ Tryz.results124 <| xZ d_Source.eq_1 <| xZ d_Call.eq_1 <| xZ d_Token.eq_1 <| xZ d_Macro.eq_1 <| Km.eq_1
 dsimp only [Km]
 simp only [Xg] at H
 refine xS ?_
 refine xr0 ?_
 refine then_normal ?_
 refine w_cut Vi (fun s => [(3, .c (.pt 2 0)), (4, .c (.pt 3 0))]) (fun s => [[.d (.sl 5 (List.map d_Macro a1)), .d (.sl 2 (List.map d_Source a2)), .d (.v (.int .i64 a3)), .d (.v (.int .i64 a4))], [.d (.v (.int .i64 s.1)), .d (.v (str s.2.1)), .d (.v (.bool a0.Space)), .d (.v (.bool a0.First)), .d (.v (.int .i64 a0.File)), .d (.v (.int .i64 a0.At)), .d (.v (.int .i64 a0.End)), .d (.v (.int .i64 a0.Line)), .d (.sl 1 (List.map dS a0.Hide)), .d (.sl 3 (List.map d_Call a0.Calls)), .d (.v (.int .i64 a0.Made))], [.d (.v (.int .i64 0)), .d (.v (str s.2.2)), .d (.v (.bool false)), .d (.v (.bool false)), .d (.v (.int .i64 0)), .d (.v (.int .i64 0)), .d (.v (.int .i64 0)), .d (.v (.int .i64 0)), .sl 1 [] 0, .sl 3 [] 0, .d (.v (.int .i64 0))]]) [] r ?_ ?_
 ·refine xS ?_
  refine xr ?_
  refine xr ?_
  rcases bsplit H with ⟨hp1, H⟩ | ⟨hp1, H⟩
  ·obtain ⟨F, G, hq1⟩ := xH Y G hp1
   refine xT ?_
   obtain ⟨r1, hr1, H⟩ := osplit H
   have F := xC Y (JaC a0.Line r1 hr1)
   refine xR ?_
   exact cut_at H (xK ⟨[1,2,3], []⟩)
  ·obtain ⟨F, G, hq1⟩ := xH Y G hp1
   refine xE ?_
   refine xr ?_
   rcases bsplit H with ⟨hp2, H⟩ | ⟨hp2, H⟩
   ·obtain ⟨F, G, hq2⟩ := xH Y G hp2
    refine xT ?_
    refine xr0 ?_
    refine then_normal ?_
    refine w_cut Vh (fun s => [(3, .c (.pt 2 0)), (4, .c (.pt 3 0)), (6, .c (.d (.v (str s.1))))]) (fun s => [[.d (.sl 5 (List.map d_Macro a1)), .d (.sl 2 (List.map d_Source a2)), .d (.v (.int .i64 a3)), .d (.v (.int .i64 a4))], [.d (.v (.int .i64 a0.Kind)), .d (.v (str a0.Text)), .d (.v (.bool a0.Space)), .d (.v (.bool a0.First)), .d (.v (.int .i64 a0.File)), .d (.v (.int .i64 a0.At)), .d (.v (.int .i64 a0.End)), .d (.v (.int .i64 a0.Line)), .d (.sl 1 (List.map dS a0.Hide)), .d (.sl 3 (List.map d_Call a0.Calls)), .d (.v (.int .i64 a0.Made))], [.d (.v (.int .i64 0)), .d (.v (str s.2)), .d (.v (.bool false)), .d (.v (.bool false)), .d (.v (.int .i64 0)), .d (.v (.int .i64 0)), .d (.v (.int .i64 0)), .d (.v (.int .i64 0)), .sl 1 [] 0, .sl 3 [] 0, .d (.v (.int .i64 0))]]) [] r ?_ ?_
    ·refine w_cut (Vk a0 a2) (fun s => [(0, .c (.pt 1 0)), (3, .c (.pt 2 0)), (4, .c (.pt 3 0)), (6, .c (.d (.v (str s.1)))), (31, .c (.d (.v (.bool s.2.1))))]) (fun s => [[.d (.sl 5 (List.map d_Macro a1)), .d (.sl 2 (List.map d_Source a2)), .d (.v (.int .i64 a3)), .d (.v (.int .i64 a4))], [.d (.v (.int .i64 a0.Kind)), .d (.v (str a0.Text)), .d (.v (.bool a0.Space)), .d (.v (.bool a0.First)), .d (.v (.int .i64 a0.File)), .d (.v (.int .i64 a0.At)), .d (.v (.int .i64 a0.End)), .d (.v (.int .i64 a0.Line)), .d (.sl 1 (List.map dS a0.Hide)), .d (.sl 3 (List.map d_Call a0.Calls)), .d (.v (.int .i64 a0.Made))], [.d (.v (.int .i64 0)), .d (.v (str s.2.2)), .d (.v (.bool false)), .d (.v (.bool false)), .d (.v (.int .i64 0)), .d (.v (.int .i64 0)), .d (.v (.int .i64 0)), .d (.v (.int .i64 0)), .sl 1 [] 0, .sl 3 [] 0, .d (.v (.int .i64 0))]]) [] r ?_ ?_
     ·rcases bsplit H with ⟨hp4, H⟩ | ⟨hp4, H⟩
      ·obtain ⟨F, G, hq4⟩ := xH Y G hp4
       refine xR ?_
       exact cut_at H (xK ⟨[1,2,3], []⟩)
      ·obtain ⟨F, G, hq4⟩ := xH Y G hp4
       refine xR ?_
       exact cut_at H (xK ⟨[1,2,3], []⟩)
     ·rintro ⟨x6, x7, x8⟩ H
      rw [Vk] at H
      rcases bsplit H with ⟨hp3, H⟩ | ⟨hp3, H⟩
      ·obtain ⟨F, G, hq3⟩ := xH Y G hp3
       refine xT ?_
       obtain ⟨hg3, H⟩ := gsplit H
       have F := xZ Y (map_getD d_Source a2 a0.File.toNat default default (by omega))
       refine xR ?_
       exact cut_at H (xK ⟨[1,2,3], []⟩)
      ·obtain ⟨F, G, hq3⟩ := xH Y G hp3
       refine xE ?_
       exact cut_at H (xK ⟨[1,2,3], []⟩)
    ·rintro ⟨x4, x5⟩ H
     rw [Vh] at H
     obtain ⟨hg1, H⟩ := gsplit H
     obtain ⟨hg2, H⟩ := gsplit H
     refine xr ?_
     exact cut_at H (xK ⟨[1,2,3], []⟩)
   ·obtain ⟨F, G, hq2⟩ := xH Y G hp2
    refine xE ?_
    replace H := Option.some.inj H
    refine xr ?_
    subst H
    refine xrD [] ?_
    exact xO ⟨[1], []⟩
 ·rintro ⟨x1, x2, x3⟩ H
  rw [Vi] at H
  refine xS ?_
  refine xr ?_
  replace H := Option.some.inj H
  refine xr ?_
  subst H
  refine xrD [] ?_
  exact xO ⟨[1], []⟩
theorem JcP : Callable Tryz.prog 124 ∧ (∀ g, Kq g → GenOk Tryz.prog 124 g) ∧ (true = true → ∀ g, Kq g → ∃ val bs ts, g.out = .ret val bs ts) :=
 ⟨call_124, Jcz, fun _ => by rintro _ ⟨_, _, _, _, _, _, _, rfl⟩; exact ⟨_, _, _, rfl⟩⟩
noncomputable def K9 (a0 : List (List UInt8)) (a1 : List UInt8) : (Int × Int) → Option ((Int × Int) ⊕ Int)
 | (x1, x2) => if (ltI x2 x1) = true then if (0 : Int) ≤ x2 ∧ x2.toNat < a0.length then if (eqS a1 (a0.getD x2.toNat default)) = true then inrO (some x2) else some (.inl (x1, IntKind.i64.wrap (x2 + 1))) else none else inrO (some (-1))
noncomputable def Jy (a0 : List (List UInt8)) (a1 : List UInt8) : Option Int :=
 loopO (K9 a0 a1) ((a0.length : Int), 0)
noncomputable def JE : PF := PF.of (E2 (dL 1 dS) dS) (fun a => Jy a.1 a.2) dI
theorem Va : PureOk Tryz.prog 129 JE := by
 refine xF mixed [] [] trivial trivial Tryz.func129 ?_
 rintro ⟨a0, a1⟩ out H
 have G := True.intro
 have Y := xZ y_9 <| xZ y_41 <| Tryz.results129
 simp only [Jy] at H
 refine xS ?_
 refine xr ?_
 refine xr ?_
 refine w_loop (K9 a0 a1) (fun s => [(0, .c (.d (.sl 1 (List.map dS a0)))), (1, .c (.d (.v (str a1)))), (7, .c (.d (.v (.int .i64 s.1)))), (8, .c (.d (.v (.int .i64 s.2))))]) (fun s => []) [] H (xK ⟨[], []⟩) ?_
 rintro n1 ⟨x1, x2⟩ o1 H hF1
 rw [K9] at H
 refine xS ?_
 refine xr ?_
 rcases bsplit H with ⟨hp1, H⟩ | ⟨hp1, H⟩
 ·obtain ⟨F, G, hq1⟩ := xH Y G hp1
  refine xT ?_
  refine xr ?_
  obtain ⟨hg1, H⟩ := gsplit H
  have F := xZ Y (map_getD dS a0 x2.toNat default default (by omega))
  refine xR ?_
  rcases bsplit H with ⟨hp2, H⟩ | ⟨hp2, H⟩
  ·obtain ⟨F, G, hq2⟩ := xH Y G hp2
   refine xT ?_
   replace H := inrO_fin H hF1
   replace H := Option.some.inj H
   refine xr ?_
   subst H
   exact xN
  ·obtain ⟨F, G, hq2⟩ := xH Y G hp2
   refine xE ?_
   refine xr ?_
   exact round_at (inl_fin H hF1) (xK ⟨[], []⟩)
 ·obtain ⟨F, G, hq1⟩ := xH Y G hp1
  replace H := inrO_fin H hF1
  refine xE ?_
  replace H := Option.some.inj H
  refine xr ?_
  subst H
  exact xN
theorem Vc (a0 : List (List UInt8)) (a1 : List UInt8) (r : Int) (H : Jy a0 a1 = some r) : PC JE [(dL 1 dS) a0, dS a1] (dI r) := PF.c (a := (a0, a1)) H
noncomputable def JZ (a0 : List (List UInt8)) (a1 : List UInt8) : Option Bool :=
 (Jy a0 a1).bind fun r1 => some (leI 0 r1)
noncomputable def Ks : PF := PF.of (E2 (dL 1 dS) dS) (fun a => JZ a.1 a.2) dB
theorem JaP : PureOk Tryz.prog 108 Ks := by
 refine xF mixed [(129, JE)] [] ⟨⟨call_129, Va⟩, trivial⟩ trivial Tryz.func108 ?_
 rintro ⟨a0, a1⟩ out H
 have G := True.intro
 have Y := Tryz.results108
 simp only [JZ] at H
 refine xS ?_
 refine xr ?_
 obtain ⟨r1, hr1, H⟩ := osplit H
 have F := xC Y (Vc a0 a1 r1 hr1)
 replace H := Option.some.inj H
 refine xR ?_
 subst H
 exact xN
theorem Ja1 (a0 : List (List UInt8)) (a1 : List UInt8) (r : Bool) (H : JZ a0 a1 = some r) : PC Ks [(dL 1 dS) a0, dS a1] (dB r) := PF.c (a := (a0, a1)) H
noncomputable def JbI (a0 : Macro) (a1 : List UInt8) : Option Bool :=
 some (eqS a0.Name a1)
def ZO (a0 : Macro) (a1 : List UInt8) (r : Bool) : GI :=
 ⟨[.ag [.d (.v (str a0.Name)), .d (.v (.bool a0.Call)), .d (.sl 1 (List.map dS a0.Params)), .d (.v (.bool a0.More)), .d (.sl 11 (List.map d_Token a0.Body))], .c (.pt 1 0)], [[.d (.v (str a1))]], [], .ret (.c (.d (.v (.bool r)))) [[.d (.v (str a1))]] []⟩
def ZB : GI → Prop := fun g => ∃ (a0 : Macro) (a1 : List UInt8) (r : Bool), JbI a0 a1 = some r ∧ g = ZO a0 a1 r
theorem Jfa (a0 : Macro) (a1 : List UInt8) (r : Bool) (H : JbI a0 a1 = some r) : ZB (ZO a0 a1 r) := ⟨a0, a1, r, H, rfl⟩
theorem JeS : ∀ g, ZB g → GenOk Tryz.prog 110 g := by
 rintro _ ⟨a0, a1, r, H, rfl⟩
 refine xGn mixed [] [] [] trivial trivial trivial Tryz.func110 _ ?_
 have G := True.intro
 have Y := xZ y_9 <| xZ y_63 <| xZ Tryz.results110 <| xZ d_Call.eq_1 <| xZ d_Token.eq_1 <| xZ d_Macro.eq_1 <| ZO.eq_1
 dsimp only [ZO]
 simp only [JbI] at H
 refine xS ?_
 refine xr ?_
 replace H := Option.some.inj H
 refine xr ?_
 subst H
 refine xrD [] ?_
 exact xO ⟨[1], []⟩
theorem Je0 : Callable Tryz.prog 110 ∧ (∀ g, ZB g → GenOk Tryz.prog 110 g) ∧ (true = true → ∀ g, ZB g → ∃ val bs ts, g.out = .ret val bs ts) :=
 ⟨call_110, JeS, fun _ => by rintro _ ⟨_, _, _, _, rfl⟩; exact ⟨_, _, _, rfl⟩⟩
noncomputable def JT (a0 : List Macro) (a1 : List UInt8) : (Int × Int) → Option ((Int × Int) ⊕ Int)
 | (x1, x2) => if (ltI x2 x1) = true then if (0 : Int) ≤ x2 ∧ x2.toNat < a0.length then (JbI (a0.getD x2.toNat default) a1).bind fun r1 => if r1 = true then inrO (some x2) else some (.inl (x1, IntKind.i64.wrap (x2 + 1))) else none else inrO (some (-1))
noncomputable def JC (a0 : List Macro) (a1 : List UInt8) : Option Int :=
 loopO (JT a0 a1) ((a0.length : Int), 0)
def Jm (a0 : List Macro) (a1 : List UInt8) (r : Int) : GI :=
 ⟨[.c (.d (.sl 5 (List.map d_Macro a0))), .c (.clo 110 [1])], [[.d (.v (str a1))]], [], .ret (.c (.d (.v (.int .i64 r)))) [[.d (.v (str a1))]] []⟩
def Jl : GI → Prop := fun g => ∃ (a0 : List Macro) (a1 : List UInt8) (r : Int), JC a0 a1 = some r ∧ g = Jm a0 a1 r
theorem Z5 (a0 : List Macro) (a1 : List UInt8) (r : Int) (H : JC a0 a1 = some r) : Jl (Jm a0 a1 r) := ⟨a0, a1, r, H, rfl⟩
theorem ZS : ∀ g, Jl g → GenOk Tryz.prog 109 g := by
 rintro _ ⟨a0, a1, r, H, rfl⟩
 refine xGn mixed [] [(110, true, ZB)] [] trivial ⟨Je0, trivial⟩ trivial Tryz.func109 _ ?_
 have G := True.intro
 have Y := xZ y_28 <| xZ y_63 <| xZ Tryz.results109 <| xZ d_Call.eq_1 <| xZ d_Token.eq_1 <| xZ d_Macro.eq_1 <| xZ ZO.eq_1 <| Jm.eq_1
 dsimp only [Jm]
 simp only [JC] at H
 refine xS ?_
 refine xr ?_
 refine xr ?_
 refine w_loop (JT a0 a1) (fun s => [(0, .c (.d (.sl 5 (List.map d_Macro a0)))), (1, .c (.clo 110 [1])), (7, .c (.d (.v (.int .i64 s.1)))), (8, .c (.d (.v (.int .i64 s.2))))]) (fun s => [[.d (.v (str a1))]]) [] H (xK ⟨[1], []⟩) ?_
 rintro n1 ⟨x1, x2⟩ o1 H hF1
 rw [JT] at H
 refine xS ?_
 refine xr ?_
 rcases bsplit H with ⟨hp1, H⟩ | ⟨hp1, H⟩
 ·obtain ⟨F, G, hq1⟩ := xH Y G hp1
  refine xT ?_
  refine xr ?_
  obtain ⟨hg1, H⟩ := gsplit H
  have F := xZ Y (map_getD d_Macro a0 x2.toNat default default (by omega))
  obtain ⟨r1, hr1, H⟩ := osplit H
  have F := F
  refine xQ ?_
  refine xs 5 ?_
  refine xc ⟨[1], []⟩ (tabG 0 (Jfa (a0.getD x2.toNat default) a1 r1 hr1)) ?_
  refine xl ?_
  refine xS ?_
  rcases bsplit H with ⟨hp2, H⟩ | ⟨hp2, H⟩
  ·obtain ⟨F, G, hq2⟩ := xH Y G hp2
   refine xT ?_
   replace H := inrO_fin H hF1
   replace H := Option.some.inj H
   refine xr ?_
   subst H
   refine xrD [] ?_
   exact xO ⟨[1], []⟩
  ·obtain ⟨F, G, hq2⟩ := xH Y G hp2
   refine xE ?_
   refine xr ?_
   exact round_at (inl_fin H hF1) (xK ⟨[1], []⟩)
 ·obtain ⟨F, G, hq1⟩ := xH Y G hp1
  replace H := inrO_fin H hF1
  refine xE ?_
  replace H := Option.some.inj H
  refine xr ?_
  subst H
  refine xrD [] ?_
  exact xO ⟨[1], []⟩
theorem ZZ : Callable Tryz.prog 109 ∧ (∀ g, Jl g → GenOk Tryz.prog 109 g) ∧ (true = true → ∀ g, Jl g → ∃ val bs ts, g.out = .ret val bs ts) :=
 ⟨call_109, ZS, fun _ => by rintro _ ⟨_, _, _, _, rfl⟩; exact ⟨_, _, _, rfl⟩⟩
noncomputable def JaE (a0 : List Macro) (a1 : List UInt8) : Option Int :=
 (JC a0 a1).bind fun r1 => some r1
noncomputable def Jae : PF := PF.of (E2 (dL 5 d_Macro) dS) (fun a => JaE a.1 a.2) dI
theorem Jcp : PureOk Tryz.prog 86 Jae := by
 refine xF mixed [] [(109, true, Jl)] trivial ⟨ZZ, trivial⟩ Tryz.func86 ?_
 rintro ⟨a0, a1⟩ out H
 have G := True.intro
 have Y := xZ Tryz.results86 <| xZ d_Call.eq_1 <| xZ d_Token.eq_1 <| xZ d_Macro.eq_1 <| Jm.eq_1
 simp only [JaE] at H
 refine xS ?_
 refine xr ?_
 obtain ⟨r1, hr1, H⟩ := osplit H
 have F := Y
 refine xQ ?_
 refine xs 2 ?_
 refine xc ⟨[1], []⟩ (tabG 0 (Z5 a0 a1 r1 hr1)) ?_
 refine xs 1 ?_
 refine xl ?_
 replace H := Option.some.inj H
 refine xS ?_
 subst H
 exact xN
theorem JcG (a0 : List Macro) (a1 : List UInt8) (r : Int) (H : JaE a0 a1 = some r) : PC Jae [(dL 5 d_Macro) a0, dS a1] (dI r) := PF.c (a := (a0, a1)) H
noncomputable def JbR (a0 : Macro) (a1 : Int) (a2 : List UInt8) (a3 : Bool) (a4 : Bool) (a5 : Int) (a6 : Int) (a7 : Int) (a8 : Int) (a9 : List (List UInt8)) (a10 : List Call) (a11 : Int) : Option Int :=
 if (!eqI a1 1) = true then some (-1) else (Jy a0.Params a2).bind fun r1 => some r1
def ZA (a0 : Macro) (a1 : Int) (a2 : List UInt8) (a3 : Bool) (a4 : Bool) (a5 : Int) (a6 : Int) (a7 : Int) (a8 : Int) (a9 : List (List UInt8)) (a10 : List Call) (a11 : Int) (r : Int) : GI :=
 ⟨[.c (.pp (List.drop 0 (d_Macro a0).cells)), .c (.pt 1 0)], [[.d (.v (.int .i64 a1)), .d (.v (str a2)), .d (.v (.bool a3)), .d (.v (.bool a4)), .d (.v (.int .i64 a5)), .d (.v (.int .i64 a6)), .d (.v (.int .i64 a7)), .d (.v (.int .i64 a8)), .d (.sl 1 (List.map dS a9)), .d (.sl 3 (List.map d_Call a10)), .d (.v (.int .i64 a11))]], [], .ret (.c (.d (.v (.int .i64 r)))) [[.d (.v (.int .i64 a1)), .d (.v (str a2)), .d (.v (.bool a3)), .d (.v (.bool a4)), .d (.v (.int .i64 a5)), .d (.v (.int .i64 a6)), .d (.v (.int .i64 a7)), .d (.v (.int .i64 a8)), .d (.sl 1 (List.map dS a9)), .d (.sl 3 (List.map d_Call a10)), .d (.v (.int .i64 a11))]] []⟩
def Zz : GI → Prop := fun g => ∃ (a0 : Macro) (a1 : Int) (a2 : List UInt8) (a3 : Bool) (a4 : Bool) (a5 : Int) (a6 : Int) (a7 : Int) (a8 : Int) (a9 : List (List UInt8)) (a10 : List Call) (a11 : Int) (r : Int), JbR a0 a1 a2 a3 a4 a5 a6 a7 a8 a9 a10 a11 = some r ∧ g = ZA a0 a1 a2 a3 a4 a5 a6 a7 a8 a9 a10 a11 r
theorem Je8 (a0 : Macro) (a1 : Int) (a2 : List UInt8) (a3 : Bool) (a4 : Bool) (a5 : Int) (a6 : Int) (a7 : Int) (a8 : Int) (a9 : List (List UInt8)) (a10 : List Call) (a11 : Int) (r : Int) (H : JbR a0 a1 a2 a3 a4 a5 a6 a7 a8 a9 a10 a11 = some r) : Zz (ZA a0 a1 a2 a3 a4 a5 a6 a7 a8 a9 a10 a11 r) := ⟨a0, a1, a2, a3, a4, a5, a6, a7, a8, a9, a10, a11, r, H, rfl⟩
theorem JeB : ∀ g, Zz g → GenOk Tryz.prog 163 g := by
 rintro _ ⟨a0, a1, a2, a3, a4, a5, a6, a7, a8, a9, a10, a11, r, H, rfl⟩
 refine xGn mixed [(129, JE)] [] [] ⟨⟨call_129, Va⟩, trivial⟩ trivial trivial Tryz.func163 _ ?_
 have G := True.intro
 have Y := xZ y_3 <| xZ y_9 <| xZ y_41 <| xZ y_44 <| xZ y_63 <| xZ Tryz.results163 <| xZ d_Call.eq_1 <| xZ d_Token.eq_1 <| xZ d_Macro.eq_1 <| ZA.eq_1
 dsimp only [ZA]
 simp only [JbR] at H
 refine xS ?_
 refine xr ?_
 refine xr ?_
 rcases bsplit H with ⟨hp1, H⟩ | ⟨hp1, H⟩
 ·obtain ⟨F, G, hq1⟩ := xH Y G hp1
  refine xT ?_
  replace H := Option.some.inj H
  refine xr ?_
  subst H
  refine xrD [] ?_
  exact xO ⟨[1], []⟩
 ·obtain ⟨F, G, hq1⟩ := xH Y G hp1
  refine xE ?_
  obtain ⟨r1, hr1, H⟩ := osplit H
  have F := xC Y (Vc a0.Params a2 r1 hr1)
  replace H := Option.some.inj H
  refine xR ?_
  subst H
  refine xrD [] ?_
  exact xO ⟨[1], []⟩
theorem Jfd : Callable Tryz.prog 163 ∧ (∀ g, Zz g → GenOk Tryz.prog 163 g) ∧ (true = true → ∀ g, Zz g → ∃ val bs ts, g.out = .ret val bs ts) :=
 ⟨call_163, JeB, fun _ => by rintro _ ⟨_, _, _, _, _, _, _, _, _, _, _, _, _, _, rfl⟩; exact ⟨_, _, _, rfl⟩⟩
noncomputable def JbO (a0 : Macro) (a1 : Token) : Option Int :=
 if (!eqI a1.Kind 1) = true then some (-1) else (Jy a0.Params a1.Text).bind fun r1 => some r1
def Zv (a0 : Macro) (a1 : Token) (r : Int) : GI :=
 ⟨[.c (.pp (List.drop 0 (d_Macro a0).cells)), .c (.pp (List.drop 0 (d_Token a1).cells))], [], [], .ret (.c (.d (.v (.int .i64 r)))) [] []⟩
def Zx : GI → Prop := fun g => ∃ (a0 : Macro) (a1 : Token) (r : Int), JbO a0 a1 = some r ∧ g = Zv a0 a1 r
theorem Jd7 : ∀ g, Zx g → GenOk Tryz.prog 163 g := by
 rintro _ ⟨a0, a1, r, H, rfl⟩
 refine xGn mixed [(129, JE)] [] [] ⟨⟨call_129, Va⟩, trivial⟩ trivial trivial Tryz.func163 _ ?_
 have G := True.intro
 have Y := xZ y_3 <| xZ y_9 <| xZ y_41 <| xZ y_44 <| xZ y_63 <| xZ Tryz.results163 <| xZ d_Call.eq_1 <| xZ d_Token.eq_1 <| xZ d_Macro.eq_1 <| Zv.eq_1
 dsimp only [Zv]
 simp only [JbO] at H
 refine xS ?_
 refine xr ?_
 refine xr ?_
 rcases bsplit H with ⟨hp1, H⟩ | ⟨hp1, H⟩
 ·obtain ⟨F, G, hq1⟩ := xH Y G hp1
  refine xT ?_
  replace H := Option.some.inj H
  refine xr ?_
  subst H
  refine xrD [] ?_
  exact xO ⟨[], []⟩
 ·obtain ⟨F, G, hq1⟩ := xH Y G hp1
  refine xE ?_
  obtain ⟨r1, hr1, H⟩ := osplit H
  have F := xC Y (Vc a0.Params a1.Text r1 hr1)
  replace H := Option.some.inj H
  refine xR ?_
  subst H
  refine xrD [] ?_
  exact xO ⟨[], []⟩
theorem Jel : Callable Tryz.prog 163 ∧ (∀ g, Zx g → GenOk Tryz.prog 163 g) ∧ (true = true → ∀ g, Zx g → ∃ val bs ts, g.out = .ret val bs ts) :=
 ⟨call_163, Jd7, fun _ => by rintro _ ⟨_, _, _, _, rfl⟩; exact ⟨_, _, _, rfl⟩⟩
noncomputable def Vl (x3 : Int) : (Bool × Int × (List Token)) → Option ((Bool × Int × Int × (List Token)) ⊕ (List Token))
 | (x5, x6, x7) => some (.inl (x5, x6, IntKind.i64.wrap (x3 + 1), x7))
noncomputable def Kb (a0 : Macro) (a1 : List (List Token)) (x2 : Int) (x3 : Int) (x4 : List Token) (x9 : Int) (x10 : List UInt8) (x11 : Bool) (x12 : Bool) (x13 : Int) (x14 : Int) (x15 : Int) (x16 : Int) (x17 : List (List UInt8)) (x18 : List Call) (x19 : Int) (r1 : Int) : (Bool × Bool) → Option ((Bool × Int × Int × (List Token)) ⊕ (List Token))
 | (x22, x23) => if x23 = true then if (0 : Int) ≤ r1 ∧ r1.toNat < a1.length then none else none else if (leI 0 r1) = true then if (0 : Int) ≤ r1 ∧ r1.toNat < a1.length then none else none else if x22 = true then if (0 : Int) ≤ 0 ∧ 0 ≤ x2 ∧ x2 ≤ (x4.length : Int) then if (0 : Int) ≤ x2 ∧ x2 ≤ (x4.length : Int) ∧ (x4.length : Int) ≤ (x4.length : Int) then if (0 : Int) ≤ x3 ∧ x3.toNat < a0.Body.length then none else none else none else none else if (x4.length + [(⟨x9, x10, x11, x12, x13, x14, x15, x16, x17, x18, x19⟩ : Token)].length) * 120 ≤ 140737488355328 then Vl x3 (false, ((x4.length : Nat) : Int), x4 ++ [(⟨x9, x10, x11, x12, x13, x14, x15, x16, x17, x18, x19⟩ : Token)]) else none
noncomputable def Ke (a0 : Macro) (a1 : List (List Token)) (x1 : Bool) (x2 : Int) (x3 : Int) (x4 : List Token) (x8 : Bool) (x9 : Int) (x10 : List UInt8) (x11 : Bool) (x12 : Bool) (x13 : Int) (x14 : Int) (x15 : Int) (x16 : Int) (x17 : List (List UInt8)) (x18 : List Call) (x19 : Int) (r1 : Int) : Bool → Option ((Bool × Int × Int × (List Token)) ⊕ (List Token))
 | x21 => if x21 = true then if (0 : Int) ≤ (IntKind.i64.wrap (x3 + 1)) ∧ (IntKind.i64.wrap (x3 + 1)).toNat < a0.Body.length then (JbO a0 (a0.Body.getD ((IntKind.i64.wrap (x3 + 1)).toNat) default)).bind fun r2 => if (0 : Int) ≤ r2 ∧ r2.toNat < a1.length then none else none else none else if (leI 0 r1) = true then if x1 = true then Kb a0 a1 x2 x3 x4 x9 x10 x11 x12 x13 x14 x15 x16 x17 x18 x19 r1 (true, true) else Kb a0 a1 x2 x3 x4 x9 x10 x11 x12 x13 x14 x15 x16 x17 x18 x19 r1 (false, x8) else Kb a0 a1 x2 x3 x4 x9 x10 x11 x12 x13 x14 x15 x16 x17 x18 x19 r1 (x1, false)
noncomputable def Vj (a0 : Macro) (a1 : List (List Token)) (x1 : Bool) (x2 : Int) (x3 : Int) (x4 : List Token) (x8 : Bool) (x9 : Int) (x10 : List UInt8) (x11 : Bool) (x12 : Bool) (x13 : Int) (x14 : Int) (x15 : Int) (x16 : Int) (x17 : List (List UInt8)) (x18 : List Call) (x19 : Int) (r1 : Int) : Bool → Option ((Bool × Int × Int × (List Token)) ⊕ (List Token))
 | x20 => if x20 = true then Vl x3 (true, x2, x4) else if (eqS x10 [35]) = true then if (eqI x9 5) = true then Ke a0 a1 x1 x2 x3 x4 x8 x9 x10 x11 x12 x13 x14 x15 x16 x17 x18 x19 r1 a0.Call else Ke a0 a1 x1 x2 x3 x4 x8 x9 x10 x11 x12 x13 x14 x15 x16 x17 x18 x19 r1 false else Ke a0 a1 x1 x2 x3 x4 x8 x9 x10 x11 x12 x13 x14 x15 x16 x17 x18 x19 r1 false
noncomputable def Kf (a0 : Macro) (a1 : List (List Token)) (x1 : Bool) (x2 : Int) (x3 : Int) (x4 : List Token) : (Bool × Int × (List UInt8) × Bool × Bool × Int × Int × Int × Int × (List (List UInt8)) × (List Call) × Int) → Option ((Bool × Int × Int × (List Token)) ⊕ (List Token))
 | (x8, x9, x10, x11, x12, x13, x14, x15, x16, x17, x18, x19) => (JbR a0 x9 x10 x11 x12 x13 x14 x15 x16 x17 x18 x19).bind fun r1 => if (eqS x10 [35, 35]) = true then Vj a0 a1 x1 x2 x3 x4 x8 x9 x10 x11 x12 x13 x14 x15 x16 x17 x18 x19 r1 (eqI x9 5) else Vj a0 a1 x1 x2 x3 x4 x8 x9 x10 x11 x12 x13 x14 x15 x16 x17 x18 x19 r1 false
noncomputable def XU (a0 : Macro) (a1 : List (List Token)) : (Bool × Int × Int × (List Token)) → Option ((Bool × Int × Int × (List Token)) ⊕ (List Token))
 | (x1, x2, x3, x4) => if (ltI x3 (a0.Body.length : Int)) = true then if (0 : Int) ≤ x3 ∧ x3.toNat < a0.Body.length then if (ltI (IntKind.i64.wrap (x3 + 1)) (a0.Body.length : Int)) = true then if (0 : Int) ≤ (IntKind.i64.wrap (x3 + 1)) ∧ (IntKind.i64.wrap (x3 + 1)).toNat < a0.Body.length then if (eqS ((a0.Body.getD ((IntKind.i64.wrap (x3 + 1)).toNat) default).Text) [35, 35]) = true then if (0 : Int) ≤ (IntKind.i64.wrap (x3 + 1)) ∧ (IntKind.i64.wrap (x3 + 1)).toNat < a0.Body.length then Kf a0 a1 x1 x2 x3 x4 (eqI ((a0.Body.getD ((IntKind.i64.wrap (x3 + 1)).toNat) default).Kind) 5, (a0.Body.getD x3.toNat default).Kind, (a0.Body.getD x3.toNat default).Text, (a0.Body.getD x3.toNat default).Space, (a0.Body.getD x3.toNat default).First, (a0.Body.getD x3.toNat default).File, (a0.Body.getD x3.toNat default).At, (a0.Body.getD x3.toNat default).End, (a0.Body.getD x3.toNat default).Line, (a0.Body.getD x3.toNat default).Hide, (a0.Body.getD x3.toNat default).Calls, (a0.Body.getD x3.toNat default).Made) else none else Kf a0 a1 x1 x2 x3 x4 (false, (a0.Body.getD x3.toNat default).Kind, (a0.Body.getD x3.toNat default).Text, (a0.Body.getD x3.toNat default).Space, (a0.Body.getD x3.toNat default).First, (a0.Body.getD x3.toNat default).File, (a0.Body.getD x3.toNat default).At, (a0.Body.getD x3.toNat default).End, (a0.Body.getD x3.toNat default).Line, (a0.Body.getD x3.toNat default).Hide, (a0.Body.getD x3.toNat default).Calls, (a0.Body.getD x3.toNat default).Made) else none else Kf a0 a1 x1 x2 x3 x4 (false, (a0.Body.getD x3.toNat default).Kind, (a0.Body.getD x3.toNat default).Text, (a0.Body.getD x3.toNat default).Space, (a0.Body.getD x3.toNat default).First, (a0.Body.getD x3.toNat default).File, (a0.Body.getD x3.toNat default).At, (a0.Body.getD x3.toNat default).End, (a0.Body.getD x3.toNat default).Line, (a0.Body.getD x3.toNat default).Hide, (a0.Body.getD x3.toNat default).Calls, (a0.Body.getD x3.toNat default).Made) else none else inrO (some x4)
noncomputable def Xj (a0 : Macro) (a1 : List (List Token)) (a2 : List Macro) (a3 : List Source) (a4 : Int) (a5 : Int) : Option (List Token) :=
 loopO (XU a0 a1) (false, 0, 0, ([] : List Token))
def Ko (a0 : Macro) (a1 : List (List Token)) (a2 : List Macro) (a3 : List Source) (a4 : Int) (a5 : Int) (r : (List Token)) : GI :=
 ⟨[.c (.pt 1 0), .c (.pp (List.drop 0 (d_Macro a0).cells)), .c (.d (.sl 1 (List.map (dL 11 d_Token) a1)))], [[.d (.sl 5 (List.map d_Macro a2)), .d (.sl 2 (List.map d_Source a3)), .d (.v (.int .i64 a4)), .d (.v (.int .i64 a5))]], [], .ret (.c (.os 2 11 0 r.length)) [[.d (.sl 5 (List.map d_Macro a2)), .d (.sl 2 (List.map d_Source a3)), .d (.v (.int .i64 a4)), .d (.v (.int .i64 a5))], [.arr 11 (List.map d_Token r)]] []⟩
def Kl : GI → Prop := fun g => ∃ (a0 : Macro) (a1 : List (List Token)) (a2 : List Macro) (a3 : List Source) (a4 : Int) (a5 : Int) (r : (List Token)), Xj a0 a1 a2 a3 a4 a5 = some r ∧ g = Ko a0 a1 a2 a3 a4 a5 r
theorem JcQ (a0 : Macro) (a1 : List (List Token)) (a2 : List Macro) (a3 : List Source) (a4 : Int) (a5 : Int) (r : (List Token)) (H : Xj a0 a1 a2 a3 a4 a5 = some r) : Kl (Ko a0 a1 a2 a3 a4 a5 r) := ⟨a0, a1, a2, a3, a4, a5, r, H, rfl⟩
theorem JcD : ∀ g, Kl g → GenOk Tryz.prog 144 g := by
 rintro _ ⟨a0, a1, a2, a3, a4, a5, r, H, rfl⟩
 refine xGnl mixed [16, 19, 21, 23] [] [(163, true, Zz), (163, true, Zx)] [] trivial ⟨Jfd, Jel, trivial⟩ trivial Tryz.func144 _ ?_
 have G := True.intro
 have Y := xZ y_3 <| xZ y_4 <| xZ y_9 <| xZ y_24 <| xZ y_44 <| xZ y_63 <| xZ y_81 <| xZ Tryz.results144 <| xZ d_Source.eq_1 <| xZ d_Call.eq_1 <| xZ d_Token.eq_1 <| xZ d_Macro.eq_1 <| xZ ZA.eq_1 <| xZ Zv.eq_1 <| Ko.eq_1
 dsimp only [Ko]
 simp only [Xj] at H
 refine xS ?_
 refine xr ?_
 refine xr ?_
 refine xr ?_
 refine xr ?_
 refine xr ?_
 refine w_loop (XU a0 a1) (fun s => [(0, .c (.pt 1 0)), (1, .c (.pp (List.drop 0 (d_Macro a0).cells))), (2, .c (.d (.sl 1 (List.map (dL 11 d_Token) a1)))), (7, .c (.os 2 11 0 s.2.2.2.length)), (8, .c (.d (.v (.bool s.1)))), (9, .c (.d (.v (.int .i64 s.2.1)))), (10, .c (.d (.v (.int .i64 s.2.2.1))))]) (fun s => [[.d (.sl 5 (List.map d_Macro a2)), .d (.sl 2 (List.map d_Source a3)), .d (.v (.int .i64 a4)), .d (.v (.int .i64 a5))], [.arr 11 (List.map d_Token s.2.2.2)]]) [] H (xK ⟨[1,0], []⟩) ?_
 rintro n1 ⟨x1, x2, x3, x4⟩ o1 H hF1
 rw [XU] at H
 refine xS ?_
 refine xr ?_
 rcases bsplit H with ⟨hp1, H⟩ | ⟨hp1, H⟩
 ·obtain ⟨F, G, hq1⟩ := xH Y G hp1
  refine xT0 ?_
  refine w_skip ?_
  refine then_normal ?_
  refine w_cut (Vl x3) (fun s => [(0, .c (.pt 1 0)), (1, .c (.pp (List.drop 0 (d_Macro a0).cells))), (2, .c (.d (.sl 1 (List.map (dL 11 d_Token) a1)))), (7, .c (.os 2 11 0 s.2.2.length)), (8, .c (.d (.v (.bool s.1)))), (9, .c (.d (.v (.int .i64 s.2.1)))), (10, .c (.d (.v (.int .i64 x3))))]) (fun s => [[.d (.sl 5 (List.map d_Macro a2)), .d (.sl 2 (List.map d_Source a3)), .d (.v (.int .i64 a4)), .d (.v (.int .i64 a5))], [.arr 11 (List.map d_Token s.2.2)]]) [] o1 ?_ ?_
  ·refine xS ?_
   obtain ⟨hg1, H⟩ := gsplit H
   have F := xZ Y (map_getD d_Token a0.Body x3.toNat default default (by omega))
   refine xR0 ?_
   refine then_normal ?_
   refine w_cut (Kf a0 a1 x1 x2 x3 x4) (fun s => [(0, .c (.pt 1 0)), (1, .c (.pp (List.drop 0 (d_Macro a0).cells))), (2, .c (.d (.sl 1 (List.map (dL 11 d_Token) a1)))), (7, .c (.os 2 11 0 x4.length)), (8, .c (.d (.v (.bool x1)))), (9, .c (.d (.v (.int .i64 x2)))), (10, .c (.d (.v (.int .i64 x3)))), (11, .c (.pt 3 0)), (12, .c (.d (.v (.bool s.1))))]) (fun s => [[.d (.sl 5 (List.map d_Macro a2)), .d (.sl 2 (List.map d_Source a3)), .d (.v (.int .i64 a4)), .d (.v (.int .i64 a5))], [.arr 11 (List.map d_Token x4)], [.d (.v (.int .i64 s.2.1)), .d (.v (str s.2.2.1)), .d (.v (.bool s.2.2.2.1)), .d (.v (.bool s.2.2.2.2.1)), .d (.v (.int .i64 s.2.2.2.2.2.1)), .d (.v (.int .i64 s.2.2.2.2.2.2.1)), .d (.v (.int .i64 s.2.2.2.2.2.2.2.1)), .d (.v (.int .i64 s.2.2.2.2.2.2.2.2.1)), .d (.sl 1 (List.map dS s.2.2.2.2.2.2.2.2.2.1)), .d (.sl 3 (List.map d_Call s.2.2.2.2.2.2.2.2.2.2.1)), .d (.v (.int .i64 s.2.2.2.2.2.2.2.2.2.2.2))]]) [] o1 ?_ ?_
   ·rcases bsplit H with ⟨hp12, H⟩ | ⟨hp12, H⟩
    ·obtain ⟨F, G, hq12⟩ := xH Y G hp12
     obtain ⟨hg10, H⟩ := gsplit H
     have F := xZ F (map_getD d_Token a0.Body ((IntKind.i64.wrap (x3 + 1)).toNat) default default (by omega))
     rcases bsplit H with ⟨hp13, H⟩ | ⟨hp13, H⟩
     ·obtain ⟨F, G, hq13⟩ := xH F G hp13
      obtain ⟨hg11, H⟩ := gsplit H
      have F := xZ F (map_getD d_Token a0.Body ((IntKind.i64.wrap (x3 + 1)).toNat) default default (by omega))
      refine xR ?_
      exact cut_at H (xK ⟨[1,2,3], []⟩)
     ·obtain ⟨F, G, hq13⟩ := xH F G hp13
      refine xR ?_
      exact cut_at H (xK ⟨[1,2,3], []⟩)
    ·obtain ⟨F, G, hq12⟩ := xH Y G hp12
     refine xR ?_
     exact cut_at H (xK ⟨[1,2,3], []⟩)
   ·rintro ⟨x8, x9, x10, x11, x12, x13, x14, x15, x16, x17, x18, x19⟩ H
    rw [Kf] at H
    refine xS ?_
    refine xr ?_
    obtain ⟨r1, hr1, H⟩ := osplit H
    have F := Y
    refine xQ ?_
    refine xs 1 ?_
    refine xc ⟨[3], []⟩ (tabG 0 (Je8 a0 x9 x10 x11 x12 x13 x14 x15 x16 x17 x18 x19 r1 hr1)) ?_
    refine xs 1 ?_
    refine xl ?_
    refine  ?_
    refine then_normal ?_
    refine w_block ?_
    refine w_cut (Vj a0 a1 x1 x2 x3 x4 x8 x9 x10 x11 x12 x13 x14 x15 x16 x17 x18 x19 r1) (fun s => [(0, .c (.pt 1 0)), (1, .c (.pp (List.drop 0 (d_Macro a0).cells))), (2, .c (.d (.sl 1 (List.map (dL 11 d_Token) a1)))), (7, .c (.os 2 11 0 x4.length)), (8, .c (.d (.v (.bool x1)))), (9, .c (.d (.v (.int .i64 x2)))), (10, .c (.d (.v (.int .i64 x3)))), (11, .c (.pt 3 0)), (12, .c (.d (.v (.bool x8)))), (14, .c (.d (.v (.int .i64 r1)))), (67, .c (.d (.v (.bool s))))]) (fun s => [[.d (.sl 5 (List.map d_Macro a2)), .d (.sl 2 (List.map d_Source a3)), .d (.v (.int .i64 a4)), .d (.v (.int .i64 a5))], [.arr 11 (List.map d_Token x4)], [.d (.v (.int .i64 x9)), .d (.v (str x10)), .d (.v (.bool x11)), .d (.v (.bool x12)), .d (.v (.int .i64 x13)), .d (.v (.int .i64 x14)), .d (.v (.int .i64 x15)), .d (.v (.int .i64 x16)), .d (.sl 1 (List.map dS x17)), .d (.sl 3 (List.map d_Call x18)), .d (.v (.int .i64 x19))]]) [] o1 ?_ ?_
    ·rcases bsplit H with ⟨hp11, H⟩ | ⟨hp11, H⟩
     ·obtain ⟨F, G, hq11⟩ := xH Y G hp11
      refine xR ?_
      exact cut_at H (xK ⟨[1,2,3], []⟩)
     ·obtain ⟨F, G, hq11⟩ := xH Y G hp11
      refine xR ?_
      exact cut_at H (xK ⟨[1,2,3], []⟩)
    ·rintro x20 H
     rw [Vj] at H
     rcases bsplit H with ⟨hp2, H⟩ | ⟨hp2, H⟩
     ·obtain ⟨F, G, hq2⟩ := xH Y G hp2
      refine xT ?_
      refine xr ?_
      exact cut_at H (xK ⟨[1,2], []⟩)
     ·obtain ⟨F, G, hq2⟩ := xH Y G hp2
      refine xE0 ?_
      refine w_cut (Ke a0 a1 x1 x2 x3 x4 x8 x9 x10 x11 x12 x13 x14 x15 x16 x17 x18 x19 r1) (fun s => [(0, .c (.pt 1 0)), (1, .c (.pp (List.drop 0 (d_Macro a0).cells))), (2, .c (.d (.sl 1 (List.map (dL 11 d_Token) a1)))), (7, .c (.os 2 11 0 x4.length)), (8, .c (.d (.v (.bool x1)))), (9, .c (.d (.v (.int .i64 x2)))), (10, .c (.d (.v (.int .i64 x3)))), (11, .c (.pt 3 0)), (12, .c (.d (.v (.bool x8)))), (14, .c (.d (.v (.int .i64 r1)))), (76, .c (.d (.v (.bool s))))]) (fun s => [[.d (.sl 5 (List.map d_Macro a2)), .d (.sl 2 (List.map d_Source a3)), .d (.v (.int .i64 a4)), .d (.v (.int .i64 a5))], [.arr 11 (List.map d_Token x4)], [.d (.v (.int .i64 x9)), .d (.v (str x10)), .d (.v (.bool x11)), .d (.v (.bool x12)), .d (.v (.int .i64 x13)), .d (.v (.int .i64 x14)), .d (.v (.int .i64 x15)), .d (.v (.int .i64 x16)), .d (.sl 1 (List.map dS x17)), .d (.sl 3 (List.map d_Call x18)), .d (.v (.int .i64 x19))]]) [] o1 ?_ ?_
      ·rcases bsplit H with ⟨hp9, H⟩ | ⟨hp9, H⟩
       ·obtain ⟨F, G, hq9⟩ := xH Y G hp9
        rcases bsplit H with ⟨hp10, H⟩ | ⟨hp10, H⟩
        ·obtain ⟨F, G, hq10⟩ := xH F G hp10
         refine xR ?_
         exact cut_at H (xK ⟨[1,2,3], []⟩)
        ·obtain ⟨F, G, hq10⟩ := xH F G hp10
         refine xR ?_
         exact cut_at H (xK ⟨[1,2,3], []⟩)
       ·obtain ⟨F, G, hq9⟩ := xH Y G hp9
        refine xR ?_
        exact cut_at H (xK ⟨[1,2,3], []⟩)
      ·rintro x21 H
       rw [Ke] at H
       rcases bsplit H with ⟨hp3, H⟩ | ⟨hp3, H⟩
       ·obtain ⟨F, G, hq3⟩ := xH Y G hp3
        refine xT ?_
        refine xr ?_
        obtain ⟨hg2, H⟩ := gsplit H
        have F := xZ Y (map_getD d_Token a0.Body ((IntKind.i64.wrap (x3 + 1)).toNat) default default (by omega))
        obtain ⟨r2, hr2, H⟩ := osplit H
        have F := F
        obtain ⟨hg3, H⟩ := gsplit H
        have F := xZ F (map_getD (dL 11 d_Token) a1 r2.toNat default default (by omega))
        cases H
       ·obtain ⟨F, G, hq3⟩ := xH Y G hp3
        refine xE0 ?_
        refine w_cut (Kb a0 a1 x2 x3 x4 x9 x10 x11 x12 x13 x14 x15 x16 x17 x18 x19 r1) (fun s => [(0, .c (.pt 1 0)), (1, .c (.pp (List.drop 0 (d_Macro a0).cells))), (2, .c (.d (.sl 1 (List.map (dL 11 d_Token) a1)))), (7, .c (.os 2 11 0 x4.length)), (8, .c (.d (.v (.bool s.1)))), (9, .c (.d (.v (.int .i64 x2)))), (10, .c (.d (.v (.int .i64 x3)))), (11, .c (.pt 3 0)), (14, .c (.d (.v (.int .i64 r1)))), (139, .c (.d (.v (.bool s.2))))]) (fun s => [[.d (.sl 5 (List.map d_Macro a2)), .d (.sl 2 (List.map d_Source a3)), .d (.v (.int .i64 a4)), .d (.v (.int .i64 a5))], [.arr 11 (List.map d_Token x4)], [.d (.v (.int .i64 x9)), .d (.v (str x10)), .d (.v (.bool x11)), .d (.v (.bool x12)), .d (.v (.int .i64 x13)), .d (.v (.int .i64 x14)), .d (.v (.int .i64 x15)), .d (.v (.int .i64 x16)), .d (.sl 1 (List.map dS x17)), .d (.sl 3 (List.map d_Call x18)), .d (.v (.int .i64 x19))]]) [] o1 ?_ ?_
        ·rcases bsplit H with ⟨hp7, H⟩ | ⟨hp7, H⟩
         ·obtain ⟨F, G, hq7⟩ := xH Y G hp7
          rcases bsplit H with ⟨hp8, H⟩ | ⟨hp8, H⟩
          ·obtain ⟨F, G, hq8⟩ := xH F G hp8
           refine xR ?_
           exact cut_at H (xK ⟨[1,2,3], []⟩)
          ·obtain ⟨F, G, hq8⟩ := xH F G hp8
           refine xR ?_
           exact cut_at H (xK ⟨[1,2,3], []⟩)
         ·obtain ⟨F, G, hq7⟩ := xH Y G hp7
          refine xR ?_
          exact cut_at H (xK ⟨[1,2,3], []⟩)
        ·rintro ⟨x22, x23⟩ H
         rw [Kb] at H
         rcases bsplit H with ⟨hp4, H⟩ | ⟨hp4, H⟩
         ·obtain ⟨F, G, hq4⟩ := xH Y G hp4
          refine xT ?_
          obtain ⟨hg4, H⟩ := gsplit H
          have F := xZ Y (map_getD (dL 11 d_Token) a1 r1.toNat default default (by omega))
          cases H
         ·obtain ⟨F, G, hq4⟩ := xH Y G hp4
          refine xE ?_
          refine xr ?_
          rcases bsplit H with ⟨hp5, H⟩ | ⟨hp5, H⟩
          ·obtain ⟨F, G, hq5⟩ := xH Y G hp5
           refine xT ?_
           obtain ⟨hg5, H⟩ := gsplit H
           have F := xZ Y (map_getD (dL 11 d_Token) a1 r1.toNat default default (by omega))
           cases H
          ·obtain ⟨F, G, hq5⟩ := xH Y G hp5
           refine xE ?_
           refine xr ?_
           refine xr ?_
           rcases bsplit H with ⟨hp6, H⟩ | ⟨hp6, H⟩
           ·obtain ⟨F, G, hq6⟩ := xH Y G hp6
            refine xT ?_
            refine xfz 2 11 (List.map d_Token x4) [] ?_
            obtain ⟨hg6, H⟩ := gsplit H
            obtain ⟨hg7, H⟩ := gsplit H
            obtain ⟨hg8, H⟩ := gsplit H
            have F := xZ Y (map_getD d_Token a0.Body x3.toNat default default (by omega))
            cases H
           ·obtain ⟨F, G, hq6⟩ := xH Y G hp6
            refine xE ?_
            refine xr ?_
            obtain ⟨hg9, H⟩ := gsplit H
            have F := xZ Y (all_map one_Token [(⟨x9, x10, x11, x12, x13, x14, x15, x16, x17, x18, x19⟩ : Token)])
            have L : [(⟨x9, x10, x11, x12, x13, x14, x15, x16, x17, x18, x19⟩ : Token)].length = 1 := rfl
            refine xR ?_
            refine xr ?_
            exact cut_at H (xK ⟨[1,4], []⟩)
  ·rintro ⟨x5, x6, x7⟩ H
   rw [Vl] at H
   refine xr ?_
   exact round_at (inl_fin H hF1) (xK ⟨[1,2], []⟩)
 ·obtain ⟨F, G, hq1⟩ := xH Y G hp1
  replace H := inrO_fin H hF1
  refine xE ?_
  replace H := Option.some.inj H
  refine xr ?_
  subst H
  refine xrD [] ?_
  exact xO ⟨[1, 2], []⟩
theorem X4 : Callable Tryz.prog 144 ∧ (∀ g, Kl g → GenOk Tryz.prog 144 g) ∧ (true = true → ∀ g, Kl g → ∃ val bs ts, g.out = .ret val bs ts) :=
 ⟨call_144, JcD, fun _ => by rintro _ ⟨_, _, _, _, _, _, _, _, rfl⟩; exact ⟨_, _, _, rfl⟩⟩
noncomputable def KK (a0 : List (List (List UInt8))) : (Int × Int × (List (List UInt8))) → Option ((Int × Int × (List (List UInt8))) ⊕ (List (List UInt8)))
 | (x4, x5, x6) => if (ltI x5 x4) = true then if (0 : Int) ≤ x5 ∧ x5.toNat < a0.length then if (x6.length + (a0.getD x5.toNat default).length) * 16 ≤ 140737488355328 then some (.inl (x4, IntKind.i64.wrap (x5 + 1), x6 ++ (a0.getD x5.toNat default))) else none else none else inrO (some x6)
noncomputable def KJ (a0 : List (List (List UInt8))) : (Int × Int × Int) → Option ((Int × Int × Int) ⊕ (List (List UInt8)))
 | (x1, x2, x3) => if (ltI x3 x2) = true then if (0 : Int) ≤ x3 ∧ x3.toNat < a0.length then if (ltI (IntKind.i64.wrap (x1 + ((a0.getD x3.toNat default).length : Int))) 0) = true then none else some (.inl (IntKind.i64.wrap (x1 + ((a0.getD x3.toNat default).length : Int)), x2, IntKind.i64.wrap (x3 + 1))) else none else inrO ((Kv x1).bind fun r1 => loopO (KK a0) ((a0.length : Int), 0, ([] : List (List UInt8))))
noncomputable def J7 (a0 : List (List (List UInt8))) : Option (List (List UInt8)) :=
 loopO (KJ a0) (0, (a0.length : Int), 0)
def JF (a0 : List (List (List UInt8))) (r : (List (List UInt8))) : GI :=
 ⟨[.c (.d (.sl 1 (List.map (dL 1 dS) a0)))], [], [], .ret (.c (.os 1 1 0 r.length)) [[.arr 1 (List.map dS r)]] []⟩
def JD : GI → Prop := fun g => ∃ (a0 : List (List (List UInt8))) (r : (List (List UInt8))), J7 a0 = some r ∧ g = JF a0 r
theorem Jbq (a0 : List (List (List UInt8))) (r : (List (List UInt8))) (H : J7 a0 = some r) : JD (JF a0 r) := ⟨a0, r, H, rfl⟩
theorem Jbc : ∀ g, JD g → GenOk Tryz.prog 159 g := by
 rintro _ ⟨a0, r, H, rfl⟩
 refine xGn mixed [] [(174, true, JP)] [] trivial ⟨JbS, trivial⟩ trivial Tryz.func159 _ ?_
 have G := True.intro
 have Y := xZ y_9 <| xZ y_41 <| xZ y_224 <| xZ Tryz.results159 <| xZ J6.eq_1 <| JF.eq_1
 dsimp only [JF]
 simp only [J7] at H
 refine xS ?_
 refine xr ?_
 refine xr ?_
 refine xr ?_
 refine w_loop (KJ a0) (fun s => [(0, .c (.d (.sl 1 (List.map (dL 1 dS) a0)))), (3, .c (.d (.v (.int .i64 s.1)))), (9, .c (.d (.sl 1 (List.map (dL 1 dS) a0)))), (10, .c (.d (.v (.int .i64 s.2.1)))), (11, .c (.d (.v (.int .i64 s.2.2))))]) (fun s => []) [] H (xK ⟨[], []⟩) ?_
 rintro n1 ⟨x1, x2, x3⟩ o1 H hF1
 rw [KJ] at H
 refine xS ?_
 refine xr ?_
 rcases bsplit H with ⟨hp1, H⟩ | ⟨hp1, H⟩
 ·obtain ⟨F, G, hq1⟩ := xH Y G hp1
  refine xT ?_
  obtain ⟨hg1, H⟩ := gsplit H
  have F := xZ Y (map_getD (dL 1 dS) a0 x3.toNat default default (by omega))
  refine xR ?_
  refine xr ?_
  refine xr ?_
  rcases bsplit H with ⟨hp2, H⟩ | ⟨hp2, H⟩
  ·obtain ⟨F, G, hq2⟩ := xH Y G hp2
   refine xT ?_
   cases H
  ·obtain ⟨F, G, hq2⟩ := xH Y G hp2
   refine xE ?_
   refine xr ?_
   exact round_at (inl_fin H hF1) (xK ⟨[], []⟩)
 ·obtain ⟨F, G, hq1⟩ := xH Y G hp1
  replace H := inrO_fin H hF1
  refine xE ?_
  obtain ⟨r1, hr1, H⟩ := osplit H
  have F := Y
  refine xQ ?_
  refine xs 1 ?_
  refine xc ⟨[], []⟩ (tabG 0 (JbT x1 r1 hr1)) ?_
  refine xs 1 ?_
  refine xl ?_
  refine xS ?_
  refine xr ?_
  refine w_loop (KK a0) (fun s => [(6, .c (.os 1 1 0 s.2.2.length)), (25, .c (.d (.sl 1 (List.map (dL 1 dS) a0)))), (26, .c (.d (.v (.int .i64 s.1)))), (27, .c (.d (.v (.int .i64 s.2.1))))]) (fun s => [[.arr 1 (List.map dS s.2.2)]]) [] H (xK ⟨[1], []⟩) ?_
  rintro n2 ⟨x4, x5, x6⟩ o2 H hF2
  rw [KK] at H
  refine xS ?_
  refine xr ?_
  rcases bsplit H with ⟨hp3, H⟩ | ⟨hp3, H⟩
  ·obtain ⟨F, G, hq3⟩ := xH Y G hp3
   refine xT ?_
   obtain ⟨hg2, H⟩ := gsplit H
   have F := xZ Y (map_getD (dL 1 dS) a0 x5.toNat default default (by omega))
   refine xR ?_
   obtain ⟨hg3, H⟩ := gsplit H
   have F := xZ Y (all_map one_dS (a0.getD x5.toNat default))
   have A := all_map one_dS (a0.getD x5.toNat default)
   refine xR ?_
   refine xr ?_
   exact round_at (inl_fin H hF2) (xK ⟨[2], []⟩)
  ·obtain ⟨F, G, hq3⟩ := xH Y G hp3
   replace H := inrO_fin H hF2
   refine xE ?_
   replace H := Option.some.inj H
   refine xr ?_
   subst H
   refine xrD [] ?_
   exact xO ⟨[1], []⟩
theorem Jbp : Callable Tryz.prog 159 ∧ (∀ g, JD g → GenOk Tryz.prog 159 g) ∧ (true = true → ∀ g, JD g → ∃ val bs ts, g.out = .ret val bs ts) :=
 ⟨call_159, Jbc, fun _ => by rintro _ ⟨_, _, _, rfl⟩; exact ⟨_, _, _, rfl⟩⟩
noncomputable def Kg (a0 : List (List Call)) : ((List Call) × Int × Int) → Option (((List Call) × Int × Int) ⊕ (List Call))
 | (x4, x5, x6) => if (ltI x6 x5) = true then if (0 : Int) ≤ x6 ∧ x6.toNat < a0.length then if (x4.length + (a0.getD x6.toNat default).length) * 32 ≤ 140737488355328 then some (.inl (x4 ++ (a0.getD x6.toNat default), x5, IntKind.i64.wrap (x6 + 1))) else none else none else inrO (some x4)
noncomputable def Kd (a0 : List (List Call)) : (Int × Int × Int) → Option ((Int × Int × Int) ⊕ (List Call))
 | (x1, x2, x3) => if (ltI x3 x2) = true then if (0 : Int) ≤ x3 ∧ x3.toNat < a0.length then if (ltI (IntKind.i64.wrap (x1 + ((a0.getD x3.toNat default).length : Int))) 0) = true then none else some (.inl (IntKind.i64.wrap (x1 + ((a0.getD x3.toNat default).length : Int)), x2, IntKind.i64.wrap (x3 + 1))) else none else inrO ((J0 x1).bind fun r1 => loopO (Kg a0) (([] : List Call), (a0.length : Int), 0))
noncomputable def JR (a0 : List (List Call)) : Option (List Call) :=
 loopO (Kd a0) (0, (a0.length : Int), 0)
def Js (a0 : List (List Call)) (r : (List Call)) : GI :=
 ⟨[.c (.d (.sl 1 (List.map (dL 3 d_Call) a0)))], [], [], .ret (.c (.sl 3 (List.map d_Call r) 1)) [] [198]⟩
def Jt : GI → Prop := fun g => ∃ (a0 : List (List Call)) (r : (List Call)), JR a0 = some r ∧ g = Js a0 r
theorem JaA (a0 : List (List Call)) (r : (List Call)) (H : JR a0 = some r) : Jt (Js a0 r) := ⟨a0, r, H, rfl⟩
theorem Jav : ∀ g, Jt g → GenOk Tryz.prog 162 g := by
 rintro _ ⟨a0, r, H, rfl⟩
 refine xGn mixed [] [(177, true, Jw)] [] trivial ⟨JaS, trivial⟩ trivial Tryz.func162 _ ?_
 have G := True.intro
 have Y := xZ y_9 <| xZ y_42 <| xZ y_198 <| xZ y_227 <| xZ Tryz.results162 <| xZ d_Call.eq_1 <| xZ JS.eq_1 <| Js.eq_1
 dsimp only [Js]
 simp only [JR] at H
 refine xS ?_
 refine xr ?_
 refine xr ?_
 refine xr ?_
 refine w_loop (Kd a0) (fun s => [(0, .c (.d (.sl 1 (List.map (dL 3 d_Call) a0)))), (3, .c (.d (.v (.int .i64 s.1)))), (9, .c (.d (.sl 1 (List.map (dL 3 d_Call) a0)))), (10, .c (.d (.v (.int .i64 s.2.1)))), (11, .c (.d (.v (.int .i64 s.2.2))))]) (fun s => []) [] H (xK ⟨[], []⟩) ?_
 rintro n1 ⟨x1, x2, x3⟩ o1 H hF1
 rw [Kd] at H
 refine xS ?_
 refine xr ?_
 rcases bsplit H with ⟨hp1, H⟩ | ⟨hp1, H⟩
 ·obtain ⟨F, G, hq1⟩ := xH Y G hp1
  refine xT ?_
  obtain ⟨hg1, H⟩ := gsplit H
  have F := xZ Y (map_getD (dL 3 d_Call) a0 x3.toNat default default (by omega))
  refine xR ?_
  refine xr ?_
  refine xr ?_
  rcases bsplit H with ⟨hp2, H⟩ | ⟨hp2, H⟩
  ·obtain ⟨F, G, hq2⟩ := xH Y G hp2
   refine xT ?_
   cases H
  ·obtain ⟨F, G, hq2⟩ := xH Y G hp2
   refine xE ?_
   refine xr ?_
   exact round_at (inl_fin H hF1) (xK ⟨[], []⟩)
 ·obtain ⟨F, G, hq1⟩ := xH Y G hp1
  replace H := inrO_fin H hF1
  refine xE ?_
  obtain ⟨r1, hr1, H⟩ := osplit H
  have F := Y
  refine xQ ?_
  refine xs 1 ?_
  refine xc ⟨[], []⟩ (tabG 0 (Ja0 x1 r1 hr1)) ?_
  refine xs 1 ?_
  refine xl ?_
  refine xS ?_
  refine xr ?_
  refine w_loop (Kg a0) (fun s => [(6, .c (.sl 3 (List.map d_Call s.1) 1)), (25, .c (.d (.sl 1 (List.map (dL 3 d_Call) a0)))), (26, .c (.d (.v (.int .i64 s.2.1)))), (27, .c (.d (.v (.int .i64 s.2.2))))]) (fun s => []) [198] H (xK ⟨[], [1]⟩) ?_
  rintro n2 ⟨x4, x5, x6⟩ o2 H hF2
  rw [Kg] at H
  refine xS ?_
  refine xr ?_
  rcases bsplit H with ⟨hp3, H⟩ | ⟨hp3, H⟩
  ·obtain ⟨F, G, hq3⟩ := xH Y G hp3
   refine xT ?_
   obtain ⟨hg2, H⟩ := gsplit H
   have F := xZ Y (map_getD (dL 3 d_Call) a0 x6.toNat default default (by omega))
   refine xR ?_
   obtain ⟨hg3, H⟩ := gsplit H
   have F := xZ Y (all_map one_Call (a0.getD x6.toNat default))
   have A := all_map one_Call (a0.getD x6.toNat default)
   refine xR ?_
   refine xr ?_
   exact round_at (inl_fin H hF2) (xK ⟨[], [2]⟩)
  ·obtain ⟨F, G, hq3⟩ := xH Y G hp3
   replace H := inrO_fin H hF2
   refine xE ?_
   replace H := Option.some.inj H
   refine xr ?_
   subst H
   refine xrD [] ?_
   exact xO ⟨[], [1]⟩
theorem JaH : Callable Tryz.prog 162 ∧ (∀ g, Jt g → GenOk Tryz.prog 162 g) ∧ (true = true → ∀ g, Jt g → ∃ val bs ts, g.out = .ret val bs ts) :=
 ⟨call_162, Jav, fun _ => by rintro _ ⟨_, _, _, rfl⟩; exact ⟨_, _, _, rfl⟩⟩
noncomputable def Jb2 (a0 : List (List UInt8)) (a1 : List Call) : (Int × Int × (List Token)) → Option ((Int × Int × (List Token)) ⊕ (List Token))
 | (x1, x2, x3) => if (ltI x2 x1) = true then if (0 : Int) ≤ x2 ∧ x2.toNat < x3.length then if x2.toNat < x3.length then (J7 [(x3.getD x2.toNat default).Hide, a0]).bind fun r1 => (Ku r1).bind fun r2 => (J2 (Jba r1)).bind fun r3 => if (0 : Int) ≤ x2 ∧ x2.toNat < x3.length then if x2.toNat < x3.length then if (0 : Int) ≤ x2 ∧ x2.toNat < x3.length then if x2.toNat < x3.length then (JR [a1, (x3.getD x2.toNat default).Calls]).bind fun r4 => if (0 : Int) ≤ x2 ∧ x2.toNat < x3.length then if x2.toNat < x3.length then some (.inl (x1, IntKind.i64.wrap (x2 + 1), List.set x3 x2.toNat (⟨(x3.getD x2.toNat default).Kind, (x3.getD x2.toNat default).Text, (x3.getD x2.toNat default).Space, (x3.getD x2.toNat default).First, (x3.getD x2.toNat default).File, (x3.getD x2.toNat default).At, (x3.getD x2.toNat default).End, (x3.getD x2.toNat default).Line, compactS (Jba r1), r4, (x3.getD x2.toNat default).Made⟩ : Token))) else none else none else none else none else none else none else none else none else inrO (some x3)
noncomputable def Jb9 (a0 : List (List UInt8)) (a1 : List Call) (a2 : List Token) : Option (List Token) :=
 loopO (Jb2 a0 a1) (((a2.length : Nat) : Int), 0, a2)
def Z9 (a0 : List (List UInt8)) (a1 : List Call) (a2 : List Token) (r : (List Token)) : GI :=
 ⟨[.c (.os 1 11 0 a2.length), .c (.d (.sl 1 (List.map dS a0))), .c (.d (.sl 3 (List.map d_Call a1)))], [[.arr 11 (List.map d_Token a2)]], [], .ret (.c (.os 1 11 0 r.length)) [[.arr 11 (List.map d_Token r)]] []⟩
def Jag : GI → Prop := fun g => ∃ (a0 : List (List UInt8)) (a1 : List Call) (a2 : List Token) (r : (List Token)), Jb9 a0 a1 a2 = some r ∧ g = Z9 a0 a1 a2 r
theorem Jfq (a0 : List (List UInt8)) (a1 : List Call) (a2 : List Token) (r : (List Token)) (H : Jb9 a0 a1 a2 = some r) : Jag (Z9 a0 a1 a2 r) := ⟨a0, a1, a2, r, H, rfl⟩
theorem Je3 : ∀ g, Jag g → GenOk Tryz.prog 143 g := by
 rintro _ ⟨a0, a1, a2, r, H, rfl⟩
 refine xGn mixed [] [(159, true, JD), (160, true, JO), (161, true, JA), (162, true, Jt)] [] trivial ⟨Jbp, JbU, Jbe, JaH, trivial⟩ trivial Tryz.func143 _ ?_
 have G := True.intro
 have Y := xZ y_24 <| xZ y_41 <| xZ y_42 <| xZ y_44 <| xZ y_224 <| xZ y_227 <| xZ Tryz.results143 <| xZ d_Call.eq_1 <| xZ d_Token.eq_1 <| xZ JF.eq_1 <| xZ J8.eq_1 <| xZ JW.eq_1 <| xZ Js.eq_1 <| Z9.eq_1
 dsimp only [Z9]
 simp only [Jb9] at H
 refine xS ?_
 refine xr ?_
 refine xr ?_
 refine w_loop (Jb2 a0 a1) (fun s => [(0, .c (.os 1 11 0 s.2.2.length)), (1, .c (.d (.sl 1 (List.map dS a0)))), (2, .c (.d (.sl 3 (List.map d_Call a1)))), (10, .c (.d (.v (.int .i64 s.1)))), (11, .c (.d (.v (.int .i64 s.2.1))))]) (fun s => [[.arr 11 (List.map d_Token s.2.2)]]) [] H (xK ⟨[1], []⟩) ?_
 rintro n1 ⟨x1, x2, x3⟩ o1 H hF1
 rw [Jb2] at H
 refine xS ?_
 refine xr ?_
 rcases bsplit H with ⟨hp1, H⟩ | ⟨hp1, H⟩
 ·obtain ⟨F, G, hq1⟩ := xH Y G hp1
  refine xT ?_
  refine xr ?_
  obtain ⟨hg1, H⟩ := gsplit H
  obtain ⟨hg, H⟩ := gsplit H
  have F := xZ Y (map_getD d_Token x3 x2.toNat default default (by omega))
  obtain ⟨r1, hr1, H⟩ := osplit H
  have F := F
  refine xQ ?_
  refine xs 7 ?_
  refine xc ⟨[], []⟩ (tabG 0 (Jbq [(x3.getD x2.toNat default).Hide, a0] r1 hr1)) ?_
  refine xs 1 ?_
  refine xl ?_
  refine xS ?_
  obtain ⟨r2, hr2, H⟩ := osplit H
  have F := Y
  refine xQ ?_
  refine xs 1 ?_
  refine xc ⟨[2], []⟩ (tabG 1 (JbV r1 r2 hr2)) ?_
  refine xl ?_
  refine xS ?_
  obtain ⟨r3, hr3, H⟩ := osplit H
  have F := xZ Y JdX
  obtain ⟨hg2, H⟩ := gsplit H
  obtain ⟨hg, H⟩ := gsplit H
  have F := xZ F (map_getD d_Token x3 x2.toNat default default (by omega))
  have F := xZ F (set_len d_Token x3 x2.toNat)
  have F := xZ F (set_get d_Token x3 (show x2.toNat < x3.length by omega))
  have F := xZ F (set_set d_Token x3 x2.toNat)
  refine xQ ?_
  refine xs 3 ?_
  refine xc ⟨[2], []⟩ (tabG 2 (Jbb (Jba r1) r3 hr3)) ?_
  refine xs 3 ?_
  refine xl ?_
  refine xS ?_
  obtain ⟨hg3, H⟩ := gsplit H
  obtain ⟨hg, H⟩ := gsplit H
  have F := xZ Y (map_getD d_Token x3 x2.toNat default default (by omega))
  have F := xZ F (set_len d_Token x3 x2.toNat)
  have F := xZ F (set_get d_Token x3 (show x2.toNat < x3.length by omega))
  have F := xZ F (set_set d_Token x3 x2.toNat)
  obtain ⟨r4, hr4, H⟩ := osplit H
  have F := F
  obtain ⟨hg4, H⟩ := gsplit H
  obtain ⟨hg, H⟩ := gsplit H
  have F := xZ F (map_getD d_Token x3 x2.toNat default default (by omega))
  have F := xZ F (set_len d_Token x3 x2.toNat)
  have F := xZ F (set_get d_Token x3 (show x2.toNat < x3.length by omega))
  have F := xZ F (set_set d_Token x3 x2.toNat)
  refine xQ ?_
  refine xs 9 ?_
  refine xc ⟨[], []⟩ (tabG 3 (JaA [a1, (x3.getD x2.toNat default).Calls] r4 hr4)) ?_
  refine xs 3 ?_
  refine xl ?_
  refine xS ?_
  refine xr ?_
  exact round_at (inl_fin H hF1) (xK ⟨[1], []⟩)
 ·obtain ⟨F, G, hq1⟩ := xH Y G hp1
  replace H := inrO_fin H hF1
  refine xE ?_
  replace H := Option.some.inj H
  refine xr ?_
  subst H
  refine xrD [] ?_
  exact xO ⟨[1], []⟩
theorem Jco : Callable Tryz.prog 143 ∧ (∀ g, Jag g → GenOk Tryz.prog 143 g) ∧ (true = true → ∀ g, Jag g → ∃ val bs ts, g.out = .ret val bs ts) :=
 ⟨call_143, Je3, fun _ => by rintro _ ⟨_, _, _, _, _, rfl⟩; exact ⟨_, _, _, rfl⟩⟩
noncomputable def ZU : (List Token) → Option (List Token)
 | x1 => some x1
noncomputable def Ja9 (a0 : Bool) (a1 : List Token) : Option (List Token) :=
 if (ltI 0 ((a1.length : Nat) : Int)) = true then if 0 < a1.length then if 0 < a1.length then ZU (List.set a1 0 (⟨(a1.getD 0 default).Kind, (a1.getD 0 default).Text, a0, (a1.getD 0 default).First, (a1.getD 0 default).File, (a1.getD 0 default).At, (a1.getD 0 default).End, (a1.getD 0 default).Line, (a1.getD 0 default).Hide, (a1.getD 0 default).Calls, (a1.getD 0 default).Made⟩ : Token)) else none else none else ZU a1
def Zp (a0 : Bool) (a1 : List Token) (r : (List Token)) : GI :=
 ⟨[.c (.os 1 11 0 a1.length), .c (.d (.v (.bool a0)))], [[.arr 11 (List.map d_Token a1)]], [], .ret (.c (.os 1 11 0 r.length)) [[.arr 11 (List.map d_Token r)]] []⟩
def Zo : GI → Prop := fun g => ∃ (a0 : Bool) (a1 : List Token) (r : (List Token)), Ja9 a0 a1 = some r ∧ g = Zp a0 a1 r
theorem JeH (a0 : Bool) (a1 : List Token) (r : (List Token)) (H : Ja9 a0 a1 = some r) : Zo (Zp a0 a1 r) := ⟨a0, a1, r, H, rfl⟩
theorem Jeu : ∀ g, Zo g → GenOk Tryz.prog 146 g := by
 rintro _ ⟨a0, a1, r, H, rfl⟩
 refine xGn mixed [] [] [] trivial trivial trivial Tryz.func146 _ ?_
 have G := True.intro
 have Y := xZ y_4 <| xZ y_24 <| xZ y_44 <| xZ Tryz.results146 <| xZ d_Call.eq_1 <| xZ d_Token.eq_1 <| Zp.eq_1
 dsimp only [Zp]
 simp only [Ja9] at H
 refine xS ?_
 refine xr0 ?_
 refine then_normal ?_
 refine w_cut ZU (fun s => [(0, .c (.os 1 11 0 s.length))]) (fun s => [[.arr 11 (List.map d_Token s)]]) [] r ?_ ?_
 ·refine xS ?_
  refine xr ?_
  rcases bsplit H with ⟨hp1, H⟩ | ⟨hp1, H⟩
  ·obtain ⟨F, G, hq1⟩ := xH Y G hp1
   refine xT ?_
   obtain ⟨hg1, H⟩ := gsplit H
   obtain ⟨hg, H⟩ := gsplit H
   have F := xZ Y (map_getD d_Token a1 0 default default (by omega))
   have F := xZ F (set_len d_Token a1 0)
   have F := xZ F (set_get d_Token a1 (show 0 < a1.length by omega))
   have F := xZ F (set_set d_Token a1 0)
   refine xR ?_
   exact cut_at H (xK ⟨[1], []⟩)
  ·obtain ⟨F, G, hq1⟩ := xH Y G hp1
   refine xE ?_
   exact cut_at H (xK ⟨[1], []⟩)
 ·rintro x1 H
  rw [ZU] at H
  refine xS ?_
  replace H := Option.some.inj H
  refine xr ?_
  subst H
  refine xrD [] ?_
  exact xO ⟨[1], []⟩
theorem JbQ : Callable Tryz.prog 146 ∧ (∀ g, Zo g → GenOk Tryz.prog 146 g) ∧ (true = true → ∀ g, Zo g → ∃ val bs ts, g.out = .ret val bs ts) :=
 ⟨call_146, Jeu, fun _ => by rintro _ ⟨_, _, _, _, rfl⟩; exact ⟨_, _, _, rfl⟩⟩
noncomputable def Vw (a0 : Macro) (a1 : Token) (a2 : List Macro) (a3 : List Source) (a4 : Int) (a5 : Int) : ((List (List UInt8)) × Nat × Int × Int) → Option (Nat × (List Token))
 | (x1, x2, x3, x4) => (Xj a0 ([] : List (List Token)) a2 a3 a4 a5).bind fun r2 => (JY a1.Calls).bind fun r3 => if (a1.Calls.length + [(⟨a0.Name, x3, x4⟩ : Call)].length) * 32 ≤ 140737488355328 then (Jb9 x1 (a1.Calls ++ [(⟨a0.Name, x3, x4⟩ : Call)]) r2).bind fun r4 => (Ja9 a1.Space r4).bind fun r5 => some (x2, r5) else none
noncomputable def Xz (a0 : Macro) (a1 : Token) (a2 : List Macro) (a3 : List Source) (a4 : Int) (a5 : Int) (a6 : Nat) (a7 : List Token) : Option (Nat × (List Token)) :=
 (Kk a1.Hide).bind fun r1 => if (a1.Hide.length + [a0.Name].length) * 16 ≤ 140737488355328 then if a0.Call = true then none else if (!eqI a1.Made 0) = true then Vw a0 a1 a2 a3 a4 a5 (a1.Hide ++ [a0.Name], a6, (-1), 0) else Vw a0 a1 a2 a3 a4 a5 (a1.Hide ++ [a0.Name], a6, a1.File, a1.At) else none
def KB (a0 : Macro) (a1 : Token) (a2 : List Macro) (a3 : List Source) (a4 : Int) (a5 : Int) (a6 : Nat) (a7 : List Token) (r : (Nat × (List Token))) : GI :=
 ⟨[.c (.pt 1 0), .c (.pp (List.drop 0 (d_Macro a0).cells)), .ag [.d (.v (.int .i64 a1.Kind)), .d (.v (str a1.Text)), .d (.v (.bool a1.Space)), .d (.v (.bool a1.First)), .d (.v (.int .i64 a1.File)), .d (.v (.int .i64 a1.At)), .d (.v (.int .i64 a1.End)), .d (.v (.int .i64 a1.Line)), .d (.sl 1 (List.map dS a1.Hide)), .d (.sl 3 (List.map d_Call a1.Calls)), .d (.v (.int .i64 a1.Made))], .c (.pt 2 0)], [[.d (.sl 5 (List.map d_Macro a2)), .d (.sl 2 (List.map d_Source a3)), .d (.v (.int .i64 a4)), .d (.v (.int .i64 a5))], [.os 3 11 0 a6], [.arr 11 (List.map d_Token a7)]], [], .ret (.c (.os 4 11 0 r.2.length)) [[.d (.sl 5 (List.map d_Macro a2)), .d (.sl 2 (List.map d_Source a3)), .d (.v (.int .i64 a4)), .d (.v (.int .i64 a5))], [.os 3 11 0 r.1], [.arr 11 (List.map d_Token a7)], [.arr 11 (List.map d_Token r.2)]] []⟩
def KE : GI → Prop := fun g => ∃ (a0 : Macro) (a1 : Token) (a2 : List Macro) (a3 : List Source) (a4 : Int) (a5 : Int) (a6 : Nat) (a7 : List Token) (r : (Nat × (List Token))), Xz a0 a1 a2 a3 a4 a5 a6 a7 = some r ∧ g = KB a0 a1 a2 a3 a4 a5 a6 a7 r
theorem Jc6 (a0 : Macro) (a1 : Token) (a2 : List Macro) (a3 : List Source) (a4 : Int) (a5 : Int) (a6 : Nat) (a7 : List Token) (r : (Nat × (List Token))) (H : Xz a0 a1 a2 a3 a4 a5 a6 a7 = some r) : KE (KB a0 a1 a2 a3 a4 a5 a6 a7 r) := ⟨a0, a1, a2, a3, a4, a5, a6, a7, r, H, rfl⟩
theorem JcR : ∀ g, KE g → GenOk Tryz.prog 126 g := by
 rintro _ ⟨a0, a1, a2, a3, a4, a5, a6, a7, r, H, rfl⟩
 refine xGnl mixed [1, 27] [] [(138, true, JK), (144, true, Kl), (145, true, Jv), (143, true, Jag), (146, true, Zo)] [] trivial ⟨Vu, X4, Kt, Jco, JbQ, trivial⟩ trivial Tryz.func126 _ ?_
 have G := True.intro
 have Y := xZ y_3 <| xZ y_4 <| xZ y_9 <| xZ y_24 <| xZ y_41 <| xZ y_42 <| xZ y_44 <| xZ y_63 <| xZ y_81 <| xZ y_171 <| xZ y_198 <| xZ Tryz.results126 <| xZ d_Source.eq_1 <| xZ d_Call.eq_1 <| xZ d_Token.eq_1 <| xZ d_Macro.eq_1 <| xZ Vd.eq_1 <| xZ Ko.eq_1 <| xZ Kr.eq_1 <| xZ Z9.eq_1 <| xZ Zp.eq_1 <| KB.eq_1
 dsimp only [KB]
 simp only [Xz] at H
 refine xS ?_
 refine xr ?_
 obtain ⟨r1, hr1, H⟩ := osplit H
 have F := Y
 obtain ⟨hg1, H⟩ := gsplit H
 have F := xZ F (all_map one_dS [a0.Name])
 refine xP [0, 1, 3, 4, 5, 6, 7, 2, 8, 9] [27] ⟨Vu, X4, Kt, Jco, JbQ, trivial⟩ ?_
 refine xsX 5 ?_
 refine xaX ?_
 refine xsX 1 ?_
 refine xcX ⟨[], []⟩ (tabG 0 (Jbt a1.Hide r1 hr1)) ?_
 refine xbX ?_
 refine xsX 1 ?_
 refine xlX ?_
 refine xS ?_
 refine xr ?_
 refine xr ?_
 rcases bsplit H with ⟨hp1, H⟩ | ⟨hp1, H⟩
 ·obtain ⟨F, G, hq1⟩ := xH Y G hp1
  refine xT ?_
  cases H
 ·obtain ⟨F, G, hq1⟩ := xH Y G hp1
  refine xE ?_
  refine xr0 ?_
  refine then_normal ?_
  refine w_cut (Vw a0 a1 a2 a3 a4 a5) (fun s => [(0, .c (.pt 1 0)), (1, .c (.pp (List.drop 0 (d_Macro a0).cells))), (6, .c (.pt 4 0)), (9, .c (.sl 1 (List.map dS s.1) 6)), (10, .c (.sl 1 [] 0)), (19, .c (.pt 5 0))]) (fun s => [[.d (.sl 5 (List.map d_Macro a2)), .d (.sl 2 (List.map d_Source a3)), .d (.v (.int .i64 a4)), .d (.v (.int .i64 a5))], [.os 3 11 0 s.2.1], [.arr 11 (List.map d_Token a7)], [.d (.v (.int .i64 a1.Kind)), .d (.v (str a1.Text)), .d (.v (.bool a1.Space)), .d (.v (.bool a1.First)), .d (.v (.int .i64 a1.File)), .d (.v (.int .i64 a1.At)), .d (.v (.int .i64 a1.End)), .d (.v (.int .i64 a1.Line)), .d (.sl 1 (List.map dS a1.Hide)), .d (.sl 3 (List.map d_Call a1.Calls)), .d (.v (.int .i64 a1.Made))], [.d (.v (str a0.Name)), .d (.v (.int .i64 s.2.2.1)), .d (.v (.int .i64 s.2.2.2))]]) [9] r ?_ ?_
  ·refine xS ?_
   refine xr ?_
   rcases bsplit H with ⟨hp2, H⟩ | ⟨hp2, H⟩
   ·obtain ⟨F, G, hq2⟩ := xH Y G hp2
    refine xT ?_
    refine xr ?_
    exact cut_at H (xK ⟨[1,2,3,4,7], [6]⟩)
   ·obtain ⟨F, G, hq2⟩ := xH Y G hp2
    refine xE ?_
    exact cut_at H (xK ⟨[1,2,3,4,7], [6]⟩)
  ·rintro ⟨x1, x2, x3, x4⟩ H
   rw [Vw] at H
   refine xS ?_
   obtain ⟨r2, hr2, H⟩ := osplit H
   have F := Y
   obtain ⟨r3, hr3, H⟩ := osplit H
   have F := F
   obtain ⟨hg2, H⟩ := gsplit H
   have F := xZ F (all_map one_Call [(⟨a0.Name, x3, x4⟩ : Call)])
   obtain ⟨r4, hr4, H⟩ := osplit H
   have F := F
   refine xP [0, 1, 2, 4, 5, 6, 8, 9, 3, 7, 10, 11, 12] [109, 111] ⟨Vu, X4, Kt, Jco, JbQ, trivial⟩ ?_
   refine xsX 5 ?_
   refine xaX ?_
   refine xaX ?_
   refine xsX 1 ?_
   refine xcX ⟨[1], []⟩ (tabG 1 (JcQ a0 ([] : List (List Token)) a2 a3 a4 a5 r2 hr2)) ?_
   refine xcX ⟨[], []⟩ (tabG 2 (JaO a1.Calls r3 hr3)) ?_
   refine xsX 1 ?_
   refine xcX ⟨[8], []⟩ (tabG 3 (Jfq x1 (a1.Calls ++ [(⟨a0.Name, x3, x4⟩ : Call)]) r2 r4 hr4)) ?_
   refine xsX 1 ?_
   refine xlX ?_
   refine xS ?_
   obtain ⟨r5, hr5, H⟩ := osplit H
   have F := Y
   refine xQ ?_
   refine xs 3 ?_
   refine xc ⟨[8], []⟩ (tabG 4 (JeH a1.Space r4 r5 hr5)) ?_
   refine xs 1 ?_
   refine xl ?_
   replace H := Option.some.inj H
   refine xS ?_
   subst H
   refine xrD [] ?_
   exact xO ⟨[1, 2, 3, 8], []⟩
theorem JcZ : Callable Tryz.prog 126 ∧ (∀ g, KE g → GenOk Tryz.prog 126 g) ∧ (true = true → ∀ g, KE g → ∃ val bs ts, g.out = .ret val bs ts) :=
 ⟨call_126, JcR, fun _ => by rintro _ ⟨_, _, _, _, _, _, _, _, _, _, rfl⟩; exact ⟨_, _, _, rfl⟩⟩
noncomputable def X5 (a1 : List Token) : (Int × Nat × (List Token)) → Option ((Int × Nat × (List Token)) ⊕ (Nat × (List Token)))
 | (x1, x2, x3) => if (leI 0 x1) = true then if (0 : Int) ≤ x1 ∧ x1.toNat < a1.length then if x1.toNat < a1.length then if x2 ≤ x3.length ∧ (x2 + [(a1.getD x1.toNat default)].length) * 120 ≤ 140737488355328 then some (.inl (IntKind.i64.wrap (x1 - 1), x2 + [(a1.getD x1.toNat default)].length, (List.take x2 x3) ++ [(a1.getD x1.toNat default)])) else none else none else none else inrO (some (x2, x3))
noncomputable def XC (a0 : Nat) (a1 : List Token) (a2 : List Token) : Option (Nat × (List Token)) :=
 loopO (X5 a1) (IntKind.i64.wrap (((a1.length : Nat) : Int) - 1), a0, a2)
def KA (a0 : Nat) (a1 : List Token) (a2 : List Token) (r : (Nat × (List Token))) : GI :=
 ⟨[.c (.pt 1 0), .c (.os 2 11 0 a1.length)], [[.os 3 11 0 a0], [.arr 11 (List.map d_Token a1)], [.arr 11 (List.map d_Token a2)]], [], .ret (.tu []) [[.os 4 11 0 r.1], [], [], [.arr 11 (List.map d_Token r.2)]] []⟩
def KF : GI → Prop := fun g => ∃ (a0 : Nat) (a1 : List Token) (a2 : List Token) (r : (Nat × (List Token))), XC a0 a1 a2 = some r ∧ g = KA a0 a1 a2 r
theorem Jc0 (a0 : Nat) (a1 : List Token) (a2 : List Token) (r : (Nat × (List Token))) (H : XC a0 a1 a2 = some r) : KF (KA a0 a1 a2 r) := ⟨a0, a1, a2, r, H, rfl⟩
theorem JcS : ∀ g, KF g → GenOk Tryz.prog 121 g := by
 rintro _ ⟨a0, a1, a2, r, H, rfl⟩
 refine xGn mixed [] [] [] trivial trivial trivial Tryz.func121 _ ?_
 have G := True.intro
 have Y := xZ y_24 <| xZ y_44 <| xZ y_171 <| xZ Tryz.results121 <| xZ d_Call.eq_1 <| xZ d_Token.eq_1 <| KA.eq_1
 dsimp only [KA]
 simp only [XC] at H
 refine xS ?_
 refine xrn 2 1 ?_
 refine xrn 3 1 ?_
 refine xr ?_
 refine w_loop (X5 a1) (fun s => [(0, .c (.pt 1 0)), (1, .c (.os 4 11 0 a1.length)), (4, .c (.d (.v (.int .i64 s.1))))]) (fun s => [[.os 5 11 0 s.2.1], [], [], [.arr 11 (List.map d_Token a1)], [.arr 11 (List.map d_Token s.2.2)]]) [] H (xK ⟨[1,2,3,4,5], []⟩) ?_
 rintro n1 ⟨x1, x2, x3⟩ o1 H hF1
 rw [X5] at H
 refine xS ?_
 refine xr ?_
 rcases bsplit H with ⟨hp1, H⟩ | ⟨hp1, H⟩
 ·obtain ⟨F, G, hq1⟩ := xH Y G hp1
  refine xT ?_
  obtain ⟨hg1, H⟩ := gsplit H
  obtain ⟨hg, H⟩ := gsplit H
  have F := xZ Y (map_getD d_Token a1 x1.toNat default default (by omega))
  obtain ⟨hg2, H⟩ := gsplit H
  have F := xZ F (all_map one_Token [(a1.getD x1.toNat default)])
  have T := take_len x3 x2 (by omega)
  have F := xZ F (Nat.min_eq_left (show x2 ≤ x3.length by omega))
  have G := xZ G (Nat.min_eq_left (show x2 ≤ x3.length by omega))
  have F := xZ F (take_app2 d_Token T)
  have G := xZ G (take_app2 d_Token T)
  have L : [(a1.getD x1.toNat default)].length = 1 := rfl
  refine xR ?_
  refine xr ?_
  exact round_at (inl_fin H hF1) (xK ⟨[1,2,3,4,6], []⟩)
 ·obtain ⟨F, G, hq1⟩ := xH Y G hp1
  replace H := inrO_fin H hF1
  replace H := Option.some.inj H
  refine xE ?_
  subst H
  refine xnD [] ?_
  exact xO ⟨[1, 2, 3, 5], []⟩
theorem JcW : Callable Tryz.prog 121 ∧ (∀ g, KF g → GenOk Tryz.prog 121 g) ∧ (true = true → ∀ g, KF g → ∃ val bs ts, g.out = .ret val bs ts) :=
 ⟨call_121, JcS, fun _ => by rintro _ ⟨_, _, _, _, _, rfl⟩; exact ⟨_, _, _, rfl⟩⟩
noncomputable def XX (a0 : Nat) (a1 : List Token) : Option (Int × (List UInt8) × Bool × Bool × Int × Int × Int × Int × (List (List UInt8)) × (List Call) × Int × Nat) :=
 if (0 : Int) ≤ (IntKind.i64.wrap (((a0 : Nat) : Int) - 1)) ∧ (IntKind.i64.wrap (((a0 : Nat) : Int) - 1)).toNat < a0 then if (IntKind.i64.wrap (((a0 : Nat) : Int) - 1)).toNat < a1.length then if (0 : Int) ≤ 0 ∧ 0 ≤ (IntKind.i64.wrap (((a0 : Nat) : Int) - 1)) ∧ (IntKind.i64.wrap (((a0 : Nat) : Int) - 1)) ≤ ((a0 : Nat) : Int) then some ((a1.getD ((IntKind.i64.wrap (((a0 : Nat) : Int) - 1)).toNat) default).Kind, (a1.getD ((IntKind.i64.wrap (((a0 : Nat) : Int) - 1)).toNat) default).Text, (a1.getD ((IntKind.i64.wrap (((a0 : Nat) : Int) - 1)).toNat) default).Space, (a1.getD ((IntKind.i64.wrap (((a0 : Nat) : Int) - 1)).toNat) default).First, (a1.getD ((IntKind.i64.wrap (((a0 : Nat) : Int) - 1)).toNat) default).File, (a1.getD ((IntKind.i64.wrap (((a0 : Nat) : Int) - 1)).toNat) default).At, (a1.getD ((IntKind.i64.wrap (((a0 : Nat) : Int) - 1)).toNat) default).End, (a1.getD ((IntKind.i64.wrap (((a0 : Nat) : Int) - 1)).toNat) default).Line, (a1.getD ((IntKind.i64.wrap (((a0 : Nat) : Int) - 1)).toNat) default).Hide, (a1.getD ((IntKind.i64.wrap (((a0 : Nat) : Int) - 1)).toNat) default).Calls, (a1.getD ((IntKind.i64.wrap (((a0 : Nat) : Int) - 1)).toNat) default).Made, (IntKind.i64.wrap (((a0 : Nat) : Int) - 1)).toNat) else none else none else none
def KR (a0 : Nat) (a1 : List Token) (r : (Int × (List UInt8) × Bool × Bool × Int × Int × Int × Int × (List (List UInt8)) × (List Call) × Int × Nat)) : GI :=
 ⟨[.c (.pt 1 0)], [[.os 2 11 0 a0], [.arr 11 (List.map d_Token a1)]], [], .ret (.ag [.d (.v (.int .i64 r.1)), .d (.v (str r.2.1)), .d (.v (.bool r.2.2.1)), .d (.v (.bool r.2.2.2.1)), .d (.v (.int .i64 r.2.2.2.2.1)), .d (.v (.int .i64 r.2.2.2.2.2.1)), .d (.v (.int .i64 r.2.2.2.2.2.2.1)), .d (.v (.int .i64 r.2.2.2.2.2.2.2.1)), .d (.sl 1 (List.map dS r.2.2.2.2.2.2.2.2.1)), .d (.sl 3 (List.map d_Call r.2.2.2.2.2.2.2.2.2.1)), .d (.v (.int .i64 r.2.2.2.2.2.2.2.2.2.2.1))]) [[.os 2 11 0 r.2.2.2.2.2.2.2.2.2.2.2], [.arr 11 (List.map d_Token a1)]] []⟩
def KS : GI → Prop := fun g => ∃ (a0 : Nat) (a1 : List Token) (r : (Int × (List UInt8) × Bool × Bool × Int × Int × Int × Int × (List (List UInt8)) × (List Call) × Int × Nat)), XX a0 a1 = some r ∧ g = KR a0 a1 r
theorem Jc8 (a0 : Nat) (a1 : List Token) (r : (Int × (List UInt8) × Bool × Bool × Int × Int × Int × Int × (List (List UInt8)) × (List Call) × Int × Nat)) (H : XX a0 a1 = some r) : KS (KR a0 a1 r) := ⟨a0, a1, r, H, rfl⟩
theorem Jc7 : ∀ g, KS g → GenOk Tryz.prog 122 g := by
 rintro _ ⟨a0, a1, r, H, rfl⟩
 refine xGn mixed [] [] [] trivial trivial trivial Tryz.func122 _ ?_
 have G := True.intro
 have Y := xZ y_44 <| xZ y_171 <| xZ Tryz.results122 <| xZ d_Call.eq_1 <| xZ d_Token.eq_1 <| KR.eq_1
 dsimp only [KR]
 simp only [XX] at H
 refine xS ?_
 refine xr ?_
 obtain ⟨hg1, H⟩ := gsplit H
 obtain ⟨hg, H⟩ := gsplit H
 have F := xZ Y (map_getD d_Token a1 ((IntKind.i64.wrap (((a0 : Nat) : Int) - 1)).toNat) default default (by omega))
 refine xR ?_
 obtain ⟨hg2, H⟩ := gsplit H
 refine xr ?_
 replace H := Option.some.inj H
 refine xr ?_
 subst H
 refine xrD [] ?_
 exact xO ⟨[1, 2], []⟩
theorem Jdg : Callable Tryz.prog 122 ∧ (∀ g, KS g → GenOk Tryz.prog 122 g) ∧ (true = true → ∀ g, KS g → ∃ val bs ts, g.out = .ret val bs ts) :=
 ⟨call_122, Jc7, fun _ => by rintro _ ⟨_, _, _, _, rfl⟩; exact ⟨_, _, _, rfl⟩⟩
noncomputable def JN (a1 : List Macro) (a2 : List Source) (a4 : Int) (x3 : List Token) (x4 : List Token) (r3 : Int) (x5 : Int) (x7 : Int) (x8 : List UInt8) (x9 : Bool) (x10 : Bool) (x11 : Int) (x12 : Int) (x13 : Int) (x14 : Int) (x15 : List (List UInt8)) (x16 : List Call) (x17 : Int) : (Bool × Nat) → Option ((Int × Nat × (List Token) × (List Token)) ⊕ (GR (Int × Int × Int × Int) ((List Token) × Int)))
 | (x18, x19) => if x18 = true then if (x3.length + [(⟨x7, x8, x9, x10, x11, x12, x13, x14, x15, x16, x17⟩ : Token)].length) * 120 ≤ 140737488355328 then if (ltI a4 ((x3.length + [(⟨x7, x8, x9, x10, x11, x12, x13, x14, x15, x16, x17⟩ : Token)].length : Nat) : Int)) = true then (JaU 4 x7 x8 x9 x10 x11 x12 x13 x14 x15 x16 x17).bind fun e2 => inrO (some (.er (4, x11, x12, r3))) else some (.inl (r3, x19, x3 ++ [(⟨x7, x8, x9, x10, x11, x12, x13, x14, x15, x16, x17⟩ : Token)], x4)) else none else if (0 : Int) ≤ x5 ∧ x5.toNat < a1.length then (Xz (a1.getD x5.toNat default) (⟨x7, x8, x9, x10, x11, x12, x13, x14, x15, x16, x17⟩ : Token) a1 a2 r3 a4 x19 x4).bind fun r5 => (XC r5.1 r5.2 x4).bind fun r6 => some (.inl (r3, r6.1, x3, r6.2)) else none
noncomputable def KG (a1 : List Macro) (a2 : List Source) (a4 : Int) (x3 : List Token) (x4 : List Token) (r3 : Int) : (Int × Nat × Int × (List UInt8) × Bool × Bool × Int × Int × Int × Int × (List (List UInt8)) × (List Call) × Int) → Option ((Int × Nat × (List Token) × (List Token)) ⊕ (GR (Int × Int × Int × Int) ((List Token) × Int)))
 | (x5, x6, x7, x8, x9, x10, x11, x12, x13, x14, x15, x16, x17) => if (ltI x5 0) = true then JN a1 a2 a4 x3 x4 r3 x5 x7 x8 x9 x10 x11 x12 x13 x14 x15 x16 x17 (true, x6) else if (0 : Int) ≤ x5 ∧ x5.toNat < a1.length then if ((a1.getD x5.toNat default).Call) = true then if (eqI ((x6 : Nat) : Int) 0) = true then JN a1 a2 a4 x3 x4 r3 x5 x7 x8 x9 x10 x11 x12 x13 x14 x15 x16 x17 (true, x6) else if (0 : Int) ≤ (IntKind.i64.wrap (((x6 : Nat) : Int) - 1)) ∧ (IntKind.i64.wrap (((x6 : Nat) : Int) - 1)).toNat < x6 then if (IntKind.i64.wrap (((x6 : Nat) : Int) - 1)).toNat < x4.length then if (!eqS ((x4.getD ((IntKind.i64.wrap (((x6 : Nat) : Int) - 1)).toNat) default).Text) [40]) = true then JN a1 a2 a4 x3 x4 r3 x5 x7 x8 x9 x10 x11 x12 x13 x14 x15 x16 x17 (true, x6) else if (0 : Int) ≤ (IntKind.i64.wrap (((x6 : Nat) : Int) - 1)) ∧ (IntKind.i64.wrap (((x6 : Nat) : Int) - 1)).toNat < x6 then if (IntKind.i64.wrap (((x6 : Nat) : Int) - 1)).toNat < x4.length then JN a1 a2 a4 x3 x4 r3 x5 x7 x8 x9 x10 x11 x12 x13 x14 x15 x16 x17 (!eqI ((x4.getD ((IntKind.i64.wrap (((x6 : Nat) : Int) - 1)).toNat) default).Kind) 5, x6) else none else none else none else none else JN a1 a2 a4 x3 x4 r3 x5 x7 x8 x9 x10 x11 x12 x13 x14 x15 x16 x17 (false, x6) else none
noncomputable def VP (a1 : List Macro) (a2 : List Source) (a4 : Int) (x3 : List Token) (x4 : List Token) (r2 : (Int × (List UInt8) × Bool × Bool × Int × Int × Int × Int × (List (List UInt8)) × (List Call) × Int × Nat)) (r3 : Int) : (Bool × Nat) → Option ((Int × Nat × (List Token) × (List Token)) ⊕ (GR (Int × Int × Int × Int) ((List Token) × Int)))
 | (x30, x31) => if x30 = true then (JaE a1 r2.2.1).bind fun r8 => KG a1 a2 a4 x3 x4 r3 (r8, x31, r2.1, r2.2.1, r2.2.2.1, r2.2.2.2.1, r2.2.2.2.2.1, r2.2.2.2.2.2.1, r2.2.2.2.2.2.2.1, r2.2.2.2.2.2.2.2.1, r2.2.2.2.2.2.2.2.2.1, r2.2.2.2.2.2.2.2.2.2.1, r2.2.2.2.2.2.2.2.2.2.2.1) else KG a1 a2 a4 x3 x4 r3 ((-1), x31, r2.1, r2.2.1, r2.2.2.1, r2.2.2.2.1, r2.2.2.2.2.1, r2.2.2.2.2.2.1, r2.2.2.2.2.2.2.1, r2.2.2.2.2.2.2.2.1, r2.2.2.2.2.2.2.2.2.1, r2.2.2.2.2.2.2.2.2.2.1, r2.2.2.2.2.2.2.2.2.2.2.1)
noncomputable def VO (a1 : List Macro) (a2 : List Source) (a4 : Int) (x3 : List Token) (x4 : List Token) (r2 : (Int × (List UInt8) × Bool × Bool × Int × Int × Int × Int × (List (List UInt8)) × (List Call) × Int × Nat)) (r3 : Int) (r7 : (Int × (List UInt8) × Int × Bool)) : (Bool × Nat × Bool × Bool × Int × Int × Int × Int × (List (List UInt8)) × (List Call)) → Option ((Int × Nat × (List Token) × (List Token)) ⊕ (GR (Int × Int × Int × Int) ((List Token) × Int)))
 | (x20, x21, x22, x23, x24, x25, x26, x27, x28, x29) => if x20 = true then KG a1 a2 a4 x3 x4 r3 ((-1), x21, r7.1, r7.2.1, x22, x23, x24, x25, x26, x27, x28, x29, r7.2.2.1) else if (eqI r2.1 1) = true then (JZ r2.2.2.2.2.2.2.2.2.1 r2.2.1).bind fun r9 => VP a1 a2 a4 x3 x4 r2 r3 (!r9, x21) else VP a1 a2 a4 x3 x4 r2 r3 (false, x21)
noncomputable def Zu (a1 : List Macro) (a2 : List Source) (a4 : Int) : (Int × Nat × (List Token) × (List Token)) → Option ((Int × Nat × (List Token) × (List Token)) ⊕ (GR (Int × Int × Int × Int) ((List Token) × Int)))
 | (x1, x2, x3, x4) => if (ltI 0 ((x2 : Nat) : Int)) = true then (XX x2 x4).bind fun r2 => grB (XI a1 a2 x1 a4 r2.1 r2.2.1 r2.2.2.1 r2.2.2.2.1 r2.2.2.2.2.1 r2.2.2.2.2.2.1 r2.2.2.2.2.2.2.1 r2.2.2.2.2.2.2.2.1 r2.2.2.2.2.2.2.2.2.1 r2.2.2.2.2.2.2.2.2.2.1 r2.2.2.2.2.2.2.2.2.2.2.1) (fun r3 => (Xg (⟨r2.1, r2.2.1, r2.2.2.1, r2.2.2.2.1, r2.2.2.2.2.1, r2.2.2.2.2.2.1, r2.2.2.2.2.2.2.1, r2.2.2.2.2.2.2.2.1, r2.2.2.2.2.2.2.2.2.1, r2.2.2.2.2.2.2.2.2.2.1, r2.2.2.2.2.2.2.2.2.2.2.1⟩ : Token) a1 a2 r3 a4).bind fun r7 => if r7.2.2.2 = true then VO a1 a2 a4 x3 x4 r2 r3 r7 (eqI r2.1 1, r2.2.2.2.2.2.2.2.2.2.2.2, (⟨r2.1, r2.2.1, r2.2.2.1, r2.2.2.2.1, r2.2.2.2.2.1, r2.2.2.2.2.2.1, r2.2.2.2.2.2.2.1, r2.2.2.2.2.2.2.2.1, r2.2.2.2.2.2.2.2.2.1, r2.2.2.2.2.2.2.2.2.2.1, r2.2.2.2.2.2.2.2.2.2.2.1⟩ : Token).Space, (⟨r2.1, r2.2.1, r2.2.2.1, r2.2.2.2.1, r2.2.2.2.2.1, r2.2.2.2.2.2.1, r2.2.2.2.2.2.2.1, r2.2.2.2.2.2.2.2.1, r2.2.2.2.2.2.2.2.2.1, r2.2.2.2.2.2.2.2.2.2.1, r2.2.2.2.2.2.2.2.2.2.2.1⟩ : Token).First, (⟨r2.1, r2.2.1, r2.2.2.1, r2.2.2.2.1, r2.2.2.2.2.1, r2.2.2.2.2.2.1, r2.2.2.2.2.2.2.1, r2.2.2.2.2.2.2.2.1, r2.2.2.2.2.2.2.2.2.1, r2.2.2.2.2.2.2.2.2.2.1, r2.2.2.2.2.2.2.2.2.2.2.1⟩ : Token).File, (⟨r2.1, r2.2.1, r2.2.2.1, r2.2.2.2.1, r2.2.2.2.2.1, r2.2.2.2.2.2.1, r2.2.2.2.2.2.2.1, r2.2.2.2.2.2.2.2.1, r2.2.2.2.2.2.2.2.2.1, r2.2.2.2.2.2.2.2.2.2.1, r2.2.2.2.2.2.2.2.2.2.2.1⟩ : Token).At, (⟨r2.1, r2.2.1, r2.2.2.1, r2.2.2.2.1, r2.2.2.2.2.1, r2.2.2.2.2.2.1, r2.2.2.2.2.2.2.1, r2.2.2.2.2.2.2.2.1, r2.2.2.2.2.2.2.2.2.1, r2.2.2.2.2.2.2.2.2.2.1, r2.2.2.2.2.2.2.2.2.2.2.1⟩ : Token).End, (⟨r2.1, r2.2.1, r2.2.2.1, r2.2.2.2.1, r2.2.2.2.2.1, r2.2.2.2.2.2.1, r2.2.2.2.2.2.2.1, r2.2.2.2.2.2.2.2.1, r2.2.2.2.2.2.2.2.2.1, r2.2.2.2.2.2.2.2.2.2.1, r2.2.2.2.2.2.2.2.2.2.2.1⟩ : Token).Line, (⟨r2.1, r2.2.1, r2.2.2.1, r2.2.2.2.1, r2.2.2.2.2.1, r2.2.2.2.2.2.1, r2.2.2.2.2.2.2.1, r2.2.2.2.2.2.2.2.1, r2.2.2.2.2.2.2.2.2.1, r2.2.2.2.2.2.2.2.2.2.1, r2.2.2.2.2.2.2.2.2.2.2.1⟩ : Token).Hide, (⟨r2.1, r2.2.1, r2.2.2.1, r2.2.2.2.1, r2.2.2.2.2.1, r2.2.2.2.2.2.1, r2.2.2.2.2.2.2.1, r2.2.2.2.2.2.2.2.1, r2.2.2.2.2.2.2.2.2.1, r2.2.2.2.2.2.2.2.2.2.1, r2.2.2.2.2.2.2.2.2.2.2.1⟩ : Token).Calls) else VO a1 a2 a4 x3 x4 r2 r3 r7 (false, r2.2.2.2.2.2.2.2.2.2.2.2, (⟨r2.1, r2.2.1, r2.2.2.1, r2.2.2.2.1, r2.2.2.2.2.1, r2.2.2.2.2.2.1, r2.2.2.2.2.2.2.1, r2.2.2.2.2.2.2.2.1, r2.2.2.2.2.2.2.2.2.1, r2.2.2.2.2.2.2.2.2.2.1, r2.2.2.2.2.2.2.2.2.2.2.1⟩ : Token).Space, (⟨r2.1, r2.2.1, r2.2.2.1, r2.2.2.2.1, r2.2.2.2.2.1, r2.2.2.2.2.2.1, r2.2.2.2.2.2.2.1, r2.2.2.2.2.2.2.2.1, r2.2.2.2.2.2.2.2.2.1, r2.2.2.2.2.2.2.2.2.2.1, r2.2.2.2.2.2.2.2.2.2.2.1⟩ : Token).First, (⟨r2.1, r2.2.1, r2.2.2.1, r2.2.2.2.1, r2.2.2.2.2.1, r2.2.2.2.2.2.1, r2.2.2.2.2.2.2.1, r2.2.2.2.2.2.2.2.1, r2.2.2.2.2.2.2.2.2.1, r2.2.2.2.2.2.2.2.2.2.1, r2.2.2.2.2.2.2.2.2.2.2.1⟩ : Token).File, (⟨r2.1, r2.2.1, r2.2.2.1, r2.2.2.2.1, r2.2.2.2.2.1, r2.2.2.2.2.2.1, r2.2.2.2.2.2.2.1, r2.2.2.2.2.2.2.2.1, r2.2.2.2.2.2.2.2.2.1, r2.2.2.2.2.2.2.2.2.2.1, r2.2.2.2.2.2.2.2.2.2.2.1⟩ : Token).At, (⟨r2.1, r2.2.1, r2.2.2.1, r2.2.2.2.1, r2.2.2.2.2.1, r2.2.2.2.2.2.1, r2.2.2.2.2.2.2.1, r2.2.2.2.2.2.2.2.1, r2.2.2.2.2.2.2.2.2.1, r2.2.2.2.2.2.2.2.2.2.1, r2.2.2.2.2.2.2.2.2.2.2.1⟩ : Token).End, (⟨r2.1, r2.2.1, r2.2.2.1, r2.2.2.2.1, r2.2.2.2.2.1, r2.2.2.2.2.2.1, r2.2.2.2.2.2.2.1, r2.2.2.2.2.2.2.2.1, r2.2.2.2.2.2.2.2.2.1, r2.2.2.2.2.2.2.2.2.2.1, r2.2.2.2.2.2.2.2.2.2.2.1⟩ : Token).Line, (⟨r2.1, r2.2.1, r2.2.2.1, r2.2.2.2.1, r2.2.2.2.2.1, r2.2.2.2.2.2.1, r2.2.2.2.2.2.2.1, r2.2.2.2.2.2.2.2.1, r2.2.2.2.2.2.2.2.2.1, r2.2.2.2.2.2.2.2.2.2.1, r2.2.2.2.2.2.2.2.2.2.2.1⟩ : Token).Hide, (⟨r2.1, r2.2.1, r2.2.2.1, r2.2.2.2.1, r2.2.2.2.2.1, r2.2.2.2.2.2.1, r2.2.2.2.2.2.2.1, r2.2.2.2.2.2.2.2.1, r2.2.2.2.2.2.2.2.2.1, r2.2.2.2.2.2.2.2.2.2.1, r2.2.2.2.2.2.2.2.2.2.2.1⟩ : Token).Calls)) (fun e1 => inrO (some (.er (11, r2.2.2.2.2.1, r2.2.2.2.2.2.1, x1)))) else inrO (some (.ok (x3, x1)))
noncomputable def XY (a0 : List Token) (a1 : List Macro) (a2 : List Source) (a3 : Int) (a4 : Int) : Option (GR (Int × Int × Int × Int) ((List Token) × Int)) :=
 (Zw a0 []).bind fun r1 => loopO (Zu a1 a2 a4) (a3, r1.length, ([] : List Token), r1)
def Jda (a0 : List Token) (a1 : List Macro) (a2 : List Source) (a3 : Int) (a4 : Int) : GR (Int × Int × Int × Int) ((List Token) × Int) → GOut
 | .ok r => .ret (.c (.d (.sl 11 (List.map d_Token r.1)))) [[.d (.sl 5 (List.map d_Macro a1)), .d (.sl 2 (List.map d_Source a2)), .d (.v (.int .i64 r.2)), .d (.v (.int .i64 a4))]] []
 | .er r => .pan (.iface 170 (.agg ⟨[.int .i64 r.1, .int .i64 r.2.1, .int .i64 r.2.2.1]⟩)) [[.d (.sl 5 (List.map d_Macro a1)), .d (.sl 2 (List.map d_Source a2)), .d (.v (.int .i64 r.2.2.2)), .d (.v (.int .i64 a4))]] []
def K4 (a0 : List Token) (a1 : List Macro) (a2 : List Source) (a3 : Int) (a4 : Int) (r : GR (Int × Int × Int × Int) ((List Token) × Int)) : GI :=
 ⟨[.c (.pt 1 0), .c (.d (.sl 11 (List.map d_Token a0)))], [[.d (.sl 5 (List.map d_Macro a1)), .d (.sl 2 (List.map d_Source a2)), .d (.v (.int .i64 a3)), .d (.v (.int .i64 a4))]], [], Jda a0 a1 a2 a3 a4 r⟩
def KT : GI → Prop := fun g => ∃ (a0 : List Token) (a1 : List Macro) (a2 : List Source) (a3 : Int) (a4 : Int) (r : GR (Int × Int × Int × Int) ((List Token) × Int)), XY a0 a1 a2 a3 a4 = some r ∧ g = K4 a0 a1 a2 a3 a4 r
theorem Jbk (a0 : List Token) (a1 : List Macro) (a2 : List Source) (a3 : Int) (a4 : Int) (r : GR (Int × Int × Int × Int) ((List Token) × Int)) (H : XY a0 a1 a2 a3 a4 = some r) : KT (K4 a0 a1 a2 a3 a4 r) := ⟨a0, a1, a2, a3, a4, r, H, rfl⟩
theorem Jc5 : ∀ g, KT g → GenOk Tryz.prog 104 g := by
 rintro _ ⟨a0, a1, a2, a3, a4, r, H, rfl⟩
 refine xGn mixed [(86, Jae), (108, Ks)] [(121, true, VC), (122, true, KS), (123, false, KI), (125, false, Za), (126, true, KE), (121, true, KF), (124, true, Kq)] [] ⟨⟨call_86, Jcp⟩, ⟨call_108, JaP⟩, trivial⟩ ⟨JdG, Jdg, Jc1, JdB, JcZ, JcW, JcP, trivial⟩ trivial Tryz.func104 _ ?_
 have G := True.intro
 have Y := xZ y_3 <| xZ y_4 <| xZ y_9 <| xZ y_24 <| xZ y_28 <| xZ y_41 <| xZ y_44 <| xZ y_63 <| xZ y_155 <| xZ y_171 <| xZ Tryz.results104 <| xZ d_Source.eq_1 <| xZ d_Call.eq_1 <| xZ d_Token.eq_1 <| xZ d_Macro.eq_1 <| xZ VD.eq_1 <| xZ KR.eq_1 <| xZ KH.eq_1 <| xZ X9.eq_1 <| xZ KB.eq_1 <| xZ KA.eq_1 <| xZ Km.eq_1 <| K4.eq_1
 dsimp only [K4]
 simp only [XY] at H
 refine xS ?_
 refine xr ?_
 refine xr ?_
 obtain ⟨r1, hr1, H⟩ := osplit H
 have F := Y
 refine xQ ?_
 refine xs 1 ?_
 refine xc ⟨[2, 0], []⟩ (tabG 0 (JdN a0 [] r1 hr1)) ?_
 refine xl ?_
 refine xS ?_
 refine xr ?_
 refine w_loop (Zu a1 a2 a4) (fun s => [(0, .c (.pt 1 0)), (5, .c (.pt 2 0)), (6, .c (.os 3 11 0 s.2.2.1.length))]) (fun s => [[.d (.sl 5 (List.map d_Macro a1)), .d (.sl 2 (List.map d_Source a2)), .d (.v (.int .i64 s.1)), .d (.v (.int .i64 a4))], [.os 4 11 0 s.2.1], [.arr 11 (List.map d_Token s.2.2.1)], [.arr 11 (List.map d_Token s.2.2.2)]]) [] H (xK ⟨[1,2,0,5], []⟩) ?_
 rintro n1 ⟨x1, x2, x3, x4⟩ o1 H hF1
 rw [Zu] at H
 refine xS ?_
 refine xr ?_
 rcases bsplit H with ⟨hp1, H⟩ | ⟨hp1, H⟩
 ·obtain ⟨F, G, hq1⟩ := xH Y G hp1
  refine xT ?_
  obtain ⟨r2, hr2, H⟩ := osplit H
  have F := Y
  refine xQ ?_
  refine xc ⟨[2, 4], []⟩ (tabG 1 (Jc8 x2 x4 r2 hr2)) ?_
  refine xs 2 ?_
  refine xl ?_
  refine xS ?_
  rcases rsplit H with ⟨r3, hr3, H⟩ | ⟨e1, hr4, H⟩
  ·have F := Y
   refine xQ ?_
   refine xs 1 ?_
   refine xc ⟨[1, 7], []⟩ (tabG 2 (JaZ a1 a2 x1 a4 r2.1 r2.2.1 r2.2.2.1 r2.2.2.2.1 r2.2.2.2.2.1 r2.2.2.2.2.2.1 r2.2.2.2.2.2.2.1 r2.2.2.2.2.2.2.2.1 r2.2.2.2.2.2.2.2.2.1 r2.2.2.2.2.2.2.2.2.2.1 r2.2.2.2.2.2.2.2.2.2.2.1 (.ok r3) hr3)) ?_
   refine xl ?_
   refine xS ?_
   refine xr0 ?_
   refine then_normal ?_
   refine w_cut (KG a1 a2 a4 x3 x4 r3) (fun s => [(0, .c (.pt 1 0)), (5, .c (.pt 2 0)), (6, .c (.os 3 11 0 x3.length)), (7, .c (.pt 4 0)), (8, .c (.d (.v (.int .i64 s.1))))]) (fun s => [[.d (.sl 5 (List.map d_Macro a1)), .d (.sl 2 (List.map d_Source a2)), .d (.v (.int .i64 r3)), .d (.v (.int .i64 a4))], [.os 5 11 0 s.2.1], [.arr 11 (List.map d_Token x3)], [.d (.v (.int .i64 s.2.2.1)), .d (.v (str s.2.2.2.1)), .d (.v (.bool s.2.2.2.2.1)), .d (.v (.bool s.2.2.2.2.2.1)), .d (.v (.int .i64 s.2.2.2.2.2.2.1)), .d (.v (.int .i64 s.2.2.2.2.2.2.2.1)), .d (.v (.int .i64 s.2.2.2.2.2.2.2.2.1)), .d (.v (.int .i64 s.2.2.2.2.2.2.2.2.2.1)), .d (.sl 1 (List.map dS s.2.2.2.2.2.2.2.2.2.2.1)), .d (.sl 3 (List.map d_Call s.2.2.2.2.2.2.2.2.2.2.2.1)), .d (.v (.int .i64 s.2.2.2.2.2.2.2.2.2.2.2.2))], [.arr 11 (List.map d_Token x4)]]) [] o1 ?_ ?_
   ·refine xS ?_
    obtain ⟨r7, hr9, H⟩ := osplit H
    have F := Y
    refine xQ ?_
    refine xs 2 ?_
    refine xc ⟨[1], []⟩ (tabG 6 (JcT (⟨r2.1, r2.2.1, r2.2.2.1, r2.2.2.2.1, r2.2.2.2.2.1, r2.2.2.2.2.2.1, r2.2.2.2.2.2.2.1, r2.2.2.2.2.2.2.2.1, r2.2.2.2.2.2.2.2.2.1, r2.2.2.2.2.2.2.2.2.2.1, r2.2.2.2.2.2.2.2.2.2.2.1⟩ : Token) a1 a2 r3 a4 r7 hr9)) ?_
    refine xs 6 ?_
    refine xl ?_
    refine  ?_
    refine then_normal ?_
    refine w_cut (VO a1 a2 a4 x3 x4 r2 r3 r7) (fun s => [(0, .c (.pt 1 0)), (5, .c (.pt 2 0)), (6, .c (.os 3 11 0 x3.length)), (7, .c (.pt 4 0)), (8, .c (.d (.v (.int .i64 (-1))))), (9, .c (.pt 5 0)), (30, .c (.d (.v (.bool s.1))))]) (fun s => [[.d (.sl 5 (List.map d_Macro a1)), .d (.sl 2 (List.map d_Source a2)), .d (.v (.int .i64 r3)), .d (.v (.int .i64 a4))], [.os 6 11 0 s.2.1], [.arr 11 (List.map d_Token x3)], [.d (.v (.int .i64 r2.1)), .d (.v (str r2.2.1)), .d (.v (.bool r2.2.2.1)), .d (.v (.bool r2.2.2.2.1)), .d (.v (.int .i64 r2.2.2.2.2.1)), .d (.v (.int .i64 r2.2.2.2.2.2.1)), .d (.v (.int .i64 r2.2.2.2.2.2.2.1)), .d (.v (.int .i64 r2.2.2.2.2.2.2.2.1)), .d (.sl 1 (List.map dS r2.2.2.2.2.2.2.2.2.1)), .d (.sl 3 (List.map d_Call r2.2.2.2.2.2.2.2.2.2.1)), .d (.v (.int .i64 r2.2.2.2.2.2.2.2.2.2.2.1))], [.d (.v (.int .i64 r7.1)), .d (.v (str r7.2.1)), .d (.v (.bool s.2.2.1)), .d (.v (.bool s.2.2.2.1)), .d (.v (.int .i64 s.2.2.2.2.1)), .d (.v (.int .i64 s.2.2.2.2.2.1)), .d (.v (.int .i64 s.2.2.2.2.2.2.1)), .d (.v (.int .i64 s.2.2.2.2.2.2.2.1)), .d (.sl 1 (List.map dS s.2.2.2.2.2.2.2.2.1)), .d (.sl 3 (List.map d_Call s.2.2.2.2.2.2.2.2.2)), .d (.v (.int .i64 r7.2.2.1))], [.arr 11 (List.map d_Token x4)]]) [] o1 ?_ ?_
    ·rcases bsplit H with ⟨hp11, H⟩ | ⟨hp11, H⟩
     ·obtain ⟨F, G, hq11⟩ := xH Y G hp11
      refine xR ?_
      exact cut_at H (xK ⟨[1,2,3,7,11,4], []⟩)
     ·obtain ⟨F, G, hq11⟩ := xH Y G hp11
      refine xR ?_
      exact cut_at H (xK ⟨[1,2,3,7,11,4], []⟩)
    ·rintro ⟨x20, x21, x22, x23, x24, x25, x26, x27, x28, x29⟩ H
     rw [VO] at H
     rcases bsplit H with ⟨hp8, H⟩ | ⟨hp8, H⟩
     ·obtain ⟨F, G, hq8⟩ := xH Y G hp8
      refine xT ?_
      refine xr ?_
      exact cut_at H (xK ⟨[1,2,3,4,6], []⟩)
     ·obtain ⟨F, G, hq8⟩ := xH Y G hp8
      refine xE0 ?_
      refine w_cut (VP a1 a2 a4 x3 x4 r2 r3) (fun s => [(0, .c (.pt 1 0)), (5, .c (.pt 2 0)), (6, .c (.os 3 11 0 x3.length)), (7, .c (.pt 4 0)), (8, .c (.d (.v (.int .i64 (-1))))), (42, .c (.d (.v (.bool s.1))))]) (fun s => [[.d (.sl 5 (List.map d_Macro a1)), .d (.sl 2 (List.map d_Source a2)), .d (.v (.int .i64 r3)), .d (.v (.int .i64 a4))], [.os 5 11 0 s.2], [.arr 11 (List.map d_Token x3)], [.d (.v (.int .i64 r2.1)), .d (.v (str r2.2.1)), .d (.v (.bool r2.2.2.1)), .d (.v (.bool r2.2.2.2.1)), .d (.v (.int .i64 r2.2.2.2.2.1)), .d (.v (.int .i64 r2.2.2.2.2.2.1)), .d (.v (.int .i64 r2.2.2.2.2.2.2.1)), .d (.v (.int .i64 r2.2.2.2.2.2.2.2.1)), .d (.sl 1 (List.map dS r2.2.2.2.2.2.2.2.2.1)), .d (.sl 3 (List.map d_Call r2.2.2.2.2.2.2.2.2.2.1)), .d (.v (.int .i64 r2.2.2.2.2.2.2.2.2.2.2.1))], [.arr 11 (List.map d_Token x4)]]) [] o1 ?_ ?_
      ·rcases bsplit H with ⟨hp10, H⟩ | ⟨hp10, H⟩
       ·obtain ⟨F, G, hq10⟩ := xH Y G hp10
        obtain ⟨r9, hr11, H⟩ := osplit H
        have F := xCf F (Ja1 r2.2.2.2.2.2.2.2.2.1 r2.2.1 r9 hr11)
        refine xR ?_
        exact cut_at H (xK ⟨[1,2,3,4,6], []⟩)
       ·obtain ⟨F, G, hq10⟩ := xH Y G hp10
        refine xR ?_
        exact cut_at H (xK ⟨[1,2,3,4,6], []⟩)
      ·rintro ⟨x30, x31⟩ H
       rw [VP] at H
       rcases bsplit H with ⟨hp9, H⟩ | ⟨hp9, H⟩
       ·obtain ⟨F, G, hq9⟩ := xH Y G hp9
        refine xT ?_
        obtain ⟨r8, hr10, H⟩ := osplit H
        have F := xC Y (JcG a1 r2.2.1 r8 hr10)
        refine xR ?_
        exact cut_at H (xK ⟨[1,2,3,4,5], []⟩)
       ·obtain ⟨F, G, hq9⟩ := xH Y G hp9
        refine xE ?_
        exact cut_at H (xK ⟨[1,2,3,4,5], []⟩)
   ·rintro ⟨x5, x6, x7, x8, x9, x10, x11, x12, x13, x14, x15, x16, x17⟩ H
    rw [KG] at H
    refine w_seq ?_
    refine w_cut (JN a1 a2 a4 x3 x4 r3 x5 x7 x8 x9 x10 x11 x12 x13 x14 x15 x16 x17) (fun s => [(0, .c (.pt 1 0)), (5, .c (.pt 2 0)), (6, .c (.os 3 11 0 x3.length)), (7, .c (.pt 4 0)), (8, .c (.d (.v (.int .i64 x5)))), (86, .c (.d (.v (.bool s.1))))]) (fun s => [[.d (.sl 5 (List.map d_Macro a1)), .d (.sl 2 (List.map d_Source a2)), .d (.v (.int .i64 r3)), .d (.v (.int .i64 a4))], [.os 5 11 0 s.2], [.arr 11 (List.map d_Token x3)], [.d (.v (.int .i64 x7)), .d (.v (str x8)), .d (.v (.bool x9)), .d (.v (.bool x10)), .d (.v (.int .i64 x11)), .d (.v (.int .i64 x12)), .d (.v (.int .i64 x13)), .d (.v (.int .i64 x14)), .d (.sl 1 (List.map dS x15)), .d (.sl 3 (List.map d_Call x16)), .d (.v (.int .i64 x17))], [.arr 11 (List.map d_Token x4)]]) [] o1 ?_ ?_
    ·rcases bsplit H with ⟨hp4, H⟩ | ⟨hp4, H⟩
     ·obtain ⟨F, G, hq4⟩ := xH Y G hp4
      refine xR ?_
      exact cut_at H (xK ⟨[1,2,3,4,5], []⟩)
     ·obtain ⟨F, G, hq4⟩ := xH Y G hp4
      obtain ⟨hg3, H⟩ := gsplit H
      have F := xZ F (map_getD d_Macro a1 x5.toNat default default (by omega))
      rcases bsplit H with ⟨hp5, H⟩ | ⟨hp5, H⟩
      ·obtain ⟨F, G, hq5⟩ := xH F G hp5
       rcases bsplit H with ⟨hp6, H⟩ | ⟨hp6, H⟩
       ·obtain ⟨F, G, hq6⟩ := xH F G hp6
        refine xR ?_
        exact cut_at H (xK ⟨[1,2,3,4,5], []⟩)
       ·obtain ⟨F, G, hq6⟩ := xH F G hp6
        obtain ⟨hg4, H⟩ := gsplit H
        obtain ⟨hg, H⟩ := gsplit H
        have F := xZ F (map_getD d_Token x4 ((IntKind.i64.wrap (((x6 : Nat) : Int) - 1)).toNat) default default (by omega))
        rcases bsplit H with ⟨hp7, H⟩ | ⟨hp7, H⟩
        ·obtain ⟨F, G, hq7⟩ := xH F G hp7
         refine xR ?_
         exact cut_at H (xK ⟨[1,2,3,4,5], []⟩)
        ·obtain ⟨F, G, hq7⟩ := xH F G hp7
         obtain ⟨hg5, H⟩ := gsplit H
         obtain ⟨hg, H⟩ := gsplit H
         have F := xZ F (map_getD d_Token x4 ((IntKind.i64.wrap (((x6 : Nat) : Int) - 1)).toNat) default default (by omega))
         refine xR ?_
         exact cut_at H (xK ⟨[1,2,3,4,5], []⟩)
      ·obtain ⟨F, G, hq5⟩ := xH F G hp5
       refine xR ?_
       exact cut_at H (xK ⟨[1,2,3,4,5], []⟩)
    ·rintro ⟨x18, x19⟩ H
     rw [JN] at H
     rcases bsplit H with ⟨hp2, H⟩ | ⟨hp2, H⟩
     ·obtain ⟨F, G, hq2⟩ := xH Y G hp2
      refine xT ?_
      obtain ⟨hg1, H⟩ := gsplit H
      have F := xZ Y (all_map one_Token [(⟨x7, x8, x9, x10, x11, x12, x13, x14, x15, x16, x17⟩ : Token)])
      have L : [(⟨x7, x8, x9, x10, x11, x12, x13, x14, x15, x16, x17⟩ : Token)].length = 1 := rfl
      refine xR ?_
      refine xr ?_
      rcases bsplit H with ⟨hp3, H⟩ | ⟨hp3, H⟩
      ·obtain ⟨F, G, hq3⟩ := xH Y G hp3
       refine xT ?_
       obtain ⟨e2, hr6, H⟩ := osplit H
       have F := Y
       refine xQp [98] ?_
       refine xp ⟨[4], []⟩ (tabG 3 (JdC 4 x7 x8 x9 x10 x11 x12 x13 x14 x15 x16 x17 e2 hr6)) ?_
       replace H := inrO_fin H hF1
       replace H := Option.some.inj H
       refine xS ?_
       subst H
       refine xpD [] ?_
       exact xOv ⟨[1], []⟩
      ·obtain ⟨F, G, hq3⟩ := xH Y G hp3
       refine xE ?_
       exact round_at (inl_fin H hF1) (xK ⟨[1,2,6,5], []⟩)
     ·obtain ⟨F, G, hq2⟩ := xH Y G hp2
      refine xE ?_
      obtain ⟨hg2, H⟩ := gsplit H
      have F := xZ Y (map_getD d_Macro a1 x5.toNat default default (by omega))
      obtain ⟨r5, hr7, H⟩ := osplit H
      have F := F
      obtain ⟨r6, hr8, H⟩ := osplit H
      have F := F
      refine xQ ?_
      refine xs 8 ?_
      refine xc ⟨[1, 2, 5], []⟩ (tabG 4 (Jc6 (a1.getD x5.toNat default) (⟨x7, x8, x9, x10, x11, x12, x13, x14, x15, x16, x17⟩ : Token) a1 a2 r3 a4 x19 x4 r5 hr7)) ?_
      refine xc ⟨[2, 9, 5], []⟩ (tabG 5 (Jc0 r5.1 r5.2 x4 r6 hr8)) ?_
      refine xl ?_
      refine xS ?_
      exact round_at (inl_fin H hF1) (xK ⟨[1,2,3,13], []⟩)
  ·have F := Y
   refine xQp [17, 18] ?_
   refine xs 1 ?_
   refine xp ⟨[1, 7], []⟩ (tabG 2 (JaZ a1 a2 x1 a4 r2.1 r2.2.1 r2.2.2.1 r2.2.2.2.1 r2.2.2.2.2.1 r2.2.2.2.2.2.1 r2.2.2.2.2.2.2.1 r2.2.2.2.2.2.2.2.1 r2.2.2.2.2.2.2.2.2.1 r2.2.2.2.2.2.2.2.2.2.1 r2.2.2.2.2.2.2.2.2.2.2.1 (.er e1) hr4)) ?_
   replace H := inrO_fin H hF1
   replace H := Option.some.inj H
   refine xS ?_
   subst H
   refine xpD [] ?_
   exact xOv ⟨[1], []⟩
 ·obtain ⟨F, G, hq1⟩ := xH Y G hp1
  replace H := inrO_fin H hF1
  refine xE ?_
  replace H := Option.some.inj H
  refine xr ?_
  subst H
  refine xOf 3 11 (List.map d_Token x3) [] ?_
  refine xrD [] ?_
  exact xO ⟨[1], []⟩
theorem Jbl : Callable Tryz.prog 104 ∧ (∀ g, KT g → GenOk Tryz.prog 104 g) ∧ (false = true → ∀ g, KT g → ∃ val bs ts, g.out = .ret val bs ts) :=
 ⟨call_104, Jc5, nofun⟩
noncomputable def JbH (a0 : Int) (a1 : Int) (a2 : Int) : Option Unit :=
 some ()
def di_expand_guard (a0 : Int) (a1 : Int) (a2 : Int) (r : Unit) : DI :=
 ⟨[.c (.pt 1 0)], [[.d (.v (.int .i64 a0)), .d (.v (.int .i64 a1)), .d (.v (.int .i64 a2))]], [], none, [[.d (.v (.int .i64 a0)), .d (.v (.int .i64 a1)), .d (.v (.int .i64 a2))]], [], none⟩
def SD_expand_guard : DI → Prop := fun d => ∃ (a0 : Int) (a1 : Int) (a2 : Int) (r : Unit), JbH a0 a1 a2 = some r ∧ d = di_expand_guard a0 a1 a2 r
theorem JeR (a0 : Int) (a1 : Int) (a2 : Int) (r : Unit) (H : JbH a0 a1 a2 = some r) : SD_expand_guard (di_expand_guard a0 a1 a2 r) := ⟨a0, a1, a2, r, H, rfl⟩
theorem Jes : ∀ d, SD_expand_guard d → DOk Tryz.prog 103 d := by
 rintro _ ⟨a0, a1, a2, r, H, rfl⟩
 refine xRcl mixed [] [] [] trivial trivial Tryz.func103 _ ?_
 have G := True.intro
 have Y := xZ y_20 <| xZ y_31 <| xZ y_170 <| xZ Tryz.results103 <| di_expand_guard.eq_1
 dsimp only [di_expand_guard, Option.getD_some, Option.getD_none]
 unfold JbH at H
 refine xS ?_
 refine xr ?_
 refine xt ?_
 replace H := Option.some.inj H
 refine xr ?_
 subst H
 exact xDn ⟨[1], []⟩
noncomputable def Jam (a0 : Int) (a1 : Int) (a2 : Int) (a3 : List Token) (a4 : Int) : Option ((List Token) × Int) :=
 if (!eqI a0 0) = true then some (([] : List Token), 0) else some (a3, a4)
def di_expand_All_1_v2 (a0 : Int) (a1 : Int) (a2 : Int) (a3 : List Token) (a4 : Int) (r : ((List Token) × Int)) (u : Option Value) : DI :=
 ⟨[.c (.pt 1 0), .c (.pt 2 0), .c (.pt 3 0)], [[.d (.v (.int .i64 a0)), .d (.v (.int .i64 a1)), .d (.v (.int .i64 a2))], [.d (.sl 11 (List.map d_Token a3))], [.d (.v (.int .i64 a4))]], [], u, [[.d (.v (.int .i64 a0)), .d (.v (.int .i64 a1)), .d (.v (.int .i64 a2))], [.d (.sl 11 (List.map d_Token r.1))], [.d (.v (.int .i64 r.2))]], [], u⟩
def SD_expand_All_1_v2 : DI → Prop := fun d => ∃ (a0 : Int) (a1 : Int) (a2 : Int) (a3 : List Token) (a4 : Int) (r : ((List Token) × Int)) (u : Option Value), Jam a0 a1 a2 a3 a4 = some r ∧ d = di_expand_All_1_v2 a0 a1 a2 a3 a4 r u
theorem JdZ (a0 : Int) (a1 : Int) (a2 : Int) (a3 : List Token) (a4 : Int) (r : ((List Token) × Int)) (u : Option Value) (H : Jam a0 a1 a2 a3 a4 = some r) : SD_expand_All_1_v2 (di_expand_All_1_v2 a0 a1 a2 a3 a4 r u) := ⟨a0, a1, a2, a3, a4, r, u, H, rfl⟩
theorem JdQ : ∀ d, SD_expand_All_1_v2 d → DOk Tryz.prog 102 d := by
 rintro _ ⟨a0, a1, a2, a3, a4, r, u, H, rfl⟩
 refine xDf mixed [] [] trivial trivial Tryz.func102 _ ?_
 have G := True.intro
 have Y := xZ y_3 <| xZ y_24 <| xZ y_29 <| xZ y_31 <| xZ Tryz.results102 <| xZ d_Call.eq_1 <| xZ d_Token.eq_1 <| di_expand_All_1_v2.eq_1
 dsimp only [di_expand_All_1_v2]
 simp only [Jam] at H
 refine xS ?_
 refine xr ?_
 rcases bsplit H with ⟨hp1, H⟩ | ⟨hp1, H⟩
 ·obtain ⟨F, G, hq1⟩ := xH Y G hp1
  refine xT ?_
  replace H := Option.some.inj H
  refine xr ?_
  subst H
  exact xDn ⟨[1, 2, 3], []⟩
 ·obtain ⟨F, G, hq1⟩ := xH Y G hp1
  replace H := Option.some.inj H
  refine xE ?_
  subst H
  exact xDn ⟨[1, 2, 3], []⟩
noncomputable def Jan (a0 : Int) (a1 : Int) (a2 : Int) (a3 : Int) (a4 : Int) (a5 : Int) : Option Unit :=
 some ()
def di_expand_guard_v2 (a0 : Int) (a1 : Int) (a2 : Int) (a3 : Int) (a4 : Int) (a5 : Int) (r : Unit) : DI :=
 ⟨[.c (.pt 1 0)], [[.d (.v (.int .i64 a0)), .d (.v (.int .i64 a1)), .d (.v (.int .i64 a2))]], [], (some (.iface 170 (.agg ⟨[.int .i64 a3, .int .i64 a4, .int .i64 a5]⟩))), [[.d (.v (.int .i64 a3)), .d (.v (.int .i64 a4)), .d (.v (.int .i64 a5))]], [], none⟩
def SD_expand_guard_v2 : DI → Prop := fun d => ∃ (a0 : Int) (a1 : Int) (a2 : Int) (a3 : Int) (a4 : Int) (a5 : Int) (r : Unit), Jan a0 a1 a2 a3 a4 a5 = some r ∧ d = di_expand_guard_v2 a0 a1 a2 a3 a4 a5 r
theorem Jd5 (a0 : Int) (a1 : Int) (a2 : Int) (a3 : Int) (a4 : Int) (a5 : Int) (r : Unit) (H : Jan a0 a1 a2 a3 a4 a5 = some r) : SD_expand_guard_v2 (di_expand_guard_v2 a0 a1 a2 a3 a4 a5 r) := ⟨a0, a1, a2, a3, a4, a5, r, H, rfl⟩
theorem JdK : ∀ d, SD_expand_guard_v2 d → DOk Tryz.prog 103 d := by
 rintro _ ⟨a0, a1, a2, a3, a4, a5, r, H, rfl⟩
 refine xRcl mixed [] [] [] trivial trivial Tryz.func103 _ ?_
 have G := True.intro
 have Y := xZ y_20 <| xZ y_31 <| xZ y_170 <| xZ Tryz.results103 <| di_expand_guard_v2.eq_1
 dsimp only [di_expand_guard_v2, Option.getD_some, Option.getD_none]
 unfold Jan at H
 refine xS ?_
 refine xr ?_
 refine xe ?_
 refine xr ?_
 refine xt ?_
 refine xr ?_
 replace H := Option.some.inj H
 refine xr ?_
 subst H
 exact xDn ⟨[1], []⟩
noncomputable def Jao (a0 : Int) (a1 : Int) (a2 : Int) (a3 : List Token) (a4 : Int) : Option ((List Token) × Int) :=
 if (!eqI a0 0) = true then some (([] : List Token), 0) else some (a3, a4)
def di_expand_All_1_v3 (a0 : Int) (a1 : Int) (a2 : Int) (a3 : List Token) (a4 : Int) (r : ((List Token) × Int)) (u : Option Value) : DI :=
 ⟨[.c (.pt 1 0), .c (.pt 2 0), .c (.pt 3 0)], [[.d (.v (.int .i64 a0)), .d (.v (.int .i64 a1)), .d (.v (.int .i64 a2))], [.sl 11 (List.map d_Token a3) 4], [.d (.v (.int .i64 a4))]], [44], u, [[.d (.v (.int .i64 a0)), .d (.v (.int .i64 a1)), .d (.v (.int .i64 a2))], [.sl 11 (List.map d_Token r.1) 4], [.d (.v (.int .i64 r.2))]], [44], u⟩
def SD_expand_All_1_v3 : DI → Prop := fun d => ∃ (a0 : Int) (a1 : Int) (a2 : Int) (a3 : List Token) (a4 : Int) (r : ((List Token) × Int)) (u : Option Value), Jao a0 a1 a2 a3 a4 = some r ∧ d = di_expand_All_1_v3 a0 a1 a2 a3 a4 r u
theorem JdR (a0 : Int) (a1 : Int) (a2 : Int) (a3 : List Token) (a4 : Int) (r : ((List Token) × Int)) (u : Option Value) (H : Jao a0 a1 a2 a3 a4 = some r) : SD_expand_All_1_v3 (di_expand_All_1_v3 a0 a1 a2 a3 a4 r u) := ⟨a0, a1, a2, a3, a4, r, u, H, rfl⟩
theorem JdH : ∀ d, SD_expand_All_1_v3 d → DOk Tryz.prog 102 d := by
 rintro _ ⟨a0, a1, a2, a3, a4, r, u, H, rfl⟩
 refine xDf mixed [] [] trivial trivial Tryz.func102 _ ?_
 have G := True.intro
 have Y := xZ y_3 <| xZ y_24 <| xZ y_29 <| xZ y_31 <| xZ Tryz.results102 <| xZ d_Call.eq_1 <| xZ d_Token.eq_1 <| di_expand_All_1_v3.eq_1
 dsimp only [di_expand_All_1_v3]
 simp only [Jao] at H
 refine xS ?_
 refine xr ?_
 rcases bsplit H with ⟨hp1, H⟩ | ⟨hp1, H⟩
 ·obtain ⟨F, G, hq1⟩ := xH Y G hp1
  refine xT ?_
  replace H := Option.some.inj H
  refine xr ?_
  subst H
  exact xDn ⟨[1, 2, 3], [0]⟩
 ·obtain ⟨F, G, hq1⟩ := xH Y G hp1
  replace H := Option.some.inj H
  refine xE ?_
  subst H
  exact xDn ⟨[1, 2, 3], [4]⟩
noncomputable def X7 (a0 : List Source) (a1 : List Macro) (a2 : List Token) (a3 : Int) (a4 : Int) : Bool → Option ((List Token) × Int × Int × Int × Int)
 | x1 => if x1 = true then some (([] : List Token), 0, 3, (-1), 0) else grB (XY a2 a1 a0 a3 a4) (fun r1 => (JbH 0 (-1) 0).bind fun r2 => (Jam 0 (-1) 0 r1.1 r1.2).bind fun r3 => some (r3.1, r3.2, 0, (-1), 0)) (fun e1 => (Jan 0 0 0 e1.1 e1.2.1 e1.2.2.1).bind fun r4 => (Jao e1.1 e1.2.1 e1.2.2.1 ([] : List Token) 0).bind fun r5 => some (r5.1, r5.2, e1.1, e1.2.1, e1.2.2.1))
noncomputable def Jct (a0 : List Source) (a1 : List Macro) (a2 : List Token) (a3 : Int) (a4 : Int) : Option ((List Token) × Int × Int × Int × Int) :=
 if (ltI a3 0) = true then X7 a0 a1 a2 a3 a4 true else if (ltI 4000 a3) = true then X7 a0 a1 a2 a3 a4 true else if (ltI a4 0) = true then X7 a0 a1 a2 a3 a4 true else X7 a0 a1 a2 a3 a4 (ltI 1500 a4)
def JbM (a0 : List Source) (a1 : List Macro) (a2 : List Token) (a3 : Int) (a4 : Int) (r : ((List Token) × Int × Int × Int × Int)) : GI :=
 ⟨[.c (.d (.sl 2 (List.map d_Source a0))), .c (.d (.sl 5 (List.map d_Macro a1))), .c (.d (.sl 11 (List.map d_Token a2))), .c (.d (.v (.int .i64 a3))), .c (.d (.v (.int .i64 a4)))], [], [], .ret (.tu [(false, [.d (.sl 11 (List.map d_Token r.1))]), (false, [.d (.v (.int .i64 r.2.1))]), (true, [.d (.v (.int .i64 r.2.2.1)), .d (.v (.int .i64 r.2.2.2.1)), .d (.v (.int .i64 r.2.2.2.2))])]) [] []⟩
def Jd9 : GI → Prop := fun g => ∃ (a0 : List Source) (a1 : List Macro) (a2 : List Token) (a3 : Int) (a4 : Int) (r : ((List Token) × Int × Int × Int × Int)), Jct a0 a1 a2 a3 a4 = some r ∧ g = JbM a0 a1 a2 a3 a4 r
theorem JfE (a0 : List Source) (a1 : List Macro) (a2 : List Token) (a3 : Int) (a4 : Int) (r : ((List Token) × Int × Int × Int × Int)) (H : Jct a0 a1 a2 a3 a4 = some r) : Jd9 (JbM a0 a1 a2 a3 a4 r) := ⟨a0, a1, a2, a3, a4, r, H, rfl⟩
theorem Jfs : ∀ g, Jd9 g → GenOk Tryz.prog 78 g := by
 rintro _ ⟨a0, a1, a2, a3, a4, r, H, rfl⟩
 refine xGnl mixed [7] [] [(104, false, KT)] [(103, SD_expand_guard), (102, SD_expand_All_1_v2), (103, SD_expand_guard_v2), (102, SD_expand_All_1_v3)] trivial ⟨Jbl, trivial⟩ ⟨⟨call_103, Jes⟩, ⟨call_102, JdQ⟩, ⟨call_103, JdK⟩, ⟨call_102, JdH⟩, trivial⟩ Tryz.func78 _ ?_
 have G := True.intro
 have Y := xZ y_3 <| xZ y_24 <| xZ y_28 <| xZ y_29 <| xZ y_31 <| xZ y_37 <| xZ y_155 <| xZ Tryz.results78 <| xZ d_Source.eq_1 <| xZ d_Call.eq_1 <| xZ d_Token.eq_1 <| xZ d_Macro.eq_1 <| xZ K4.eq_1 <| xZ di_expand_guard.eq_1 <| xZ di_expand_All_1_v2.eq_1 <| xZ di_expand_guard_v2.eq_1 <| xZ di_expand_All_1_v3.eq_1 <| JbM.eq_1
 dsimp only [JbM]
 simp only [Jct] at H
 refine xS ?_
 refine xr0 ?_
 refine then_normal ?_
 refine w_seq ?_
 refine w_cut (X7 a0 a1 a2 a3 a4) (fun s => [(0, .c (.d (.sl 2 (List.map d_Source a0)))), (1, .c (.d (.sl 5 (List.map d_Macro a1)))), (2, .c (.d (.sl 11 (List.map d_Token a2)))), (3, .c (.d (.v (.int .i64 a3)))), (4, .c (.d (.v (.int .i64 a4)))), (10, .c (.pt 1 0)), (11, .c (.pt 2 0)), (12, .c (.pt 3 0)), (27, .c (.d (.v (.bool s))))]) (fun s => [[.sl 11 [] 0], [.d (.v (.int .i64 0))], [.d (.v (.int .i64 0)), .d (.v (.int .i64 0)), .d (.v (.int .i64 0))]]) [] r ?_ ?_
 ·rcases bsplit H with ⟨hp2, H⟩ | ⟨hp2, H⟩
  ·obtain ⟨F, G, hq2⟩ := xH Y G hp2
   refine xR ?_
   exact cut_at H (xK ⟨[1,2,3], []⟩)
  ·obtain ⟨F, G, hq2⟩ := xH Y G hp2
   rcases bsplit H with ⟨hp3, H⟩ | ⟨hp3, H⟩
   ·obtain ⟨F, G, hq3⟩ := xH F G hp3
    refine xR ?_
    exact cut_at H (xK ⟨[1,2,3], []⟩)
   ·obtain ⟨F, G, hq3⟩ := xH F G hp3
    rcases bsplit H with ⟨hp4, H⟩ | ⟨hp4, H⟩
    ·obtain ⟨F, G, hq4⟩ := xH F G hp4
     refine xR ?_
     exact cut_at H (xK ⟨[1,2,3], []⟩)
    ·obtain ⟨F, G, hq4⟩ := xH F G hp4
     refine xR ?_
     exact cut_at H (xK ⟨[1,2,3], []⟩)
 ·rintro x1 H
  rw [X7] at H
  rcases bsplit H with ⟨hp1, H⟩ | ⟨hp1, H⟩
  ·obtain ⟨F, G, hq1⟩ := xH Y G hp1
   refine xT ?_
   replace H := Option.some.inj H
   refine xr ?_
   subst H
   refine xrD [] ?_
   exact xO ⟨[], []⟩
  ·obtain ⟨F, G, hq1⟩ := xH Y G hp1
   refine xE ?_
   have F := Y
   refine xQ ?_
   refine xs 1 ?_
   refine xw ?_
   refine xl ?_
   refine xS ?_
   have F := Y
   refine xQ ?_
   refine xw ?_
   refine xl ?_
   refine xS ?_
   refine xr ?_
   rcases rsplit H with ⟨r1, hr1, H⟩ | ⟨e1, hr2, H⟩
   ·have F := Y
    refine xQ ?_
    refine xs 2 ?_
    refine xc ⟨[4], []⟩ (tabG 0 (Jbk a2 a1 a0 a3 a4 (.ok r1) hr1)) ?_
    refine xs 1 ?_
    refine xl ?_
    refine xS ?_
    have F := Y
    refine xP [0, 1, 2, 3, 4, 5, 6, 7, 8] [43] ⟨Jbl, trivial⟩ ?_
    refine xsX 4 ?_
    refine xaX ?_
    refine xsX 1 ?_
    refine xbX ?_
    refine xbX ?_
    refine xbX ?_
    refine xlX ?_
    refine xS ?_
    refine xrD [(103, [.pt 3 0]), (102, [.pt 3 0, .pt 1 0, .pt 2 0])] ?_
    obtain ⟨r2, hr3, H⟩ := osplit H
    refine xD ⟨[3], []⟩ (tabD 0 (JeR 0 (-1) 0 r2 hr3)) ?_
    obtain ⟨r3, hr4, H⟩ := osplit H
    refine xD ⟨[3, 1, 2], []⟩ (tabD 1 (JdZ 0 (-1) 0 r1.1 r1.2 r3 none hr4)) ?_
    replace H := Option.some.inj H
    subst H
    exact xO ⟨[], []⟩
   ·have F := Y
    refine xQp [36, 37, 38] ?_
    refine xs 2 ?_
    refine xp ⟨[4], []⟩ (tabG 0 (Jbk a2 a1 a0 a3 a4 (.er e1) hr2)) ?_
    refine xS ?_
    refine xpD [(103, [.pt 3 0]), (102, [.pt 3 0, .pt 1 0, .pt 2 0])] ?_
    obtain ⟨r4, hr5, H⟩ := osplit H
    refine xD ⟨[3], []⟩ (tabD 2 (Jd5 0 0 0 e1.1 e1.2.1 e1.2.2.1 r4 hr5)) ?_
    obtain ⟨r5, hr6, H⟩ := osplit H
    refine xD ⟨[3, 1, 2], [0]⟩ (tabD 3 (JdR e1.1 e1.2.1 e1.2.2.1 ([] : List Token) 0 r5 none hr6)) ?_
    replace H := Option.some.inj H
    subst H
    exact xO ⟨[], []⟩
end Go.Proofs.YtfkhlbhjhdpkoaaGreatDoor
