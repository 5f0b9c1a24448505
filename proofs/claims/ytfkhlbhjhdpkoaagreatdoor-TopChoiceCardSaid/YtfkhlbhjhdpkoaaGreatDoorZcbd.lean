/- Functions of data for functions of the program. Written by dec3.py. -/
import Derived.Test.YtfkhlbhjhdpkoaaGreatDoorZcbc
set_option linter.unusedVariables false
set_option linter.unusedSimpArgs false
set_option maxHeartbeats 4000000
set_option maxRecDepth 100000
namespace Go.Proofs.YtfkhlbhjhdpkoaaGreatDoor
open Go.RowKit
noncomputable def Jao (a0 : List Token) : YJ → Option YA
 | (x1, x2) => if (leI 0 x1) = true then if (0 : Int) ≤ x1 ∧ x1.toNat < a0.length then if (x2.length + [(a0.getD x1.toNat default)].length) * 120 ≤ 140737488355328 then some (.inl (IntKind.i64.wrap (x1 - 1), x2 ++ [(a0.getD x1.toNat default)])) else none else none else inrO (some x2)
noncomputable def Jbk (a0 a1 : List Token) : Option (List Token) :=
 loopO (Jao a0) (IntKind.i64.wrap ((a0.length : Int) - 1), a1)
def X5 (a0 a1 : List Token) (r : (List Token)) : GI :=
 ⟨[.c (.pt 1 0), .c (.d (.sl 11 (List.map d_Token a0)))], [[.os 2 11 0 a1.length], [.arr 11 (List.map d_Token a1)]], [], .ret (.tu []) [[.os 3 11 0 r.length], [], [.arr 11 (List.map d_Token r)]] []⟩
def X8 : GI → Prop := Sg2 Jbk X5
theorem Jd0 : ∀ g, X8 g → GenOk Tryz.prog 121 g := by
 rintro _ ⟨a0, a1, r, H, rfl⟩
 refine xGn mixed [] [] [] trivial trivial trivial Tryz.func121 _ ?_
 have G := True.intro
 have Y := xZ y_24 <| xZ y_44 <| xZ y_171 <| xZ Tryz.results121 <| xZ d_Call.eq_1 <| xZ d_Token.eq_1 <| X5.eq_1
 dsimp only [X5]
 simp only [Jbk] at H
 refine xS ?_
 refine xrn 2 1 ?_
 refine xr ?_
 refine w_loop (Jao a0) (fun s => [(0, .c (.pt 1 0)), (1, .c (.d (.sl 11 (List.map d_Token a0)))), (4, cI s.1)]) (fun s => [[.os 3 11 0 s.2.length], [], [.arr 11 (List.map d_Token s.2)]]) [] H (xK ⟨[1,2,3], []⟩) ?_
 rintro n1 ⟨x1, x2⟩ o1 H hF1
 rw [Jao] at H
 refine xS ?_
 refine xr ?_
 rcases xB Y G H with ⟨p, H, F, G, q⟩ | ⟨p, H, F, G, q⟩
 ·refine xT ?_
  obtain ⟨g, H⟩ := gsplit H
  have F := xZ Y (map_getD d_Token a0 x1.toNat default default (by omega))
  obtain ⟨g, H⟩ := gsplit H
  have F := xZ F (all_map one_Token [(a0.getD x1.toNat default)])
  have L : [(a0.getD x1.toNat default)].length = 1 := rfl
  refine xR ?_
  refine xr ?_
  exact round_at (inl_fin H hF1) (xK ⟨[1,2,4], []⟩)
 replace H := inrO_fin H hF1
 replace H := oI H
 refine xE ?_
 subst H
 refine xnD [] ?_
 exact xO ⟨[1, 2, 3], []⟩
theorem Jel : Callable Tryz.prog 121 ∧ (∀ g, X8 g → GenOk Tryz.prog 121 g) ∧ (true = true → ∀ g, X8 g → ∃ val bs ts, g.out = .ret val bs ts) :=
 ⟨call_121, Jd0, fun _ => by rintro _ ⟨_, _, _, _, rfl⟩; exact ⟨_, _, _, rfl⟩⟩
noncomputable def JcA (a0 a1 : Int) (a2 : List UInt8) (a3 a4 : Bool) (a5 a6 a7 a8 : Int) (a9 : List (List UInt8)) (a10 : List Call) (a11 : Int) : Option Unit :=
 some ()
def Jaz (a0 a1 : Int) (a2 : List UInt8) (a3 a4 : Bool) (a5 a6 a7 a8 : Int) (a9 : List (List UInt8)) (a10 : List Call) (a11 : Int) (r : Unit) : GI :=
 ⟨[cI a0, .c (.pt 1 0)], [[kI a1, kS a2, kB a3, kB a4, kI a5, kI a6, kI a7, kI a8, .d (.sl 1 (List.map dS a9)), .d (.sl 3 (List.map d_Call a10)), kI a11]], [], .pan (.iface 170 (.agg ⟨[.int .i64 a0, .int .i64 a5, .int .i64 a6]⟩)) [[kI a1, kS a2, kB a3, kB a4, kI a5, kI a6, kI a7, kI a8, .d (.sl 1 (List.map dS a9)), .d (.sl 3 (List.map d_Call a10)), kI a11]] []⟩
def Jax : GI → Prop := Sg12 JcA Jaz
theorem JfM : ∀ g, Jax g → GenOk Tryz.prog 125 g := by
 rintro _ ⟨a0, a1, a2, a3, a4, a5, a6, a7, a8, a9, a10, a11, r, H, rfl⟩
 refine xGn mixed [] [] [] trivial trivial trivial Tryz.func125 _ ?_
 have G := True.intro
 have Y := xZ y_3 <| xZ y_29 <| xZ y_31 <| xZ y_44 <| xZ y_170 <| xZ Tryz.results125 <| xZ d_Call.eq_1 <| xZ d_Token.eq_1 <| Jaz.eq_1
 dsimp only [Jaz]
 unfold JcA at H
 have F := Y
 refine xQp [4, 5, 6, 7, 8, 9, 10, 11, 12, 13, 14, 15] ?_
 refine xs 12 ?_
 refine xv ?_
 refine xS ?_
 refine xpD [] ?_
 exact xOv ⟨[1], []⟩
theorem Jef : Callable Tryz.prog 125 ∧ (∀ g, Jax g → GenOk Tryz.prog 125 g) ∧ (false = true → ∀ g, Jax g → ∃ val bs ts, g.out = .ret val bs ts) :=
 ⟨call_125, JfM, nofun⟩
noncomputable def Z9 (a0 : List Macro) (a1 : List Source) (a2 a3 a4 : Int) (a5 : List UInt8) (a6 a7 : Bool) (a8 a9 a10 a11 : Int) (a12 : List (List UInt8)) (a13 : List Call) (a14 : Int) : Option (GR Unit Int) :=
 if (eqI a2 0) = true then (JcA 11 a4 a5 a6 a7 a8 a9 a10 a11 a12 a13 a14).bind fun e1 => some (.er ()) else some (.ok (IntKind.i64.wrap (a2 - 1)))
def JdC (a0 : List Macro) (a1 : List Source) (a2 a3 a4 : Int) (a5 : List UInt8) (a6 a7 : Bool) (a8 a9 a10 a11 : Int) (a12 : List (List UInt8)) (a13 : List Call) (a14 : Int) : GR Unit Int → GOut
 | .ok r => .ret (.tu []) [[.d (.sl 5 (List.map d_Macro a0)), .d (.sl 2 (List.map d_Source a1)), kI r, kI a3], [kI a4, kS a5, kB a6, kB a7, kI a8, kI a9, kI a10, kI a11, .d (.sl 1 (List.map dS a12)), .d (.sl 3 (List.map d_Call a13)), kI a14]] []
 | .er r => .pan (.iface 170 (.agg ⟨[.int .i64 11, .int .i64 a8, .int .i64 a9]⟩)) [[.d (.sl 5 (List.map d_Macro a0)), .d (.sl 2 (List.map d_Source a1)), kI a2, kI a3], [kI a4, kS a5, kB a6, kB a7, kI a8, kI a9, kI a10, kI a11, .d (.sl 1 (List.map dS a12)), .d (.sl 3 (List.map d_Call a13)), kI a14]] []
def VD (a0 : List Macro) (a1 : List Source) (a2 a3 a4 : Int) (a5 : List UInt8) (a6 a7 : Bool) (a8 a9 a10 a11 : Int) (a12 : List (List UInt8)) (a13 : List Call) (a14 : Int) (r : GR Unit Int) : GI :=
 ⟨[.c (.pt 1 0), .c (.pt 2 0)], [[.d (.sl 5 (List.map d_Macro a0)), .d (.sl 2 (List.map d_Source a1)), kI a2, kI a3], [kI a4, kS a5, kB a6, kB a7, kI a8, kI a9, kI a10, kI a11, .d (.sl 1 (List.map dS a12)), .d (.sl 3 (List.map d_Call a13)), kI a14]], [], JdC a0 a1 a2 a3 a4 a5 a6 a7 a8 a9 a10 a11 a12 a13 a14 r⟩
def VF : GI → Prop := Sg15 Z9 VD
theorem Jdk : ∀ g, VF g → GenOk Tryz.prog 123 g := by
 rintro _ ⟨a0, a1, a2, a3, a4, a5, a6, a7, a8, a9, a10, a11, a12, a13, a14, r, H, rfl⟩
 refine xGn mixed [] [(125, false, Jax)] [] trivial ⟨Jef, trivial⟩ trivial Tryz.func123 _ ?_
 have G := True.intro
 have Y := xZ y_3 <| xZ y_155 <| xZ Tryz.results123 <| xZ d_Source.eq_1 <| xZ d_Call.eq_1 <| xZ d_Token.eq_1 <| xZ d_Macro.eq_1 <| xZ Jaz.eq_1 <| VD.eq_1
 dsimp only [VD]
 simp only [Z9] at H
 refine xS ?_
 refine xr ?_
 rcases xB Y G H with ⟨p, H, F, G, q⟩ | ⟨p, H, F, G, q⟩
 ·refine xT ?_
  obtain ⟨e1, hr2, H⟩ := osplit H
  have F := Y
  refine xQp [9, 10] ?_
  refine xs 1 ?_
  refine xp ⟨[2], []⟩ (tabG 0 (cg12 hr2)) ?_
  replace H := oI H
  refine xS ?_
  subst H
  refine xpD [] ?_
  exact xOv ⟨[1, 2], []⟩
 refine xE ?_
 replace H := oI H
 refine xr ?_
 subst H
 refine xnD [] ?_
 exact xO ⟨[1, 2], []⟩
theorem JdH : Callable Tryz.prog 123 ∧ (∀ g, VF g → GenOk Tryz.prog 123 g) ∧ (false = true → ∀ g, VF g → ∃ val bs ts, g.out = .ret val bs ts) :=
 ⟨call_123, Jdk, nofun⟩
noncomputable def KM : (Int × (List UInt8) × (List UInt8)) → Option YB
 | (x1, x2, x3) => some (x1, x2, 3, true)
noncomputable def KT : ((List UInt8) × (List UInt8)) → Option YB
 | (x4, x5) => if 1 + x4.length ≤ 9223372036854775807 then if 1 + x4.length + 1 ≤ 9223372036854775807 then KM (4, ([34] ++ x4) ++ [34], x5) else none else none
noncomputable def KU (a0 : Token) (a2 : List Source) : ((List UInt8) × Bool × (List UInt8)) → Option YB
 | (x6, x7, x8) => if x7 = true then if (0 : Int) ≤ a0.File ∧ a0.File.toNat < a2.length then KT ((a2.getD a0.File.toNat default).Path, x8) else none else KT (x6, x8)
noncomputable def ZQ (a0 : Token) (a1 : List Macro) (a2 : List Source) (a3 a4 : Int) : Option YB :=
 if (eqS a0.Text [95, 95, 76, 73, 78, 69, 95, 95]) = true then (Kj a0.Line).bind fun r1 => KM (2, r1, []) else if (eqS a0.Text [95, 95, 70, 73, 76, 69, 95, 95]) = true then if (leI 0 a0.File) = true then KU a0 a2 ([], ltI a0.File (a2.length : Int), []) else KU a0 a2 ([], false, []) else some (a0.Kind, a0.Text, a0.Made, false)
def Vd (a0 : Token) (a1 : List Macro) (a2 : List Source) (a3 a4 : Int) (r : YB) : GI :=
 ⟨[.c (.pt 1 0), .ag [kI a0.Kind, kS a0.Text, kB a0.Space, kB a0.First, kI a0.File, kI a0.At, kI a0.End, kI a0.Line, .d (.sl 1 (List.map dS a0.Hide)), .d (.sl 3 (List.map d_Call a0.Calls)), kI a0.Made]], [[.d (.sl 5 (List.map d_Macro a1)), .d (.sl 2 (List.map d_Source a2)), kI a3, kI a4]], [], .ret (.tu [(true, [kI r.1, kS r.2.1, kB a0.Space, kB a0.First, kI a0.File, kI a0.At, kI a0.End, kI a0.Line, .d (.sl 1 (List.map dS a0.Hide)), .d (.sl 3 (List.map d_Call a0.Calls)), kI r.2.2.1]), (false, [kB r.2.2.2])]) [[.d (.sl 5 (List.map d_Macro a1)), .d (.sl 2 (List.map d_Source a2)), kI a3, kI a4]] []⟩
def K8 : GI → Prop := Sg5 ZQ Vd
theorem Jdf : ∀ g, K8 g → GenOk Tryz.prog 124 g := by
 rintro _ ⟨a0, a1, a2, a3, a4, r, H, rfl⟩
 refine xGn mixed [(13, V2)] [] [] ⟨⟨call_13, Jb1⟩, trivial⟩ trivial trivial Tryz.func124 _ ?_
 have G := True.intro
 have Y := xZ y_3 <| xZ y_9 <| xZ y_35 <| xZ y_37 <| xZ y_44 <| xZ y_155 <| xZ Tryz.results124 <| xZ d_Source.eq_1 <| xZ d_Call.eq_1 <| xZ d_Token.eq_1 <| xZ d_Macro.eq_1 <| Vd.eq_1
 dsimp only [Vd]
 simp only [ZQ] at H
 refine xS ?_
 refine xr0 ?_
 refine then_normal ?_
 refine w_cut KM (fun s => [(3, .c (.pt 2 0)), (4, .c (.pt 3 0))]) (fun s => [[.d (.sl 5 (List.map d_Macro a1)), .d (.sl 2 (List.map d_Source a2)), kI a3, kI a4], [kI s.1, kS s.2.1, kB a0.Space, kB a0.First, kI a0.File, kI a0.At, kI a0.End, kI a0.Line, .d (.sl 1 (List.map dS a0.Hide)), .d (.sl 3 (List.map d_Call a0.Calls)), kI a0.Made], [kI 0, kS s.2.2, kB false, kB false, kI 0, kI 0, kI 0, kI 0, .sl 1 [] 0, .sl 3 [] 0, kI 0]]) [] r ?_ ?_
 ·refine xS ?_
  refine xr ?_
  refine xr ?_
  rcases xB Y G H with ⟨p, H, F, G, q⟩ | ⟨p, H, F, G, q⟩
  ·refine xT ?_
   obtain ⟨r1, hr1, H⟩ := osplit H
   have F := xC Y (Ja5 a0.Line r1 hr1)
   refine xR ?_
   exact cut_at H (xK ⟨[1,2,3], []⟩)
  refine xE ?_
  refine xr ?_
  rcases xB Y G H with ⟨p, H, F, G, q⟩ | ⟨p, H, F, G, q⟩
  ·refine xT ?_
   refine xr0 ?_
   refine then_normal ?_
   refine w_cut KT (fun s => [(3, .c (.pt 2 0)), (4, .c (.pt 3 0)), (6, cS s.1)]) (fun s => [[.d (.sl 5 (List.map d_Macro a1)), .d (.sl 2 (List.map d_Source a2)), kI a3, kI a4], [kI a0.Kind, kS a0.Text, kB a0.Space, kB a0.First, kI a0.File, kI a0.At, kI a0.End, kI a0.Line, .d (.sl 1 (List.map dS a0.Hide)), .d (.sl 3 (List.map d_Call a0.Calls)), kI a0.Made], [kI 0, kS s.2, kB false, kB false, kI 0, kI 0, kI 0, kI 0, .sl 1 [] 0, .sl 3 [] 0, kI 0]]) [] r ?_ ?_
   ·refine w_cut (KU a0 a2) (fun s => [(0, .c (.pt 1 0)), (3, .c (.pt 2 0)), (4, .c (.pt 3 0)), (6, cS s.1), (31, cB s.2.1)]) (fun s => [[.d (.sl 5 (List.map d_Macro a1)), .d (.sl 2 (List.map d_Source a2)), kI a3, kI a4], [kI a0.Kind, kS a0.Text, kB a0.Space, kB a0.First, kI a0.File, kI a0.At, kI a0.End, kI a0.Line, .d (.sl 1 (List.map dS a0.Hide)), .d (.sl 3 (List.map d_Call a0.Calls)), kI a0.Made], [kI 0, kS s.2.2, kB false, kB false, kI 0, kI 0, kI 0, kI 0, .sl 1 [] 0, .sl 3 [] 0, kI 0]]) [] r ?_ ?_
    ·rcases xB Y G H with ⟨p, H, F, G, q⟩ | ⟨p, H, F, G, q⟩
     ·refine xR ?_
      exact cut_at H (xK ⟨[1,2,3], []⟩)
     refine xR ?_
     exact cut_at H (xK ⟨[1,2,3], []⟩)
    rintro ⟨x6, x7, x8⟩ H
    rw [KU] at H
    rcases xB Y G H with ⟨p, H, F, G, q⟩ | ⟨p, H, F, G, q⟩
    ·refine xT ?_
     obtain ⟨g, H⟩ := gsplit H
     have F := xZ Y (map_getD d_Source a2 a0.File.toNat default default (by omega))
     refine xR ?_
     exact cut_at H (xK ⟨[1,2,3], []⟩)
    refine xE ?_
    exact cut_at H (xK ⟨[1,2,3], []⟩)
   rintro ⟨x4, x5⟩ H
   rw [KT] at H
   obtain ⟨g, H⟩ := gsplit H
   obtain ⟨g, H⟩ := gsplit H
   refine xr ?_
   exact cut_at H (xK ⟨[1,2,3], []⟩)
  refine xE ?_
  replace H := oI H
  refine xr ?_
  subst H
  refine xrD [] ?_
  exact xO ⟨[1], []⟩
 rintro ⟨x1, x2, x3⟩ H
 rw [KM] at H
 refine xS ?_
 refine xr ?_
 replace H := oI H
 refine xr ?_
 subst H
 refine xrD [] ?_
 exact xO ⟨[1], []⟩
theorem Jdn : Callable Tryz.prog 124 ∧ (∀ g, K8 g → GenOk Tryz.prog 124 g) ∧ (true = true → ∀ g, K8 g → ∃ val bs ts, g.out = .ret val bs ts) :=
 ⟨call_124, Jdf, fun _ => by rintro _ ⟨_, _, _, _, _, _, _, rfl⟩; exact ⟨_, _, _, rfl⟩⟩
noncomputable def KJ (a0 : List (List UInt8)) (a1 : List UInt8) : (Int × Int) → Option YQ
 | (x1, x2) => if (ltI x2 x1) = true then if (0 : Int) ≤ x2 ∧ x2.toNat < a0.length then if (eqS a1 (a0.getD x2.toNat default)) = true then inrO (some x2) else some (.inl (x1, IntKind.i64.wrap (x2 + 1))) else none else inrO (some (-1))
noncomputable def Jp (a0 : List (List UInt8)) (a1 : List UInt8) : Option Int :=
 loopO (KJ a0 a1) ((a0.length : Int), 0)
noncomputable def Ju : PF := PF.of (E2 (dL 1 dS) dS) (fun a => Jp a.1 a.2) dI
theorem KI : PureOk Tryz.prog 129 Ju := by
 refine xF mixed [] [] trivial trivial Tryz.func129 ?_
 rintro ⟨a0, a1⟩ out H
 have G := True.intro
 have Y := xZ y_9 <| xZ y_41 <| Tryz.results129
 simp only [Jp] at H
 refine xS ?_
 refine xr ?_
 refine xr ?_
 refine w_loop (KJ a0 a1) (fun s => [(0, .c (.d (.sl 1 (List.map dS a0)))), (1, cS a1), (7, cI s.1), (8, cI s.2)]) (fun s => []) [] H (xK ⟨[], []⟩) ?_
 rintro n1 ⟨x1, x2⟩ o1 H hF1
 rw [KJ] at H
 refine xS ?_
 refine xr ?_
 rcases xB Y G H with ⟨p, H, F, G, q⟩ | ⟨p, H, F, G, q⟩
 ·refine xT ?_
  refine xr ?_
  obtain ⟨g, H⟩ := gsplit H
  have F := xZ Y (map_getD dS a0 x2.toNat default default (by omega))
  refine xR ?_
  rcases xB Y G H with ⟨p, H, F, G, q⟩ | ⟨p, H, F, G, q⟩
  ·refine xT ?_
   replace H := inrO_fin H hF1
   replace H := oI H
   refine xr ?_
   subst H
   exact xN
  refine xE ?_
  refine xr ?_
  exact round_at (inl_fin H hF1) (xK ⟨[], []⟩)
 replace H := inrO_fin H hF1
 refine xE ?_
 replace H := oI H
 refine xr ?_
 subst H
 exact xN
theorem KR (a0 : List (List UInt8)) (a1 : List UInt8) (r : Int) (H : Jp a0 a1 = some r) : PC Ju [(dL 1 dS) a0, dS a1] (dI r) := PF.c (a := (a0, a1)) H
noncomputable def JN (a0 : List (List UInt8)) (a1 : List UInt8) : Option Bool :=
 (Jp a0 a1).bind fun r1 => some (leI 0 r1)
noncomputable def Kc : PF := PF.of (E2 (dL 1 dS) dS) (fun a => JN a.1 a.2) dB
theorem Jbj : PureOk Tryz.prog 108 Kc := by
 refine xF mixed [(129, Ju)] [] ⟨⟨call_129, KI⟩, trivial⟩ trivial Tryz.func108 ?_
 rintro ⟨a0, a1⟩ out H
 have G := True.intro
 have Y := Tryz.results108
 simp only [JN] at H
 refine xS ?_
 refine xr ?_
 obtain ⟨r1, hr1, H⟩ := osplit H
 have F := xC Y (KR a0 a1 r1 hr1)
 replace H := oI H
 refine xR ?_
 subst H
 exact xN
theorem Jbm (a0 : List (List UInt8)) (a1 : List UInt8) (r : Bool) (H : JN a0 a1 = some r) : PC Kc [(dL 1 dS) a0, dS a1] (dB r) := PF.c (a := (a0, a1)) H
noncomputable def Jc2 (a0 : Macro) (a1 : List UInt8) : Option Bool :=
 some (eqS a0.Name a1)
def Ja6 (a0 : Macro) (a1 : List UInt8) (r : Bool) : GI :=
 ⟨[.ag [kS a0.Name, kB a0.Call, .d (.sl 1 (List.map dS a0.Params)), kB a0.More, .d (.sl 11 (List.map d_Token a0.Body))], .c (.pt 1 0)], [[kS a1]], [], .ret (cB r) [[kS a1]] []⟩
def Ja9 : GI → Prop := Sg2 Jc2 Ja6
theorem Jfe : ∀ g, Ja9 g → GenOk Tryz.prog 110 g := by
 rintro _ ⟨a0, a1, r, H, rfl⟩
 refine xGn mixed [] [] [] trivial trivial trivial Tryz.func110 _ ?_
 have G := True.intro
 have Y := xZ y_9 <| xZ y_63 <| xZ Tryz.results110 <| xZ d_Call.eq_1 <| xZ d_Token.eq_1 <| xZ d_Macro.eq_1 <| Ja6.eq_1
 dsimp only [Ja6]
 simp only [Jc2] at H
 refine xS ?_
 refine xr ?_
 replace H := oI H
 refine xr ?_
 subst H
 refine xrD [] ?_
 exact xO ⟨[1], []⟩
theorem JfQ : Callable Tryz.prog 110 ∧ (∀ g, Ja9 g → GenOk Tryz.prog 110 g) ∧ (true = true → ∀ g, Ja9 g → ∃ val bs ts, g.out = .ret val bs ts) :=
 ⟨call_110, Jfe, fun _ => by rintro _ ⟨_, _, _, _, rfl⟩; exact ⟨_, _, _, rfl⟩⟩
noncomputable def JF (a0 : List Macro) (a1 : List UInt8) : (Int × Int) → Option YQ
 | (x1, x2) => if (ltI x2 x1) = true then if (0 : Int) ≤ x2 ∧ x2.toNat < a0.length then (Jc2 (a0.getD x2.toNat default) a1).bind fun r1 => if r1 = true then inrO (some x2) else some (.inl (x1, IntKind.i64.wrap (x2 + 1))) else none else inrO (some (-1))
noncomputable def JP (a0 : List Macro) (a1 : List UInt8) : Option Int :=
 loopO (JF a0 a1) ((a0.length : Int), 0)
def Jm (a0 : List Macro) (a1 : List UInt8) (r : Int) : GI :=
 ⟨[.c (.d (.sl 5 (List.map d_Macro a0))), .c (.clo 110 [1])], [[kS a1]], [], .ret (cI r) [[kS a1]] []⟩
def Jn : GI → Prop := Sg2 JP Jm
theorem Z6 : ∀ g, Jn g → GenOk Tryz.prog 109 g := by
 rintro _ ⟨a0, a1, r, H, rfl⟩
 refine xGn mixed [] [(110, true, Ja9)] [] trivial ⟨JfQ, trivial⟩ trivial Tryz.func109 _ ?_
 have G := True.intro
 have Y := xZ y_28 <| xZ y_63 <| xZ Tryz.results109 <| xZ d_Call.eq_1 <| xZ d_Token.eq_1 <| xZ d_Macro.eq_1 <| xZ Ja6.eq_1 <| Jm.eq_1
 dsimp only [Jm]
 simp only [JP] at H
 refine xS ?_
 refine xr ?_
 refine xr ?_
 refine w_loop (JF a0 a1) (fun s => [(0, .c (.d (.sl 5 (List.map d_Macro a0)))), (1, .c (.clo 110 [1])), (7, cI s.1), (8, cI s.2)]) (fun s => [[kS a1]]) [] H (xK ⟨[1], []⟩) ?_
 rintro n1 ⟨x1, x2⟩ o1 H hF1
 rw [JF] at H
 refine xS ?_
 refine xr ?_
 rcases xB Y G H with ⟨p, H, F, G, q⟩ | ⟨p, H, F, G, q⟩
 ·refine xT ?_
  refine xr ?_
  obtain ⟨g, H⟩ := gsplit H
  have F := xZ Y (map_getD d_Macro a0 x2.toNat default default (by omega))
  obtain ⟨r1, hr1, H⟩ := osplit H
  have F := F
  refine xQ ?_
  refine xs 5 ?_
  refine xc ⟨[1], []⟩ (tabG 0 (cg2 hr1)) ?_
  refine xl ?_
  refine xS ?_
  rcases xB Y G H with ⟨p, H, F, G, q⟩ | ⟨p, H, F, G, q⟩
  ·refine xT ?_
   replace H := inrO_fin H hF1
   replace H := oI H
   refine xr ?_
   subst H
   refine xrD [] ?_
   exact xO ⟨[1], []⟩
  refine xE ?_
  refine xr ?_
  exact round_at (inl_fin H hF1) (xK ⟨[1], []⟩)
 replace H := inrO_fin H hF1
 refine xE ?_
 replace H := oI H
 refine xr ?_
 subst H
 refine xrD [] ?_
 exact xO ⟨[1], []⟩
theorem Jam : Callable Tryz.prog 109 ∧ (∀ g, Jn g → GenOk Tryz.prog 109 g) ∧ (true = true → ∀ g, Jn g → ∃ val bs ts, g.out = .ret val bs ts) :=
 ⟨call_109, Z6, fun _ => by rintro _ ⟨_, _, _, _, rfl⟩; exact ⟨_, _, _, rfl⟩⟩
noncomputable def Ja3 (a0 : List Macro) (a1 : List UInt8) : Option Int :=
 (JP a0 a1).bind fun r1 => some r1
noncomputable def Jay : PF := PF.of (E2 (dL 5 d_Macro) dS) (fun a => Ja3 a.1 a.2) dI
theorem JcJ : PureOk Tryz.prog 86 Jay := by
 refine xF mixed [] [(109, true, Jn)] trivial ⟨Jam, trivial⟩ Tryz.func86 ?_
 rintro ⟨a0, a1⟩ out H
 have G := True.intro
 have Y := xZ Tryz.results86 <| xZ d_Call.eq_1 <| xZ d_Token.eq_1 <| xZ d_Macro.eq_1 <| Jm.eq_1
 simp only [Ja3] at H
 refine xS ?_
 refine xr ?_
 obtain ⟨r1, hr1, H⟩ := osplit H
 have F := Y
 refine xQ ?_
 refine xs 2 ?_
 refine xc ⟨[1], []⟩ (tabG 0 (cg2 hr1)) ?_
 refine xs 1 ?_
 refine xl ?_
 replace H := oI H
 refine xS ?_
 subst H
 exact xN
theorem Jc1 (a0 : List Macro) (a1 : List UInt8) (r : Int) (H : Ja3 a0 a1 = some r) : PC Jay [(dL 5 d_Macro) a0, dS a1] (dI r) := PF.c (a := (a0, a1)) H
noncomputable def Jdi (a0 : Macro) (a1 : Int) (a2 : List UInt8) (a3 a4 : Bool) (a5 a6 a7 a8 : Int) (a9 : List (List UInt8)) (a10 : List Call) (a11 : Int) : Option Int :=
 if (!eqI a1 1) = true then some (-1) else (Jp a0.Params a2).bind fun r1 => some r1
def Jbg (a0 : Macro) (a1 : Int) (a2 : List UInt8) (a3 a4 : Bool) (a5 a6 a7 a8 : Int) (a9 : List (List UInt8)) (a10 : List Call) (a11 r : Int) : GI :=
 ⟨[.c (.pp (List.drop 0 (d_Macro a0).cells)), .c (.pt 1 0)], [[kI a1, kS a2, kB a3, kB a4, kI a5, kI a6, kI a7, kI a8, .d (.sl 1 (List.map dS a9)), .d (.sl 3 (List.map d_Call a10)), kI a11]], [], .ret (cI r) [[kI a1, kS a2, kB a3, kB a4, kI a5, kI a6, kI a7, kI a8, .d (.sl 1 (List.map dS a9)), .d (.sl 3 (List.map d_Call a10)), kI a11]] []⟩
def Ja7 : GI → Prop := Sg12 Jdi Jbg
theorem Jfy : ∀ g, Ja7 g → GenOk Tryz.prog 163 g := by
 rintro _ ⟨a0, a1, a2, a3, a4, a5, a6, a7, a8, a9, a10, a11, r, H, rfl⟩
 refine xGn mixed [(129, Ju)] [] [] ⟨⟨call_129, KI⟩, trivial⟩ trivial trivial Tryz.func163 _ ?_
 have G := True.intro
 have Y := xZ y_3 <| xZ y_9 <| xZ y_41 <| xZ y_44 <| xZ y_63 <| xZ Tryz.results163 <| xZ d_Call.eq_1 <| xZ d_Token.eq_1 <| xZ d_Macro.eq_1 <| Jbg.eq_1
 dsimp only [Jbg]
 simp only [Jdi] at H
 refine xS ?_
 refine xr ?_
 refine xr ?_
 rcases xB Y G H with ⟨p, H, F, G, q⟩ | ⟨p, H, F, G, q⟩
 ·refine xT ?_
  replace H := oI H
  refine xr ?_
  subst H
  refine xrD [] ?_
  exact xO ⟨[1], []⟩
 refine xE ?_
 obtain ⟨r1, hr1, H⟩ := osplit H
 have F := xC Y (KR a0.Params a2 r1 hr1)
 replace H := oI H
 refine xR ?_
 subst H
 refine xrD [] ?_
 exact xO ⟨[1], []⟩
theorem JfN : Callable Tryz.prog 163 ∧ (∀ g, Ja7 g → GenOk Tryz.prog 163 g) ∧ (true = true → ∀ g, Ja7 g → ∃ val bs ts, g.out = .ret val bs ts) :=
 ⟨call_163, Jfy, fun _ => by rintro _ ⟨_, _, _, _, _, _, _, _, _, _, _, _, _, _, rfl⟩; exact ⟨_, _, _, rfl⟩⟩
noncomputable def Jcb (a0 : Macro) (a1 : Token) : Option Int :=
 if (!eqI a1.Kind 1) = true then some (-1) else (Jp a0.Params a1.Text).bind fun r1 => some r1
def ZJ (a0 : Macro) (a1 : Token) (r : Int) : GI :=
 ⟨[.c (.pp (List.drop 0 (d_Macro a0).cells)), .c (.pp (List.drop 0 (d_Token a1).cells))], [], [], .ret (cI r) [] []⟩
def ZL : GI → Prop := Sg2 Jcb ZJ
theorem JeD : ∀ g, ZL g → GenOk Tryz.prog 163 g := by
 rintro _ ⟨a0, a1, r, H, rfl⟩
 refine xGn mixed [(129, Ju)] [] [] ⟨⟨call_129, KI⟩, trivial⟩ trivial trivial Tryz.func163 _ ?_
 have G := True.intro
 have Y := xZ y_3 <| xZ y_9 <| xZ y_41 <| xZ y_44 <| xZ y_63 <| xZ Tryz.results163 <| xZ d_Call.eq_1 <| xZ d_Token.eq_1 <| xZ d_Macro.eq_1 <| ZJ.eq_1
 dsimp only [ZJ]
 simp only [Jcb] at H
 refine xS ?_
 refine xr ?_
 refine xr ?_
 rcases xB Y G H with ⟨p, H, F, G, q⟩ | ⟨p, H, F, G, q⟩
 ·refine xT ?_
  replace H := oI H
  refine xr ?_
  subst H
  refine xrD [] ?_
  exact xO ⟨[], []⟩
 refine xE ?_
 obtain ⟨r1, hr1, H⟩ := osplit H
 have F := xC Y (KR a0.Params a1.Text r1 hr1)
 replace H := oI H
 refine xR ?_
 subst H
 refine xrD [] ?_
 exact xO ⟨[], []⟩
theorem JeW : Callable Tryz.prog 163 ∧ (∀ g, ZL g → GenOk Tryz.prog 163 g) ∧ (true = true → ∀ g, ZL g → ∃ val bs ts, g.out = .ret val bs ts) :=
 ⟨call_163, JeD, fun _ => by rintro _ ⟨_, _, _, _, rfl⟩; exact ⟨_, _, _, rfl⟩⟩
noncomputable def KL (x3 : Int) : (Bool × Int × (List Token)) → Option Yp
 | (x5, x6, x7) => some (.inl (x5, x6, IntKind.i64.wrap (x3 + 1), x7))
noncomputable def J2 (a0 : Macro) (a1 : List (List Token)) (x2 x3 : Int) (x4 : List Token) (x9 : Int) (x10 : List UInt8) (x11 x12 : Bool) (x13 x14 x15 x16 : Int) (x17 : List (List UInt8)) (x18 : List Call) (x19 r1 : Int) : (Bool × Bool) → Option Yp
 | (x22, x23) => if x23 = true then if (0 : Int) ≤ r1 ∧ r1.toNat < a1.length then none else none else if (leI 0 r1) = true then if (0 : Int) ≤ r1 ∧ r1.toNat < a1.length then none else none else if x22 = true then if (0 : Int) ≤ 0 ∧ 0 ≤ x2 ∧ x2 ≤ (x4.length : Int) then if (0 : Int) ≤ x2 ∧ x2 ≤ (x4.length : Int) ∧ (x4.length : Int) ≤ (x4.length : Int) then if (0 : Int) ≤ x3 ∧ x3.toNat < a0.Body.length then none else none else none else none else if (x4.length + [(⟨x9, x10, x11, x12, x13, x14, x15, x16, x17, x18, x19⟩ : Token)].length) * 120 ≤ 140737488355328 then KL x3 (false, ((x4.length : Nat) : Int), x4 ++ [(⟨x9, x10, x11, x12, x13, x14, x15, x16, x17, x18, x19⟩ : Token)]) else none
noncomputable def J0 (a0 : Macro) (a1 : List (List Token)) (x1 : Bool) (x2 x3 : Int) (x4 : List Token) (x8 : Bool) (x9 : Int) (x10 : List UInt8) (x11 x12 : Bool) (x13 x14 x15 x16 : Int) (x17 : List (List UInt8)) (x18 : List Call) (x19 r1 : Int) : Bool → Option Yp
 | x21 => if x21 = true then if (0 : Int) ≤ (IntKind.i64.wrap (x3 + 1)) ∧ (IntKind.i64.wrap (x3 + 1)).toNat < a0.Body.length then (Jcb a0 (a0.Body.getD ((IntKind.i64.wrap (x3 + 1)).toNat) default)).bind fun r2 => if (0 : Int) ≤ r2 ∧ r2.toNat < a1.length then none else none else none else if (leI 0 r1) = true then if x1 = true then J2 a0 a1 x2 x3 x4 x9 x10 x11 x12 x13 x14 x15 x16 x17 x18 x19 r1 (true, true) else J2 a0 a1 x2 x3 x4 x9 x10 x11 x12 x13 x14 x15 x16 x17 x18 x19 r1 (false, x8) else J2 a0 a1 x2 x3 x4 x9 x10 x11 x12 x13 x14 x15 x16 x17 x18 x19 r1 (x1, false)
noncomputable def KV (a0 : Macro) (a1 : List (List Token)) (x1 : Bool) (x2 x3 : Int) (x4 : List Token) (x8 : Bool) (x9 : Int) (x10 : List UInt8) (x11 x12 : Bool) (x13 x14 x15 x16 : Int) (x17 : List (List UInt8)) (x18 : List Call) (x19 r1 : Int) : Bool → Option Yp
 | x20 => if x20 = true then KL x3 (true, x2, x4) else if (eqS x10 [35]) = true then if (eqI x9 5) = true then J0 a0 a1 x1 x2 x3 x4 x8 x9 x10 x11 x12 x13 x14 x15 x16 x17 x18 x19 r1 a0.Call else J0 a0 a1 x1 x2 x3 x4 x8 x9 x10 x11 x12 x13 x14 x15 x16 x17 x18 x19 r1 false else J0 a0 a1 x1 x2 x3 x4 x8 x9 x10 x11 x12 x13 x14 x15 x16 x17 x18 x19 r1 false
noncomputable def J1 (a0 : Macro) (a1 : List (List Token)) (x1 : Bool) (x2 x3 : Int) (x4 : List Token) : Ye → Option Yp
 | (x8, x9, x10, x11, x12, x13, x14, x15, x16, x17, x18, x19) => (Jdi a0 x9 x10 x11 x12 x13 x14 x15 x16 x17 x18 x19).bind fun r1 => if (eqS x10 [35, 35]) = true then KV a0 a1 x1 x2 x3 x4 x8 x9 x10 x11 x12 x13 x14 x15 x16 x17 x18 x19 r1 (eqI x9 5) else KV a0 a1 x1 x2 x3 x4 x8 x9 x10 x11 x12 x13 x14 x15 x16 x17 x18 x19 r1 false
noncomputable def XZ (a0 : Macro) (a1 : List (List Token)) : (Bool × Int × Int × (List Token)) → Option Yp
 | (x1, x2, x3, x4) => if (ltI x3 (a0.Body.length : Int)) = true then if (0 : Int) ≤ x3 ∧ x3.toNat < a0.Body.length then if (ltI (IntKind.i64.wrap (x3 + 1)) (a0.Body.length : Int)) = true then if (0 : Int) ≤ (IntKind.i64.wrap (x3 + 1)) ∧ (IntKind.i64.wrap (x3 + 1)).toNat < a0.Body.length then if (eqS ((a0.Body.getD ((IntKind.i64.wrap (x3 + 1)).toNat) default).Text) [35, 35]) = true then if (0 : Int) ≤ (IntKind.i64.wrap (x3 + 1)) ∧ (IntKind.i64.wrap (x3 + 1)).toNat < a0.Body.length then J1 a0 a1 x1 x2 x3 x4 (eqI ((a0.Body.getD ((IntKind.i64.wrap (x3 + 1)).toNat) default).Kind) 5, (a0.Body.getD x3.toNat default).Kind, (a0.Body.getD x3.toNat default).Text, (a0.Body.getD x3.toNat default).Space, (a0.Body.getD x3.toNat default).First, (a0.Body.getD x3.toNat default).File, (a0.Body.getD x3.toNat default).At, (a0.Body.getD x3.toNat default).End, (a0.Body.getD x3.toNat default).Line, (a0.Body.getD x3.toNat default).Hide, (a0.Body.getD x3.toNat default).Calls, (a0.Body.getD x3.toNat default).Made) else none else J1 a0 a1 x1 x2 x3 x4 (false, (a0.Body.getD x3.toNat default).Kind, (a0.Body.getD x3.toNat default).Text, (a0.Body.getD x3.toNat default).Space, (a0.Body.getD x3.toNat default).First, (a0.Body.getD x3.toNat default).File, (a0.Body.getD x3.toNat default).At, (a0.Body.getD x3.toNat default).End, (a0.Body.getD x3.toNat default).Line, (a0.Body.getD x3.toNat default).Hide, (a0.Body.getD x3.toNat default).Calls, (a0.Body.getD x3.toNat default).Made) else none else J1 a0 a1 x1 x2 x3 x4 (false, (a0.Body.getD x3.toNat default).Kind, (a0.Body.getD x3.toNat default).Text, (a0.Body.getD x3.toNat default).Space, (a0.Body.getD x3.toNat default).First, (a0.Body.getD x3.toNat default).File, (a0.Body.getD x3.toNat default).At, (a0.Body.getD x3.toNat default).End, (a0.Body.getD x3.toNat default).Line, (a0.Body.getD x3.toNat default).Hide, (a0.Body.getD x3.toNat default).Calls, (a0.Body.getD x3.toNat default).Made) else none else inrO (some x4)
noncomputable def ZZ (a0 : Macro) (a1 : List (List Token)) (a2 : List Macro) (a3 : List Source) (a4 a5 : Int) : Option (List Token) :=
 loopO (XZ a0 a1) (false, 0, 0, ([] : List Token))
def K7 (a0 : Macro) (a1 : List (List Token)) (a2 : List Macro) (a3 : List Source) (a4 a5 : Int) (r : (List Token)) : GI :=
 ⟨[.c (.pt 1 0), .c (.pp (List.drop 0 (d_Macro a0).cells)), .c (.d (.sl 1 (List.map (dL 11 d_Token) a1)))], [[.d (.sl 5 (List.map d_Macro a2)), .d (.sl 2 (List.map d_Source a3)), kI a4, kI a5]], [], .ret (.c (.os 2 11 0 r.length)) [[.d (.sl 5 (List.map d_Macro a2)), .d (.sl 2 (List.map d_Source a3)), kI a4, kI a5], [.arr 11 (List.map d_Token r)]] []⟩
def K4 : GI → Prop := Sg6 ZZ K7
theorem Jc6 : ∀ g, K4 g → GenOk Tryz.prog 144 g := by
 rintro _ ⟨a0, a1, a2, a3, a4, a5, r, H, rfl⟩
 refine xGnl mixed [16, 19, 21, 23] [] [(163, true, Ja7), (163, true, ZL)] [] trivial ⟨JfN, JeW, trivial⟩ trivial Tryz.func144 _ ?_
 have G := True.intro
 have Y := xZ y_3 <| xZ y_4 <| xZ y_9 <| xZ y_24 <| xZ y_44 <| xZ y_63 <| xZ y_81 <| xZ Tryz.results144 <| xZ d_Source.eq_1 <| xZ d_Call.eq_1 <| xZ d_Token.eq_1 <| xZ d_Macro.eq_1 <| xZ Jbg.eq_1 <| xZ ZJ.eq_1 <| K7.eq_1
 dsimp only [K7]
 simp only [ZZ] at H
 refine xS ?_
 refine xr ?_
 refine xr ?_
 refine xr ?_
 refine xr ?_
 refine xr ?_
 refine w_loop (XZ a0 a1) (fun s => [(0, .c (.pt 1 0)), (1, .c (.pp (List.drop 0 (d_Macro a0).cells))), (2, .c (.d (.sl 1 (List.map (dL 11 d_Token) a1)))), (7, .c (.os 2 11 0 s.2.2.2.length)), (8, cB s.1), (9, cI s.2.1), (10, cI s.2.2.1)]) (fun s => [[.d (.sl 5 (List.map d_Macro a2)), .d (.sl 2 (List.map d_Source a3)), kI a4, kI a5], [.arr 11 (List.map d_Token s.2.2.2)]]) [] H (xK ⟨[1,0], []⟩) ?_
 rintro n1 ⟨x1, x2, x3, x4⟩ o1 H hF1
 rw [XZ] at H
 refine xS ?_
 refine xr ?_
 rcases xB Y G H with ⟨p, H, F, G, q⟩ | ⟨p, H, F, G, q⟩
 ·refine xT0 ?_
  refine w_skip ?_
  refine then_normal ?_
  refine w_cut (KL x3) (fun s => [(0, .c (.pt 1 0)), (1, .c (.pp (List.drop 0 (d_Macro a0).cells))), (2, .c (.d (.sl 1 (List.map (dL 11 d_Token) a1)))), (7, .c (.os 2 11 0 s.2.2.length)), (8, cB s.1), (9, cI s.2.1), (10, cI x3)]) (fun s => [[.d (.sl 5 (List.map d_Macro a2)), .d (.sl 2 (List.map d_Source a3)), kI a4, kI a5], [.arr 11 (List.map d_Token s.2.2)]]) [] o1 ?_ ?_
  ·refine xS ?_
   obtain ⟨g, H⟩ := gsplit H
   have F := xZ Y (map_getD d_Token a0.Body x3.toNat default default (by omega))
   refine xR0 ?_
   refine then_normal ?_
   refine w_cut (J1 a0 a1 x1 x2 x3 x4) (fun s => [(0, .c (.pt 1 0)), (1, .c (.pp (List.drop 0 (d_Macro a0).cells))), (2, .c (.d (.sl 1 (List.map (dL 11 d_Token) a1)))), (7, .c (.os 2 11 0 x4.length)), (8, cB x1), (9, cI x2), (10, cI x3), (11, .c (.pt 3 0)), (12, cB s.1)]) (fun s => [[.d (.sl 5 (List.map d_Macro a2)), .d (.sl 2 (List.map d_Source a3)), kI a4, kI a5], [.arr 11 (List.map d_Token x4)], [kI s.2.1, kS s.2.2.1, kB s.2.2.2.1, kB s.2.2.2.2.1, kI s.2.2.2.2.2.1, kI s.2.2.2.2.2.2.1, kI s.2.2.2.2.2.2.2.1, kI s.2.2.2.2.2.2.2.2.1, .d (.sl 1 (List.map dS s.2.2.2.2.2.2.2.2.2.1)), .d (.sl 3 (List.map d_Call s.2.2.2.2.2.2.2.2.2.2.1)), kI s.2.2.2.2.2.2.2.2.2.2.2]]) [] o1 ?_ ?_
   ·rcases xB Y G H with ⟨p, H, F, G, q⟩ | ⟨p, H, F, G, q⟩
    ·obtain ⟨g, H⟩ := gsplit H
     have F := xZ F (map_getD d_Token a0.Body ((IntKind.i64.wrap (x3 + 1)).toNat) default default (by omega))
     rcases xB F G H with ⟨p, H, F, G, q⟩ | ⟨p, H, F, G, q⟩
     ·obtain ⟨g, H⟩ := gsplit H
      have F := xZ F (map_getD d_Token a0.Body ((IntKind.i64.wrap (x3 + 1)).toNat) default default (by omega))
      refine xR ?_
      exact cut_at H (xK ⟨[1,2,3], []⟩)
     refine xR ?_
     exact cut_at H (xK ⟨[1,2,3], []⟩)
    refine xR ?_
    exact cut_at H (xK ⟨[1,2,3], []⟩)
   rintro ⟨x8, x9, x10, x11, x12, x13, x14, x15, x16, x17, x18, x19⟩ H
   rw [J1] at H
   refine xS ?_
   refine xr ?_
   obtain ⟨r1, hr1, H⟩ := osplit H
   have F := Y
   refine xQ ?_
   refine xs 1 ?_
   refine xc ⟨[3], []⟩ (tabG 0 (cg12 hr1)) ?_
   refine xs 1 ?_
   refine xl ?_
   refine  ?_
   refine then_normal ?_
   refine w_block ?_
   refine w_cut (KV a0 a1 x1 x2 x3 x4 x8 x9 x10 x11 x12 x13 x14 x15 x16 x17 x18 x19 r1) (fun s => [(0, .c (.pt 1 0)), (1, .c (.pp (List.drop 0 (d_Macro a0).cells))), (2, .c (.d (.sl 1 (List.map (dL 11 d_Token) a1)))), (7, .c (.os 2 11 0 x4.length)), (8, cB x1), (9, cI x2), (10, cI x3), (11, .c (.pt 3 0)), (12, cB x8), (14, cI r1), (67, cB s)]) (fun s => [[.d (.sl 5 (List.map d_Macro a2)), .d (.sl 2 (List.map d_Source a3)), kI a4, kI a5], [.arr 11 (List.map d_Token x4)], [kI x9, kS x10, kB x11, kB x12, kI x13, kI x14, kI x15, kI x16, .d (.sl 1 (List.map dS x17)), .d (.sl 3 (List.map d_Call x18)), kI x19]]) [] o1 ?_ ?_
   ·rcases xB Y G H with ⟨p, H, F, G, q⟩ | ⟨p, H, F, G, q⟩
    ·refine xR ?_
     exact cut_at H (xK ⟨[1,2,3], []⟩)
    refine xR ?_
    exact cut_at H (xK ⟨[1,2,3], []⟩)
   rintro x20 H
   rw [KV] at H
   rcases xB Y G H with ⟨p, H, F, G, q⟩ | ⟨p, H, F, G, q⟩
   ·refine xT ?_
    refine xr ?_
    exact cut_at H (xK ⟨[1,2], []⟩)
   refine xE0 ?_
   refine w_cut (J0 a0 a1 x1 x2 x3 x4 x8 x9 x10 x11 x12 x13 x14 x15 x16 x17 x18 x19 r1) (fun s => [(0, .c (.pt 1 0)), (1, .c (.pp (List.drop 0 (d_Macro a0).cells))), (2, .c (.d (.sl 1 (List.map (dL 11 d_Token) a1)))), (7, .c (.os 2 11 0 x4.length)), (8, cB x1), (9, cI x2), (10, cI x3), (11, .c (.pt 3 0)), (12, cB x8), (14, cI r1), (76, cB s)]) (fun s => [[.d (.sl 5 (List.map d_Macro a2)), .d (.sl 2 (List.map d_Source a3)), kI a4, kI a5], [.arr 11 (List.map d_Token x4)], [kI x9, kS x10, kB x11, kB x12, kI x13, kI x14, kI x15, kI x16, .d (.sl 1 (List.map dS x17)), .d (.sl 3 (List.map d_Call x18)), kI x19]]) [] o1 ?_ ?_
   ·rcases xB Y G H with ⟨p, H, F, G, q⟩ | ⟨p, H, F, G, q⟩
    ·rcases xB F G H with ⟨p, H, F, G, q⟩ | ⟨p, H, F, G, q⟩
     ·refine xR ?_
      exact cut_at H (xK ⟨[1,2,3], []⟩)
     refine xR ?_
     exact cut_at H (xK ⟨[1,2,3], []⟩)
    refine xR ?_
    exact cut_at H (xK ⟨[1,2,3], []⟩)
   rintro x21 H
   rw [J0] at H
   rcases xB Y G H with ⟨p, H, F, G, q⟩ | ⟨p, H, F, G, q⟩
   ·refine xT ?_
    refine xr ?_
    obtain ⟨g, H⟩ := gsplit H
    have F := xZ Y (map_getD d_Token a0.Body ((IntKind.i64.wrap (x3 + 1)).toNat) default default (by omega))
    obtain ⟨r2, hr2, H⟩ := osplit H
    have F := F
    obtain ⟨g, H⟩ := gsplit H
    have F := xZ F (map_getD (dL 11 d_Token) a1 r2.toNat default default (by omega))
    cases H
   refine xE0 ?_
   refine w_cut (J2 a0 a1 x2 x3 x4 x9 x10 x11 x12 x13 x14 x15 x16 x17 x18 x19 r1) (fun s => [(0, .c (.pt 1 0)), (1, .c (.pp (List.drop 0 (d_Macro a0).cells))), (2, .c (.d (.sl 1 (List.map (dL 11 d_Token) a1)))), (7, .c (.os 2 11 0 x4.length)), (8, cB s.1), (9, cI x2), (10, cI x3), (11, .c (.pt 3 0)), (14, cI r1), (139, cB s.2)]) (fun s => [[.d (.sl 5 (List.map d_Macro a2)), .d (.sl 2 (List.map d_Source a3)), kI a4, kI a5], [.arr 11 (List.map d_Token x4)], [kI x9, kS x10, kB x11, kB x12, kI x13, kI x14, kI x15, kI x16, .d (.sl 1 (List.map dS x17)), .d (.sl 3 (List.map d_Call x18)), kI x19]]) [] o1 ?_ ?_
   ·rcases xB Y G H with ⟨p, H, F, G, q⟩ | ⟨p, H, F, G, q⟩
    ·rcases xB F G H with ⟨p, H, F, G, q⟩ | ⟨p, H, F, G, q⟩
     ·refine xR ?_
      exact cut_at H (xK ⟨[1,2,3], []⟩)
     refine xR ?_
     exact cut_at H (xK ⟨[1,2,3], []⟩)
    refine xR ?_
    exact cut_at H (xK ⟨[1,2,3], []⟩)
   rintro ⟨x22, x23⟩ H
   rw [J2] at H
   rcases xB Y G H with ⟨p, H, F, G, q⟩ | ⟨p, H, F, G, q⟩
   ·refine xT ?_
    obtain ⟨g, H⟩ := gsplit H
    have F := xZ Y (map_getD (dL 11 d_Token) a1 r1.toNat default default (by omega))
    cases H
   refine xE ?_
   refine xr ?_
   rcases xB Y G H with ⟨p, H, F, G, q⟩ | ⟨p, H, F, G, q⟩
   ·refine xT ?_
    obtain ⟨g, H⟩ := gsplit H
    have F := xZ Y (map_getD (dL 11 d_Token) a1 r1.toNat default default (by omega))
    cases H
   refine xE ?_
   refine xr ?_
   refine xr ?_
   rcases xB Y G H with ⟨p, H, F, G, q⟩ | ⟨p, H, F, G, q⟩
   ·refine xT ?_
    refine xfz 2 11 (List.map d_Token x4) [] ?_
    obtain ⟨g, H⟩ := gsplit H
    obtain ⟨g, H⟩ := gsplit H
    obtain ⟨g, H⟩ := gsplit H
    have F := xZ Y (map_getD d_Token a0.Body x3.toNat default default (by omega))
    cases H
   refine xE ?_
   refine xr ?_
   obtain ⟨g, H⟩ := gsplit H
   have F := xZ Y (all_map one_Token [(⟨x9, x10, x11, x12, x13, x14, x15, x16, x17, x18, x19⟩ : Token)])
   have L : [(⟨x9, x10, x11, x12, x13, x14, x15, x16, x17, x18, x19⟩ : Token)].length = 1 := rfl
   refine xR ?_
   refine xr ?_
   exact cut_at H (xK ⟨[1,4], []⟩)
  rintro ⟨x5, x6, x7⟩ H
  rw [KL] at H
  refine xr ?_
  exact round_at (inl_fin H hF1) (xK ⟨[1,2], []⟩)
 replace H := inrO_fin H hF1
 refine xE ?_
 replace H := oI H
 refine xr ?_
 subst H
 refine xrD [] ?_
 exact xO ⟨[1, 2], []⟩
theorem Zc : Callable Tryz.prog 144 ∧ (∀ g, K4 g → GenOk Tryz.prog 144 g) ∧ (true = true → ∀ g, K4 g → ∃ val bs ts, g.out = .ret val bs ts) :=
 ⟨call_144, Jc6, fun _ => by rintro _ ⟨_, _, _, _, _, _, _, _, rfl⟩; exact ⟨_, _, _, rfl⟩⟩
noncomputable def Kn (a0 : List YP) : YC → Option (YC ⊕ YP)
 | (x4, x5, x6) => if (ltI x5 x4) = true then if (0 : Int) ≤ x5 ∧ x5.toNat < a0.length then if (x6.length + (a0.getD x5.toNat default).length) * 16 ≤ 140737488355328 then some (.inl (x4, IntKind.i64.wrap (x5 + 1), x6 ++ (a0.getD x5.toNat default))) else none else none else inrO (some x6)
noncomputable def Kr (a0 : List YP) : YT → Option (YT ⊕ YP)
 | (x1, x2, x3) => if (ltI x3 x2) = true then if (0 : Int) ≤ x3 ∧ x3.toNat < a0.length then if (ltI (IntKind.i64.wrap (x1 + ((a0.getD x3.toNat default).length : Int))) 0) = true then none else some (.inl (IntKind.i64.wrap (x1 + ((a0.getD x3.toNat default).length : Int)), x2, IntKind.i64.wrap (x3 + 1))) else none else inrO ((VV x1).bind fun r1 => loopO (Kn a0) ((a0.length : Int), 0, ([] : List (List UInt8))))
noncomputable def KZ (a0 : List YP) : Option YP :=
 loopO (Kr a0) (0, (a0.length : Int), 0)
def JM (a0 : List YP) (r : YP) : GI :=
 ⟨[.c (.d (.sl 1 (List.map (dL 1 dS) a0)))], [], [], .ret (.c (.os 1 1 0 r.length)) [[.arr 1 (List.map dS r)]] []⟩
def JO : GI → Prop := Sg1 KZ JM
theorem JbI : ∀ g, JO g → GenOk Tryz.prog 159 g := by
 rintro _ ⟨a0, r, H, rfl⟩
 refine xGn mixed [] [(174, true, JY)] [] trivial ⟨Jcd, trivial⟩ trivial Tryz.func159 _ ?_
 have G := True.intro
 have Y := xZ y_9 <| xZ y_41 <| xZ y_224 <| xZ Tryz.results159 <| xZ KY.eq_1 <| JM.eq_1
 dsimp only [JM]
 simp only [KZ] at H
 refine xS ?_
 refine xr ?_
 refine xr ?_
 refine xr ?_
 refine w_loop (Kr a0) (fun s => [(0, .c (.d (.sl 1 (List.map (dL 1 dS) a0)))), (3, cI s.1), (9, .c (.d (.sl 1 (List.map (dL 1 dS) a0)))), (10, cI s.2.1), (11, cI s.2.2)]) (fun s => []) [] H (xK ⟨[], []⟩) ?_
 rintro n1 ⟨x1, x2, x3⟩ o1 H hF1
 rw [Kr] at H
 refine xS ?_
 refine xr ?_
 rcases xB Y G H with ⟨p, H, F, G, q⟩ | ⟨p, H, F, G, q⟩
 ·refine xT ?_
  obtain ⟨g, H⟩ := gsplit H
  have F := xZ Y (map_getD (dL 1 dS) a0 x3.toNat default default (by omega))
  refine xR ?_
  refine xr ?_
  refine xr ?_
  rcases xB Y G H with ⟨p, H, F, G, q⟩ | ⟨p, H, F, G, q⟩
  ·refine xT ?_
   cases H
  refine xE ?_
  refine xr ?_
  exact round_at (inl_fin H hF1) (xK ⟨[], []⟩)
 replace H := inrO_fin H hF1
 refine xE ?_
 obtain ⟨r1, hr1, H⟩ := osplit H
 have F := Y
 refine xQ ?_
 refine xs 1 ?_
 refine xc ⟨[], []⟩ (tabG 0 (cg1 hr1)) ?_
 refine xs 1 ?_
 refine xl ?_
 refine xS ?_
 refine xr ?_
 refine w_loop (Kn a0) (fun s => [(6, .c (.os 1 1 0 s.2.2.length)), (25, .c (.d (.sl 1 (List.map (dL 1 dS) a0)))), (26, cI s.1), (27, cI s.2.1)]) (fun s => [[.arr 1 (List.map dS s.2.2)]]) [] H (xK ⟨[1], []⟩) ?_
 rintro n2 ⟨x4, x5, x6⟩ o2 H hF2
 rw [Kn] at H
 refine xS ?_
 refine xr ?_
 rcases xB Y G H with ⟨p, H, F, G, q⟩ | ⟨p, H, F, G, q⟩
 ·refine xT ?_
  obtain ⟨g, H⟩ := gsplit H
  have F := xZ Y (map_getD (dL 1 dS) a0 x5.toNat default default (by omega))
  refine xR ?_
  obtain ⟨g, H⟩ := gsplit H
  have F := xZ Y (all_map one_dS (a0.getD x5.toNat default))
  have A := all_map one_dS (a0.getD x5.toNat default)
  refine xR ?_
  refine xr ?_
  exact round_at (inl_fin H hF2) (xK ⟨[2], []⟩)
 replace H := inrO_fin H hF2
 refine xE ?_
 replace H := oI H
 refine xr ?_
 subst H
 refine xrD [] ?_
 exact xO ⟨[1], []⟩
theorem JbR : Callable Tryz.prog 159 ∧ (∀ g, JO g → GenOk Tryz.prog 159 g) ∧ (true = true → ∀ g, JO g → ∃ val bs ts, g.out = .ret val bs ts) :=
 ⟨call_159, JbI, fun _ => by rintro _ ⟨_, _, _, rfl⟩; exact ⟨_, _, _, rfl⟩⟩
noncomputable def J6 (a0 : List (List Call)) : ((List Call) × Int × Int) → Option (((List Call) × Int × Int) ⊕ (List Call))
 | (x4, x5, x6) => if (ltI x6 x5) = true then if (0 : Int) ≤ x6 ∧ x6.toNat < a0.length then if (x4.length + (a0.getD x6.toNat default).length) * 32 ≤ 140737488355328 then some (.inl (x4 ++ (a0.getD x6.toNat default), x5, IntKind.i64.wrap (x6 + 1))) else none else none else inrO (some x4)
noncomputable def J5 (a0 : List (List Call)) : YT → Option (YT ⊕ (List Call))
 | (x1, x2, x3) => if (ltI x3 x2) = true then if (0 : Int) ≤ x3 ∧ x3.toNat < a0.length then if (ltI (IntKind.i64.wrap (x1 + ((a0.getD x3.toNat default).length : Int))) 0) = true then none else some (.inl (IntKind.i64.wrap (x1 + ((a0.getD x3.toNat default).length : Int)), x2, IntKind.i64.wrap (x3 + 1))) else none else inrO ((KH x1).bind fun r1 => loopO (J6 a0) (([] : List Call), (a0.length : Int), 0))
noncomputable def Km (a0 : List (List Call)) : Option (List Call) :=
 loopO (J5 a0) (0, (a0.length : Int), 0)
def JA (a0 : List (List Call)) (r : (List Call)) : GI :=
 ⟨[.c (.d (.sl 1 (List.map (dL 3 d_Call) a0)))], [], [], .ret (.c (.sl 3 (List.map d_Call r) 1)) [] [198]⟩
def Jz : GI → Prop := Sg1 Km JA
theorem Ja0 : ∀ g, Jz g → GenOk Tryz.prog 162 g := by
 rintro _ ⟨a0, r, H, rfl⟩
 refine xGn mixed [] [(177, true, JE)] [] trivial ⟨Jbw, trivial⟩ trivial Tryz.func162 _ ?_
 have G := True.intro
 have Y := xZ y_9 <| xZ y_42 <| xZ y_198 <| xZ y_227 <| xZ Tryz.results162 <| xZ d_Call.eq_1 <| xZ Kl.eq_1 <| JA.eq_1
 dsimp only [JA]
 simp only [Km] at H
 refine xS ?_
 refine xr ?_
 refine xr ?_
 refine xr ?_
 refine w_loop (J5 a0) (fun s => [(0, .c (.d (.sl 1 (List.map (dL 3 d_Call) a0)))), (3, cI s.1), (9, .c (.d (.sl 1 (List.map (dL 3 d_Call) a0)))), (10, cI s.2.1), (11, cI s.2.2)]) (fun s => []) [] H (xK ⟨[], []⟩) ?_
 rintro n1 ⟨x1, x2, x3⟩ o1 H hF1
 rw [J5] at H
 refine xS ?_
 refine xr ?_
 rcases xB Y G H with ⟨p, H, F, G, q⟩ | ⟨p, H, F, G, q⟩
 ·refine xT ?_
  obtain ⟨g, H⟩ := gsplit H
  have F := xZ Y (map_getD (dL 3 d_Call) a0 x3.toNat default default (by omega))
  refine xR ?_
  refine xr ?_
  refine xr ?_
  rcases xB Y G H with ⟨p, H, F, G, q⟩ | ⟨p, H, F, G, q⟩
  ·refine xT ?_
   cases H
  refine xE ?_
  refine xr ?_
  exact round_at (inl_fin H hF1) (xK ⟨[], []⟩)
 replace H := inrO_fin H hF1
 refine xE ?_
 obtain ⟨r1, hr1, H⟩ := osplit H
 have F := Y
 refine xQ ?_
 refine xs 1 ?_
 refine xc ⟨[], []⟩ (tabG 0 (cg1 hr1)) ?_
 refine xs 1 ?_
 refine xl ?_
 refine xS ?_
 refine xr ?_
 refine w_loop (J6 a0) (fun s => [(6, .c (.sl 3 (List.map d_Call s.1) 1)), (25, .c (.d (.sl 1 (List.map (dL 3 d_Call) a0)))), (26, cI s.2.1), (27, cI s.2.2)]) (fun s => []) [198] H (xK ⟨[], [1]⟩) ?_
 rintro n2 ⟨x4, x5, x6⟩ o2 H hF2
 rw [J6] at H
 refine xS ?_
 refine xr ?_
 rcases xB Y G H with ⟨p, H, F, G, q⟩ | ⟨p, H, F, G, q⟩
 ·refine xT ?_
  obtain ⟨g, H⟩ := gsplit H
  have F := xZ Y (map_getD (dL 3 d_Call) a0 x6.toNat default default (by omega))
  refine xR ?_
  obtain ⟨g, H⟩ := gsplit H
  have F := xZ Y (all_map one_Call (a0.getD x6.toNat default))
  have A := all_map one_Call (a0.getD x6.toNat default)
  refine xR ?_
  refine xr ?_
  exact round_at (inl_fin H hF2) (xK ⟨[], [2]⟩)
 replace H := inrO_fin H hF2
 refine xE ?_
 replace H := oI H
 refine xr ?_
 subst H
 refine xrD [] ?_
 exact xO ⟨[], [1]⟩
theorem Jbc : Callable Tryz.prog 162 ∧ (∀ g, Jz g → GenOk Tryz.prog 162 g) ∧ (true = true → ∀ g, Jz g → ∃ val bs ts, g.out = .ret val bs ts) :=
 ⟨call_162, Ja0, fun _ => by rintro _ ⟨_, _, _, rfl⟩; exact ⟨_, _, _, rfl⟩⟩
noncomputable def Jcr (a0 : List (List UInt8)) (a1 : List Call) : (Int × Int × (List Token)) → Option ((Int × Int × (List Token)) ⊕ (List Token))
 | (x1, x2, x3) => if (ltI x2 x1) = true then if (0 : Int) ≤ x2 ∧ x2.toNat < x3.length then if x2.toNat < x3.length then (KZ [(x3.getD x2.toNat default).Hide, a0]).bind fun r1 => (VW r1).bind fun r2 => (KW (Jb6 r1)).bind fun r3 => if (0 : Int) ≤ x2 ∧ x2.toNat < x3.length then if x2.toNat < x3.length then if (0 : Int) ≤ x2 ∧ x2.toNat < x3.length then if x2.toNat < x3.length then (Km [a1, (x3.getD x2.toNat default).Calls]).bind fun r4 => if (0 : Int) ≤ x2 ∧ x2.toNat < x3.length then if x2.toNat < x3.length then some (.inl (x1, IntKind.i64.wrap (x2 + 1), List.set x3 x2.toNat (⟨(x3.getD x2.toNat default).Kind, (x3.getD x2.toNat default).Text, (x3.getD x2.toNat default).Space, (x3.getD x2.toNat default).First, (x3.getD x2.toNat default).File, (x3.getD x2.toNat default).At, (x3.getD x2.toNat default).End, (x3.getD x2.toNat default).Line, compactS (Jb6 r1), r4, (x3.getD x2.toNat default).Made⟩ : Token))) else none else none else none else none else none else none else none else none else inrO (some x3)
noncomputable def JdI (a0 : List (List UInt8)) (a1 : List Call) (a2 : List Token) : Option (List Token) :=
 loopO (Jcr a0 a1) (((a2.length : Nat) : Int), 0, a2)
def JbB (a0 : List (List UInt8)) (a1 : List Call) (a2 : List Token) (r : (List Token)) : GI :=
 ⟨[.c (.os 1 11 0 a2.length), .c (.d (.sl 1 (List.map dS a0))), .c (.d (.sl 3 (List.map d_Call a1)))], [[.arr 11 (List.map d_Token a2)]], [], .ret (.c (.os 1 11 0 r.length)) [[.arr 11 (List.map d_Token r)]] []⟩
def JbF : GI → Prop := Sg3 JdI JbB
theorem JfI : ∀ g, JbF g → GenOk Tryz.prog 143 g := by
 rintro _ ⟨a0, a1, a2, r, H, rfl⟩
 refine xGn mixed [] [(159, true, JO), (160, true, JZ), (161, true, JL), (162, true, Jz)] [] trivial ⟨JbR, Jce, JbM, Jbc, trivial⟩ trivial Tryz.func143 _ ?_
 have G := True.intro
 have Y := xZ y_24 <| xZ y_41 <| xZ y_42 <| xZ y_44 <| xZ y_224 <| xZ y_227 <| xZ Tryz.results143 <| xZ d_Call.eq_1 <| xZ d_Token.eq_1 <| xZ JM.eq_1 <| xZ KX.eq_1 <| xZ Ko.eq_1 <| xZ JA.eq_1 <| JbB.eq_1
 dsimp only [JbB]
 simp only [JdI] at H
 refine xS ?_
 refine xr ?_
 refine xr ?_
 refine w_loop (Jcr a0 a1) (fun s => [(0, .c (.os 1 11 0 s.2.2.length)), (1, .c (.d (.sl 1 (List.map dS a0)))), (2, .c (.d (.sl 3 (List.map d_Call a1)))), (10, cI s.1), (11, cI s.2.1)]) (fun s => [[.arr 11 (List.map d_Token s.2.2)]]) [] H (xK ⟨[1], []⟩) ?_
 rintro n1 ⟨x1, x2, x3⟩ o1 H hF1
 rw [Jcr] at H
 refine xS ?_
 refine xr ?_
 rcases xB Y G H with ⟨p, H, F, G, q⟩ | ⟨p, H, F, G, q⟩
 ·refine xT ?_
  refine xr ?_
  obtain ⟨g, H⟩ := gsplit H
  obtain ⟨g, H⟩ := gsplit H
  have F := xZ Y (map_getD d_Token x3 x2.toNat default default (by omega))
  obtain ⟨r1, hr1, H⟩ := osplit H
  have F := F
  refine xQ ?_
  refine xs 7 ?_
  refine xc ⟨[], []⟩ (tabG 0 (cg1 hr1)) ?_
  refine xs 1 ?_
  refine xl ?_
  refine xS ?_
  obtain ⟨r2, hr2, H⟩ := osplit H
  have F := Y
  refine xQ ?_
  refine xs 1 ?_
  refine xc ⟨[2], []⟩ (tabG 1 (cg1 hr2)) ?_
  refine xl ?_
  refine xS ?_
  obtain ⟨r3, hr3, H⟩ := osplit H
  have F := xZ Y JeO
  obtain ⟨g, H⟩ := gsplit H
  obtain ⟨g, H⟩ := gsplit H
  have F := xZ F (map_getD d_Token x3 x2.toNat default default (by omega))
  have F := xZ F (set_len d_Token x3 x2.toNat)
  have F := xZ F (set_get d_Token x3 (show x2.toNat < x3.length by omega))
  have F := xZ F (set_set d_Token x3 x2.toNat)
  refine xQ ?_
  refine xs 3 ?_
  refine xc ⟨[2], []⟩ (tabG 2 (cg1 hr3)) ?_
  refine xs 3 ?_
  refine xl ?_
  refine xS ?_
  obtain ⟨g, H⟩ := gsplit H
  obtain ⟨g, H⟩ := gsplit H
  have F := xZ Y (map_getD d_Token x3 x2.toNat default default (by omega))
  have F := xZ F (set_len d_Token x3 x2.toNat)
  have F := xZ F (set_get d_Token x3 (show x2.toNat < x3.length by omega))
  have F := xZ F (set_set d_Token x3 x2.toNat)
  obtain ⟨r4, hr4, H⟩ := osplit H
  have F := F
  obtain ⟨g, H⟩ := gsplit H
  obtain ⟨g, H⟩ := gsplit H
  have F := xZ F (map_getD d_Token x3 x2.toNat default default (by omega))
  have F := xZ F (set_len d_Token x3 x2.toNat)
  have F := xZ F (set_get d_Token x3 (show x2.toNat < x3.length by omega))
  have F := xZ F (set_set d_Token x3 x2.toNat)
  refine xQ ?_
  refine xs 9 ?_
  refine xc ⟨[], []⟩ (tabG 3 (cg1 hr4)) ?_
  refine xs 3 ?_
  refine xl ?_
  refine xS ?_
  refine xr ?_
  exact round_at (inl_fin H hF1) (xK ⟨[1], []⟩)
 replace H := inrO_fin H hF1
 refine xE ?_
 replace H := oI H
 refine xr ?_
 subst H
 refine xrD [] ?_
 exact xO ⟨[1], []⟩
theorem JcP : Callable Tryz.prog 143 ∧ (∀ g, JbF g → GenOk Tryz.prog 143 g) ∧ (true = true → ∀ g, JbF g → ∃ val bs ts, g.out = .ret val bs ts) :=
 ⟨call_143, JfI, fun _ => by rintro _ ⟨_, _, _, _, _, rfl⟩; exact ⟨_, _, _, rfl⟩⟩
noncomputable def Jad : (List Token) → Option (List Token)
 | x1 => some x1
noncomputable def JcK (a0 : Bool) (a1 : List Token) : Option (List Token) :=
 if (ltI 0 ((a1.length : Nat) : Int)) = true then if 0 < a1.length then if 0 < a1.length then Jad (List.set a1 0 (⟨(a1.getD 0 default).Kind, (a1.getD 0 default).Text, a0, (a1.getD 0 default).First, (a1.getD 0 default).File, (a1.getD 0 default).At, (a1.getD 0 default).End, (a1.getD 0 default).Line, (a1.getD 0 default).Hide, (a1.getD 0 default).Calls, (a1.getD 0 default).Made⟩ : Token)) else none else none else Jad a1
def JaM (a0 : Bool) (a1 : List Token) (r : (List Token)) : GI :=
 ⟨[.c (.os 1 11 0 a1.length), cB a0], [[.arr 11 (List.map d_Token a1)]], [], .ret (.c (.os 1 11 0 r.length)) [[.arr 11 (List.map d_Token r)]] []⟩
def JaK : GI → Prop := Sg2 JcK JaM
theorem Je6 : ∀ g, JaK g → GenOk Tryz.prog 146 g := by
 rintro _ ⟨a0, a1, r, H, rfl⟩
 refine xGn mixed [] [] [] trivial trivial trivial Tryz.func146 _ ?_
 have G := True.intro
 have Y := xZ y_4 <| xZ y_24 <| xZ y_44 <| xZ Tryz.results146 <| xZ d_Call.eq_1 <| xZ d_Token.eq_1 <| JaM.eq_1
 dsimp only [JaM]
 simp only [JcK] at H
 refine xS ?_
 refine xr0 ?_
 refine then_normal ?_
 refine w_cut Jad (fun s => [(0, .c (.os 1 11 0 s.length))]) (fun s => [[.arr 11 (List.map d_Token s)]]) [] r ?_ ?_
 ·refine xS ?_
  refine xr ?_
  rcases xB Y G H with ⟨p, H, F, G, q⟩ | ⟨p, H, F, G, q⟩
  ·refine xT ?_
   obtain ⟨g, H⟩ := gsplit H
   obtain ⟨g, H⟩ := gsplit H
   have F := xZ Y (map_getD d_Token a1 0 default default (by omega))
   have F := xZ F (set_len d_Token a1 0)
   have F := xZ F (set_get d_Token a1 (show 0 < a1.length by omega))
   have F := xZ F (set_set d_Token a1 0)
   refine xR ?_
   exact cut_at H (xK ⟨[1], []⟩)
  refine xE ?_
  exact cut_at H (xK ⟨[1], []⟩)
 rintro x1 H
 rw [Jad] at H
 refine xS ?_
 replace H := oI H
 refine xr ?_
 subst H
 refine xrD [] ?_
 exact xO ⟨[1], []⟩
theorem JbW : Callable Tryz.prog 146 ∧ (∀ g, JaK g → GenOk Tryz.prog 146 g) ∧ (true = true → ∀ g, JaK g → ∃ val bs ts, g.out = .ret val bs ts) :=
 ⟨call_146, Je6, fun _ => by rintro _ ⟨_, _, _, _, rfl⟩; exact ⟨_, _, _, rfl⟩⟩
noncomputable def Vb (a0 : Macro) (a1 : Token) (a2 : List Macro) (a3 : List Source) (a4 a5 : Int) : (YP × Nat × Int × Int) → Option YL
 | (x1, x2, x3, x4) => (ZZ a0 ([] : List (List Token)) a2 a3 a4 a5).bind fun r2 => (Kq a1.Calls).bind fun r3 => if (a1.Calls.length + [(⟨a0.Name, x3, x4⟩ : Call)].length) * 32 ≤ 140737488355328 then (JdI x1 (a1.Calls ++ [(⟨a0.Name, x3, x4⟩ : Call)]) r2).bind fun r4 => (JcK a1.Space r4).bind fun r5 => some (x2, r5) else none
noncomputable def Jal (a0 : Macro) (a1 : Token) (a2 : List Macro) (a3 : List Source) (a4 a5 : Int) (a6 : Nat) (a7 : List Token) : Option YL :=
 (Vp a1.Hide).bind fun r1 => if (a1.Hide.length + [a0.Name].length) * 16 ≤ 140737488355328 then if a0.Call = true then none else if (!eqI a1.Made 0) = true then Vb a0 a1 a2 a3 a4 a5 (a1.Hide ++ [a0.Name], a6, (-1), 0) else Vb a0 a1 a2 a3 a4 a5 (a1.Hide ++ [a0.Name], a6, a1.File, a1.At) else none
def Vs (a0 : Macro) (a1 : Token) (a2 : List Macro) (a3 : List Source) (a4 a5 : Int) (a6 : Nat) (a7 : List Token) (r : YL) : GI :=
 ⟨[.c (.pt 1 0), .c (.pp (List.drop 0 (d_Macro a0).cells)), .ag [kI a1.Kind, kS a1.Text, kB a1.Space, kB a1.First, kI a1.File, kI a1.At, kI a1.End, kI a1.Line, .d (.sl 1 (List.map dS a1.Hide)), .d (.sl 3 (List.map d_Call a1.Calls)), kI a1.Made], .c (.pt 2 0)], [[.d (.sl 5 (List.map d_Macro a2)), .d (.sl 2 (List.map d_Source a3)), kI a4, kI a5], [.os 3 11 0 a6], [.arr 11 (List.map d_Token a7)]], [], .ret (.c (.os 4 11 0 r.2.length)) [[.d (.sl 5 (List.map d_Macro a2)), .d (.sl 2 (List.map d_Source a3)), kI a4, kI a5], [.os 3 11 0 r.1], [.arr 11 (List.map d_Token a7)], [.arr 11 (List.map d_Token r.2)]] []⟩
def Vv : GI → Prop := Sg8 Jal Vs
theorem Jdj : ∀ g, Vv g → GenOk Tryz.prog 126 g := by
 rintro _ ⟨a0, a1, a2, a3, a4, a5, a6, a7, r, H, rfl⟩
 refine xGnl mixed [1, 27] [] [(138, true, JS), (144, true, K4), (145, true, JC), (143, true, JbF), (146, true, JaK)] [] trivial ⟨KP, Zc, Kb, JcP, JbW, trivial⟩ trivial Tryz.func126 _ ?_
 have G := True.intro
 have Y := xZ y_3 <| xZ y_4 <| xZ y_9 <| xZ y_24 <| xZ y_41 <| xZ y_42 <| xZ y_44 <| xZ y_63 <| xZ y_81 <| xZ y_171 <| xZ y_198 <| xZ Tryz.results126 <| xZ d_Source.eq_1 <| xZ d_Call.eq_1 <| xZ d_Token.eq_1 <| xZ d_Macro.eq_1 <| xZ Zq.eq_1 <| xZ K7.eq_1 <| xZ Xo.eq_1 <| xZ JbB.eq_1 <| xZ JaM.eq_1 <| Vs.eq_1
 dsimp only [Vs]
 simp only [Jal] at H
 refine xS ?_
 refine xr ?_
 obtain ⟨r1, hr1, H⟩ := osplit H
 have F := Y
 obtain ⟨g, H⟩ := gsplit H
 have F := xZ F (all_map one_dS [a0.Name])
 refine xP [0, 1, 3, 4, 5, 6, 7, 2, 8, 9] [27] ⟨KP, Zc, Kb, JcP, JbW, trivial⟩ ?_
 refine xsX 5 ?_
 refine xaX ?_
 refine xsX 1 ?_
 refine xcX ⟨[], []⟩ (tabG 0 (cg1 hr1)) ?_
 refine xbX ?_
 refine xsX 1 ?_
 refine xlX ?_
 refine xS ?_
 refine xr ?_
 refine xr ?_
 rcases xB Y G H with ⟨p, H, F, G, q⟩ | ⟨p, H, F, G, q⟩
 ·refine xT ?_
  cases H
 refine xE ?_
 refine xr0 ?_
 refine then_normal ?_
 refine w_cut (Vb a0 a1 a2 a3 a4 a5) (fun s => [(0, .c (.pt 1 0)), (1, .c (.pp (List.drop 0 (d_Macro a0).cells))), (6, .c (.pt 4 0)), (9, .c (.sl 1 (List.map dS s.1) 6)), (10, .c (.sl 1 [] 0)), (19, .c (.pt 5 0))]) (fun s => [[.d (.sl 5 (List.map d_Macro a2)), .d (.sl 2 (List.map d_Source a3)), kI a4, kI a5], [.os 3 11 0 s.2.1], [.arr 11 (List.map d_Token a7)], [kI a1.Kind, kS a1.Text, kB a1.Space, kB a1.First, kI a1.File, kI a1.At, kI a1.End, kI a1.Line, .d (.sl 1 (List.map dS a1.Hide)), .d (.sl 3 (List.map d_Call a1.Calls)), kI a1.Made], [kS a0.Name, kI s.2.2.1, kI s.2.2.2]]) [9] r ?_ ?_
 ·refine xS ?_
  refine xr ?_
  rcases xB Y G H with ⟨p, H, F, G, q⟩ | ⟨p, H, F, G, q⟩
  ·refine xT ?_
   refine xr ?_
   exact cut_at H (xK ⟨[1,2,3,4,7], [6]⟩)
  refine xE ?_
  exact cut_at H (xK ⟨[1,2,3,4,7], [6]⟩)
 rintro ⟨x1, x2, x3, x4⟩ H
 rw [Vb] at H
 refine xS ?_
 obtain ⟨r2, hr2, H⟩ := osplit H
 have F := Y
 obtain ⟨r3, hr3, H⟩ := osplit H
 have F := F
 obtain ⟨g, H⟩ := gsplit H
 have F := xZ F (all_map one_Call [(⟨a0.Name, x3, x4⟩ : Call)])
 obtain ⟨r4, hr4, H⟩ := osplit H
 have F := F
 refine xP [0, 1, 2, 4, 5, 6, 8, 9, 3, 7, 10, 11, 12] [109, 111] ⟨KP, Zc, Kb, JcP, JbW, trivial⟩ ?_
 refine xsX 5 ?_
 refine xaX ?_
 refine xaX ?_
 refine xsX 1 ?_
 refine xcX ⟨[1], []⟩ (tabG 1 (cg6 hr2)) ?_
 refine xcX ⟨[], []⟩ (tabG 2 (cg1 hr3)) ?_
 refine xsX 1 ?_
 refine xcX ⟨[8], []⟩ (tabG 3 (cg3 hr4)) ?_
 refine xsX 1 ?_
 refine xlX ?_
 refine xS ?_
 obtain ⟨r5, hr5, H⟩ := osplit H
 have F := Y
 refine xQ ?_
 refine xs 3 ?_
 refine xc ⟨[8], []⟩ (tabG 4 (cg2 hr5)) ?_
 refine xs 1 ?_
 refine xl ?_
 replace H := oI H
 refine xS ?_
 subst H
 refine xrD [] ?_
 exact xO ⟨[1, 2, 3, 8], []⟩
theorem Jdx : Callable Tryz.prog 126 ∧ (∀ g, Vv g → GenOk Tryz.prog 126 g) ∧ (true = true → ∀ g, Vv g → ∃ val bs ts, g.out = .ret val bs ts) :=
 ⟨call_126, Jdj, fun _ => by rintro _ ⟨_, _, _, _, _, _, _, _, _, _, rfl⟩; exact ⟨_, _, _, rfl⟩⟩
noncomputable def Zd (a1 : List Token) : (Int × Nat × (List Token)) → Option ((Int × Nat × (List Token)) ⊕ YL)
 | (x1, x2, x3) => if (leI 0 x1) = true then if (0 : Int) ≤ x1 ∧ x1.toNat < a1.length then if x1.toNat < a1.length then if x2 ≤ x3.length ∧ (x2 + [(a1.getD x1.toNat default)].length) * 120 ≤ 140737488355328 then some (.inl (IntKind.i64.wrap (x1 - 1), x2 + [(a1.getD x1.toNat default)].length, (List.take x2 x3) ++ [(a1.getD x1.toNat default)])) else none else none else none else inrO (some (x2, x3))
noncomputable def Jah (a0 : Nat) (a1 a2 : List Token) : Option YL :=
 loopO (Zd a1) (IntKind.i64.wrap (((a1.length : Nat) : Int) - 1), a0, a2)
def Vx (a0 : Nat) (a1 a2 : List Token) (r : YL) : GI :=
 ⟨[.c (.pt 1 0), .c (.os 2 11 0 a1.length)], [[.os 3 11 0 a0], [.arr 11 (List.map d_Token a1)], [.arr 11 (List.map d_Token a2)]], [], .ret (.tu []) [[.os 4 11 0 r.1], [], [], [.arr 11 (List.map d_Token r.2)]] []⟩
def Vz : GI → Prop := Sg3 Jah Vx
theorem Jdl : ∀ g, Vz g → GenOk Tryz.prog 121 g := by
 rintro _ ⟨a0, a1, a2, r, H, rfl⟩
 refine xGn mixed [] [] [] trivial trivial trivial Tryz.func121 _ ?_
 have G := True.intro
 have Y := xZ y_24 <| xZ y_44 <| xZ y_171 <| xZ Tryz.results121 <| xZ d_Call.eq_1 <| xZ d_Token.eq_1 <| Vx.eq_1
 dsimp only [Vx]
 simp only [Jah] at H
 refine xS ?_
 refine xrn 2 1 ?_
 refine xrn 3 1 ?_
 refine xr ?_
 refine w_loop (Zd a1) (fun s => [(0, .c (.pt 1 0)), (1, .c (.os 4 11 0 a1.length)), (4, cI s.1)]) (fun s => [[.os 5 11 0 s.2.1], [], [], [.arr 11 (List.map d_Token a1)], [.arr 11 (List.map d_Token s.2.2)]]) [] H (xK ⟨[1,2,3,4,5], []⟩) ?_
 rintro n1 ⟨x1, x2, x3⟩ o1 H hF1
 rw [Zd] at H
 refine xS ?_
 refine xr ?_
 rcases xB Y G H with ⟨p, H, F, G, q⟩ | ⟨p, H, F, G, q⟩
 ·refine xT ?_
  obtain ⟨g, H⟩ := gsplit H
  obtain ⟨g, H⟩ := gsplit H
  have F := xZ Y (map_getD d_Token a1 x1.toNat default default (by omega))
  obtain ⟨g, H⟩ := gsplit H
  have F := xZ F (all_map one_Token [(a1.getD x1.toNat default)])
  have T := take_len x3 x2 (by omega)
  have F := xZ F (Nat.min_eq_left (show x2 ≤ x3.length by omega))
  have G := xZ G (Nat.min_eq_left (show x2 ≤ x3.length by omega))
  have F := xZ F (take_app2 d_Token T)
  have G := xZ G (take_app2 d_Token T)
  have L : [(a1.getD x1.toNat default)].length = 1 := rfl
  refine xR ?_
  refine xr ?_
  exact round_at (inl_fin H hF1) (xK ⟨[1,2,3,4,6], []⟩)
 replace H := inrO_fin H hF1
 replace H := oI H
 refine xE ?_
 subst H
 refine xnD [] ?_
 exact xO ⟨[1, 2, 3, 5], []⟩
theorem Jdw : Callable Tryz.prog 121 ∧ (∀ g, Vz g → GenOk Tryz.prog 121 g) ∧ (true = true → ∀ g, Vz g → ∃ val bs ts, g.out = .ret val bs ts) :=
 ⟨call_121, Jdl, fun _ => by rintro _ ⟨_, _, _, _, _, rfl⟩; exact ⟨_, _, _, rfl⟩⟩
noncomputable def JaB (a0 : Nat) (a1 : List Token) : Option Yf :=
 if (0 : Int) ≤ (IntKind.i64.wrap (((a0 : Nat) : Int) - 1)) ∧ (IntKind.i64.wrap (((a0 : Nat) : Int) - 1)).toNat < a0 then if (IntKind.i64.wrap (((a0 : Nat) : Int) - 1)).toNat < a1.length then if (0 : Int) ≤ 0 ∧ 0 ≤ (IntKind.i64.wrap (((a0 : Nat) : Int) - 1)) ∧ (IntKind.i64.wrap (((a0 : Nat) : Int) - 1)) ≤ ((a0 : Nat) : Int) then some ((a1.getD ((IntKind.i64.wrap (((a0 : Nat) : Int) - 1)).toNat) default).Kind, (a1.getD ((IntKind.i64.wrap (((a0 : Nat) : Int) - 1)).toNat) default).Text, (a1.getD ((IntKind.i64.wrap (((a0 : Nat) : Int) - 1)).toNat) default).Space, (a1.getD ((IntKind.i64.wrap (((a0 : Nat) : Int) - 1)).toNat) default).First, (a1.getD ((IntKind.i64.wrap (((a0 : Nat) : Int) - 1)).toNat) default).File, (a1.getD ((IntKind.i64.wrap (((a0 : Nat) : Int) - 1)).toNat) default).At, (a1.getD ((IntKind.i64.wrap (((a0 : Nat) : Int) - 1)).toNat) default).End, (a1.getD ((IntKind.i64.wrap (((a0 : Nat) : Int) - 1)).toNat) default).Line, (a1.getD ((IntKind.i64.wrap (((a0 : Nat) : Int) - 1)).toNat) default).Hide, (a1.getD ((IntKind.i64.wrap (((a0 : Nat) : Int) - 1)).toNat) default).Calls, (a1.getD ((IntKind.i64.wrap (((a0 : Nat) : Int) - 1)).toNat) default).Made, (IntKind.i64.wrap (((a0 : Nat) : Int) - 1)).toNat) else none else none else none
def V5 (a0 : Nat) (a1 : List Token) (r : Yf) : GI :=
 ⟨[.c (.pt 1 0)], [[.os 2 11 0 a0], [.arr 11 (List.map d_Token a1)]], [], .ret (.ag [kI r.1, kS r.2.1, kB r.2.2.1, kB r.2.2.2.1, kI r.2.2.2.2.1, kI r.2.2.2.2.2.1, kI r.2.2.2.2.2.2.1, kI r.2.2.2.2.2.2.2.1, .d (.sl 1 (List.map dS r.2.2.2.2.2.2.2.2.1)), .d (.sl 3 (List.map d_Call r.2.2.2.2.2.2.2.2.2.1)), kI r.2.2.2.2.2.2.2.2.2.2.1]) [[.os 2 11 0 r.2.2.2.2.2.2.2.2.2.2.2], [.arr 11 (List.map d_Token a1)]] []⟩
def VX : GI → Prop := Sg2 JaB V5
theorem Jdy : ∀ g, VX g → GenOk Tryz.prog 122 g := by
 rintro _ ⟨a0, a1, r, H, rfl⟩
 refine xGn mixed [] [] [] trivial trivial trivial Tryz.func122 _ ?_
 have G := True.intro
 have Y := xZ y_44 <| xZ y_171 <| xZ Tryz.results122 <| xZ d_Call.eq_1 <| xZ d_Token.eq_1 <| V5.eq_1
 dsimp only [V5]
 simp only [JaB] at H
 refine xS ?_
 refine xr ?_
 obtain ⟨g, H⟩ := gsplit H
 obtain ⟨g, H⟩ := gsplit H
 have F := xZ Y (map_getD d_Token a1 ((IntKind.i64.wrap (((a0 : Nat) : Int) - 1)).toNat) default default (by omega))
 refine xR ?_
 obtain ⟨g, H⟩ := gsplit H
 refine xr ?_
 replace H := oI H
 refine xr ?_
 subst H
 refine xrD [] ?_
 exact xO ⟨[1, 2], []⟩
theorem JdM : Callable Tryz.prog 122 ∧ (∀ g, VX g → GenOk Tryz.prog 122 g) ∧ (true = true → ∀ g, VX g → ∃ val bs ts, g.out = .ret val bs ts) :=
 ⟨call_122, Jdy, fun _ => by rintro _ ⟨_, _, _, _, rfl⟩; exact ⟨_, _, _, rfl⟩⟩
noncomputable def Jy (a1 : List Macro) (a2 : List Source) (a4 : Int) (x3 x4 : List Token) (r3 x5 x7 : Int) (x8 : List UInt8) (x9 x10 : Bool) (x11 x12 x13 x14 : Int) (x15 : List (List UInt8)) (x16 : List Call) (x17 : Int) : (Bool × Nat) → Option Yg
 | (x18, x19) => if x18 = true then if (x3.length + [(⟨x7, x8, x9, x10, x11, x12, x13, x14, x15, x16, x17⟩ : Token)].length) * 120 ≤ 140737488355328 then if (ltI a4 ((x3.length + [(⟨x7, x8, x9, x10, x11, x12, x13, x14, x15, x16, x17⟩ : Token)].length : Nat) : Int)) = true then (JcA 4 x7 x8 x9 x10 x11 x12 x13 x14 x15 x16 x17).bind fun e2 => inrO (some (.er (4, x11, x12, r3))) else some (.inl (r3, x19, x3 ++ [(⟨x7, x8, x9, x10, x11, x12, x13, x14, x15, x16, x17⟩ : Token)], x4)) else none else if (0 : Int) ≤ x5 ∧ x5.toNat < a1.length then (Jal (a1.getD x5.toNat default) (⟨x7, x8, x9, x10, x11, x12, x13, x14, x15, x16, x17⟩ : Token) a1 a2 r3 a4 x19 x4).bind fun r5 => (Jah r5.1 r5.2 x4).bind fun r6 => some (.inl (r3, r6.1, x3, r6.2)) else none
noncomputable def Ki (a1 : List Macro) (a2 : List Source) (a4 : Int) (x3 x4 : List Token) (r3 : Int) : (Int × Nat × Int × (List UInt8) × Bool × Bool × Int × Int × Int × Int × YP × (List Call) × Int) → Option Yg
 | (x5, x6, x7, x8, x9, x10, x11, x12, x13, x14, x15, x16, x17) => if (ltI x5 0) = true then Jy a1 a2 a4 x3 x4 r3 x5 x7 x8 x9 x10 x11 x12 x13 x14 x15 x16 x17 (true, x6) else if (0 : Int) ≤ x5 ∧ x5.toNat < a1.length then if ((a1.getD x5.toNat default).Call) = true then if (eqI ((x6 : Nat) : Int) 0) = true then Jy a1 a2 a4 x3 x4 r3 x5 x7 x8 x9 x10 x11 x12 x13 x14 x15 x16 x17 (true, x6) else if (0 : Int) ≤ (IntKind.i64.wrap (((x6 : Nat) : Int) - 1)) ∧ (IntKind.i64.wrap (((x6 : Nat) : Int) - 1)).toNat < x6 then if (IntKind.i64.wrap (((x6 : Nat) : Int) - 1)).toNat < x4.length then if (!eqS ((x4.getD ((IntKind.i64.wrap (((x6 : Nat) : Int) - 1)).toNat) default).Text) [40]) = true then Jy a1 a2 a4 x3 x4 r3 x5 x7 x8 x9 x10 x11 x12 x13 x14 x15 x16 x17 (true, x6) else if (0 : Int) ≤ (IntKind.i64.wrap (((x6 : Nat) : Int) - 1)) ∧ (IntKind.i64.wrap (((x6 : Nat) : Int) - 1)).toNat < x6 then if (IntKind.i64.wrap (((x6 : Nat) : Int) - 1)).toNat < x4.length then Jy a1 a2 a4 x3 x4 r3 x5 x7 x8 x9 x10 x11 x12 x13 x14 x15 x16 x17 (!eqI ((x4.getD ((IntKind.i64.wrap (((x6 : Nat) : Int) - 1)).toNat) default).Kind) 5, x6) else none else none else none else none else Jy a1 a2 a4 x3 x4 r3 x5 x7 x8 x9 x10 x11 x12 x13 x14 x15 x16 x17 (false, x6) else none
noncomputable def VC (a1 : List Macro) (a2 : List Source) (a4 : Int) (x3 x4 : List Token) (r2 : Yf) (r3 : Int) : (Bool × Nat) → Option Yg
 | (x30, x31) => if x30 = true then (Ja3 a1 r2.2.1).bind fun r8 => Ki a1 a2 a4 x3 x4 r3 (r8, x31, r2.1, r2.2.1, r2.2.2.1, r2.2.2.2.1, r2.2.2.2.2.1, r2.2.2.2.2.2.1, r2.2.2.2.2.2.2.1, r2.2.2.2.2.2.2.2.1, r2.2.2.2.2.2.2.2.2.1, r2.2.2.2.2.2.2.2.2.2.1, r2.2.2.2.2.2.2.2.2.2.2.1) else Ki a1 a2 a4 x3 x4 r3 ((-1), x31, r2.1, r2.2.1, r2.2.2.1, r2.2.2.2.1, r2.2.2.2.2.1, r2.2.2.2.2.2.1, r2.2.2.2.2.2.2.1, r2.2.2.2.2.2.2.2.1, r2.2.2.2.2.2.2.2.2.1, r2.2.2.2.2.2.2.2.2.2.1, r2.2.2.2.2.2.2.2.2.2.2.1)
noncomputable def Vu (a1 : List Macro) (a2 : List Source) (a4 : Int) (x3 x4 : List Token) (r2 : Yf) (r3 : Int) (r7 : YB) : (Bool × Nat × Bool × Bool × Int × Int × Int × Int × YP × (List Call)) → Option Yg
 | (x20, x21, x22, x23, x24, x25, x26, x27, x28, x29) => if x20 = true then Ki a1 a2 a4 x3 x4 r3 ((-1), x21, r7.1, r7.2.1, x22, x23, x24, x25, x26, x27, x28, x29, r7.2.2.1) else if (eqI r2.1 1) = true then (JN r2.2.2.2.2.2.2.2.2.1 r2.2.1).bind fun r9 => VC a1 a2 a4 x3 x4 r2 r3 (!r9, x21) else VC a1 a2 a4 x3 x4 r2 r3 (false, x21)
noncomputable def ZF (a1 : List Macro) (a2 : List Source) (a4 : Int) : (Int × Nat × (List Token) × (List Token)) → Option Yg
 | (x1, x2, x3, x4) => if (ltI 0 ((x2 : Nat) : Int)) = true then (JaB x2 x4).bind fun r2 => grB (Z9 a1 a2 x1 a4 r2.1 r2.2.1 r2.2.2.1 r2.2.2.2.1 r2.2.2.2.2.1 r2.2.2.2.2.2.1 r2.2.2.2.2.2.2.1 r2.2.2.2.2.2.2.2.1 r2.2.2.2.2.2.2.2.2.1 r2.2.2.2.2.2.2.2.2.2.1 r2.2.2.2.2.2.2.2.2.2.2.1) (fun r3 => (ZQ (⟨r2.1, r2.2.1, r2.2.2.1, r2.2.2.2.1, r2.2.2.2.2.1, r2.2.2.2.2.2.1, r2.2.2.2.2.2.2.1, r2.2.2.2.2.2.2.2.1, r2.2.2.2.2.2.2.2.2.1, r2.2.2.2.2.2.2.2.2.2.1, r2.2.2.2.2.2.2.2.2.2.2.1⟩ : Token) a1 a2 r3 a4).bind fun r7 => if r7.2.2.2 = true then Vu a1 a2 a4 x3 x4 r2 r3 r7 (eqI r2.1 1, r2.2.2.2.2.2.2.2.2.2.2.2, (⟨r2.1, r2.2.1, r2.2.2.1, r2.2.2.2.1, r2.2.2.2.2.1, r2.2.2.2.2.2.1, r2.2.2.2.2.2.2.1, r2.2.2.2.2.2.2.2.1, r2.2.2.2.2.2.2.2.2.1, r2.2.2.2.2.2.2.2.2.2.1, r2.2.2.2.2.2.2.2.2.2.2.1⟩ : Token).Space, (⟨r2.1, r2.2.1, r2.2.2.1, r2.2.2.2.1, r2.2.2.2.2.1, r2.2.2.2.2.2.1, r2.2.2.2.2.2.2.1, r2.2.2.2.2.2.2.2.1, r2.2.2.2.2.2.2.2.2.1, r2.2.2.2.2.2.2.2.2.2.1, r2.2.2.2.2.2.2.2.2.2.2.1⟩ : Token).First, (⟨r2.1, r2.2.1, r2.2.2.1, r2.2.2.2.1, r2.2.2.2.2.1, r2.2.2.2.2.2.1, r2.2.2.2.2.2.2.1, r2.2.2.2.2.2.2.2.1, r2.2.2.2.2.2.2.2.2.1, r2.2.2.2.2.2.2.2.2.2.1, r2.2.2.2.2.2.2.2.2.2.2.1⟩ : Token).File, (⟨r2.1, r2.2.1, r2.2.2.1, r2.2.2.2.1, r2.2.2.2.2.1, r2.2.2.2.2.2.1, r2.2.2.2.2.2.2.1, r2.2.2.2.2.2.2.2.1, r2.2.2.2.2.2.2.2.2.1, r2.2.2.2.2.2.2.2.2.2.1, r2.2.2.2.2.2.2.2.2.2.2.1⟩ : Token).At, (⟨r2.1, r2.2.1, r2.2.2.1, r2.2.2.2.1, r2.2.2.2.2.1, r2.2.2.2.2.2.1, r2.2.2.2.2.2.2.1, r2.2.2.2.2.2.2.2.1, r2.2.2.2.2.2.2.2.2.1, r2.2.2.2.2.2.2.2.2.2.1, r2.2.2.2.2.2.2.2.2.2.2.1⟩ : Token).End, (⟨r2.1, r2.2.1, r2.2.2.1, r2.2.2.2.1, r2.2.2.2.2.1, r2.2.2.2.2.2.1, r2.2.2.2.2.2.2.1, r2.2.2.2.2.2.2.2.1, r2.2.2.2.2.2.2.2.2.1, r2.2.2.2.2.2.2.2.2.2.1, r2.2.2.2.2.2.2.2.2.2.2.1⟩ : Token).Line, (⟨r2.1, r2.2.1, r2.2.2.1, r2.2.2.2.1, r2.2.2.2.2.1, r2.2.2.2.2.2.1, r2.2.2.2.2.2.2.1, r2.2.2.2.2.2.2.2.1, r2.2.2.2.2.2.2.2.2.1, r2.2.2.2.2.2.2.2.2.2.1, r2.2.2.2.2.2.2.2.2.2.2.1⟩ : Token).Hide, (⟨r2.1, r2.2.1, r2.2.2.1, r2.2.2.2.1, r2.2.2.2.2.1, r2.2.2.2.2.2.1, r2.2.2.2.2.2.2.1, r2.2.2.2.2.2.2.2.1, r2.2.2.2.2.2.2.2.2.1, r2.2.2.2.2.2.2.2.2.2.1, r2.2.2.2.2.2.2.2.2.2.2.1⟩ : Token).Calls) else Vu a1 a2 a4 x3 x4 r2 r3 r7 (false, r2.2.2.2.2.2.2.2.2.2.2.2, (⟨r2.1, r2.2.1, r2.2.2.1, r2.2.2.2.1, r2.2.2.2.2.1, r2.2.2.2.2.2.1, r2.2.2.2.2.2.2.1, r2.2.2.2.2.2.2.2.1, r2.2.2.2.2.2.2.2.2.1, r2.2.2.2.2.2.2.2.2.2.1, r2.2.2.2.2.2.2.2.2.2.2.1⟩ : Token).Space, (⟨r2.1, r2.2.1, r2.2.2.1, r2.2.2.2.1, r2.2.2.2.2.1, r2.2.2.2.2.2.1, r2.2.2.2.2.2.2.1, r2.2.2.2.2.2.2.2.1, r2.2.2.2.2.2.2.2.2.1, r2.2.2.2.2.2.2.2.2.2.1, r2.2.2.2.2.2.2.2.2.2.2.1⟩ : Token).First, (⟨r2.1, r2.2.1, r2.2.2.1, r2.2.2.2.1, r2.2.2.2.2.1, r2.2.2.2.2.2.1, r2.2.2.2.2.2.2.1, r2.2.2.2.2.2.2.2.1, r2.2.2.2.2.2.2.2.2.1, r2.2.2.2.2.2.2.2.2.2.1, r2.2.2.2.2.2.2.2.2.2.2.1⟩ : Token).File, (⟨r2.1, r2.2.1, r2.2.2.1, r2.2.2.2.1, r2.2.2.2.2.1, r2.2.2.2.2.2.1, r2.2.2.2.2.2.2.1, r2.2.2.2.2.2.2.2.1, r2.2.2.2.2.2.2.2.2.1, r2.2.2.2.2.2.2.2.2.2.1, r2.2.2.2.2.2.2.2.2.2.2.1⟩ : Token).At, (⟨r2.1, r2.2.1, r2.2.2.1, r2.2.2.2.1, r2.2.2.2.2.1, r2.2.2.2.2.2.1, r2.2.2.2.2.2.2.1, r2.2.2.2.2.2.2.2.1, r2.2.2.2.2.2.2.2.2.1, r2.2.2.2.2.2.2.2.2.2.1, r2.2.2.2.2.2.2.2.2.2.2.1⟩ : Token).End, (⟨r2.1, r2.2.1, r2.2.2.1, r2.2.2.2.1, r2.2.2.2.2.1, r2.2.2.2.2.2.1, r2.2.2.2.2.2.2.1, r2.2.2.2.2.2.2.2.1, r2.2.2.2.2.2.2.2.2.1, r2.2.2.2.2.2.2.2.2.2.1, r2.2.2.2.2.2.2.2.2.2.2.1⟩ : Token).Line, (⟨r2.1, r2.2.1, r2.2.2.1, r2.2.2.2.1, r2.2.2.2.2.1, r2.2.2.2.2.2.1, r2.2.2.2.2.2.2.1, r2.2.2.2.2.2.2.2.1, r2.2.2.2.2.2.2.2.2.1, r2.2.2.2.2.2.2.2.2.2.1, r2.2.2.2.2.2.2.2.2.2.2.1⟩ : Token).Hide, (⟨r2.1, r2.2.1, r2.2.2.1, r2.2.2.2.1, r2.2.2.2.2.1, r2.2.2.2.2.2.1, r2.2.2.2.2.2.2.1, r2.2.2.2.2.2.2.2.1, r2.2.2.2.2.2.2.2.2.1, r2.2.2.2.2.2.2.2.2.2.1, r2.2.2.2.2.2.2.2.2.2.2.1⟩ : Token).Calls)) (fun e1 => inrO (some (.er (11, r2.2.2.2.2.1, r2.2.2.2.2.2.1, x1)))) else inrO (some (.ok (x3, x1)))
noncomputable def JaE (a0 : List Token) (a1 : List Macro) (a2 : List Source) (a3 a4 : Int) : Option (GR YH YM) :=
 (Jbk a0 []).bind fun r1 => loopO (ZF a1 a2 a4) (a3, r1.length, ([] : List Token), r1)
def JdU (a0 : List Token) (a1 : List Macro) (a2 : List Source) (a3 a4 : Int) : GR YH YM → GOut
 | .ok r => .ret (.c (.d (.sl 11 (List.map d_Token r.1)))) [[.d (.sl 5 (List.map d_Macro a1)), .d (.sl 2 (List.map d_Source a2)), kI r.2, kI a4]] []
 | .er r => .pan (.iface 170 (.agg ⟨[.int .i64 r.1, .int .i64 r.2.1, .int .i64 r.2.2.1]⟩)) [[.d (.sl 5 (List.map d_Macro a1)), .d (.sl 2 (List.map d_Source a2)), kI r.2.2.2, kI a4]] []
def Xe (a0 : List Token) (a1 : List Macro) (a2 : List Source) (a3 a4 : Int) (r : GR YH YM) : GI :=
 ⟨[.c (.pt 1 0), .c (.d (.sl 11 (List.map d_Token a0)))], [[.d (.sl 5 (List.map d_Macro a1)), .d (.sl 2 (List.map d_Source a2)), kI a3, kI a4]], [], JdU a0 a1 a2 a3 a4 r⟩
def VY : GI → Prop := Sg5 JaE Xe
theorem Jdr : ∀ g, VY g → GenOk Tryz.prog 104 g := by
 rintro _ ⟨a0, a1, a2, a3, a4, r, H, rfl⟩
 refine xGn mixed [(86, Jay), (108, Kc)] [(121, true, X8), (122, true, VX), (123, false, VF), (125, false, Jax), (126, true, Vv), (121, true, Vz), (124, true, K8)] [] ⟨⟨call_86, JcJ⟩, ⟨call_108, Jbj⟩, trivial⟩ ⟨Jel, JdM, JdH, Jef, Jdx, Jdw, Jdn, trivial⟩ trivial Tryz.func104 _ ?_
 have G := True.intro
 have Y := xZ y_3 <| xZ y_4 <| xZ y_9 <| xZ y_24 <| xZ y_28 <| xZ y_41 <| xZ y_44 <| xZ y_63 <| xZ y_155 <| xZ y_171 <| xZ Tryz.results104 <| xZ d_Source.eq_1 <| xZ d_Call.eq_1 <| xZ d_Token.eq_1 <| xZ d_Macro.eq_1 <| xZ X5.eq_1 <| xZ V5.eq_1 <| xZ VD.eq_1 <| xZ Jaz.eq_1 <| xZ Vs.eq_1 <| xZ Vx.eq_1 <| xZ Vd.eq_1 <| Xe.eq_1
 dsimp only [Xe]
 simp only [JaE] at H
 refine xS ?_
 refine xr ?_
 refine xr ?_
 obtain ⟨r1, hr1, H⟩ := osplit H
 have F := Y
 refine xQ ?_
 refine xs 1 ?_
 refine xc ⟨[2, 0], []⟩ (tabG 0 (cg2 hr1)) ?_
 refine xl ?_
 refine xS ?_
 refine xr ?_
 refine w_loop (ZF a1 a2 a4) (fun s => [(0, .c (.pt 1 0)), (5, .c (.pt 2 0)), (6, .c (.os 3 11 0 s.2.2.1.length))]) (fun s => [[.d (.sl 5 (List.map d_Macro a1)), .d (.sl 2 (List.map d_Source a2)), kI s.1, kI a4], [.os 4 11 0 s.2.1], [.arr 11 (List.map d_Token s.2.2.1)], [.arr 11 (List.map d_Token s.2.2.2)]]) [] H (xK ⟨[1,2,0,5], []⟩) ?_
 rintro n1 ⟨x1, x2, x3, x4⟩ o1 H hF1
 rw [ZF] at H
 refine xS ?_
 refine xr ?_
 rcases xB Y G H with ⟨p, H, F, G, q⟩ | ⟨p, H, F, G, q⟩
 ·refine xT ?_
  obtain ⟨r2, hr2, H⟩ := osplit H
  have F := Y
  refine xQ ?_
  refine xc ⟨[2, 4], []⟩ (tabG 1 (cg2 hr2)) ?_
  refine xs 2 ?_
  refine xl ?_
  refine xS ?_
  rcases rsplit H with ⟨r3, hr3, H⟩ | ⟨e1, hr4, H⟩
  ·have F := Y
   refine xQ ?_
   refine xs 1 ?_
   refine xc ⟨[1, 7], []⟩ (tabG 2 (cg15 hr3)) ?_
   refine xl ?_
   refine xS ?_
   refine xr0 ?_
   refine then_normal ?_
   refine w_cut (Ki a1 a2 a4 x3 x4 r3) (fun s => [(0, .c (.pt 1 0)), (5, .c (.pt 2 0)), (6, .c (.os 3 11 0 x3.length)), (7, .c (.pt 4 0)), (8, cI s.1)]) (fun s => [[.d (.sl 5 (List.map d_Macro a1)), .d (.sl 2 (List.map d_Source a2)), kI r3, kI a4], [.os 5 11 0 s.2.1], [.arr 11 (List.map d_Token x3)], [kI s.2.2.1, kS s.2.2.2.1, kB s.2.2.2.2.1, kB s.2.2.2.2.2.1, kI s.2.2.2.2.2.2.1, kI s.2.2.2.2.2.2.2.1, kI s.2.2.2.2.2.2.2.2.1, kI s.2.2.2.2.2.2.2.2.2.1, .d (.sl 1 (List.map dS s.2.2.2.2.2.2.2.2.2.2.1)), .d (.sl 3 (List.map d_Call s.2.2.2.2.2.2.2.2.2.2.2.1)), kI s.2.2.2.2.2.2.2.2.2.2.2.2], [.arr 11 (List.map d_Token x4)]]) [] o1 ?_ ?_
   ·refine xS ?_
    obtain ⟨r7, hr9, H⟩ := osplit H
    have F := Y
    refine xQ ?_
    refine xs 2 ?_
    refine xc ⟨[1], []⟩ (tabG 6 (cg5 hr9)) ?_
    refine xs 6 ?_
    refine xl ?_
    refine  ?_
    refine then_normal ?_
    refine w_cut (Vu a1 a2 a4 x3 x4 r2 r3 r7) (fun s => [(0, .c (.pt 1 0)), (5, .c (.pt 2 0)), (6, .c (.os 3 11 0 x3.length)), (7, .c (.pt 4 0)), (8, cI (-1)), (9, .c (.pt 5 0)), (30, cB s.1)]) (fun s => [[.d (.sl 5 (List.map d_Macro a1)), .d (.sl 2 (List.map d_Source a2)), kI r3, kI a4], [.os 6 11 0 s.2.1], [.arr 11 (List.map d_Token x3)], [kI r2.1, kS r2.2.1, kB r2.2.2.1, kB r2.2.2.2.1, kI r2.2.2.2.2.1, kI r2.2.2.2.2.2.1, kI r2.2.2.2.2.2.2.1, kI r2.2.2.2.2.2.2.2.1, .d (.sl 1 (List.map dS r2.2.2.2.2.2.2.2.2.1)), .d (.sl 3 (List.map d_Call r2.2.2.2.2.2.2.2.2.2.1)), kI r2.2.2.2.2.2.2.2.2.2.2.1], [kI r7.1, kS r7.2.1, kB s.2.2.1, kB s.2.2.2.1, kI s.2.2.2.2.1, kI s.2.2.2.2.2.1, kI s.2.2.2.2.2.2.1, kI s.2.2.2.2.2.2.2.1, .d (.sl 1 (List.map dS s.2.2.2.2.2.2.2.2.1)), .d (.sl 3 (List.map d_Call s.2.2.2.2.2.2.2.2.2)), kI r7.2.2.1], [.arr 11 (List.map d_Token x4)]]) [] o1 ?_ ?_
    ·rcases xB Y G H with ⟨p, H, F, G, q⟩ | ⟨p, H, F, G, q⟩
     ·refine xR ?_
      exact cut_at H (xK ⟨[1,2,3,7,11,4], []⟩)
     refine xR ?_
     exact cut_at H (xK ⟨[1,2,3,7,11,4], []⟩)
    rintro ⟨x20, x21, x22, x23, x24, x25, x26, x27, x28, x29⟩ H
    rw [Vu] at H
    rcases xB Y G H with ⟨p, H, F, G, q⟩ | ⟨p, H, F, G, q⟩
    ·refine xT ?_
     refine xr ?_
     exact cut_at H (xK ⟨[1,2,3,4,6], []⟩)
    refine xE0 ?_
    refine w_cut (VC a1 a2 a4 x3 x4 r2 r3) (fun s => [(0, .c (.pt 1 0)), (5, .c (.pt 2 0)), (6, .c (.os 3 11 0 x3.length)), (7, .c (.pt 4 0)), (8, cI (-1)), (42, cB s.1)]) (fun s => [[.d (.sl 5 (List.map d_Macro a1)), .d (.sl 2 (List.map d_Source a2)), kI r3, kI a4], [.os 5 11 0 s.2], [.arr 11 (List.map d_Token x3)], [kI r2.1, kS r2.2.1, kB r2.2.2.1, kB r2.2.2.2.1, kI r2.2.2.2.2.1, kI r2.2.2.2.2.2.1, kI r2.2.2.2.2.2.2.1, kI r2.2.2.2.2.2.2.2.1, .d (.sl 1 (List.map dS r2.2.2.2.2.2.2.2.2.1)), .d (.sl 3 (List.map d_Call r2.2.2.2.2.2.2.2.2.2.1)), kI r2.2.2.2.2.2.2.2.2.2.2.1], [.arr 11 (List.map d_Token x4)]]) [] o1 ?_ ?_
    ·rcases xB Y G H with ⟨p, H, F, G, q⟩ | ⟨p, H, F, G, q⟩
     ·obtain ⟨r9, hr11, H⟩ := osplit H
      have F := xCf F (Jbm r2.2.2.2.2.2.2.2.2.1 r2.2.1 r9 hr11)
      refine xR ?_
      exact cut_at H (xK ⟨[1,2,3,4,6], []⟩)
     refine xR ?_
     exact cut_at H (xK ⟨[1,2,3,4,6], []⟩)
    rintro ⟨x30, x31⟩ H
    rw [VC] at H
    rcases xB Y G H with ⟨p, H, F, G, q⟩ | ⟨p, H, F, G, q⟩
    ·refine xT ?_
     obtain ⟨r8, hr10, H⟩ := osplit H
     have F := xC Y (Jc1 a1 r2.2.1 r8 hr10)
     refine xR ?_
     exact cut_at H (xK ⟨[1,2,3,4,5], []⟩)
    refine xE ?_
    exact cut_at H (xK ⟨[1,2,3,4,5], []⟩)
   rintro ⟨x5, x6, x7, x8, x9, x10, x11, x12, x13, x14, x15, x16, x17⟩ H
   rw [Ki] at H
   refine w_seq ?_
   refine w_cut (Jy a1 a2 a4 x3 x4 r3 x5 x7 x8 x9 x10 x11 x12 x13 x14 x15 x16 x17) (fun s => [(0, .c (.pt 1 0)), (5, .c (.pt 2 0)), (6, .c (.os 3 11 0 x3.length)), (7, .c (.pt 4 0)), (8, cI x5), (86, cB s.1)]) (fun s => [[.d (.sl 5 (List.map d_Macro a1)), .d (.sl 2 (List.map d_Source a2)), kI r3, kI a4], [.os 5 11 0 s.2], [.arr 11 (List.map d_Token x3)], [kI x7, kS x8, kB x9, kB x10, kI x11, kI x12, kI x13, kI x14, .d (.sl 1 (List.map dS x15)), .d (.sl 3 (List.map d_Call x16)), kI x17], [.arr 11 (List.map d_Token x4)]]) [] o1 ?_ ?_
   ·rcases xB Y G H with ⟨p, H, F, G, q⟩ | ⟨p, H, F, G, q⟩
    ·refine xR ?_
     exact cut_at H (xK ⟨[1,2,3,4,5], []⟩)
    obtain ⟨g, H⟩ := gsplit H
    have F := xZ F (map_getD d_Macro a1 x5.toNat default default (by omega))
    rcases xB F G H with ⟨p, H, F, G, q⟩ | ⟨p, H, F, G, q⟩
    ·rcases xB F G H with ⟨p, H, F, G, q⟩ | ⟨p, H, F, G, q⟩
     ·refine xR ?_
      exact cut_at H (xK ⟨[1,2,3,4,5], []⟩)
     obtain ⟨g, H⟩ := gsplit H
     obtain ⟨g, H⟩ := gsplit H
     have F := xZ F (map_getD d_Token x4 ((IntKind.i64.wrap (((x6 : Nat) : Int) - 1)).toNat) default default (by omega))
     rcases xB F G H with ⟨p, H, F, G, q⟩ | ⟨p, H, F, G, q⟩
     ·refine xR ?_
      exact cut_at H (xK ⟨[1,2,3,4,5], []⟩)
     obtain ⟨g, H⟩ := gsplit H
     obtain ⟨g, H⟩ := gsplit H
     have F := xZ F (map_getD d_Token x4 ((IntKind.i64.wrap (((x6 : Nat) : Int) - 1)).toNat) default default (by omega))
     refine xR ?_
     exact cut_at H (xK ⟨[1,2,3,4,5], []⟩)
    refine xR ?_
    exact cut_at H (xK ⟨[1,2,3,4,5], []⟩)
   rintro ⟨x18, x19⟩ H
   rw [Jy] at H
   rcases xB Y G H with ⟨p, H, F, G, q⟩ | ⟨p, H, F, G, q⟩
   ·refine xT ?_
    obtain ⟨g, H⟩ := gsplit H
    have F := xZ Y (all_map one_Token [(⟨x7, x8, x9, x10, x11, x12, x13, x14, x15, x16, x17⟩ : Token)])
    have L : [(⟨x7, x8, x9, x10, x11, x12, x13, x14, x15, x16, x17⟩ : Token)].length = 1 := rfl
    refine xR ?_
    refine xr ?_
    rcases xB Y G H with ⟨p, H, F, G, q⟩ | ⟨p, H, F, G, q⟩
    ·refine xT ?_
     obtain ⟨e2, hr6, H⟩ := osplit H
     have F := Y
     refine xQp [98] ?_
     refine xp ⟨[4], []⟩ (tabG 3 (cg12 hr6)) ?_
     replace H := inrO_fin H hF1
     replace H := oI H
     refine xS ?_
     subst H
     refine xpD [] ?_
     exact xOv ⟨[1], []⟩
    refine xE ?_
    exact round_at (inl_fin H hF1) (xK ⟨[1,2,6,5], []⟩)
   refine xE ?_
   obtain ⟨g, H⟩ := gsplit H
   have F := xZ Y (map_getD d_Macro a1 x5.toNat default default (by omega))
   obtain ⟨r5, hr7, H⟩ := osplit H
   have F := F
   obtain ⟨r6, hr8, H⟩ := osplit H
   have F := F
   refine xQ ?_
   refine xs 8 ?_
   refine xc ⟨[1, 2, 5], []⟩ (tabG 4 (cg8 hr7)) ?_
   refine xc ⟨[2, 9, 5], []⟩ (tabG 5 (cg3 hr8)) ?_
   refine xl ?_
   refine xS ?_
   exact round_at (inl_fin H hF1) (xK ⟨[1,2,3,13], []⟩)
  have F := Y
  refine xQp [17, 18] ?_
  refine xs 1 ?_
  refine xp ⟨[1, 7], []⟩ (tabG 2 (cg15 hr4)) ?_
  replace H := inrO_fin H hF1
  replace H := oI H
  refine xS ?_
  subst H
  refine xpD [] ?_
  exact xOv ⟨[1], []⟩
 replace H := inrO_fin H hF1
 refine xE ?_
 replace H := oI H
 refine xr ?_
 subst H
 refine xOf 3 11 (List.map d_Token x3) [] ?_
 refine xrD [] ?_
 exact xO ⟨[1], []⟩
theorem JbQ : Callable Tryz.prog 104 ∧ (∀ g, VY g → GenOk Tryz.prog 104 g) ∧ (false = true → ∀ g, VY g → ∃ val bs ts, g.out = .ret val bs ts) :=
 ⟨call_104, Jdr, nofun⟩
noncomputable def Jb0 (a0 a1 a2 : Int) : Option Unit :=
 some ()
def di_expand_guard (a0 a1 a2 : Int) (r : Unit) : DI :=
 ⟨[.c (.pt 1 0)], [[kI a0, kI a1, kI a2]], [], none, [[kI a0, kI a1, kI a2]], [], none⟩
def SD_expand_guard : DI → Prop := fun d => ∃ (a0 a1 a2 : Int) (r : Unit), Jb0 a0 a1 a2 = some r ∧ d = di_expand_guard a0 a1 a2 r
theorem JfA (a0 a1 a2 : Int) (r : Unit) (H : Jb0 a0 a1 a2 = some r) : SD_expand_guard (di_expand_guard a0 a1 a2 r) := ⟨a0, a1, a2, r, H, rfl⟩
theorem Je9 : ∀ d, SD_expand_guard d → DOk Tryz.prog 103 d := by
 rintro _ ⟨a0, a1, a2, r, H, rfl⟩
 refine xRcl mixed [] [] [] trivial trivial Tryz.func103 _ ?_
 have G := True.intro
 have Y := xZ y_20 <| xZ y_31 <| xZ y_170 <| xZ Tryz.results103 <| di_expand_guard.eq_1
 dsimp only [di_expand_guard, Option.getD_some, Option.getD_none]
 unfold Jb0 at H
 refine xS ?_
 refine xr ?_
 refine xt ?_
 replace H := oI H
 refine xr ?_
 subst H
 exact xDn ⟨[1], []⟩
noncomputable def JaL (a0 a1 a2 : Int) (a3 : List Token) (a4 : Int) : Option YM :=
 if (!eqI a0 0) = true then some (([] : List Token), 0) else some (a3, a4)
def di_expand_All_1_v2 (a0 a1 a2 : Int) (a3 : List Token) (a4 : Int) (r : YM) (u : Option Value) : DI :=
 ⟨[.c (.pt 1 0), .c (.pt 2 0), .c (.pt 3 0)], [[kI a0, kI a1, kI a2], [.d (.sl 11 (List.map d_Token a3))], [kI a4]], [], u, [[kI a0, kI a1, kI a2], [.d (.sl 11 (List.map d_Token r.1))], [kI r.2]], [], u⟩
def SD_expand_All_1_v2 : DI → Prop := fun d => ∃ (a0 a1 a2 : Int) (a3 : List Token) (a4 : Int) (r : YM) (u : Option Value), JaL a0 a1 a2 a3 a4 = some r ∧ d = di_expand_All_1_v2 a0 a1 a2 a3 a4 r u
theorem JeE (a0 a1 a2 : Int) (a3 : List Token) (a4 : Int) (r : YM) (u : Option Value) (H : JaL a0 a1 a2 a3 a4 = some r) : SD_expand_All_1_v2 (di_expand_All_1_v2 a0 a1 a2 a3 a4 r u) := ⟨a0, a1, a2, a3, a4, r, u, H, rfl⟩
theorem Jep : ∀ d, SD_expand_All_1_v2 d → DOk Tryz.prog 102 d := by
 rintro _ ⟨a0, a1, a2, a3, a4, r, u, H, rfl⟩
 refine xDf mixed [] [] trivial trivial Tryz.func102 _ ?_
 have G := True.intro
 have Y := xZ y_3 <| xZ y_24 <| xZ y_29 <| xZ y_31 <| xZ Tryz.results102 <| xZ d_Call.eq_1 <| xZ d_Token.eq_1 <| di_expand_All_1_v2.eq_1
 dsimp only [di_expand_All_1_v2]
 simp only [JaL] at H
 refine xS ?_
 refine xr ?_
 rcases xB Y G H with ⟨p, H, F, G, q⟩ | ⟨p, H, F, G, q⟩
 ·refine xT ?_
  replace H := oI H
  refine xr ?_
  subst H
  exact xDn ⟨[1, 2, 3], []⟩
 replace H := oI H
 refine xE ?_
 subst H
 exact xDn ⟨[1, 2, 3], []⟩
noncomputable def JaH (a0 a1 a2 a3 a4 a5 : Int) : Option Unit :=
 some ()
def di_expand_guard_v2 (a0 a1 a2 a3 a4 a5 : Int) (r : Unit) : DI :=
 ⟨[.c (.pt 1 0)], [[kI a0, kI a1, kI a2]], [], (some (.iface 170 (.agg ⟨[.int .i64 a3, .int .i64 a4, .int .i64 a5]⟩))), [[kI a3, kI a4, kI a5]], [], none⟩
def SD_expand_guard_v2 : DI → Prop := fun d => ∃ (a0 a1 a2 a3 a4 a5 : Int) (r : Unit), JaH a0 a1 a2 a3 a4 a5 = some r ∧ d = di_expand_guard_v2 a0 a1 a2 a3 a4 a5 r
theorem Jex (a0 a1 a2 a3 a4 a5 : Int) (r : Unit) (H : JaH a0 a1 a2 a3 a4 a5 = some r) : SD_expand_guard_v2 (di_expand_guard_v2 a0 a1 a2 a3 a4 a5 r) := ⟨a0, a1, a2, a3, a4, a5, r, H, rfl⟩
theorem Jen : ∀ d, SD_expand_guard_v2 d → DOk Tryz.prog 103 d := by
 rintro _ ⟨a0, a1, a2, a3, a4, a5, r, H, rfl⟩
 refine xRcl mixed [] [] [] trivial trivial Tryz.func103 _ ?_
 have G := True.intro
 have Y := xZ y_20 <| xZ y_31 <| xZ y_170 <| xZ Tryz.results103 <| di_expand_guard_v2.eq_1
 dsimp only [di_expand_guard_v2, Option.getD_some, Option.getD_none]
 unfold JaH at H
 refine xS ?_
 refine xr ?_
 refine xe ?_
 refine xr ?_
 refine xt ?_
 refine xr ?_
 replace H := oI H
 refine xr ?_
 subst H
 exact xDn ⟨[1], []⟩
noncomputable def JaN (a0 a1 a2 : Int) (a3 : List Token) (a4 : Int) : Option YM :=
 if (!eqI a0 0) = true then some (([] : List Token), 0) else some (a3, a4)
def di_expand_All_1_v3 (a0 a1 a2 : Int) (a3 : List Token) (a4 : Int) (r : YM) (u : Option Value) : DI :=
 ⟨[.c (.pt 1 0), .c (.pt 2 0), .c (.pt 3 0)], [[kI a0, kI a1, kI a2], [.sl 11 (List.map d_Token a3) 4], [kI a4]], [44], u, [[kI a0, kI a1, kI a2], [.sl 11 (List.map d_Token r.1) 4], [kI r.2]], [44], u⟩
def SD_expand_All_1_v3 : DI → Prop := fun d => ∃ (a0 a1 a2 : Int) (a3 : List Token) (a4 : Int) (r : YM) (u : Option Value), JaN a0 a1 a2 a3 a4 = some r ∧ d = di_expand_All_1_v3 a0 a1 a2 a3 a4 r u
theorem JeM (a0 a1 a2 : Int) (a3 : List Token) (a4 : Int) (r : YM) (u : Option Value) (H : JaN a0 a1 a2 a3 a4 = some r) : SD_expand_All_1_v3 (di_expand_All_1_v3 a0 a1 a2 a3 a4 r u) := ⟨a0, a1, a2, a3, a4, r, u, H, rfl⟩
theorem Jej : ∀ d, SD_expand_All_1_v3 d → DOk Tryz.prog 102 d := by
 rintro _ ⟨a0, a1, a2, a3, a4, r, u, H, rfl⟩
 refine xDf mixed [] [] trivial trivial Tryz.func102 _ ?_
 have G := True.intro
 have Y := xZ y_3 <| xZ y_24 <| xZ y_29 <| xZ y_31 <| xZ Tryz.results102 <| xZ d_Call.eq_1 <| xZ d_Token.eq_1 <| di_expand_All_1_v3.eq_1
 dsimp only [di_expand_All_1_v3]
 simp only [JaN] at H
 refine xS ?_
 refine xr ?_
 rcases xB Y G H with ⟨p, H, F, G, q⟩ | ⟨p, H, F, G, q⟩
 ·refine xT ?_
  replace H := oI H
  refine xr ?_
  subst H
  exact xDn ⟨[1, 2, 3], [0]⟩
 replace H := oI H
 refine xE ?_
 subst H
 exact xDn ⟨[1, 2, 3], [4]⟩
noncomputable def Zi (a0 : List Source) (a1 : List Macro) (a2 : List Token) (a3 a4 : Int) : Bool → Option Yy
 | x1 => if x1 = true then some (([] : List Token), 0, 3, (-1), 0) else grB (JaE a2 a1 a0 a3 a4) (fun r1 => (Jb0 0 (-1) 0).bind fun r2 => (JaL 0 (-1) 0 r1.1 r1.2).bind fun r3 => some (r3.1, r3.2, 0, (-1), 0)) (fun e1 => (JaH 0 0 0 e1.1 e1.2.1 e1.2.2.1).bind fun r4 => (JaN e1.1 e1.2.1 e1.2.2.1 ([] : List Token) 0).bind fun r5 => some (r5.1, r5.2, e1.1, e1.2.1, e1.2.2.1))
noncomputable def Jd8 (a0 : List Source) (a1 : List Macro) (a2 : List Token) (a3 a4 : Int) : Option Yy :=
 if (ltI a3 0) = true then Zi a0 a1 a2 a3 a4 true else if (ltI 4000 a3) = true then Zi a0 a1 a2 a3 a4 true else if (ltI a4 0) = true then Zi a0 a1 a2 a3 a4 true else Zi a0 a1 a2 a3 a4 (ltI 1500 a4)
def Jdd (a0 : List Source) (a1 : List Macro) (a2 : List Token) (a3 a4 : Int) (r : Yy) : GI :=
 ⟨[.c (.d (.sl 2 (List.map d_Source a0))), .c (.d (.sl 5 (List.map d_Macro a1))), .c (.d (.sl 11 (List.map d_Token a2))), cI a3, cI a4], [], [], .ret (.tu [(false, [.d (.sl 11 (List.map d_Token r.1))]), (false, [kI r.2.1]), (true, [kI r.2.2.1, kI r.2.2.2.1, kI r.2.2.2.2])]) [] []⟩
def Jf7 : GI → Prop := Sg5 Jd8 Jdd
theorem JfV : ∀ g, Jf7 g → GenOk Tryz.prog 78 g := by
 rintro _ ⟨a0, a1, a2, a3, a4, r, H, rfl⟩
 refine xGnl mixed [7] [] [(104, false, VY)] [(103, SD_expand_guard), (102, SD_expand_All_1_v2), (103, SD_expand_guard_v2), (102, SD_expand_All_1_v3)] trivial ⟨JbQ, trivial⟩ ⟨⟨call_103, Je9⟩, ⟨call_102, Jep⟩, ⟨call_103, Jen⟩, ⟨call_102, Jej⟩, trivial⟩ Tryz.func78 _ ?_
 have G := True.intro
 have Y := xZ y_3 <| xZ y_24 <| xZ y_28 <| xZ y_29 <| xZ y_31 <| xZ y_37 <| xZ y_155 <| xZ Tryz.results78 <| xZ d_Source.eq_1 <| xZ d_Call.eq_1 <| xZ d_Token.eq_1 <| xZ d_Macro.eq_1 <| xZ Xe.eq_1 <| xZ di_expand_guard.eq_1 <| xZ di_expand_All_1_v2.eq_1 <| xZ di_expand_guard_v2.eq_1 <| xZ di_expand_All_1_v3.eq_1 <| Jdd.eq_1
 dsimp only [Jdd]
 simp only [Jd8] at H
 refine xS ?_
 refine xr0 ?_
 refine then_normal ?_
 refine w_seq ?_
 refine w_cut (Zi a0 a1 a2 a3 a4) (fun s => [(0, .c (.d (.sl 2 (List.map d_Source a0)))), (1, .c (.d (.sl 5 (List.map d_Macro a1)))), (2, .c (.d (.sl 11 (List.map d_Token a2)))), (3, cI a3), (4, cI a4), (10, .c (.pt 1 0)), (11, .c (.pt 2 0)), (12, .c (.pt 3 0)), (27, cB s)]) (fun s => [[.sl 11 [] 0], [kI 0], [kI 0, kI 0, kI 0]]) [] r ?_ ?_
 ·rcases xB Y G H with ⟨p, H, F, G, q⟩ | ⟨p, H, F, G, q⟩
  ·refine xR ?_
   exact cut_at H (xK ⟨[1,2,3], []⟩)
  rcases xB F G H with ⟨p, H, F, G, q⟩ | ⟨p, H, F, G, q⟩
  ·refine xR ?_
   exact cut_at H (xK ⟨[1,2,3], []⟩)
  rcases xB F G H with ⟨p, H, F, G, q⟩ | ⟨p, H, F, G, q⟩
  ·refine xR ?_
   exact cut_at H (xK ⟨[1,2,3], []⟩)
  refine xR ?_
  exact cut_at H (xK ⟨[1,2,3], []⟩)
 rintro x1 H
 rw [Zi] at H
 rcases xB Y G H with ⟨p, H, F, G, q⟩ | ⟨p, H, F, G, q⟩
 ·refine xT ?_
  replace H := oI H
  refine xr ?_
  subst H
  refine xrD [] ?_
  exact xO ⟨[], []⟩
 refine xE ?_
 have F := Y
 refine xQ ?_
 refine xs 1 ?_
 refine xw ?_
 refine xl ?_
 refine xS ?_
 have F := Y
 refine xQ ?_
 refine xw ?_
 refine xl ?_
 refine xS ?_
 refine xr ?_
 rcases rsplit H with ⟨r1, hr1, H⟩ | ⟨e1, hr2, H⟩
 ·have F := Y
  refine xQ ?_
  refine xs 2 ?_
  refine xc ⟨[4], []⟩ (tabG 0 (cg5 hr1)) ?_
  refine xs 1 ?_
  refine xl ?_
  refine xS ?_
  have F := Y
  refine xP [0, 1, 2, 3, 4, 5, 6, 7, 8] [43] ⟨JbQ, trivial⟩ ?_
  refine xsX 4 ?_
  refine xaX ?_
  refine xsX 1 ?_
  refine xbX ?_
  refine xbX ?_
  refine xbX ?_
  refine xlX ?_
  refine xS ?_
  refine xrD [(103, [.pt 3 0]), (102, [.pt 3 0, .pt 1 0, .pt 2 0])] ?_
  obtain ⟨r2, hr3, H⟩ := osplit H
  refine xD ⟨[3], []⟩ (tabD 0 (JfA 0 (-1) 0 r2 hr3)) ?_
  obtain ⟨r3, hr4, H⟩ := osplit H
  refine xD ⟨[3, 1, 2], []⟩ (tabD 1 (JeE 0 (-1) 0 r1.1 r1.2 r3 none hr4)) ?_
  replace H := oI H
  subst H
  exact xO ⟨[], []⟩
 have F := Y
 refine xQp [36, 37, 38] ?_
 refine xs 2 ?_
 refine xp ⟨[4], []⟩ (tabG 0 (cg5 hr2)) ?_
 refine xS ?_
 refine xpD [(103, [.pt 3 0]), (102, [.pt 3 0, .pt 1 0, .pt 2 0])] ?_
 obtain ⟨r4, hr5, H⟩ := osplit H
 refine xD ⟨[3], []⟩ (tabD 2 (Jex 0 0 0 e1.1 e1.2.1 e1.2.2.1 r4 hr5)) ?_
 obtain ⟨r5, hr6, H⟩ := osplit H
 refine xD ⟨[3, 1, 2], [0]⟩ (tabD 3 (JeM e1.1 e1.2.1 e1.2.2.1 ([] : List Token) 0 r5 none hr6)) ?_
 replace H := oI H
 subst H
 exact xO ⟨[], []⟩
end Go.Proofs.YtfkhlbhjhdpkoaaGreatDoor
