/- Functions of data for functions of the program. Written by dec3.py. -/
import Derived.Test.YtjgimofnepechaaGreatDoorZar
set_option linter.unusedVariables false
set_option linter.unusedSimpArgs false
set_option maxHeartbeats 4000000
set_option maxRecDepth 100000
namespace Go.Proofs.YtjgimofnepechaaGreatDoor
open Go.RowKit
noncomputable def Ja4 (a0 : Macro) (a1 : List UInt8) : Option Bool :=
 some (eqS a0.Name a1)
def Z7 (a0 : Macro) (a1 : List UInt8) (r : Bool) : GI :=
 ⟨[.ag [.d (.v (str a0.Name)), .d (.v (.bool a0.Call)), .d (.sl 1 (List.map dS a0.Params)), .d (.v (.bool a0.More)), .d (.sl 11 (List.map d_Token a0.Body))], .c (.pt 1 0)], [[.d (.v (str a1))]], [], .ret (.c (.d (.v (.bool r)))) [[.d (.v (str a1))]] []⟩
def Z5 : GI → Prop := fun g => ∃ (a0 : Macro) (a1 : List UInt8) (r : Bool), Ja4 a0 a1 = some r ∧ g = Z7 a0 a1 r
theorem Jfg (a0 : Macro) (a1 : List UInt8) (r : Bool) (H : Ja4 a0 a1 = some r) : Z5 (Z7 a0 a1 r) := ⟨a0, a1, r, H, rfl⟩
theorem JeS : ∀ g, Z5 g → GenOk Tryz.prog 59 g := by
 rintro _ ⟨a0, a1, r, H, rfl⟩
 refine xGn mixed [] [] [] trivial trivial trivial Tryz.func59 _ ?_
 have G := True.intro
 have Y := xZ y_9 <| xZ y_43 <| xZ Tryz.results59 <| xZ d_Call.eq_1 <| xZ d_Token.eq_1 <| xZ d_Macro.eq_1 <| Z7.eq_1
 dsimp only [Z7]
 simp only [Ja4] at H
 refine xS ?_
 refine xr ?_
 replace H := Option.some.inj H
 refine xr ?_
 subst H
 refine xOr ?_
 refine qDf [] ?_
 exact xO ⟨[1], []⟩
theorem Jfb : Callable Tryz.prog 59 ∧ (∀ g, Z5 g → GenOk Tryz.prog 59 g) ∧ (true = true → ∀ g, Z5 g → ∃ val bs ts, g.out = .ret val bs ts) :=
 ⟨call_59, JeS, fun _ => by rintro _ ⟨_, _, _, _, rfl⟩; exact ⟨_, _, _, rfl⟩⟩
noncomputable def Jq (a0 : List Macro) (a1 : List UInt8) : (Int × Int) → Option ((Int × Int) ⊕ Int)
 | (x1, x2) => if (ltI x2 x1) = true then if (0 : Int) ≤ x2 ∧ x2.toNat < a0.length then (Ja4 (a0.getD x2.toNat default) a1).bind fun r1 => if r1 = true then inrO (some x2) else some (.inl (x1, IntKind.i64.wrap (x2 + 1))) else none else inrO (some (-1))
noncomputable def Ji (a0 : List Macro) (a1 : List UInt8) : Option Int :=
 loopO (Jq a0 a1) ((a0.length : Int), 0)
def Jg (a0 : List Macro) (a1 : List UInt8) (r : Int) : GI :=
 ⟨[.c (.d (.sl 5 (List.map d_Macro a0))), .c (.clo 59 [1])], [[.d (.v (str a1))]], [], .ret (.c (.d (.v (.int .i64 r)))) [[.d (.v (str a1))]] []⟩
def Jf : GI → Prop := fun g => ∃ (a0 : List Macro) (a1 : List UInt8) (r : Int), Ji a0 a1 = some r ∧ g = Jg a0 a1 r
theorem Jaf (a0 : List Macro) (a1 : List UInt8) (r : Int) (H : Ji a0 a1 = some r) : Jf (Jg a0 a1 r) := ⟨a0, a1, r, H, rfl⟩
theorem Z8 : ∀ g, Jf g → GenOk Tryz.prog 58 g := by
 rintro _ ⟨a0, a1, r, H, rfl⟩
 refine xGn mixed [] [(59, true, Z5)] [] trivial ⟨Jfb, trivial⟩ trivial Tryz.func58 _ ?_
 have G := True.intro
 have Y := xZ y_32 <| xZ y_43 <| xZ Tryz.results58 <| xZ d_Call.eq_1 <| xZ d_Token.eq_1 <| xZ d_Macro.eq_1 <| xZ Z7.eq_1 <| Jg.eq_1
 dsimp only [Jg]
 simp only [Ji] at H
 refine xS ?_
 refine xr ?_
 refine xr ?_
 refine w_loop (Jq a0 a1) (fun s => [(0, .c (.d (.sl 5 (List.map d_Macro a0)))), (1, .c (.clo 59 [1])), (7, .c (.d (.v (.int .i64 s.1)))), (8, .c (.d (.v (.int .i64 s.2))))]) (fun s => [[.d (.v (str a1))]]) [] H (xK ⟨[1], []⟩) ?_
 rintro n1 ⟨x1, x2⟩ o1 H hF1
 rw [Jq] at H
 refine xS ?_
 refine xr ?_
 rcases bsplit H with ⟨hp1, H⟩ | ⟨hp1, H⟩
 ·obtain ⟨F, G, hq1⟩ := xH Y G hp1
  refine xT ?_
  refine xr ?_
  obtain ⟨hg1, H⟩ := gsplit H
  have F := xZ Y (map_getD d_Macro a0 x2.toNat default default (by omega))
  obtain ⟨r1, hr1, H⟩ := osplit H
  have F := F
  refine xQ ?_
  refine xs 5 ?_
  refine xc ⟨[1], []⟩ (tabG 0 (Jfg (a0.getD x2.toNat default) a1 r1 hr1)) ?_
  refine xl ?_
  refine xS ?_
  rcases bsplit H with ⟨hp2, H⟩ | ⟨hp2, H⟩
  ·obtain ⟨F, G, hq2⟩ := xH Y G hp2
   refine xT ?_
   replace H := inrO_fin H hF1
   replace H := Option.some.inj H
   refine xr ?_
   subst H
   refine xOr ?_
   refine qDf [] ?_
   exact xO ⟨[1], []⟩
  ·obtain ⟨F, G, hq2⟩ := xH Y G hp2
   refine xE ?_
   refine xr ?_
   exact round_at (inl_fin H hF1) (xK ⟨[1], []⟩)
 ·obtain ⟨F, G, hq1⟩ := xH Y G hp1
  replace H := inrO_fin H hF1
  refine xE ?_
  replace H := Option.some.inj H
  refine xr ?_
  subst H
  refine xOr ?_
  refine qDf [] ?_
  exact xO ⟨[1], []⟩
theorem Jac : Callable Tryz.prog 58 ∧ (∀ g, Jf g → GenOk Tryz.prog 58 g) ∧ (true = true → ∀ g, Jf g → ∃ val bs ts, g.out = .ret val bs ts) :=
 ⟨call_58, Z8, fun _ => by rintro _ ⟨_, _, _, _, rfl⟩; exact ⟨_, _, _, rfl⟩⟩
noncomputable def Jal (a0 : List Macro) (a1 : List UInt8) : Option Int :=
 (Ji a0 a1).bind fun r1 => some r1
noncomputable def JcM : PF := PF.of (E2 (dL 5 d_Macro) dS) (fun a => Jal a.1 a.2) dI
theorem Jfn : PureOk Tryz.prog 38 JcM := by
 refine xF mixed [] [(58, true, Jf)] trivial ⟨Jac, trivial⟩ Tryz.func38 ?_
 rintro ⟨a0, a1⟩ out H
 have G := True.intro
 have Y := xZ Tryz.results38 <| xZ d_Call.eq_1 <| xZ d_Token.eq_1 <| xZ d_Macro.eq_1 <| Jg.eq_1
 simp only [Jal] at H
 refine xS ?_
 refine xr ?_
 obtain ⟨r1, hr1, H⟩ := osplit H
 have F := Y
 refine xQ ?_
 refine xs 2 ?_
 refine xc ⟨[1], []⟩ (tabG 0 (Jaf a0 a1 r1 hr1)) ?_
 refine xs 1 ?_
 refine xl ?_
 replace H := Option.some.inj H
 refine xS ?_
 subst H
 exact xN
theorem Jfx (a0 : List Macro) (a1 : List UInt8) (r : Int) (H : Jal a0 a1 = some r) : PC JcM [(dL 5 d_Macro) a0, dS a1] (dI r) := PF.c (a := (a0, a1)) H
noncomputable def Jj (a0 : UInt8) (a1 : Bool) (a2 : List UInt8) : Option (List UInt8) :=
 (XO a1 a2).bind fun r1 => if a2.length + 1 ≤ 140737488355328 then some (a2 ++ [a0]) else none
def J6 (a0 : UInt8) (a1 : Bool) (a2 : List UInt8) (r : (List UInt8)) : GI :=
 ⟨[.c (.pt 1 0), .c (.d (.v (.int .u8 (a0.toNat : Int))))], [[.op a1 1 0, .os 2 1 0 a2.length], [.bar a2]], [], .ret (.c (.d (.v .nilIface))) [[.op true 1 0, .os 3 1 0 r.length], [], [.bar r]] []⟩
def J5 : GI → Prop := fun g => ∃ (a0 : UInt8) (a1 : Bool) (a2 : List UInt8) (r : (List UInt8)), Jj a0 a1 a2 = some r ∧ g = J6 a0 a1 a2 r
theorem J4 (a0 : UInt8) (a1 : Bool) (a2 : List UInt8) (r : (List UInt8)) (H : Jj a0 a1 a2 = some r) : J5 (J6 a0 a1 a2 r) := ⟨a0, a1, a2, r, H, rfl⟩
theorem Jct : ∀ g, J5 g → GenOk Tryz.prog 88 g := by
 rintro _ ⟨a0, a1, a2, r, H, rfl⟩
 refine xGn mixed [] [(106, true, KY)] [] trivial ⟨JcF, trivial⟩ trivial Tryz.func88 _ ?_
 have G := True.intro
 have Y := xZ y_5 <| xZ y_139 <| xZ y_141 <| xZ Tryz.results88 <| xZ Xd.eq_1 <| J6.eq_1
 dsimp only [J6]
 simp only [Jj] at H
 refine xS ?_
 refine xr ?_
 obtain ⟨r1, hr1, H⟩ := osplit H
 have F := Y
 refine xQ ?_
 refine xs 1 ?_
 refine xc ⟨[1, 2], []⟩ (tabG 0 (JcE a1 a2 r1 hr1)) ?_
 refine xl ?_
 refine xS ?_
 obtain ⟨hg1, H⟩ := gsplit H
 refine xr ?_
 replace H := Option.some.inj H
 refine xr ?_
 subst H
 refine xOr ?_
 refine qDf [] ?_
 exact xO ⟨[1, 2, 5], []⟩
theorem JcC : Callable Tryz.prog 88 ∧ (∀ g, J5 g → GenOk Tryz.prog 88 g) ∧ (true = true → ∀ g, J5 g → ∃ val bs ts, g.out = .ret val bs ts) :=
 ⟨call_88, Jct, fun _ => by rintro _ ⟨_, _, _, _, _, rfl⟩; exact ⟨_, _, _, rfl⟩⟩
noncomputable def Jbh (x17 : Int) (x18 : Int) : (UInt8 × (List UInt8)) → Option ((Int × Int × (List UInt8)) ⊕ ((Int × Int × (List UInt8) × (List UInt8)) ⊕ Token))
 | (x20, x21) => (Jj x20 true x21).bind fun r2 => some (.inl (x17, IntKind.i64.wrap (x18 + 1), r2))
noncomputable def V8 (x17 : Int) (x18 : Int) (x19 : List UInt8) : (UInt8 × Bool) → Option ((Int × Int × (List UInt8)) ⊕ ((Int × Int × (List UInt8) × (List UInt8)) ⊕ Token))
 | (x22, x23) => if x23 = true then (Jj (92 : UInt8) true x19).bind fun r3 => Jbh x17 x18 (x22, r3) else Jbh x17 x18 (x22, x19)
noncomputable def Jcl (x1 : Int) (x2 : Int) (x3 : List UInt8) (x5 : Int) (x6 : List UInt8) : (Int × Int × (List UInt8)) → Option ((Int × Int × (List UInt8)) ⊕ ((Int × Int × (List UInt8) × (List UInt8)) ⊕ Token))
 | (x17, x18, x19) => if (ltI x18 x17) = true then if (0 : Int) ≤ x18 ∧ x18.toNat < x6.length then if (eqI x5 4) = true then if (eqI ((x6.getD x18.toNat default).toNat : Int) 34) = true then V8 x17 x18 x19 ((x6.getD x18.toNat default), true) else V8 x17 x18 x19 ((x6.getD x18.toNat default), eqI ((x6.getD x18.toNat default).toNat : Int) 92) else if (eqI x5 3) = true then if (eqI ((x6.getD x18.toNat default).toNat : Int) 34) = true then V8 x17 x18 x19 ((x6.getD x18.toNat default), true) else V8 x17 x18 x19 ((x6.getD x18.toNat default), eqI ((x6.getD x18.toNat default).toNat : Int) 92) else V8 x17 x18 x19 ((x6.getD x18.toNat default), false) else none else inrO (some (.inl (x1, IntKind.i64.wrap (x2 + 1), x3, x19)))
noncomputable def Jbd (x1 : Int) (x2 : Int) (x3 : List UInt8) : (Int × (List UInt8) × Bool × Bool × Int × Int × Int × Int × (List (List UInt8)) × (List Call) × Int × (List UInt8)) → Option ((Int × Int × (List UInt8) × (List UInt8)) ⊕ Token)
 | (x5, x6, x7, x8, x9, x10, x11, x12, x13, x14, x15, x16) => loopO (Jcl x1 x2 x3 x5 x6) ((x6.length : Int), 0, x16)
noncomputable def Jba (x1 : Int) (x2 : Int) (x3 : List UInt8) (x4 : List UInt8) : (Bool × Int × (List UInt8) × Bool × Bool × Int × Int × Int × Int × (List (List UInt8)) × (List Call) × Int) → Option ((Int × Int × (List UInt8) × (List UInt8)) ⊕ Token)
 | (x24, x25, x26, x27, x28, x29, x30, x31, x32, x33, x34, x35) => if x24 = true then (Jj (32 : UInt8) true x4).bind fun r4 => Jbd x1 x2 x3 (x25, x26, x27, x28, x29, x30, x31, x32, x33, x34, x35, r4) else Jbd x1 x2 x3 (x25, x26, x27, x28, x29, x30, x31, x32, x33, x34, x35, x4)
noncomputable def Jcu (a0 : List Token) (a1 : Token) : (Int × Int × (List UInt8) × (List UInt8)) → Option ((Int × Int × (List UInt8) × (List UInt8)) ⊕ Token)
 | (x1, x2, x3, x4) => if (ltI x2 x1) = true then if (0 : Int) ≤ x2 ∧ x2.toNat < a0.length then if (ltI 0 x2) = true then Jba x1 x2 x3 x4 ((a0.getD x2.toNat default).Space, (a0.getD x2.toNat default).Kind, (a0.getD x2.toNat default).Text, (a0.getD x2.toNat default).Space, (a0.getD x2.toNat default).First, (a0.getD x2.toNat default).File, (a0.getD x2.toNat default).At, (a0.getD x2.toNat default).End, (a0.getD x2.toNat default).Line, (a0.getD x2.toNat default).Hide, (a0.getD x2.toNat default).Calls, (a0.getD x2.toNat default).Made) else Jba x1 x2 x3 x4 (false, (a0.getD x2.toNat default).Kind, (a0.getD x2.toNat default).Text, (a0.getD x2.toNat default).Space, (a0.getD x2.toNat default).First, (a0.getD x2.toNat default).File, (a0.getD x2.toNat default).At, (a0.getD x2.toNat default).End, (a0.getD x2.toNat default).Line, (a0.getD x2.toNat default).Hide, (a0.getD x2.toNat default).Calls, (a0.getD x2.toNat default).Made) else none else inrO ((Jj (34 : UInt8) true x4).bind fun r5 => (Xb true r5).bind fun r6 => some (⟨4, r5, a1.Space, a1.First, a1.File, a1.At, a1.End, a1.Line, a1.Hide, a1.Calls, 2⟩ : Token))
noncomputable def Jcz (a0 : List Token) (a1 : Token) : Option Token :=
 (Jj (34 : UInt8) false []).bind fun r1 => loopO (Jcu a0 a1) ((a0.length : Int), 0, [], r1)
noncomputable def Jcj : PF := PF.of (E2 (dL 11 d_Token) d_Token) (fun a => Jcz a.1 a.2) d_Token
theorem Je9 : PureOk Tryz.prog 81 Jcj := by
 refine xF mixed [] [(88, true, J5), (89, true, Vx)] trivial ⟨JcC, Jc0, trivial⟩ Tryz.func81 ?_
 rintro ⟨a0, a1⟩ out H
 have G := True.intro
 have Y := xZ y_3 <| xZ y_4 <| xZ y_5 <| xZ y_9 <| xZ y_25 <| xZ y_39 <| xZ y_139 <| xZ y_141 <| xZ Tryz.results81 <| xZ d_Call.eq_1 <| xZ d_Token.eq_1 <| xZ J6.eq_1 <| X5.eq_1
 simp only [Jcz] at H
 refine xS ?_
 refine xr ?_
 refine xr ?_
 obtain ⟨r1, hr1, H⟩ := osplit H
 have F := Y
 refine xQ ?_
 refine xc ⟨[3, 0], []⟩ (tabG 0 (J4 (34 : UInt8) false [] r1 hr1)) ?_
 refine xl ?_
 refine xS ?_
 refine xr ?_
 refine w_loop (Jcu a0 a1) (fun s => [(3, .c (.pt 1 0)), (4, .c (.pt 2 0)), (5, .c (.pt 3 0)), (11, .c (.d (.sl 11 (List.map d_Token a0)))), (12, .c (.d (.v (.int .i64 s.1)))), (13, .c (.d (.v (.int .i64 s.2.1))))]) (fun s => [[.d (.v (.int .i64 a1.Kind)), .d (.v (str a1.Text)), .d (.v (.bool a1.Space)), .d (.v (.bool a1.First)), .d (.v (.int .i64 a1.File)), .d (.v (.int .i64 a1.At)), .d (.v (.int .i64 a1.End)), .d (.v (.int .i64 a1.Line)), .d (.sl 1 (List.map dS a1.Hide)), .d (.sl 3 (List.map d_Call a1.Calls)), .d (.v (.int .i64 a1.Made))], [.d (.v (.int .i64 0)), .d (.v (str s.2.2.1)), .d (.v (.bool false)), .d (.v (.bool false)), .d (.v (.int .i64 0)), .d (.v (.int .i64 0)), .d (.v (.int .i64 0)), .d (.v (.int .i64 0)), .sl 1 [] 0, .sl 3 [] 0, .d (.v (.int .i64 0))], [.op true 3 0, .os 4 1 0 s.2.2.2.length], [.bar s.2.2.2]]) [] H (xK ⟨[1,2,3,6], []⟩) ?_
 rintro n1 ⟨x1, x2, x3, x4⟩ o1 H hF1
 rw [Jcu] at H
 refine xS ?_
 refine xr ?_
 rcases bsplit H with ⟨hp1, H⟩ | ⟨hp1, H⟩
 ·obtain ⟨F, G, hq1⟩ := xH Y G hp1
  refine xT ?_
  obtain ⟨hg1, H⟩ := gsplit H
  have F := xZ Y (map_getD d_Token a0 x2.toNat default default (by omega))
  refine xR0 ?_
  refine then_normal ?_
  refine w_cut (Jbd x1 x2 x3) (fun s => [(3, .c (.pt 1 0)), (4, .c (.pt 2 0)), (5, .c (.pt 3 0)), (7, .c (.pt 4 0)), (11, .c (.d (.sl 11 (List.map d_Token a0)))), (12, .c (.d (.v (.int .i64 x1)))), (13, .c (.d (.v (.int .i64 x2))))]) (fun s => [[.d (.v (.int .i64 a1.Kind)), .d (.v (str a1.Text)), .d (.v (.bool a1.Space)), .d (.v (.bool a1.First)), .d (.v (.int .i64 a1.File)), .d (.v (.int .i64 a1.At)), .d (.v (.int .i64 a1.End)), .d (.v (.int .i64 a1.Line)), .d (.sl 1 (List.map dS a1.Hide)), .d (.sl 3 (List.map d_Call a1.Calls)), .d (.v (.int .i64 a1.Made))], [.d (.v (.int .i64 0)), .d (.v (str x3)), .d (.v (.bool false)), .d (.v (.bool false)), .d (.v (.int .i64 0)), .d (.v (.int .i64 0)), .d (.v (.int .i64 0)), .d (.v (.int .i64 0)), .sl 1 [] 0, .sl 3 [] 0, .d (.v (.int .i64 0))], [.op true 3 0, .os 5 1 0 s.2.2.2.2.2.2.2.2.2.2.2.length], [.d (.v (.int .i64 s.1)), .d (.v (str s.2.1)), .d (.v (.bool s.2.2.1)), .d (.v (.bool s.2.2.2.1)), .d (.v (.int .i64 s.2.2.2.2.1)), .d (.v (.int .i64 s.2.2.2.2.2.1)), .d (.v (.int .i64 s.2.2.2.2.2.2.1)), .d (.v (.int .i64 s.2.2.2.2.2.2.2.1)), .d (.sl 1 (List.map dS s.2.2.2.2.2.2.2.2.1)), .d (.sl 3 (List.map d_Call s.2.2.2.2.2.2.2.2.2.1)), .d (.v (.int .i64 s.2.2.2.2.2.2.2.2.2.2.1))], [.bar s.2.2.2.2.2.2.2.2.2.2.2]]) [] o1 ?_ ?_
  ·refine w_cut (Jba x1 x2 x3 x4) (fun s => [(3, .c (.pt 1 0)), (4, .c (.pt 2 0)), (5, .c (.pt 3 0)), (7, .c (.pt 4 0)), (11, .c (.d (.sl 11 (List.map d_Token a0)))), (12, .c (.d (.v (.int .i64 x1)))), (13, .c (.d (.v (.int .i64 x2)))), (23, .c (.d (.v (.bool s.1))))]) (fun s => [[.d (.v (.int .i64 a1.Kind)), .d (.v (str a1.Text)), .d (.v (.bool a1.Space)), .d (.v (.bool a1.First)), .d (.v (.int .i64 a1.File)), .d (.v (.int .i64 a1.At)), .d (.v (.int .i64 a1.End)), .d (.v (.int .i64 a1.Line)), .d (.sl 1 (List.map dS a1.Hide)), .d (.sl 3 (List.map d_Call a1.Calls)), .d (.v (.int .i64 a1.Made))], [.d (.v (.int .i64 0)), .d (.v (str x3)), .d (.v (.bool false)), .d (.v (.bool false)), .d (.v (.int .i64 0)), .d (.v (.int .i64 0)), .d (.v (.int .i64 0)), .d (.v (.int .i64 0)), .sl 1 [] 0, .sl 3 [] 0, .d (.v (.int .i64 0))], [.op true 3 0, .os 5 1 0 x4.length], [.d (.v (.int .i64 s.2.1)), .d (.v (str s.2.2.1)), .d (.v (.bool s.2.2.2.1)), .d (.v (.bool s.2.2.2.2.1)), .d (.v (.int .i64 s.2.2.2.2.2.1)), .d (.v (.int .i64 s.2.2.2.2.2.2.1)), .d (.v (.int .i64 s.2.2.2.2.2.2.2.1)), .d (.v (.int .i64 s.2.2.2.2.2.2.2.2.1)), .d (.sl 1 (List.map dS s.2.2.2.2.2.2.2.2.2.1)), .d (.sl 3 (List.map d_Call s.2.2.2.2.2.2.2.2.2.2.1)), .d (.v (.int .i64 s.2.2.2.2.2.2.2.2.2.2.2))], [.bar x4]]) [] o1 ?_ ?_
   ·rcases bsplit H with ⟨hp9, H⟩ | ⟨hp9, H⟩
    ·obtain ⟨F, G, hq9⟩ := xH Y G hp9
     refine xR ?_
     exact cut_at H (xK ⟨[1,2,3,5,4], []⟩)
    ·obtain ⟨F, G, hq9⟩ := xH Y G hp9
     refine xR ?_
     exact cut_at H (xK ⟨[1,2,3,5,4], []⟩)
   ·rintro ⟨x24, x25, x26, x27, x28, x29, x30, x31, x32, x33, x34, x35⟩ H
    rw [Jba] at H
    rcases bsplit H with ⟨hp8, H⟩ | ⟨hp8, H⟩
    ·obtain ⟨F, G, hq8⟩ := xH Y G hp8
     refine xT ?_
     obtain ⟨r4, hr4, H⟩ := osplit H
     have F := Y
     refine xQ ?_
     refine xc ⟨[3, 5], []⟩ (tabG 0 (J4 (32 : UInt8) true x4 r4 hr4)) ?_
     refine xl ?_
     refine xS ?_
     exact cut_at H (xK ⟨[1,2,3,4,8], []⟩)
    ·obtain ⟨F, G, hq8⟩ := xH Y G hp8
     refine xE ?_
     exact cut_at H (xK ⟨[1,2,3,4,5], []⟩)
  ·rintro ⟨x5, x6, x7, x8, x9, x10, x11, x12, x13, x14, x15, x16⟩ H
   rw [Jbd] at H
   refine xS ?_
   refine xr ?_
   refine w_loop (Jcl x1 x2 x3 x5 x6) (fun s => [(3, .c (.pt 1 0)), (4, .c (.pt 2 0)), (5, .c (.pt 3 0)), (7, .c (.pt 4 0)), (11, .c (.d (.sl 11 (List.map d_Token a0)))), (12, .c (.d (.v (.int .i64 x1)))), (13, .c (.d (.v (.int .i64 x2)))), (27, .c (.d (.sl 1 (List.map dU x6)))), (28, .c (.d (.v (.int .i64 s.1)))), (29, .c (.d (.v (.int .i64 s.2.1))))]) (fun s => [[.d (.v (.int .i64 a1.Kind)), .d (.v (str a1.Text)), .d (.v (.bool a1.Space)), .d (.v (.bool a1.First)), .d (.v (.int .i64 a1.File)), .d (.v (.int .i64 a1.At)), .d (.v (.int .i64 a1.End)), .d (.v (.int .i64 a1.Line)), .d (.sl 1 (List.map dS a1.Hide)), .d (.sl 3 (List.map d_Call a1.Calls)), .d (.v (.int .i64 a1.Made))], [.d (.v (.int .i64 0)), .d (.v (str x3)), .d (.v (.bool false)), .d (.v (.bool false)), .d (.v (.int .i64 0)), .d (.v (.int .i64 0)), .d (.v (.int .i64 0)), .d (.v (.int .i64 0)), .sl 1 [] 0, .sl 3 [] 0, .d (.v (.int .i64 0))], [.op true 3 0, .os 5 1 0 s.2.2.length], [.d (.v (.int .i64 x5)), .d (.v (str x6)), .d (.v (.bool x7)), .d (.v (.bool x8)), .d (.v (.int .i64 x9)), .d (.v (.int .i64 x10)), .d (.v (.int .i64 x11)), .d (.v (.int .i64 x12)), .d (.sl 1 (List.map dS x13)), .d (.sl 3 (List.map d_Call x14)), .d (.v (.int .i64 x15))], [.bar s.2.2]]) [] H (xK ⟨[1,2,3,4,5], []⟩) ?_
   rintro n2 ⟨x17, x18, x19⟩ o2 H hF2
   rw [Jcl] at H
   refine xS ?_
   refine xr ?_
   rcases bsplit H with ⟨hp2, H⟩ | ⟨hp2, H⟩
   ·obtain ⟨F, G, hq2⟩ := xH Y G hp2
    refine xT ?_
    obtain ⟨hg2, H⟩ := gsplit H
    have F := xZ Y (map_getD dU x6 x18.toNat default default (by omega))
    refine xR0 ?_
    refine then_normal ?_
    refine w_cut (Jbh x17 x18) (fun s => [(3, .c (.pt 1 0)), (4, .c (.pt 2 0)), (5, .c (.pt 3 0)), (7, .c (.pt 4 0)), (9, .c (.d (.v (.int .u8 (s.1.toNat : Int))))), (11, .c (.d (.sl 11 (List.map d_Token a0)))), (12, .c (.d (.v (.int .i64 x1)))), (13, .c (.d (.v (.int .i64 x2)))), (27, .c (.d (.sl 1 (List.map dU x6)))), (28, .c (.d (.v (.int .i64 x17)))), (29, .c (.d (.v (.int .i64 x18))))]) (fun s => [[.d (.v (.int .i64 a1.Kind)), .d (.v (str a1.Text)), .d (.v (.bool a1.Space)), .d (.v (.bool a1.First)), .d (.v (.int .i64 a1.File)), .d (.v (.int .i64 a1.At)), .d (.v (.int .i64 a1.End)), .d (.v (.int .i64 a1.Line)), .d (.sl 1 (List.map dS a1.Hide)), .d (.sl 3 (List.map d_Call a1.Calls)), .d (.v (.int .i64 a1.Made))], [.d (.v (.int .i64 0)), .d (.v (str x3)), .d (.v (.bool false)), .d (.v (.bool false)), .d (.v (.int .i64 0)), .d (.v (.int .i64 0)), .d (.v (.int .i64 0)), .d (.v (.int .i64 0)), .sl 1 [] 0, .sl 3 [] 0, .d (.v (.int .i64 0))], [.op true 3 0, .os 5 1 0 s.2.length], [.d (.v (.int .i64 x5)), .d (.v (str x6)), .d (.v (.bool x7)), .d (.v (.bool x8)), .d (.v (.int .i64 x9)), .d (.v (.int .i64 x10)), .d (.v (.int .i64 x11)), .d (.v (.int .i64 x12)), .d (.sl 1 (List.map dS x13)), .d (.sl 3 (List.map d_Call x14)), .d (.v (.int .i64 x15))], [.bar s.2]]) [] o2 ?_ ?_
    ·refine w_cut (V8 x17 x18 x19) (fun s => [(3, .c (.pt 1 0)), (4, .c (.pt 2 0)), (5, .c (.pt 3 0)), (7, .c (.pt 4 0)), (9, .c (.d (.v (.int .u8 (s.1.toNat : Int))))), (11, .c (.d (.sl 11 (List.map d_Token a0)))), (12, .c (.d (.v (.int .i64 x1)))), (13, .c (.d (.v (.int .i64 x2)))), (27, .c (.d (.sl 1 (List.map dU x6)))), (28, .c (.d (.v (.int .i64 x17)))), (29, .c (.d (.v (.int .i64 x18)))), (48, .c (.d (.v (.bool s.2))))]) (fun s => [[.d (.v (.int .i64 a1.Kind)), .d (.v (str a1.Text)), .d (.v (.bool a1.Space)), .d (.v (.bool a1.First)), .d (.v (.int .i64 a1.File)), .d (.v (.int .i64 a1.At)), .d (.v (.int .i64 a1.End)), .d (.v (.int .i64 a1.Line)), .d (.sl 1 (List.map dS a1.Hide)), .d (.sl 3 (List.map d_Call a1.Calls)), .d (.v (.int .i64 a1.Made))], [.d (.v (.int .i64 0)), .d (.v (str x3)), .d (.v (.bool false)), .d (.v (.bool false)), .d (.v (.int .i64 0)), .d (.v (.int .i64 0)), .d (.v (.int .i64 0)), .d (.v (.int .i64 0)), .sl 1 [] 0, .sl 3 [] 0, .d (.v (.int .i64 0))], [.op true 3 0, .os 5 1 0 x19.length], [.d (.v (.int .i64 x5)), .d (.v (str x6)), .d (.v (.bool x7)), .d (.v (.bool x8)), .d (.v (.int .i64 x9)), .d (.v (.int .i64 x10)), .d (.v (.int .i64 x11)), .d (.v (.int .i64 x12)), .d (.sl 1 (List.map dS x13)), .d (.sl 3 (List.map d_Call x14)), .d (.v (.int .i64 x15))], [.bar x19]]) [] o2 ?_ ?_
     ·rcases bsplit H with ⟨hp4, H⟩ | ⟨hp4, H⟩
      ·obtain ⟨F, G, hq4⟩ := xH Y G hp4
       rcases bsplit H with ⟨hp5, H⟩ | ⟨hp5, H⟩
       ·obtain ⟨F, G, hq5⟩ := xH F G hp5
        refine xR ?_
        exact cut_at H (xK ⟨[1,2,3,4,5], []⟩)
       ·obtain ⟨F, G, hq5⟩ := xH F G hp5
        refine xR ?_
        exact cut_at H (xK ⟨[1,2,3,4,5], []⟩)
      ·obtain ⟨F, G, hq4⟩ := xH Y G hp4
       rcases bsplit H with ⟨hp6, H⟩ | ⟨hp6, H⟩
       ·obtain ⟨F, G, hq6⟩ := xH F G hp6
        rcases bsplit H with ⟨hp7, H⟩ | ⟨hp7, H⟩
        ·obtain ⟨F, G, hq7⟩ := xH F G hp7
         refine xR ?_
         exact cut_at H (xK ⟨[1,2,3,4,5], []⟩)
        ·obtain ⟨F, G, hq7⟩ := xH F G hp7
         refine xR ?_
         exact cut_at H (xK ⟨[1,2,3,4,5], []⟩)
       ·obtain ⟨F, G, hq6⟩ := xH F G hp6
        refine xR ?_
        exact cut_at H (xK ⟨[1,2,3,4,5], []⟩)
     ·rintro ⟨x22, x23⟩ H
      rw [V8] at H
      rcases bsplit H with ⟨hp3, H⟩ | ⟨hp3, H⟩
      ·obtain ⟨F, G, hq3⟩ := xH Y G hp3
       refine xT ?_
       obtain ⟨r3, hr3, H⟩ := osplit H
       have F := Y
       refine xQ ?_
       refine xc ⟨[3, 5], []⟩ (tabG 0 (J4 (92 : UInt8) true x19 r3 hr3)) ?_
       refine xl ?_
       refine xS ?_
       exact cut_at H (xK ⟨[1,2,3,4,8], []⟩)
      ·obtain ⟨F, G, hq3⟩ := xH Y G hp3
       refine xE ?_
       exact cut_at H (xK ⟨[1,2,3,4,5], []⟩)
    ·rintro ⟨x20, x21⟩ H
     rw [Jbh] at H
     obtain ⟨r2, hr2, H⟩ := osplit H
     have F := Y
     refine xQ ?_
     refine xs 1 ?_
     refine xc ⟨[3, 5], []⟩ (tabG 0 (J4 x20 true x21 r2 hr2)) ?_
     refine xl ?_
     refine xS ?_
     refine xr ?_
     exact round_at (inl_fin H hF2) (xK ⟨[1,2,3,4,8], []⟩)
   ·obtain ⟨F, G, hq2⟩ := xH Y G hp2
    replace H := inrO_fin H hF2
    refine xE ?_
    refine xr ?_
    exact round_at (inl_fin H hF1) (xK ⟨[1,2,3,5], []⟩)
 ·obtain ⟨F, G, hq1⟩ := xH Y G hp1
  replace H := inrO_fin H hF1
  refine xE ?_
  obtain ⟨r5, hr5, H⟩ := osplit H
  have F := Y
  refine xQ ?_
  refine xc ⟨[3, 4], []⟩ (tabG 0 (J4 (34 : UInt8) true x4 r5 hr5)) ?_
  refine xl ?_
  refine xS ?_
  obtain ⟨r6, hr6, H⟩ := osplit H
  have F := Y
  refine xQ ?_
  refine xc ⟨[3, 7], []⟩ (tabG 1 (Jc6 true r5 r6 hr6)) ?_
  refine xs 6 ?_
  refine xl ?_
  refine xS ?_
  replace H := Option.some.inj H
  refine xr ?_
  subst H
  exact xN
theorem Jfi (a0 : List Token) (a1 : Token) (r : Token) (H : Jcz a0 a1 = some r) : PC Jcj [(dL 11 d_Token) a0, d_Token a1] (d_Token r) := PF.c (a := (a0, a1)) H
noncomputable def JaH : Bool → Option Int
 | x2 => if x2 = true then some 3 else some 0
noncomputable def JaL (a0 : List UInt8) : Bool → Option Int
 | x1 => if x1 = true then some 2 else if (leI 3 (a0.length : Int)) = true then if (0 : Int) ≤ 0 ∧ 0 ≤ 3 ∧ 3 ≤ (a0.length : Int) then JaH (eqS (List.take 3 a0) [92, 13, 10]) else none else JaH false
noncomputable def JaT (a0 : List UInt8) : Option Int :=
 if (leI 2 (a0.length : Int)) = true then if (0 : Int) ≤ 0 ∧ 0 ≤ 2 ∧ 2 ≤ (a0.length : Int) then JaL a0 (eqS (List.take 2 a0) [92, 10]) else none else JaL a0 false
noncomputable def Jb9 : PF := PF.of (E1 dS) (fun a => JaT a) dI
theorem JeT : PureOk Tryz.prog 128 Jb9 := by
 refine xF mixed [] [] trivial trivial Tryz.func128 ?_
 rintro a0 out H
 have G := True.intro
 have Y := xZ y_9 <| Tryz.results128
 simp only [JaT] at H
 refine xS ?_
 refine xr0 ?_
 refine then_normal ?_
 refine w_seq ?_
 refine w_block ?_
 refine w_cut (JaL a0) (fun s => [(0, .c (.d (.v (str a0)))), (3, .c (.d (.v (.bool s))))]) (fun s => []) [] out ?_ ?_
 ·rcases bsplit H with ⟨hp4, H⟩ | ⟨hp4, H⟩
  ·obtain ⟨F, G, hq4⟩ := xH Y G hp4
   obtain ⟨hg2, H⟩ := gsplit H
   refine xR ?_
   exact cut_at H (xK ⟨[], []⟩)
  ·obtain ⟨F, G, hq4⟩ := xH Y G hp4
   refine xR ?_
   exact cut_at H (xK ⟨[], []⟩)
 ·rintro x1 H
  rw [JaL] at H
  rcases bsplit H with ⟨hp1, H⟩ | ⟨hp1, H⟩
  ·obtain ⟨F, G, hq1⟩ := xH Y G hp1
   refine xT ?_
   replace H := Option.some.inj H
   refine xr ?_
   subst H
   exact xN
  ·obtain ⟨F, G, hq1⟩ := xH Y G hp1
   refine xE0 ?_
   refine w_cut JaH (fun s => [(12, .c (.d (.v (.bool s))))]) (fun s => []) [] out ?_ ?_
   ·rcases bsplit H with ⟨hp3, H⟩ | ⟨hp3, H⟩
    ·obtain ⟨F, G, hq3⟩ := xH Y G hp3
     obtain ⟨hg1, H⟩ := gsplit H
     refine xR ?_
     exact cut_at H (xK ⟨[], []⟩)
    ·obtain ⟨F, G, hq3⟩ := xH Y G hp3
     refine xR ?_
     exact cut_at H (xK ⟨[], []⟩)
   ·rintro x2 H
    rw [JaH] at H
    rcases bsplit H with ⟨hp2, H⟩ | ⟨hp2, H⟩
    ·obtain ⟨F, G, hq2⟩ := xH Y G hp2
     refine xT ?_
     replace H := Option.some.inj H
     refine xr ?_
     subst H
     exact xN
    ·obtain ⟨F, G, hq2⟩ := xH Y G hp2
     refine xE ?_
     replace H := Option.some.inj H
     refine xr ?_
     subst H
     exact xN
theorem Jdz (a0 : List UInt8) (r : Int) (H : JaT a0 = some r) : PC Jb9 [dS a0] (dI r) := PF.c (a := a0) H
noncomputable def ZY (a0 : List UInt8) (x1 : List UInt8) (x2 : List Int) (x3 : Int) (x4 : List UInt8) : Bool → Option (((List UInt8) × (List Int) × Int × (List UInt8)) ⊕ Spliced)
 | x5 => if x5 = true then some (.inl (x1, x2, IntKind.i64.wrap (x3 + 1), x4)) else if (0 : Int) ≤ x3 ∧ x3.toNat < a0.length then if (x1.length + [(a0.getD x3.toNat 0)].length) * 1 ≤ 140737488355328 then if (x2.length + [x3].length) * 8 ≤ 140737488355328 then some (.inl (x1 ++ [(a0.getD x3.toNat 0)], x2 ++ [x3], IntKind.i64.wrap (x3 + 1), x4)) else none else none else none
noncomputable def Jco (a0 : List UInt8) : ((List UInt8) × (List Int) × Int × (List UInt8)) → Option (((List UInt8) × (List Int) × Int × (List UInt8)) ⊕ Spliced)
 | (x1, x2, x3, x4) => if (ltI x3 (a0.length : Int)) = true then if (0 : Int) ≤ x3 ∧ x3 ≤ (a0.length : Int) ∧ (a0.length : Int) ≤ (a0.length : Int) then (JaT (List.drop x3.toNat a0)).bind fun r1 => if (ltI 0 r1) = true then if (0 : Int) ≤ x3 ∧ x3 ≤ (a0.length : Int) ∧ (a0.length : Int) ≤ (a0.length : Int) then (JaT (List.drop x3.toNat a0)).bind fun r2 => some (.inl (x1, x2, IntKind.i64.wrap (x3 + r2), x4)) else none else if (0 : Int) ≤ x3 ∧ x3.toNat < a0.length then if (eqI ((a0.getD x3.toNat 0).toNat : Int) 13) = true then if (ltI (IntKind.i64.wrap (x3 + 1)) (a0.length : Int)) = true then if (0 : Int) ≤ (IntKind.i64.wrap (x3 + 1)) ∧ (IntKind.i64.wrap (x3 + 1)).toNat < a0.length then ZY a0 x1 x2 x3 x4 (eqI ((a0.getD ((IntKind.i64.wrap (x3 + 1)).toNat) 0).toNat : Int) 10) else none else ZY a0 x1 x2 x3 x4 false else ZY a0 x1 x2 x3 x4 false else none else none else inrO (if (x2.length + [(a0.length : Int)].length) * 8 ≤ 140737488355328 then some (⟨x1, x2 ++ [(a0.length : Int)]⟩ : Spliced) else none)
noncomputable def Jcy (a0 : List UInt8) : Option Spliced :=
 loopO (Jco a0) (([] : List UInt8), ([] : List Int), 0, [])
noncomputable def Jck : PF := PF.of (E1 dS) (fun a => Jcy a) d_Spliced
theorem Je3 : PureOk Tryz.prog 120 Jck := by
 refine xF mixed [(128, Jb9)] [] ⟨⟨call_128, JeT⟩, trivial⟩ trivial Tryz.func120 ?_
 rintro a0 out H
 have G := True.intro
 have Y := xZ y_3 <| xZ y_5 <| xZ y_9 <| xZ y_68 <| xZ y_70 <| xZ y_139 <| xZ Tryz.results120 <| d_Spliced.eq_1
 simp only [Jcy] at H
 refine xS ?_
 refine xr ?_
 refine xr ?_
 refine xr ?_
 refine xr ?_
 refine w_loop (Jco a0) (fun s => [(0, .c (.d (.v (str a0)))), (2, .c (.pt 1 0)), (3, .c (.sl 1 (List.map dU s.1) 2)), (4, .c (.sl 1 (List.map dI s.2.1) 3)), (5, .c (.d (.v (.int .i64 s.2.2.1))))]) (fun s => [[.d (.v (str s.2.2.2)), .sl 1 [] 0]]) [5, 3] H (xK ⟨[1], [0,0]⟩) ?_
 rintro n1 ⟨x1, x2, x3, x4⟩ o1 H hF1
 rw [Jco] at H
 refine xS ?_
 refine xr ?_
 rcases bsplit H with ⟨hp1, H⟩ | ⟨hp1, H⟩
 ·obtain ⟨F, G, hq1⟩ := xH Y G hp1
  refine xT ?_
  obtain ⟨hg1, H⟩ := gsplit H
  obtain ⟨r1, hr1, H⟩ := osplit H
  have F := xC Y (Jdz (List.drop x3.toNat a0) r1 hr1)
  refine xR ?_
  rcases bsplit H with ⟨hp2, H⟩ | ⟨hp2, H⟩
  ·obtain ⟨F, G, hq2⟩ := xH Y G hp2
   refine xT ?_
   obtain ⟨hg2, H⟩ := gsplit H
   obtain ⟨r2, hr2, H⟩ := osplit H
   have F := xC Y (Jdz (List.drop x3.toNat a0) r2 hr2)
   refine xR ?_
   exact round_at (inl_fin H hF1) (xK ⟨[1], [2,3]⟩)
  ·obtain ⟨F, G, hq2⟩ := xH Y G hp2
   refine xE0 ?_
   refine w_cut (ZY a0 x1 x2 x3 x4) (fun s => [(0, .c (.d (.v (str a0)))), (2, .c (.pt 1 0)), (3, .c (.sl 1 (List.map dU x1) 2)), (4, .c (.sl 1 (List.map dI x2) 3)), (5, .c (.d (.v (.int .i64 x3)))), (22, .c (.d (.v (.bool s))))]) (fun s => [[.d (.v (str x4)), .sl 1 [] 0]]) [5, 3] o1 ?_ ?_
   ·obtain ⟨hg6, H⟩ := gsplit H
    rcases bsplit H with ⟨hp4, H⟩ | ⟨hp4, H⟩
    ·obtain ⟨F, G, hq4⟩ := xH Y G hp4
     rcases bsplit H with ⟨hp5, H⟩ | ⟨hp5, H⟩
     ·obtain ⟨F, G, hq5⟩ := xH F G hp5
      obtain ⟨hg7, H⟩ := gsplit H
      refine xR ?_
      exact cut_at H (xK ⟨[1], [2,3]⟩)
     ·obtain ⟨F, G, hq5⟩ := xH F G hp5
      refine xR ?_
      exact cut_at H (xK ⟨[1], [2,3]⟩)
    ·obtain ⟨F, G, hq4⟩ := xH Y G hp4
     refine xR ?_
     exact cut_at H (xK ⟨[1], [2,3]⟩)
   ·rintro x5 H
    rw [ZY] at H
    rcases bsplit H with ⟨hp3, H⟩ | ⟨hp3, H⟩
    ·obtain ⟨F, G, hq3⟩ := xH Y G hp3
     refine xT ?_
     refine xr ?_
     exact round_at (inl_fin H hF1) (xK ⟨[1], [2,3]⟩)
    ·obtain ⟨F, G, hq3⟩ := xH Y G hp3
     refine xE ?_
     obtain ⟨hg3, H⟩ := gsplit H
     obtain ⟨hg4, H⟩ := gsplit H
     have F := xZ Y (all_map one_dU [(a0.getD x3.toNat 0)])
     obtain ⟨hg5, H⟩ := gsplit H
     have F := xZ F (all_map one_dI [x3])
     refine xR ?_
     refine xr ?_
     exact round_at (inl_fin H hF1) (xK ⟨[1], [4,5]⟩)
 ·obtain ⟨F, G, hq1⟩ := xH Y G hp1
  replace H := inrO_fin H hF1
  refine xE ?_
  obtain ⟨hg8, H⟩ := gsplit H
  have F := xZ Y (all_map one_dI [(a0.length : Int)])
  replace H := Option.some.inj H
  refine xR ?_
  subst H
  exact xN
theorem Jfo (a0 : List UInt8) (r : Spliced) (H : Jcy a0 = some r) : PC Jck [dS a0] (d_Spliced r) := PF.c (a := a0) H
noncomputable def ZE (a0 : UInt8) : Option Bool :=
 some (!eqI (a0.toNat : Int) 10)
noncomputable def Jaa : PF := PF.of (E1 dU) (fun a => ZE a) dB
theorem JdC : PureOk Tryz.prog 130 Jaa := by
 refine xF mixed [] [] trivial trivial Tryz.func130 ?_
 rintro a0 out H
 have G := True.intro
 have Y := Tryz.results130
 simp only [ZE] at H
 refine xS ?_
 refine xr ?_
 replace H := Option.some.inj H
 refine xr ?_
 subst H
 exact xN
theorem JdO (a0 : UInt8) (r : Bool) (H : ZE a0 = some r) : PC Jaa [dU a0] (dB r) := PF.c (a := a0) H
noncomputable def Zp (x1 : Int) : Bool → Option (Int ⊕ Int)
 | x2 => if x2 = true then some (.inl (IntKind.i64.wrap (x1 + 1))) else inrO (some x1)
noncomputable def Ja3 (a1 : List UInt8) : Int → Option (Int ⊕ Int)
 | x1 => if (ltI x1 (a1.length : Int)) = true then if (0 : Int) ≤ x1 ∧ x1.toNat < a1.length then (ZE (a1.getD x1.toNat 0)).bind fun r1 => Zp x1 r1 else none else Zp x1 false
noncomputable def JaB (a0 : Int) (a1 : List UInt8) (a2 : List Int) (a3 : List UInt8) (a4 : Int) (a5 : Int) (a6 : List Token) : Option Int :=
 loopO (Ja3 a1) a0
def XF (a0 : Int) (a1 : List UInt8) (a2 : List Int) (a3 : List UInt8) (a4 : Int) (a5 : Int) (a6 : List Token) (r : Int) : GI :=
 ⟨[.c (.pt 1 0), .c (.d (.v (.int .i64 a0))), .c (.d (.v (.func (.func 130) #[] #[])))], [[.d (.v (str a1)), .d (.sl 1 (List.map dI a2)), .d (.v (str a3)), .d (.v (.int .i64 a4)), .d (.v (.int .i64 a5)), .sl 11 (List.map d_Token a6) 2]], [39], .ret (.c (.d (.v (.int .i64 r)))) [[.d (.v (str a1)), .d (.sl 1 (List.map dI a2)), .d (.v (str a3)), .d (.v (.int .i64 a4)), .d (.v (.int .i64 a5)), .sl 11 (List.map d_Token a6) 2]] [39]⟩
def XG : GI → Prop := fun g => ∃ (a0 : Int) (a1 : List UInt8) (a2 : List Int) (a3 : List UInt8) (a4 : Int) (a5 : Int) (a6 : List Token) (r : Int), JaB a0 a1 a2 a3 a4 a5 a6 = some r ∧ g = XF a0 a1 a2 a3 a4 a5 a6 r
theorem Jei (a0 : Int) (a1 : List UInt8) (a2 : List Int) (a3 : List UInt8) (a4 : Int) (a5 : Int) (a6 : List Token) (r : Int) (H : JaB a0 a1 a2 a3 a4 a5 a6 = some r) : XG (XF a0 a1 a2 a3 a4 a5 a6 r) := ⟨a0, a1, a2, a3, a4, a5, a6, r, H, rfl⟩
theorem Jd7 : ∀ g, XG g → GenOk Tryz.prog 129 g := by
 rintro _ ⟨a0, a1, a2, a3, a4, a5, a6, r, H, rfl⟩
 refine xGn mixed [(130, Jaa)] [] [] ⟨⟨call_130, JdC⟩, trivial⟩ trivial trivial Tryz.func129 _ ?_
 have G := True.intro
 have Y := xZ y_9 <| xZ y_70 <| xZ y_179 <| xZ Tryz.results129 <| xZ d_Call.eq_1 <| xZ d_Token.eq_1 <| xZ d_Spliced.eq_1 <| XF.eq_1
 dsimp only [XF]
 simp only [JaB] at H
 refine xS ?_
 refine xr ?_
 refine w_loop (Ja3 a1) (fun s => [(0, .c (.pt 1 0)), (1, .c (.d (.v (.int .i64 s)))), (2, .c (.d (.v (.func (.func 130) #[] #[]))))]) (fun s => [[.d (.v (str a1)), .d (.sl 1 (List.map dI a2)), .d (.v (str a3)), .d (.v (.int .i64 a4)), .d (.v (.int .i64 a5)), .sl 11 (List.map d_Token a6) 2]]) [39] H (xK ⟨[1], [2]⟩) ?_
 rintro n1 x1 o1 H hF1
 rw [Ja3] at H
 refine w_seq ?_
 refine w_cut (Zp x1) (fun s => [(0, .c (.pt 1 0)), (1, .c (.d (.v (.int .i64 x1)))), (2, .c (.d (.v (.func (.func 130) #[] #[])))), (25, .c (.d (.v (.bool s))))]) (fun s => [[.d (.v (str a1)), .d (.sl 1 (List.map dI a2)), .d (.v (str a3)), .d (.v (.int .i64 a4)), .d (.v (.int .i64 a5)), .sl 11 (List.map d_Token a6) 2]]) [39] o1 ?_ ?_
 ·rcases bsplit H with ⟨hp2, H⟩ | ⟨hp2, H⟩
  ·obtain ⟨F, G, hq2⟩ := xH Y G hp2
   obtain ⟨hg1, H⟩ := gsplit H
   obtain ⟨r1, hr1, H⟩ := osplit H
   have F := xCf F (JdO (a1.getD x1.toNat 0) r1 hr1)
   refine xR ?_
   exact cut_at H (xK ⟨[1], [2]⟩)
  ·obtain ⟨F, G, hq2⟩ := xH Y G hp2
   refine xR ?_
   exact cut_at H (xK ⟨[1], [2]⟩)
 ·rintro x2 H
  rw [Zp] at H
  rcases bsplit H with ⟨hp1, H⟩ | ⟨hp1, H⟩
  ·obtain ⟨F, G, hq1⟩ := xH Y G hp1
   refine xT ?_
   refine xr ?_
   exact round_at (inl_fin H hF1) (xK ⟨[1], [2]⟩)
  ·obtain ⟨F, G, hq1⟩ := xH Y G hp1
   replace H := inrO_fin H hF1
   refine xE ?_
   replace H := Option.some.inj H
   refine xr ?_
   subst H
   refine xOr ?_
   refine qDf [] ?_
   exact xO ⟨[1], [2]⟩
theorem Jeg : Callable Tryz.prog 129 ∧ (∀ g, XG g → GenOk Tryz.prog 129 g) ∧ (true = true → ∀ g, XG g → ∃ val bs ts, g.out = .ret val bs ts) :=
 ⟨call_129, Jd7, fun _ => by rintro _ ⟨_, _, _, _, _, _, _, _, _, rfl⟩; exact ⟨_, _, _, rfl⟩⟩
noncomputable def Xi : (Bool × Int) → Option ((Bool × Bool × Int) ⊕ (Bool × Bool × Bool × Int))
 | (x4, x5) => some (.inl (true, x4, x5))
noncomputable def Zk (x3 : Int) : Bool → Option ((Bool × Bool × Int) ⊕ (Bool × Bool × Bool × Int))
 | x8 => Xi (x8, IntKind.i64.wrap (x3 + 1))
noncomputable def Zj (a0 : List UInt8) (x1 : Bool) (x2 : Bool) (x3 : Int) (x12 : Int) : Bool → Option (Int ⊕ ((Bool × Bool × Int) ⊕ (Bool × Bool × Bool × Int)))
 | x13 => if x13 = true then some (.inl (IntKind.i64.wrap (x12 + 1))) else inrO (if (leI (a0.length : Int) (IntKind.i64.wrap (x12 + 1))) = true then inrO (some (x1, x2, false, x3)) else Xi (x2, IntKind.i64.wrap (x12 + 2)))
noncomputable def JaY (a0 : List UInt8) (x1 : Bool) (x2 : Bool) (x3 : Int) : Int → Option (Int ⊕ ((Bool × Bool × Int) ⊕ (Bool × Bool × Bool × Int)))
 | x12 => if (ltI (IntKind.i64.wrap (x12 + 1)) (a0.length : Int)) = true then if (0 : Int) ≤ x12 ∧ x12 ≤ (IntKind.i64.wrap (x12 + 2)) ∧ (IntKind.i64.wrap (x12 + 2)) ≤ (a0.length : Int) then Zj a0 x1 x2 x3 x12 (!eqS (List.take ((IntKind.i64.wrap (x12 + 2)).toNat - x12.toNat) (List.drop x12.toNat a0)) [42, 47]) else none else Zj a0 x1 x2 x3 x12 false
noncomputable def Xm (a0 : List UInt8) (x1 : Bool) (x2 : Bool) (x3 : Int) : Bool → Option ((Bool × Bool × Int) ⊕ (Bool × Bool × Bool × Int))
 | x11 => if x11 = true then loopO (JaY a0 x1 x2 x3) (IntKind.i64.wrap (x3 + 2)) else inrO (some (x1, x2, true, x3))
noncomputable def Xj (a0 : List UInt8) (a1 : List Int) (a2 : List UInt8) (a3 : Int) (a5 : List Token) (x1 : Bool) (x2 : Bool) (x3 : Int) : (UInt8 × Bool) → Option ((Bool × Bool × Int) ⊕ (Bool × Bool × Bool × Int))
 | (x9, x10) => if x10 = true then (JaB x3 a0 a1 a2 a3 x3 a5).bind fun r1 => Xi (x2, r1) else if (eqI (x9.toNat : Int) 47) = true then if (ltI (IntKind.i64.wrap (x3 + 1)) (a0.length : Int)) = true then if (0 : Int) ≤ (IntKind.i64.wrap (x3 + 1)) ∧ (IntKind.i64.wrap (x3 + 1)).toNat < a0.length then Xm a0 x1 x2 x3 (eqI ((a0.getD ((IntKind.i64.wrap (x3 + 1)).toNat) 0).toNat : Int) 42) else none else Xm a0 x1 x2 x3 false else Xm a0 x1 x2 x3 false
noncomputable def Vm (a0 : List UInt8) (a1 : List Int) (a2 : List UInt8) (a3 : Int) (a5 : List Token) (x1 : Bool) (x2 : Bool) (x3 : Int) : (UInt8 × Bool) → Option ((Bool × Bool × Int) ⊕ (Bool × Bool × Bool × Int))
 | (x6, x7) => if x7 = true then if x2 = true then Zk x3 true else Zk x3 (eqI (x6.toNat : Int) 10) else if (eqI (x6.toNat : Int) 47) = true then if (ltI (IntKind.i64.wrap (x3 + 1)) (a0.length : Int)) = true then if (0 : Int) ≤ (IntKind.i64.wrap (x3 + 1)) ∧ (IntKind.i64.wrap (x3 + 1)).toNat < a0.length then Xj a0 a1 a2 a3 a5 x1 x2 x3 (x6, eqI ((a0.getD ((IntKind.i64.wrap (x3 + 1)).toNat) 0).toNat : Int) 47) else none else Xj a0 a1 a2 a3 a5 x1 x2 x3 (x6, false) else Xj a0 a1 a2 a3 a5 x1 x2 x3 (x6, false)
noncomputable def JaX (a0 : List UInt8) (a1 : List Int) (a2 : List UInt8) (a3 : Int) (a5 : List Token) : (Bool × Bool × Int) → Option ((Bool × Bool × Int) ⊕ (Bool × Bool × Bool × Int))
 | (x1, x2, x3) => if (ltI x3 (a0.length : Int)) = true then if (0 : Int) ≤ x3 ∧ x3.toNat < a0.length then if (eqI ((a0.getD x3.toNat 0).toNat : Int) 32) = true then Vm a0 a1 a2 a3 a5 x1 x2 x3 ((a0.getD x3.toNat 0), true) else if (eqI ((a0.getD x3.toNat 0).toNat : Int) 9) = true then Vm a0 a1 a2 a3 a5 x1 x2 x3 ((a0.getD x3.toNat 0), true) else if (eqI ((a0.getD x3.toNat 0).toNat : Int) 10) = true then Vm a0 a1 a2 a3 a5 x1 x2 x3 ((a0.getD x3.toNat 0), true) else Vm a0 a1 a2 a3 a5 x1 x2 x3 ((a0.getD x3.toNat 0), eqI ((a0.getD x3.toNat 0).toNat : Int) 13) else none else inrO (some (x1, x2, true, x3))
noncomputable def JaO (a0 : List UInt8) (a1 : List Int) (a2 : List UInt8) (a3 : Int) (a4 : Int) (a5 : List Token) : Option (Bool × Bool × Bool × Int) :=
 loopO (JaX a0 a1 a2 a3 a5) (false, false, a4)
def XA (a0 : List UInt8) (a1 : List Int) (a2 : List UInt8) (a3 : Int) (a4 : Int) (a5 : List Token) (r : (Bool × Bool × Bool × Int)) : GI :=
 ⟨[.c (.pt 1 0)], [[.d (.v (str a0)), .d (.sl 1 (List.map dI a1)), .d (.v (str a2)), .d (.v (.int .i64 a3)), .d (.v (.int .i64 a4)), .sl 11 (List.map d_Token a5) 2]], [39], .ret (.tu [(false, [.d (.v (.bool r.1))]), (false, [.d (.v (.bool r.2.1))]), (false, [.d (.v (.bool r.2.2.1))])]) [[.d (.v (str a0)), .d (.sl 1 (List.map dI a1)), .d (.v (str a2)), .d (.v (.int .i64 a3)), .d (.v (.int .i64 r.2.2.2)), .sl 11 (List.map d_Token a5) 2]] [39]⟩
def XJ : GI → Prop := fun g => ∃ (a0 : List UInt8) (a1 : List Int) (a2 : List UInt8) (a3 : Int) (a4 : Int) (a5 : List Token) (r : (Bool × Bool × Bool × Int)), JaO a0 a1 a2 a3 a4 a5 = some r ∧ g = XA a0 a1 a2 a3 a4 a5 r
theorem Jep (a0 : List UInt8) (a1 : List Int) (a2 : List UInt8) (a3 : Int) (a4 : Int) (a5 : List Token) (r : (Bool × Bool × Bool × Int)) (H : JaO a0 a1 a2 a3 a4 a5 = some r) : XJ (XA a0 a1 a2 a3 a4 a5 r) := ⟨a0, a1, a2, a3, a4, a5, r, H, rfl⟩
theorem Jd3 : ∀ g, XJ g → GenOk Tryz.prog 121 g := by
 rintro _ ⟨a0, a1, a2, a3, a4, a5, r, H, rfl⟩
 refine xGn mixed [] [(129, true, XG)] [] trivial ⟨Jeg, trivial⟩ trivial Tryz.func121 _ ?_
 have G := True.intro
 have Y := xZ y_3 <| xZ y_9 <| xZ y_70 <| xZ y_179 <| xZ Tryz.results121 <| xZ d_Call.eq_1 <| xZ d_Token.eq_1 <| xZ d_Spliced.eq_1 <| xZ XF.eq_1 <| XA.eq_1
 dsimp only [XA]
 simp only [JaO] at H
 refine xS ?_
 refine xr ?_
 refine xr ?_
 refine w_loop (JaX a0 a1 a2 a3 a5) (fun s => [(0, .c (.pt 1 0)), (2, .c (.d (.v (.bool s.1)))), (3, .c (.d (.v (.bool s.2.1)))), (5, .c (.d (.v (str a0))))]) (fun s => [[.d (.v (str a0)), .d (.sl 1 (List.map dI a1)), .d (.v (str a2)), .d (.v (.int .i64 a3)), .d (.v (.int .i64 s.2.2)), .sl 11 (List.map d_Token a5) 2]]) [39] H (xK ⟨[1], [2]⟩) ?_
 rintro n1 ⟨x1, x2, x3⟩ o1 H hF1
 rw [JaX] at H
 refine xS ?_
 refine xr ?_
 rcases bsplit H with ⟨hp1, H⟩ | ⟨hp1, H⟩
 ·obtain ⟨F, G, hq1⟩ := xH Y G hp1
  refine xT0 ?_
  refine w_skip ?_
  refine then_normal ?_
  refine w_block ?_
  refine w_cut Xi (fun s => [(0, .c (.pt 1 0)), (3, .c (.d (.v (.bool s.1)))), (5, .c (.d (.v (str a0))))]) (fun s => [[.d (.v (str a0)), .d (.sl 1 (List.map dI a1)), .d (.v (str a2)), .d (.v (.int .i64 a3)), .d (.v (.int .i64 s.2)), .sl 11 (List.map d_Token a5) 2]]) [39] o1 ?_ ?_
  ·refine xS ?_
   obtain ⟨hg1, H⟩ := gsplit H
   refine xr0 ?_
   refine then_normal ?_
   refine w_block ?_
   refine w_cut (Vm a0 a1 a2 a3 a5 x1 x2 x3) (fun s => [(0, .c (.pt 1 0)), (2, .c (.d (.v (.bool x1)))), (3, .c (.d (.v (.bool x2)))), (5, .c (.d (.v (str a0)))), (6, .c (.d (.v (.int .u8 (s.1.toNat : Int))))), (28, .c (.d (.v (.bool s.2))))]) (fun s => [[.d (.v (str a0)), .d (.sl 1 (List.map dI a1)), .d (.v (str a2)), .d (.v (.int .i64 a3)), .d (.v (.int .i64 x3)), .sl 11 (List.map d_Token a5) 2]]) [39] o1 ?_ ?_
   ·rcases bsplit H with ⟨hp13, H⟩ | ⟨hp13, H⟩
    ·obtain ⟨F, G, hq13⟩ := xH Y G hp13
     refine xR ?_
     exact cut_at H (xK ⟨[1], [2]⟩)
    ·obtain ⟨F, G, hq13⟩ := xH Y G hp13
     rcases bsplit H with ⟨hp14, H⟩ | ⟨hp14, H⟩
     ·obtain ⟨F, G, hq14⟩ := xH F G hp14
      refine xR ?_
      exact cut_at H (xK ⟨[1], [2]⟩)
     ·obtain ⟨F, G, hq14⟩ := xH F G hp14
      rcases bsplit H with ⟨hp15, H⟩ | ⟨hp15, H⟩
      ·obtain ⟨F, G, hq15⟩ := xH F G hp15
       refine xR ?_
       exact cut_at H (xK ⟨[1], [2]⟩)
      ·obtain ⟨F, G, hq15⟩ := xH F G hp15
       refine xR ?_
       exact cut_at H (xK ⟨[1], [2]⟩)
   ·rintro ⟨x6, x7⟩ H
    rw [Vm] at H
    rcases bsplit H with ⟨hp2, H⟩ | ⟨hp2, H⟩
    ·obtain ⟨F, G, hq2⟩ := xH Y G hp2
     refine xT0 ?_
     refine w_cut (Zk x3) (fun s => [(0, .c (.pt 1 0)), (3, .c (.d (.v (.bool s)))), (5, .c (.d (.v (str a0))))]) (fun s => [[.d (.v (str a0)), .d (.sl 1 (List.map dI a1)), .d (.v (str a2)), .d (.v (.int .i64 a3)), .d (.v (.int .i64 x3)), .sl 11 (List.map d_Token a5) 2]]) [39] o1 ?_ ?_
     ·rcases bsplit H with ⟨hp3, H⟩ | ⟨hp3, H⟩
      ·obtain ⟨F, G, hq3⟩ := xH Y G hp3
       refine xR ?_
       exact cut_at H (xK ⟨[1], [2]⟩)
      ·obtain ⟨F, G, hq3⟩ := xH Y G hp3
       refine xR ?_
       exact cut_at H (xK ⟨[1], [2]⟩)
     ·rintro x8 H
      rw [Zk] at H
      refine xr ?_
      exact cut_at H (xK ⟨[1], [2]⟩)
    ·obtain ⟨F, G, hq2⟩ := xH Y G hp2
     refine xE0 ?_
     refine w_cut (Xj a0 a1 a2 a3 a5 x1 x2 x3) (fun s => [(0, .c (.pt 1 0)), (2, .c (.d (.v (.bool x1)))), (3, .c (.d (.v (.bool x2)))), (5, .c (.d (.v (str a0)))), (6, .c (.d (.v (.int .u8 (s.1.toNat : Int))))), (55, .c (.d (.v (.bool s.2))))]) (fun s => [[.d (.v (str a0)), .d (.sl 1 (List.map dI a1)), .d (.v (str a2)), .d (.v (.int .i64 a3)), .d (.v (.int .i64 x3)), .sl 11 (List.map d_Token a5) 2]]) [39] o1 ?_ ?_
     ·rcases bsplit H with ⟨hp11, H⟩ | ⟨hp11, H⟩
      ·obtain ⟨F, G, hq11⟩ := xH Y G hp11
       rcases bsplit H with ⟨hp12, H⟩ | ⟨hp12, H⟩
       ·obtain ⟨F, G, hq12⟩ := xH F G hp12
        obtain ⟨hg4, H⟩ := gsplit H
        refine xR ?_
        exact cut_at H (xK ⟨[1], [2]⟩)
       ·obtain ⟨F, G, hq12⟩ := xH F G hp12
        refine xR ?_
        exact cut_at H (xK ⟨[1], [2]⟩)
      ·obtain ⟨F, G, hq11⟩ := xH Y G hp11
       refine xR ?_
       exact cut_at H (xK ⟨[1], [2]⟩)
     ·rintro ⟨x9, x10⟩ H
      rw [Xj] at H
      rcases bsplit H with ⟨hp4, H⟩ | ⟨hp4, H⟩
      ·obtain ⟨F, G, hq4⟩ := xH Y G hp4
       refine xT ?_
       obtain ⟨r1, hr1, H⟩ := osplit H
       have F := Y
       refine xQ ?_
       refine xs 6 ?_
       refine xc ⟨[1], [2]⟩ (tabG 0 (Jei x3 a0 a1 a2 a3 x3 a5 r1 hr1)) ?_
       refine xs 3 ?_
       refine xl ?_
       refine xS ?_
       exact cut_at H (xK ⟨[1], [4]⟩)
      ·obtain ⟨F, G, hq4⟩ := xH Y G hp4
       refine xE0 ?_
       refine w_cut (Xm a0 x1 x2 x3) (fun s => [(0, .c (.pt 1 0)), (2, .c (.d (.v (.bool x1)))), (3, .c (.d (.v (.bool x2)))), (5, .c (.d (.v (str a0)))), (87, .c (.d (.v (.bool s))))]) (fun s => [[.d (.v (str a0)), .d (.sl 1 (List.map dI a1)), .d (.v (str a2)), .d (.v (.int .i64 a3)), .d (.v (.int .i64 x3)), .sl 11 (List.map d_Token a5) 2]]) [39] o1 ?_ ?_
       ·rcases bsplit H with ⟨hp9, H⟩ | ⟨hp9, H⟩
        ·obtain ⟨F, G, hq9⟩ := xH Y G hp9
         rcases bsplit H with ⟨hp10, H⟩ | ⟨hp10, H⟩
         ·obtain ⟨F, G, hq10⟩ := xH F G hp10
          obtain ⟨hg3, H⟩ := gsplit H
          refine xR ?_
          exact cut_at H (xK ⟨[1], [2]⟩)
         ·obtain ⟨F, G, hq10⟩ := xH F G hp10
          refine xR ?_
          exact cut_at H (xK ⟨[1], [2]⟩)
        ·obtain ⟨F, G, hq9⟩ := xH Y G hp9
         refine xR ?_
         exact cut_at H (xK ⟨[1], [2]⟩)
       ·rintro x11 H
        rw [Xm] at H
        rcases bsplit H with ⟨hp5, H⟩ | ⟨hp5, H⟩
        ·obtain ⟨F, G, hq5⟩ := xH Y G hp5
         refine xT ?_
         refine xr ?_
         refine w_loop (JaY a0 x1 x2 x3) (fun s => [(0, .c (.pt 1 0)), (2, .c (.d (.v (.bool x1)))), (3, .c (.d (.v (.bool x2)))), (5, .c (.d (.v (str a0)))), (7, .c (.d (.v (.int .i64 s))))]) (fun s => [[.d (.v (str a0)), .d (.sl 1 (List.map dI a1)), .d (.v (str a2)), .d (.v (.int .i64 a3)), .d (.v (.int .i64 x3)), .sl 11 (List.map d_Token a5) 2]]) [39] H (xK ⟨[1], [2]⟩) ?_
         rintro n2 x12 o2 H hF2
         rw [JaY] at H
         refine w_seq ?_
         refine w_cut (Zj a0 x1 x2 x3 x12) (fun s => [(0, .c (.pt 1 0)), (2, .c (.d (.v (.bool x1)))), (3, .c (.d (.v (.bool x2)))), (5, .c (.d (.v (str a0)))), (7, .c (.d (.v (.int .i64 x12)))), (127, .c (.d (.v (.bool s))))]) (fun s => [[.d (.v (str a0)), .d (.sl 1 (List.map dI a1)), .d (.v (str a2)), .d (.v (.int .i64 a3)), .d (.v (.int .i64 x3)), .sl 11 (List.map d_Token a5) 2]]) [39] o2 ?_ ?_
         ·rcases bsplit H with ⟨hp8, H⟩ | ⟨hp8, H⟩
          ·obtain ⟨F, G, hq8⟩ := xH Y G hp8
           obtain ⟨hg2, H⟩ := gsplit H
           refine xR ?_
           exact cut_at H (xK ⟨[1], [2]⟩)
          ·obtain ⟨F, G, hq8⟩ := xH Y G hp8
           refine xR ?_
           exact cut_at H (xK ⟨[1], [2]⟩)
         ·rintro x13 H
          rw [Zj] at H
          rcases bsplit H with ⟨hp6, H⟩ | ⟨hp6, H⟩
          ·obtain ⟨F, G, hq6⟩ := xH Y G hp6
           refine xT ?_
           refine xr ?_
           exact round_at (inl_fin H hF2) (xK ⟨[1], [2]⟩)
          ·obtain ⟨F, G, hq6⟩ := xH Y G hp6
           replace H := inrO_fin H hF2
           refine xE ?_
           refine xr ?_
           rcases bsplit H with ⟨hp7, H⟩ | ⟨hp7, H⟩
           ·obtain ⟨F, G, hq7⟩ := xH Y G hp7
            refine xT ?_
            replace H := inrO_fin H hF1
            replace H := Option.some.inj H
            refine xr ?_
            subst H
            refine xOr ?_
            refine qDf [] ?_
            exact xO ⟨[1], [2]⟩
           ·obtain ⟨F, G, hq7⟩ := xH Y G hp7
            refine xE ?_
            refine xr ?_
            exact cut_at H (xK ⟨[1], [2]⟩)
        ·obtain ⟨F, G, hq5⟩ := xH Y G hp5
         refine xE ?_
         replace H := inrO_fin H hF1
         replace H := Option.some.inj H
         refine xr ?_
         subst H
         refine xOr ?_
         refine qDf [] ?_
         exact xO ⟨[1], [2]⟩
  ·rintro ⟨x4, x5⟩ H
   rw [Xi] at H
   refine xr ?_
   exact round_at (inl_fin H hF1) (xK ⟨[1], [2]⟩)
 ·obtain ⟨F, G, hq1⟩ := xH Y G hp1
  replace H := inrO_fin H hF1
  refine xE ?_
  replace H := Option.some.inj H
  refine xr ?_
  subst H
  refine xOr ?_
  refine qDf [] ?_
  exact xO ⟨[1], [2]⟩
theorem Jec : Callable Tryz.prog 121 ∧ (∀ g, XJ g → GenOk Tryz.prog 121 g) ∧ (true = true → ∀ g, XJ g → ∃ val bs ts, g.out = .ret val bs ts) :=
 ⟨call_121, Jd3, fun _ => by rintro _ ⟨_, _, _, _, _, _, _, _, rfl⟩; exact ⟨_, _, _, rfl⟩⟩
noncomputable def JaC (a0 : Spliced) (a1 : Int) : Bool → Option Int
 | x1 => if x1 = true then some (-1) else if (0 : Int) ≤ a1 ∧ a1.toNat < a0.At.length then some (a0.At.getD a1.toNat default) else none
noncomputable def ZQ (a0 : Spliced) (a1 : Int) : Option Int :=
 if (ltI a1 0) = true then JaC a0 a1 true else JaC a0 a1 (leI (a0.At.length : Int) a1)
noncomputable def Jb1 : PF := PF.of (E2 d_Spliced dI) (fun a => ZQ a.1 a.2) dI
theorem JeY : PureOk Tryz.prog 122 Jb1 := by
 refine xF mixed [] [] trivial trivial Tryz.func122 ?_
 rintro ⟨a0, a1⟩ out H
 have G := True.intro
 have Y := xZ y_3 <| xZ y_68 <| xZ y_70 <| xZ Tryz.results122 <| d_Spliced.eq_1
 simp only [ZQ] at H
 refine xS ?_
 refine xr0 ?_
 refine then_normal ?_
 refine w_seq ?_
 refine w_cut (JaC a0 a1) (fun s => [(1, .c (.d (.v (.int .i64 a1)))), (2, .c (.pt 1 0)), (13, .c (.d (.v (.bool s))))]) (fun s => [[.d (.v (str a0.Text)), .d (.sl 1 (List.map dI a0.At))]]) [] out ?_ ?_
 ·rcases bsplit H with ⟨hp2, H⟩ | ⟨hp2, H⟩
  ·obtain ⟨F, G, hq2⟩ := xH Y G hp2
   refine xR ?_
   exact cut_at H (xK ⟨[1], []⟩)
  ·obtain ⟨F, G, hq2⟩ := xH Y G hp2
   refine xR ?_
   exact cut_at H (xK ⟨[1], []⟩)
 ·rintro x1 H
  rw [JaC] at H
  rcases bsplit H with ⟨hp1, H⟩ | ⟨hp1, H⟩
  ·obtain ⟨F, G, hq1⟩ := xH Y G hp1
   refine xT ?_
   replace H := Option.some.inj H
   refine xr ?_
   subst H
   exact xN
  ·obtain ⟨F, G, hq1⟩ := xH Y G hp1
   refine xE ?_
   obtain ⟨hg1, H⟩ := gsplit H
   have F := xZ Y (map_getD dI a0.At a1.toNat default default (by omega))
   replace H := Option.some.inj H
   refine xR ?_
   subst H
   exact xN
theorem Jcq (a0 : Spliced) (a1 : Int) (r : Int) (H : ZQ a0 a1 = some r) : PC Jb1 [d_Spliced a0, dI a1] (dI r) := PF.c (a := (a0, a1)) H
noncomputable def Vc : Bool → Option Bool
 | x1 => some x1
noncomputable def Jbc (a0 : UInt8) : Option Bool :=
 if (leI 97 (a0.toNat : Int)) = true then if (leI (a0.toNat : Int) 122) = true then Vc true else if (leI 65 (a0.toNat : Int)) = true then if (leI (a0.toNat : Int) 90) = true then Vc true else Vc (eqI (a0.toNat : Int) 95) else Vc (eqI (a0.toNat : Int) 95) else if (leI 65 (a0.toNat : Int)) = true then if (leI (a0.toNat : Int) 90) = true then Vc true else Vc (eqI (a0.toNat : Int) 95) else Vc (eqI (a0.toNat : Int) 95)
noncomputable def Jas : PF := PF.of (E1 dU) (fun a => Jbc a) dB
theorem JcN : PureOk Tryz.prog 131 Jas := by
 refine xF mixed [] [] trivial trivial Tryz.func131 ?_
 rintro a0 out H
 have G := True.intro
 have Y := Tryz.results131
 simp only [Jbc] at H
 refine xS ?_
 refine xr0 ?_
 refine then_normal ?_
 refine w_cut Vc (fun s => [(2, .c (.d (.v (.bool s))))]) (fun s => []) [] out ?_ ?_
 ·rcases bsplit H with ⟨hp1, H⟩ | ⟨hp1, H⟩
  ·obtain ⟨F, G, hq1⟩ := xH Y G hp1
   rcases bsplit H with ⟨hp2, H⟩ | ⟨hp2, H⟩
   ·obtain ⟨F, G, hq2⟩ := xH F G hp2
    refine xR ?_
    exact cut_at H (xK ⟨[], []⟩)
   ·obtain ⟨F, G, hq2⟩ := xH F G hp2
    rcases bsplit H with ⟨hp3, H⟩ | ⟨hp3, H⟩
    ·obtain ⟨F, G, hq3⟩ := xH F G hp3
     rcases bsplit H with ⟨hp4, H⟩ | ⟨hp4, H⟩
     ·obtain ⟨F, G, hq4⟩ := xH F G hp4
      refine xR ?_
      exact cut_at H (xK ⟨[], []⟩)
     ·obtain ⟨F, G, hq4⟩ := xH F G hp4
      refine xR ?_
      exact cut_at H (xK ⟨[], []⟩)
    ·obtain ⟨F, G, hq3⟩ := xH F G hp3
     refine xR ?_
     exact cut_at H (xK ⟨[], []⟩)
  ·obtain ⟨F, G, hq1⟩ := xH Y G hp1
   rcases bsplit H with ⟨hp5, H⟩ | ⟨hp5, H⟩
   ·obtain ⟨F, G, hq5⟩ := xH F G hp5
    rcases bsplit H with ⟨hp6, H⟩ | ⟨hp6, H⟩
    ·obtain ⟨F, G, hq6⟩ := xH F G hp6
     refine xR ?_
     exact cut_at H (xK ⟨[], []⟩)
    ·obtain ⟨F, G, hq6⟩ := xH F G hp6
     refine xR ?_
     exact cut_at H (xK ⟨[], []⟩)
   ·obtain ⟨F, G, hq5⟩ := xH F G hp5
    refine xR ?_
    exact cut_at H (xK ⟨[], []⟩)
 ·rintro x1 H
  rw [Vc] at H
  replace H := Option.some.inj H
  refine xS ?_
  subst H
  exact xN
theorem Jc3 (a0 : UInt8) (r : Bool) (H : Jbc a0 = some r) : PC Jas [dU a0] (dB r) := PF.c (a := a0) H
noncomputable def Jb7 : Bool → Option Bool
 | x1 => some x1
noncomputable def JaV (a0 : UInt8) : Option Bool :=
 if (leI 48 (a0.toNat : Int)) = true then Jb7 (leI (a0.toNat : Int) 57) else Jb7 false
noncomputable def Ja1 : PF := PF.of (E1 dU) (fun a => JaV a) dB
theorem JcZ : PureOk Tryz.prog 133 Ja1 := by
 refine xF mixed [] [] trivial trivial Tryz.func133 ?_
 rintro a0 out H
 have G := True.intro
 have Y := Tryz.results133
 simp only [JaV] at H
 refine xS ?_
 refine xr0 ?_
 refine then_normal ?_
 refine w_cut Jb7 (fun s => [(2, .c (.d (.v (.bool s))))]) (fun s => []) [] out ?_ ?_
 ·rcases bsplit H with ⟨hp1, H⟩ | ⟨hp1, H⟩
  ·obtain ⟨F, G, hq1⟩ := xH Y G hp1
   refine xR ?_
   exact cut_at H (xK ⟨[], []⟩)
  ·obtain ⟨F, G, hq1⟩ := xH Y G hp1
   refine xR ?_
   exact cut_at H (xK ⟨[], []⟩)
 ·rintro x1 H
  rw [Jb7] at H
  replace H := Option.some.inj H
  refine xS ?_
  subst H
  exact xN
theorem Jcv (a0 : UInt8) (r : Bool) (H : JaV a0 = some r) : PC Ja1 [dU a0] (dB r) := PF.c (a := a0) H
noncomputable def Zi : Bool → Option Bool
 | x1 => some x1
noncomputable def JaQ (a0 : UInt8) : Option Bool :=
 (Jbc a0).bind fun r1 => if r1 = true then Zi true else (JaV a0).bind fun r2 => Zi r2
noncomputable def JaW : PF := PF.of (E1 dU) (fun a => JaQ a) dB
theorem Jea : PureOk Tryz.prog 132 JaW := by
 refine xF mixed [(131, Jas), (133, Ja1)] [] ⟨⟨call_131, JcN⟩, ⟨call_133, JcZ⟩, trivial⟩ trivial Tryz.func132 ?_
 rintro a0 out H
 have G := True.intro
 have Y := Tryz.results132
 simp only [JaQ] at H
 refine xS ?_
 refine xr0 ?_
 refine then_normal ?_
 refine w_cut Zi (fun s => [(2, .c (.d (.v (.bool s))))]) (fun s => []) [] out ?_ ?_
 ·obtain ⟨r1, hr1, H⟩ := osplit H
  have F := xC Y (Jc3 a0 r1 hr1)
  rcases bsplit H with ⟨hp1, H⟩ | ⟨hp1, H⟩
  ·obtain ⟨F, G, hq1⟩ := xH F G hp1
   refine xR ?_
   exact cut_at H (xK ⟨[], []⟩)
  ·obtain ⟨F, G, hq1⟩ := xH F G hp1
   obtain ⟨r2, hr2, H⟩ := osplit H
   have F := xCf F (Jcv a0 r2 hr2)
   refine xR ?_
   exact cut_at H (xK ⟨[], []⟩)
 ·rintro x1 H
  rw [Zi] at H
  replace H := Option.some.inj H
  refine xS ?_
  subst H
  exact xN
theorem Jej (a0 : UInt8) (r : Bool) (H : JaQ a0 = some r) : PC JaW [dU a0] (dB r) := PF.c (a := a0) H
noncomputable def Xv (x1 : Int) : Bool → Option (Int ⊕ Int)
 | x2 => if x2 = true then some (.inl (IntKind.i64.wrap (x1 + 1))) else inrO (some x1)
noncomputable def ZV (a1 : List UInt8) : Int → Option (Int ⊕ Int)
 | x1 => if (ltI x1 (a1.length : Int)) = true then if (0 : Int) ≤ x1 ∧ x1.toNat < a1.length then (JaQ (a1.getD x1.toNat 0)).bind fun r1 => Xv x1 r1 else none else Xv x1 false
noncomputable def Zq (a0 : Int) (a1 : List UInt8) (a2 : List Int) (a3 : List UInt8) (a4 : Int) (a5 : Int) (a6 : List Token) : Option Int :=
 loopO (ZV a1) a0
def Vs (a0 : Int) (a1 : List UInt8) (a2 : List Int) (a3 : List UInt8) (a4 : Int) (a5 : Int) (a6 : List Token) (r : Int) : GI :=
 ⟨[.c (.pt 1 0), .c (.d (.v (.int .i64 a0))), .c (.d (.v (.func (.func 132) #[] #[])))], [[.d (.v (str a1)), .d (.sl 1 (List.map dI a2)), .d (.v (str a3)), .d (.v (.int .i64 a4)), .d (.v (.int .i64 a5)), .sl 11 (List.map d_Token a6) 2]], [39], .ret (.c (.d (.v (.int .i64 r)))) [[.d (.v (str a1)), .d (.sl 1 (List.map dI a2)), .d (.v (str a3)), .d (.v (.int .i64 a4)), .d (.v (.int .i64 a5)), .sl 11 (List.map d_Token a6) 2]] [39]⟩
def Vq : GI → Prop := fun g => ∃ (a0 : Int) (a1 : List UInt8) (a2 : List Int) (a3 : List UInt8) (a4 : Int) (a5 : Int) (a6 : List Token) (r : Int), Zq a0 a1 a2 a3 a4 a5 a6 = some r ∧ g = Vs a0 a1 a2 a3 a4 a5 a6 r
theorem JdE (a0 : Int) (a1 : List UInt8) (a2 : List Int) (a3 : List UInt8) (a4 : Int) (a5 : Int) (a6 : List Token) (r : Int) (H : Zq a0 a1 a2 a3 a4 a5 a6 = some r) : Vq (Vs a0 a1 a2 a3 a4 a5 a6 r) := ⟨a0, a1, a2, a3, a4, a5, a6, r, H, rfl⟩
theorem Jdu : ∀ g, Vq g → GenOk Tryz.prog 129 g := by
 rintro _ ⟨a0, a1, a2, a3, a4, a5, a6, r, H, rfl⟩
 refine xGn mixed [(132, JaW)] [] [] ⟨⟨call_132, Jea⟩, trivial⟩ trivial trivial Tryz.func129 _ ?_
 have G := True.intro
 have Y := xZ y_9 <| xZ y_70 <| xZ y_179 <| xZ Tryz.results129 <| xZ d_Call.eq_1 <| xZ d_Token.eq_1 <| xZ d_Spliced.eq_1 <| Vs.eq_1
 dsimp only [Vs]
 simp only [Zq] at H
 refine xS ?_
 refine xr ?_
 refine w_loop (ZV a1) (fun s => [(0, .c (.pt 1 0)), (1, .c (.d (.v (.int .i64 s)))), (2, .c (.d (.v (.func (.func 132) #[] #[]))))]) (fun s => [[.d (.v (str a1)), .d (.sl 1 (List.map dI a2)), .d (.v (str a3)), .d (.v (.int .i64 a4)), .d (.v (.int .i64 a5)), .sl 11 (List.map d_Token a6) 2]]) [39] H (xK ⟨[1], [2]⟩) ?_
 rintro n1 x1 o1 H hF1
 rw [ZV] at H
 refine w_seq ?_
 refine w_cut (Xv x1) (fun s => [(0, .c (.pt 1 0)), (1, .c (.d (.v (.int .i64 x1)))), (2, .c (.d (.v (.func (.func 132) #[] #[])))), (25, .c (.d (.v (.bool s))))]) (fun s => [[.d (.v (str a1)), .d (.sl 1 (List.map dI a2)), .d (.v (str a3)), .d (.v (.int .i64 a4)), .d (.v (.int .i64 a5)), .sl 11 (List.map d_Token a6) 2]]) [39] o1 ?_ ?_
 ·rcases bsplit H with ⟨hp2, H⟩ | ⟨hp2, H⟩
  ·obtain ⟨F, G, hq2⟩ := xH Y G hp2
   obtain ⟨hg1, H⟩ := gsplit H
   obtain ⟨r1, hr1, H⟩ := osplit H
   have F := xCf F (Jej (a1.getD x1.toNat 0) r1 hr1)
   refine xR ?_
   exact cut_at H (xK ⟨[1], [2]⟩)
  ·obtain ⟨F, G, hq2⟩ := xH Y G hp2
   refine xR ?_
   exact cut_at H (xK ⟨[1], [2]⟩)
 ·rintro x2 H
  rw [Xv] at H
  rcases bsplit H with ⟨hp1, H⟩ | ⟨hp1, H⟩
  ·obtain ⟨F, G, hq1⟩ := xH Y G hp1
   refine xT ?_
   refine xr ?_
   exact round_at (inl_fin H hF1) (xK ⟨[1], [2]⟩)
  ·obtain ⟨F, G, hq1⟩ := xH Y G hp1
   replace H := inrO_fin H hF1
   refine xE ?_
   replace H := Option.some.inj H
   refine xr ?_
   subst H
   refine xOr ?_
   refine qDf [] ?_
   exact xO ⟨[1], [2]⟩
theorem JdF : Callable Tryz.prog 129 ∧ (∀ g, Vq g → GenOk Tryz.prog 129 g) ∧ (true = true → ∀ g, Vq g → ∃ val bs ts, g.out = .ret val bs ts) :=
 ⟨call_129, Jdu, fun _ => by rintro _ ⟨_, _, _, _, _, _, _, _, _, rfl⟩; exact ⟨_, _, _, rfl⟩⟩
noncomputable def X6 (x1 : Int) : Unit → Option (Int ⊕ Int)
 | () => some (.inl (IntKind.i64.wrap (x1 + 1)))
noncomputable def VW (x1 : Int) : Bool → Option (Int ⊕ Int)
 | x4 => if x4 = true then inrO (some x1) else X6 x1 ()
noncomputable def JA (x1 : Int) : (UInt8 × Bool) → Option (Int ⊕ Int)
 | (x2, x3) => if x3 = true then X6 x1 () else if (!eqI (x2.toNat : Int) 46) = true then (Jbc x2).bind fun r1 => if (!r1) = true then (JaV x2).bind fun r2 => VW x1 (!r2) else VW x1 false else VW x1 false
noncomputable def Jay (a0 : List UInt8) (a4 : Int) : Int → Option (Int ⊕ Int)
 | x1 => if (ltI x1 (a0.length : Int)) = true then if (0 : Int) ≤ x1 ∧ x1.toNat < a0.length then if (eqI ((a0.getD x1.toNat 0).toNat : Int) 43) = true then if (ltI a4 x1) = true then if (0 : Int) ≤ (IntKind.i64.wrap (x1 - 1)) ∧ (IntKind.i64.wrap (x1 - 1)).toNat < a0.length then if (eqI ((a0.getD ((IntKind.i64.wrap (x1 - 1)).toNat) 0).toNat : Int) 101) = true then JA x1 ((a0.getD x1.toNat 0), true) else if (0 : Int) ≤ (IntKind.i64.wrap (x1 - 1)) ∧ (IntKind.i64.wrap (x1 - 1)).toNat < a0.length then JA x1 ((a0.getD x1.toNat 0), eqI ((a0.getD ((IntKind.i64.wrap (x1 - 1)).toNat) 0).toNat : Int) 69) else none else none else JA x1 ((a0.getD x1.toNat 0), false) else if (eqI ((a0.getD x1.toNat 0).toNat : Int) 45) = true then if (ltI a4 x1) = true then if (0 : Int) ≤ (IntKind.i64.wrap (x1 - 1)) ∧ (IntKind.i64.wrap (x1 - 1)).toNat < a0.length then if (eqI ((a0.getD ((IntKind.i64.wrap (x1 - 1)).toNat) 0).toNat : Int) 101) = true then JA x1 ((a0.getD x1.toNat 0), true) else if (0 : Int) ≤ (IntKind.i64.wrap (x1 - 1)) ∧ (IntKind.i64.wrap (x1 - 1)).toNat < a0.length then JA x1 ((a0.getD x1.toNat 0), eqI ((a0.getD ((IntKind.i64.wrap (x1 - 1)).toNat) 0).toNat : Int) 69) else none else none else JA x1 ((a0.getD x1.toNat 0), false) else JA x1 ((a0.getD x1.toNat 0), false) else none else inrO (some x1)
noncomputable def Jab (a0 : List UInt8) (a1 : List Int) (a2 : List UInt8) (a3 : Int) (a4 : Int) (a5 : List Token) : Option Int :=
 loopO (Jay a0 a4) a4
def Xk (a0 : List UInt8) (a1 : List Int) (a2 : List UInt8) (a3 : Int) (a4 : Int) (a5 : List Token) (r : Int) : GI :=
 ⟨[.c (.pt 1 0)], [[.d (.v (str a0)), .d (.sl 1 (List.map dI a1)), .d (.v (str a2)), .d (.v (.int .i64 a3)), .d (.v (.int .i64 a4)), .sl 11 (List.map d_Token a5) 2]], [39], .ret (.c (.d (.v (.int .i64 r)))) [[.d (.v (str a0)), .d (.sl 1 (List.map dI a1)), .d (.v (str a2)), .d (.v (.int .i64 a3)), .d (.v (.int .i64 a4)), .sl 11 (List.map d_Token a5) 2]] [39]⟩
def Xh : GI → Prop := fun g => ∃ (a0 : List UInt8) (a1 : List Int) (a2 : List UInt8) (a3 : Int) (a4 : Int) (a5 : List Token) (r : Int), Jab a0 a1 a2 a3 a4 a5 = some r ∧ g = Xk a0 a1 a2 a3 a4 a5 r
theorem Jd1 (a0 : List UInt8) (a1 : List Int) (a2 : List UInt8) (a3 : Int) (a4 : Int) (a5 : List Token) (r : Int) (H : Jab a0 a1 a2 a3 a4 a5 = some r) : Xh (Xk a0 a1 a2 a3 a4 a5 r) := ⟨a0, a1, a2, a3, a4, a5, r, H, rfl⟩
theorem JdN : ∀ g, Xh g → GenOk Tryz.prog 134 g := by
 rintro _ ⟨a0, a1, a2, a3, a4, a5, r, H, rfl⟩
 refine xGn mixed [(131, Jas), (133, Ja1)] [] [] ⟨⟨call_131, JcN⟩, ⟨call_133, JcZ⟩, trivial⟩ trivial trivial Tryz.func134 _ ?_
 have G := True.intro
 have Y := xZ y_3 <| xZ y_9 <| xZ y_70 <| xZ y_179 <| xZ Tryz.results134 <| xZ d_Call.eq_1 <| xZ d_Token.eq_1 <| xZ d_Spliced.eq_1 <| Xk.eq_1
 dsimp only [Xk]
 simp only [Jab] at H
 refine xS ?_
 refine xr ?_
 refine xr ?_
 refine xr ?_
 refine w_loop (Jay a0 a4) (fun s => [(0, .c (.pt 1 0)), (3, .c (.d (.v (str a0)))), (4, .c (.d (.v (.int .i64 s))))]) (fun s => [[.d (.v (str a0)), .d (.sl 1 (List.map dI a1)), .d (.v (str a2)), .d (.v (.int .i64 a3)), .d (.v (.int .i64 a4)), .sl 11 (List.map d_Token a5) 2]]) [39] H (xK ⟨[1], [2]⟩) ?_
 rintro n1 x1 o1 H hF1
 rw [Jay] at H
 refine xS ?_
 refine xr ?_
 rcases bsplit H with ⟨hp1, H⟩ | ⟨hp1, H⟩
 ·obtain ⟨F, G, hq1⟩ := xH Y G hp1
  refine xT0 ?_
  refine w_skip ?_
  refine then_normal ?_
  refine w_block ?_
  refine w_cut (X6 x1) (fun s => [(0, .c (.pt 1 0)), (3, .c (.d (.v (str a0)))), (4, .c (.d (.v (.int .i64 x1))))]) (fun s => [[.d (.v (str a0)), .d (.sl 1 (List.map dI a1)), .d (.v (str a2)), .d (.v (.int .i64 a3)), .d (.v (.int .i64 a4)), .sl 11 (List.map d_Token a5) 2]]) [39] o1 ?_ ?_
  ·refine xS ?_
   obtain ⟨hg1, H⟩ := gsplit H
   refine xr0 ?_
   refine then_normal ?_
   refine w_block ?_
   refine w_cut (JA x1) (fun s => [(0, .c (.pt 1 0)), (3, .c (.d (.v (str a0)))), (4, .c (.d (.v (.int .i64 x1)))), (5, .c (.d (.v (.int .u8 (s.1.toNat : Int))))), (22, .c (.d (.v (.bool s.2))))]) (fun s => [[.d (.v (str a0)), .d (.sl 1 (List.map dI a1)), .d (.v (str a2)), .d (.v (.int .i64 a3)), .d (.v (.int .i64 a4)), .sl 11 (List.map d_Token a5) 2]]) [39] o1 ?_ ?_
   ·rcases bsplit H with ⟨hp6, H⟩ | ⟨hp6, H⟩
    ·obtain ⟨F, G, hq6⟩ := xH Y G hp6
     rcases bsplit H with ⟨hp7, H⟩ | ⟨hp7, H⟩
     ·obtain ⟨F, G, hq7⟩ := xH F G hp7
      obtain ⟨hg2, H⟩ := gsplit H
      rcases bsplit H with ⟨hp8, H⟩ | ⟨hp8, H⟩
      ·obtain ⟨F, G, hq8⟩ := xH F G hp8
       refine xR ?_
       exact cut_at H (xK ⟨[1], [2]⟩)
      ·obtain ⟨F, G, hq8⟩ := xH F G hp8
       obtain ⟨hg3, H⟩ := gsplit H
       refine xR ?_
       exact cut_at H (xK ⟨[1], [2]⟩)
     ·obtain ⟨F, G, hq7⟩ := xH F G hp7
      refine xR ?_
      exact cut_at H (xK ⟨[1], [2]⟩)
    ·obtain ⟨F, G, hq6⟩ := xH Y G hp6
     rcases bsplit H with ⟨hp9, H⟩ | ⟨hp9, H⟩
     ·obtain ⟨F, G, hq9⟩ := xH F G hp9
      rcases bsplit H with ⟨hp10, H⟩ | ⟨hp10, H⟩
      ·obtain ⟨F, G, hq10⟩ := xH F G hp10
       obtain ⟨hg4, H⟩ := gsplit H
       rcases bsplit H with ⟨hp11, H⟩ | ⟨hp11, H⟩
       ·obtain ⟨F, G, hq11⟩ := xH F G hp11
        refine xR ?_
        exact cut_at H (xK ⟨[1], [2]⟩)
       ·obtain ⟨F, G, hq11⟩ := xH F G hp11
        obtain ⟨hg5, H⟩ := gsplit H
        refine xR ?_
        exact cut_at H (xK ⟨[1], [2]⟩)
      ·obtain ⟨F, G, hq10⟩ := xH F G hp10
       refine xR ?_
       exact cut_at H (xK ⟨[1], [2]⟩)
     ·obtain ⟨F, G, hq9⟩ := xH F G hp9
      refine xR ?_
      exact cut_at H (xK ⟨[1], [2]⟩)
   ·rintro ⟨x2, x3⟩ H
    rw [JA] at H
    rcases bsplit H with ⟨hp2, H⟩ | ⟨hp2, H⟩
    ·obtain ⟨F, G, hq2⟩ := xH Y G hp2
     refine xT ?_
     exact cut_at H (xK ⟨[1], [2]⟩)
    ·obtain ⟨F, G, hq2⟩ := xH Y G hp2
     refine xE0 ?_
     refine w_cut (VW x1) (fun s => [(0, .c (.pt 1 0)), (3, .c (.d (.v (str a0)))), (4, .c (.d (.v (.int .i64 x1)))), (51, .c (.d (.v (.bool s))))]) (fun s => [[.d (.v (str a0)), .d (.sl 1 (List.map dI a1)), .d (.v (str a2)), .d (.v (.int .i64 a3)), .d (.v (.int .i64 a4)), .sl 11 (List.map d_Token a5) 2]]) [39] o1 ?_ ?_
     ·rcases bsplit H with ⟨hp4, H⟩ | ⟨hp4, H⟩
      ·obtain ⟨F, G, hq4⟩ := xH Y G hp4
       obtain ⟨r1, hr1, H⟩ := osplit H
       have F := xCf F (Jc3 x2 r1 hr1)
       rcases bsplit H with ⟨hp5, H⟩ | ⟨hp5, H⟩
       ·obtain ⟨F, G, hq5⟩ := xH F G hp5
        obtain ⟨r2, hr2, H⟩ := osplit H
        have F := xCf F (Jcv x2 r2 hr2)
        refine xR ?_
        exact cut_at H (xK ⟨[1], [2]⟩)
       ·obtain ⟨F, G, hq5⟩ := xH F G hp5
        refine xR ?_
        exact cut_at H (xK ⟨[1], [2]⟩)
      ·obtain ⟨F, G, hq4⟩ := xH Y G hp4
       refine xR ?_
       exact cut_at H (xK ⟨[1], [2]⟩)
     ·rintro x4 H
      rw [VW] at H
      rcases bsplit H with ⟨hp3, H⟩ | ⟨hp3, H⟩
      ·obtain ⟨F, G, hq3⟩ := xH Y G hp3
       refine xT ?_
       replace H := inrO_fin H hF1
       replace H := Option.some.inj H
       refine xr ?_
       subst H
       refine xOr ?_
       refine qDf [] ?_
       exact xO ⟨[1], [2]⟩
      ·obtain ⟨F, G, hq3⟩ := xH Y G hp3
       refine xE ?_
       exact cut_at H (xK ⟨[1], [2]⟩)
  ·rintro ⟨⟩ H
   rw [X6] at H
   refine xr ?_
   exact round_at (inl_fin H hF1) (xK ⟨[1], [2]⟩)
 ·obtain ⟨F, G, hq1⟩ := xH Y G hp1
  replace H := inrO_fin H hF1
  refine xE ?_
  replace H := Option.some.inj H
  refine xr ?_
  subst H
  refine xOr ?_
  refine qDf [] ?_
  exact xO ⟨[1], [2]⟩
theorem Jd9 : Callable Tryz.prog 134 ∧ (∀ g, Xh g → GenOk Tryz.prog 134 g) ∧ (true = true → ∀ g, Xh g → ∃ val bs ts, g.out = .ret val bs ts) :=
 ⟨call_134, JdN, fun _ => by rintro _ ⟨_, _, _, _, _, _, _, _, rfl⟩; exact ⟨_, _, _, rfl⟩⟩
noncomputable def VU : (UInt8 × Int) → Option ((UInt8 × Int) ⊕ Int)
 | (x5, x6) => some (.inl (x5, IntKind.i64.wrap (x6 + 1)))
noncomputable def X7 (x2 : Int) : (UInt8 × Bool) → Option ((UInt8 × Int) ⊕ Int)
 | (x7, x8) => if x8 = true then VU (x7, IntKind.i64.wrap (x2 + 1)) else VU (x7, x2)
noncomputable def X8 (a1 : List UInt8) (x2 : Int) : (UInt8 × Bool) → Option ((UInt8 × Int) ⊕ Int)
 | (x3, x4) => if x4 = true then if (0 : Int) ≤ x2 ∧ x2.toNat < a1.length then if (eqI ((a1.getD x2.toNat 0).toNat : Int) (x3.toNat : Int)) = true then inrO (some (IntKind.i64.wrap (x2 + 1))) else if (eqI ((a1.getD x2.toNat 0).toNat : Int) 92) = true then if (ltI (IntKind.i64.wrap (x2 + 1)) (a1.length : Int)) = true then if (0 : Int) ≤ (IntKind.i64.wrap (x2 + 1)) ∧ (IntKind.i64.wrap (x2 + 1)).toNat < a1.length then X7 x2 (x3, !eqI ((a1.getD ((IntKind.i64.wrap (x2 + 1)).toNat) 0).toNat : Int) 10) else none else X7 x2 (x3, false) else VU (x3, x2) else none else inrO (some (-1))
noncomputable def Jax (a1 : List UInt8) : (UInt8 × Int) → Option ((UInt8 × Int) ⊕ Int)
 | (x1, x2) => if (ltI x2 (a1.length : Int)) = true then if (0 : Int) ≤ x2 ∧ x2.toNat < a1.length then X8 a1 x2 (x1, !eqI ((a1.getD x2.toNat 0).toNat : Int) 10) else none else X8 a1 x2 (x1, false)
noncomputable def X1 (a0 : UInt8) (a1 : List UInt8) (a2 : List Int) (a3 : List UInt8) (a4 : Int) (a5 : Int) (a6 : List Token) : Option Int :=
 loopO (Jax a1) (a0, IntKind.i64.wrap (a5 + 1))
def Xe (a0 : UInt8) (a1 : List UInt8) (a2 : List Int) (a3 : List UInt8) (a4 : Int) (a5 : Int) (a6 : List Token) (r : Int) : GI :=
 ⟨[.c (.pt 1 0), .c (.d (.v (.int .u8 (a0.toNat : Int))))], [[.d (.v (str a1)), .d (.sl 1 (List.map dI a2)), .d (.v (str a3)), .d (.v (.int .i64 a4)), .d (.v (.int .i64 a5)), .sl 11 (List.map d_Token a6) 2]], [39], .ret (.c (.d (.v (.int .i64 r)))) [[.d (.v (str a1)), .d (.sl 1 (List.map dI a2)), .d (.v (str a3)), .d (.v (.int .i64 a4)), .d (.v (.int .i64 a5)), .sl 11 (List.map d_Token a6) 2]] [39]⟩
def Xg : GI → Prop := fun g => ∃ (a0 : UInt8) (a1 : List UInt8) (a2 : List Int) (a3 : List UInt8) (a4 : Int) (a5 : Int) (a6 : List Token) (r : Int), X1 a0 a1 a2 a3 a4 a5 a6 = some r ∧ g = Xe a0 a1 a2 a3 a4 a5 a6 r
theorem JcD (a0 : UInt8) (a1 : List UInt8) (a2 : List Int) (a3 : List UInt8) (a4 : Int) (a5 : Int) (a6 : List Token) (r : Int) (H : X1 a0 a1 a2 a3 a4 a5 a6 = some r) : Xg (Xe a0 a1 a2 a3 a4 a5 a6 r) := ⟨a0, a1, a2, a3, a4, a5, a6, r, H, rfl⟩
theorem JdR : ∀ g, Xg g → GenOk Tryz.prog 135 g := by
 rintro _ ⟨a0, a1, a2, a3, a4, a5, a6, r, H, rfl⟩
 refine xGn mixed [] [] [] trivial trivial trivial Tryz.func135 _ ?_
 have G := True.intro
 have Y := xZ y_3 <| xZ y_9 <| xZ y_70 <| xZ y_179 <| xZ Tryz.results135 <| xZ d_Call.eq_1 <| xZ d_Token.eq_1 <| xZ d_Spliced.eq_1 <| Xe.eq_1
 dsimp only [Xe]
 simp only [X1] at H
 refine xS ?_
 refine xr ?_
 refine xr ?_
 refine xr ?_
 refine w_loop (Jax a1) (fun s => [(1, .c (.d (.v (.int .u8 (s.1.toNat : Int))))), (5, .c (.d (.v (str a1)))), (6, .c (.d (.v (.int .i64 s.2))))]) (fun s => [[.d (.v (str a1)), .d (.sl 1 (List.map dI a2)), .d (.v (str a3)), .d (.v (.int .i64 a4)), .d (.v (.int .i64 a5)), .sl 11 (List.map d_Token a6) 2]]) [39] H (xK ⟨[1], [2]⟩) ?_
 rintro n1 ⟨x1, x2⟩ o1 H hF1
 rw [Jax] at H
 refine w_seq ?_
 refine w_cut (X8 a1 x2) (fun s => [(1, .c (.d (.v (.int .u8 (s.1.toNat : Int))))), (5, .c (.d (.v (str a1)))), (6, .c (.d (.v (.int .i64 x2)))), (26, .c (.d (.v (.bool s.2))))]) (fun s => [[.d (.v (str a1)), .d (.sl 1 (List.map dI a2)), .d (.v (str a3)), .d (.v (.int .i64 a4)), .d (.v (.int .i64 a5)), .sl 11 (List.map d_Token a6) 2]]) [39] o1 ?_ ?_
 ·rcases bsplit H with ⟨hp6, H⟩ | ⟨hp6, H⟩
  ·obtain ⟨F, G, hq6⟩ := xH Y G hp6
   obtain ⟨hg3, H⟩ := gsplit H
   refine xR ?_
   exact cut_at H (xK ⟨[1], [2]⟩)
  ·obtain ⟨F, G, hq6⟩ := xH Y G hp6
   refine xR ?_
   exact cut_at H (xK ⟨[1], [2]⟩)
 ·rintro ⟨x3, x4⟩ H
  rw [X8] at H
  rcases bsplit H with ⟨hp1, H⟩ | ⟨hp1, H⟩
  ·obtain ⟨F, G, hq1⟩ := xH Y G hp1
   refine xT0 ?_
   refine w_skip ?_
   refine then_normal ?_
   refine w_cut VU (fun s => [(1, .c (.d (.v (.int .u8 (s.1.toNat : Int))))), (5, .c (.d (.v (str a1)))), (6, .c (.d (.v (.int .i64 s.2))))]) (fun s => [[.d (.v (str a1)), .d (.sl 1 (List.map dI a2)), .d (.v (str a3)), .d (.v (.int .i64 a4)), .d (.v (.int .i64 a5)), .sl 11 (List.map d_Token a6) 2]]) [39] o1 ?_ ?_
   ·refine xS ?_
    obtain ⟨hg1, H⟩ := gsplit H
    refine xr ?_
    refine xr ?_
    rcases bsplit H with ⟨hp2, H⟩ | ⟨hp2, H⟩
    ·obtain ⟨F, G, hq2⟩ := xH Y G hp2
     refine xT ?_
     replace H := inrO_fin H hF1
     replace H := Option.some.inj H
     refine xr ?_
     subst H
     refine xOr ?_
     refine qDf [] ?_
     exact xO ⟨[1], [2]⟩
    ·obtain ⟨F, G, hq2⟩ := xH Y G hp2
     refine xE ?_
     refine xr ?_
     rcases bsplit H with ⟨hp3, H⟩ | ⟨hp3, H⟩
     ·obtain ⟨F, G, hq3⟩ := xH Y G hp3
      refine xT0 ?_
      refine w_cut (X7 x2) (fun s => [(1, .c (.d (.v (.int .u8 (s.1.toNat : Int))))), (5, .c (.d (.v (str a1)))), (6, .c (.d (.v (.int .i64 x2)))), (50, .c (.d (.v (.bool s.2))))]) (fun s => [[.d (.v (str a1)), .d (.sl 1 (List.map dI a2)), .d (.v (str a3)), .d (.v (.int .i64 a4)), .d (.v (.int .i64 a5)), .sl 11 (List.map d_Token a6) 2]]) [39] o1 ?_ ?_
      ·rcases bsplit H with ⟨hp5, H⟩ | ⟨hp5, H⟩
       ·obtain ⟨F, G, hq5⟩ := xH Y G hp5
        obtain ⟨hg2, H⟩ := gsplit H
        refine xR ?_
        exact cut_at H (xK ⟨[1], [2]⟩)
       ·obtain ⟨F, G, hq5⟩ := xH Y G hp5
        refine xR ?_
        exact cut_at H (xK ⟨[1], [2]⟩)
      ·rintro ⟨x7, x8⟩ H
       rw [X7] at H
       rcases bsplit H with ⟨hp4, H⟩ | ⟨hp4, H⟩
       ·obtain ⟨F, G, hq4⟩ := xH Y G hp4
        refine xT ?_
        refine xr ?_
        exact cut_at H (xK ⟨[1], [2]⟩)
       ·obtain ⟨F, G, hq4⟩ := xH Y G hp4
        refine xE ?_
        exact cut_at H (xK ⟨[1], [2]⟩)
     ·obtain ⟨F, G, hq3⟩ := xH Y G hp3
      refine xE ?_
      exact cut_at H (xK ⟨[1], [2]⟩)
   ·rintro ⟨x5, x6⟩ H
    rw [VU] at H
    refine xr ?_
    exact round_at (inl_fin H hF1) (xK ⟨[1], [2]⟩)
  ·obtain ⟨F, G, hq1⟩ := xH Y G hp1
   replace H := inrO_fin H hF1
   refine xE ?_
   replace H := Option.some.inj H
   refine xr ?_
   subst H
   refine xOr ?_
   refine qDf [] ?_
   exact xO ⟨[1], [2]⟩
theorem Jd6 : Callable Tryz.prog 135 ∧ (∀ g, Xg g → GenOk Tryz.prog 135 g) ∧ (true = true → ∀ g, Xg g → ∃ val bs ts, g.out = .ret val bs ts) :=
 ⟨call_135, JdR, fun _ => by rintro _ ⟨_, _, _, _, _, _, _, _, _, rfl⟩; exact ⟨_, _, _, rfl⟩⟩
noncomputable def X9 : Bool → Option Bool
 | x1 => some x1
noncomputable def Jan (a0 : UInt8) : Option Bool :=
 if (!eqI (a0.toNat : Int) 62) = true then X9 (!eqI (a0.toNat : Int) 10) else X9 false
noncomputable def Jaz : PF := PF.of (E1 dU) (fun a => Jan a) dB
theorem JdU : PureOk Tryz.prog 138 Jaz := by
 refine xF mixed [] [] trivial trivial Tryz.func138 ?_
 rintro a0 out H
 have G := True.intro
 have Y := Tryz.results138
 simp only [Jan] at H
 refine xS ?_
 refine xr0 ?_
 refine then_normal ?_
 refine w_cut X9 (fun s => [(2, .c (.d (.v (.bool s))))]) (fun s => []) [] out ?_ ?_
 ·rcases bsplit H with ⟨hp1, H⟩ | ⟨hp1, H⟩
  ·obtain ⟨F, G, hq1⟩ := xH Y G hp1
   refine xR ?_
   exact cut_at H (xK ⟨[], []⟩)
  ·obtain ⟨F, G, hq1⟩ := xH Y G hp1
   refine xR ?_
   exact cut_at H (xK ⟨[], []⟩)
 ·rintro x1 H
  rw [X9] at H
  replace H := Option.some.inj H
  refine xS ?_
  subst H
  exact xN
theorem Jd2 (a0 : UInt8) (r : Bool) (H : Jan a0 = some r) : PC Jaz [dU a0] (dB r) := PF.c (a := a0) H
noncomputable def Xr (x1 : Int) : Bool → Option (Int ⊕ Int)
 | x2 => if x2 = true then some (.inl (IntKind.i64.wrap (x1 + 1))) else inrO (some x1)
noncomputable def ZJ (a1 : List UInt8) : Int → Option (Int ⊕ Int)
 | x1 => if (ltI x1 (a1.length : Int)) = true then if (0 : Int) ≤ x1 ∧ x1.toNat < a1.length then (Jan (a1.getD x1.toNat 0)).bind fun r1 => Xr x1 r1 else none else Xr x1 false
noncomputable def ZA (a0 : Int) (a1 : List UInt8) (a2 : List Int) (a3 : List UInt8) (a4 : Int) (a5 : Int) (a6 : List Token) : Option Int :=
 loopO (ZJ a1) a0
def VC (a0 : Int) (a1 : List UInt8) (a2 : List Int) (a3 : List UInt8) (a4 : Int) (a5 : Int) (a6 : List Token) (r : Int) : GI :=
 ⟨[.c (.pt 1 0), .c (.d (.v (.int .i64 a0))), .c (.d (.v (.func (.func 138) #[] #[])))], [[.d (.v (str a1)), .d (.sl 1 (List.map dI a2)), .d (.v (str a3)), .d (.v (.int .i64 a4)), .d (.v (.int .i64 a5)), .sl 11 (List.map d_Token a6) 2]], [39], .ret (.c (.d (.v (.int .i64 r)))) [[.d (.v (str a1)), .d (.sl 1 (List.map dI a2)), .d (.v (str a3)), .d (.v (.int .i64 a4)), .d (.v (.int .i64 a5)), .sl 11 (List.map d_Token a6) 2]] [39]⟩
def Vv : GI → Prop := fun g => ∃ (a0 : Int) (a1 : List UInt8) (a2 : List Int) (a3 : List UInt8) (a4 : Int) (a5 : Int) (a6 : List Token) (r : Int), ZA a0 a1 a2 a3 a4 a5 a6 = some r ∧ g = VC a0 a1 a2 a3 a4 a5 a6 r
theorem JdB (a0 : Int) (a1 : List UInt8) (a2 : List Int) (a3 : List UInt8) (a4 : Int) (a5 : Int) (a6 : List Token) (r : Int) (H : ZA a0 a1 a2 a3 a4 a5 a6 = some r) : Vv (VC a0 a1 a2 a3 a4 a5 a6 r) := ⟨a0, a1, a2, a3, a4, a5, a6, r, H, rfl⟩
theorem Jdy : ∀ g, Vv g → GenOk Tryz.prog 129 g := by
 rintro _ ⟨a0, a1, a2, a3, a4, a5, a6, r, H, rfl⟩
 refine xGn mixed [(138, Jaz)] [] [] ⟨⟨call_138, JdU⟩, trivial⟩ trivial trivial Tryz.func129 _ ?_
 have G := True.intro
 have Y := xZ y_9 <| xZ y_70 <| xZ y_179 <| xZ Tryz.results129 <| xZ d_Call.eq_1 <| xZ d_Token.eq_1 <| xZ d_Spliced.eq_1 <| VC.eq_1
 dsimp only [VC]
 simp only [ZA] at H
 refine xS ?_
 refine xr ?_
 refine w_loop (ZJ a1) (fun s => [(0, .c (.pt 1 0)), (1, .c (.d (.v (.int .i64 s)))), (2, .c (.d (.v (.func (.func 138) #[] #[]))))]) (fun s => [[.d (.v (str a1)), .d (.sl 1 (List.map dI a2)), .d (.v (str a3)), .d (.v (.int .i64 a4)), .d (.v (.int .i64 a5)), .sl 11 (List.map d_Token a6) 2]]) [39] H (xK ⟨[1], [2]⟩) ?_
 rintro n1 x1 o1 H hF1
 rw [ZJ] at H
 refine w_seq ?_
 refine w_cut (Xr x1) (fun s => [(0, .c (.pt 1 0)), (1, .c (.d (.v (.int .i64 x1)))), (2, .c (.d (.v (.func (.func 138) #[] #[])))), (25, .c (.d (.v (.bool s))))]) (fun s => [[.d (.v (str a1)), .d (.sl 1 (List.map dI a2)), .d (.v (str a3)), .d (.v (.int .i64 a4)), .d (.v (.int .i64 a5)), .sl 11 (List.map d_Token a6) 2]]) [39] o1 ?_ ?_
 ·rcases bsplit H with ⟨hp2, H⟩ | ⟨hp2, H⟩
  ·obtain ⟨F, G, hq2⟩ := xH Y G hp2
   obtain ⟨hg1, H⟩ := gsplit H
   obtain ⟨r1, hr1, H⟩ := osplit H
   have F := xCf F (Jd2 (a1.getD x1.toNat 0) r1 hr1)
   refine xR ?_
   exact cut_at H (xK ⟨[1], [2]⟩)
  ·obtain ⟨F, G, hq2⟩ := xH Y G hp2
   refine xR ?_
   exact cut_at H (xK ⟨[1], [2]⟩)
 ·rintro x2 H
  rw [Xr] at H
  rcases bsplit H with ⟨hp1, H⟩ | ⟨hp1, H⟩
  ·obtain ⟨F, G, hq1⟩ := xH Y G hp1
   refine xT ?_
   refine xr ?_
   exact round_at (inl_fin H hF1) (xK ⟨[1], [2]⟩)
  ·obtain ⟨F, G, hq1⟩ := xH Y G hp1
   replace H := inrO_fin H hF1
   refine xE ?_
   replace H := Option.some.inj H
   refine xr ?_
   subst H
   refine xOr ?_
   refine qDf [] ?_
   exact xO ⟨[1], [2]⟩
theorem JdG : Callable Tryz.prog 129 ∧ (∀ g, Vv g → GenOk Tryz.prog 129 g) ∧ (true = true → ∀ g, Vv g → ∃ val bs ts, g.out = .ret val bs ts) :=
 ⟨call_129, Jdy, fun _ => by rintro _ ⟨_, _, _, _, _, _, _, _, _, rfl⟩; exact ⟨_, _, _, rfl⟩⟩
noncomputable def ZG (r1 : Int) : Bool → Option Int
 | x2 => if x2 = true then some (IntKind.i64.wrap (r1 + 1)) else some (-1)
noncomputable def KT (a0 : List UInt8) (a1 : List Int) (a2 : List UInt8) (a3 : Int) (a4 : Int) (a5 : List Token) : Bool → Option Int
 | x1 => if x1 = true then some (-1) else (ZA (IntKind.i64.wrap (a4 + 1)) a0 a1 a2 a3 a4 a5).bind fun r1 => if (ltI r1 (a0.length : Int)) = true then if (0 : Int) ≤ r1 ∧ r1.toNat < a0.length then ZG r1 (eqI ((a0.getD r1.toNat 0).toNat : Int) 62) else none else ZG r1 false
noncomputable def ZP (a0 : List UInt8) (a1 : List Int) (a2 : List UInt8) (a3 : Int) (a4 : Int) (a5 : List Token) : Option Int :=
 if (ltI (a5.length : Int) 2) = true then KT a0 a1 a2 a3 a4 a5 true else if (0 : Int) ≤ (IntKind.i64.wrap ((a5.length : Int) - 1)) ∧ (IntKind.i64.wrap ((a5.length : Int) - 1)).toNat < a5.length then if (!eqS ((a5.getD ((IntKind.i64.wrap ((a5.length : Int) - 1)).toNat) default).Text) [105, 110, 99, 108, 117, 100, 101]) = true then KT a0 a1 a2 a3 a4 a5 true else if (0 : Int) ≤ (IntKind.i64.wrap ((a5.length : Int) - 1)) ∧ (IntKind.i64.wrap ((a5.length : Int) - 1)).toNat < a5.length then if ((a5.getD ((IntKind.i64.wrap ((a5.length : Int) - 1)).toNat) default).First) = true then KT a0 a1 a2 a3 a4 a5 true else if (0 : Int) ≤ (IntKind.i64.wrap ((a5.length : Int) - 2)) ∧ (IntKind.i64.wrap ((a5.length : Int) - 2)).toNat < a5.length then if (!((a5.getD ((IntKind.i64.wrap ((a5.length : Int) - 2)).toNat) default).First)) = true then KT a0 a1 a2 a3 a4 a5 true else if (0 : Int) ≤ (IntKind.i64.wrap ((a5.length : Int) - 2)) ∧ (IntKind.i64.wrap ((a5.length : Int) - 2)).toNat < a5.length then KT a0 a1 a2 a3 a4 a5 (!eqS ((a5.getD ((IntKind.i64.wrap ((a5.length : Int) - 2)).toNat) default).Text) [35]) else none else none else none else none
def XT (a0 : List UInt8) (a1 : List Int) (a2 : List UInt8) (a3 : Int) (a4 : Int) (a5 : List Token) (r : Int) : GI :=
 ⟨[.c (.pt 1 0)], [[.d (.v (str a0)), .d (.sl 1 (List.map dI a1)), .d (.v (str a2)), .d (.v (.int .i64 a3)), .d (.v (.int .i64 a4)), .sl 11 (List.map d_Token a5) 2]], [39], .ret (.c (.d (.v (.int .i64 r)))) [[.d (.v (str a0)), .d (.sl 1 (List.map dI a1)), .d (.v (str a2)), .d (.v (.int .i64 a3)), .d (.v (.int .i64 a4)), .sl 11 (List.map d_Token a5) 2]] [39]⟩
def X0 : GI → Prop := fun g => ∃ (a0 : List UInt8) (a1 : List Int) (a2 : List UInt8) (a3 : Int) (a4 : Int) (a5 : List Token) (r : Int), ZP a0 a1 a2 a3 a4 a5 = some r ∧ g = XT a0 a1 a2 a3 a4 a5 r
theorem Jc5 (a0 : List UInt8) (a1 : List Int) (a2 : List UInt8) (a3 : Int) (a4 : Int) (a5 : List Token) (r : Int) (H : ZP a0 a1 a2 a3 a4 a5 = some r) : X0 (XT a0 a1 a2 a3 a4 a5 r) := ⟨a0, a1, a2, a3, a4, a5, r, H, rfl⟩
theorem Jed : ∀ g, X0 g → GenOk Tryz.prog 136 g := by
 rintro _ ⟨a0, a1, a2, a3, a4, a5, r, H, rfl⟩
 refine xGn mixed [] [(129, true, Vv)] [] trivial ⟨JdG, trivial⟩ trivial Tryz.func136 _ ?_
 have G := True.intro
 have Y := xZ y_3 <| xZ y_4 <| xZ y_9 <| xZ y_25 <| xZ y_39 <| xZ y_70 <| xZ y_179 <| xZ Tryz.results136 <| xZ d_Call.eq_1 <| xZ d_Token.eq_1 <| xZ d_Spliced.eq_1 <| xZ VC.eq_1 <| XT.eq_1
 dsimp only [XT]
 simp only [ZP] at H
 refine xS ?_
 refine xr ?_
 refine xr0 ?_
 refine then_normal ?_
 refine w_seq ?_
 refine w_cut (KT a0 a1 a2 a3 a4 a5) (fun s => [(0, .c (.pt 1 0)), (58, .c (.d (.v (.bool s))))]) (fun s => [[.d (.v (str a0)), .d (.sl 1 (List.map dI a1)), .d (.v (str a2)), .d (.v (.int .i64 a3)), .d (.v (.int .i64 a4)), .sl 11 (List.map d_Token a5) 2]]) [39] r ?_ ?_
 ·rcases bsplit H with ⟨hp4, H⟩ | ⟨hp4, H⟩
  ·obtain ⟨F, G, hq4⟩ := xH Y G hp4
   refine xR ?_
   exact cut_at H (xK ⟨[1], [2]⟩)
  ·obtain ⟨F, G, hq4⟩ := xH Y G hp4
   obtain ⟨hg2, H⟩ := gsplit H
   have F := xZ F (map_getD d_Token a5 ((IntKind.i64.wrap ((a5.length : Int) - 1)).toNat) default default (by omega))
   rcases bsplit H with ⟨hp5, H⟩ | ⟨hp5, H⟩
   ·obtain ⟨F, G, hq5⟩ := xH F G hp5
    refine xR ?_
    exact cut_at H (xK ⟨[1], [2]⟩)
   ·obtain ⟨F, G, hq5⟩ := xH F G hp5
    obtain ⟨hg3, H⟩ := gsplit H
    have F := xZ F (map_getD d_Token a5 ((IntKind.i64.wrap ((a5.length : Int) - 1)).toNat) default default (by omega))
    rcases bsplit H with ⟨hp6, H⟩ | ⟨hp6, H⟩
    ·obtain ⟨F, G, hq6⟩ := xH F G hp6
     refine xR ?_
     exact cut_at H (xK ⟨[1], [2]⟩)
    ·obtain ⟨F, G, hq6⟩ := xH F G hp6
     obtain ⟨hg4, H⟩ := gsplit H
     have F := xZ F (map_getD d_Token a5 ((IntKind.i64.wrap ((a5.length : Int) - 2)).toNat) default default (by omega))
     rcases bsplit H with ⟨hp7, H⟩ | ⟨hp7, H⟩
     ·obtain ⟨F, G, hq7⟩ := xH F G hp7
      refine xR ?_
      exact cut_at H (xK ⟨[1], [2]⟩)
     ·obtain ⟨F, G, hq7⟩ := xH F G hp7
      obtain ⟨hg5, H⟩ := gsplit H
      have F := xZ F (map_getD d_Token a5 ((IntKind.i64.wrap ((a5.length : Int) - 2)).toNat) default default (by omega))
      refine xR ?_
      exact cut_at H (xK ⟨[1], [2]⟩)
 ·rintro x1 H
  rw [KT] at H
  rcases bsplit H with ⟨hp1, H⟩ | ⟨hp1, H⟩
  ·obtain ⟨F, G, hq1⟩ := xH Y G hp1
   refine xT ?_
   replace H := Option.some.inj H
   refine xr ?_
   subst H
   refine xOr ?_
   refine qDf [] ?_
   exact xO ⟨[1], [2]⟩
  ·obtain ⟨F, G, hq1⟩ := xH Y G hp1
   refine xE ?_
   obtain ⟨r1, hr1, H⟩ := osplit H
   have F := Y
   refine xQ ?_
   refine xs 6 ?_
   refine xc ⟨[1], [2]⟩ (tabG 0 (JdB (IntKind.i64.wrap (a4 + 1)) a0 a1 a2 a3 a4 a5 r1 hr1)) ?_
   refine xs 1 ?_
   refine xl ?_
   refine  ?_
   refine then_normal ?_
   refine w_seq ?_
   refine w_cut (ZG r1) (fun s => [(4, .c (.d (.v (.int .i64 r1)))), (83, .c (.d (.v (.bool s))))]) (fun s => [[.d (.v (str a0)), .d (.sl 1 (List.map dI a1)), .d (.v (str a2)), .d (.v (.int .i64 a3)), .d (.v (.int .i64 a4)), .sl 11 (List.map d_Token a5) 2]]) [39] r ?_ ?_
   ·rcases bsplit H with ⟨hp3, H⟩ | ⟨hp3, H⟩
    ·obtain ⟨F, G, hq3⟩ := xH Y G hp3
     obtain ⟨hg1, H⟩ := gsplit H
     refine xR ?_
     exact cut_at H (xK ⟨[1], [4]⟩)
    ·obtain ⟨F, G, hq3⟩ := xH Y G hp3
     refine xR ?_
     exact cut_at H (xK ⟨[1], [4]⟩)
   ·rintro x2 H
    rw [ZG] at H
    rcases bsplit H with ⟨hp2, H⟩ | ⟨hp2, H⟩
    ·obtain ⟨F, G, hq2⟩ := xH Y G hp2
     refine xT ?_
     replace H := Option.some.inj H
     refine xr ?_
     subst H
     refine xOr ?_
     refine qDf [] ?_
     exact xO ⟨[1], [2]⟩
    ·obtain ⟨F, G, hq2⟩ := xH Y G hp2
     refine xE ?_
     replace H := Option.some.inj H
     refine xr ?_
     subst H
     refine xOr ?_
     refine qDf [] ?_
     exact xO ⟨[1], [2]⟩
theorem Jex : Callable Tryz.prog 136 ∧ (∀ g, X0 g → GenOk Tryz.prog 136 g) ∧ (true = true → ∀ g, X0 g → ∃ val bs ts, g.out = .ret val bs ts) :=
 ⟨call_136, Jed, fun _ => by rintro _ ⟨_, _, _, _, _, _, _, _, rfl⟩; exact ⟨_, _, _, rfl⟩⟩
noncomputable def Jdk  : Option (List (List UInt8)) :=
 some [[46, 46, 46], [60, 60, 61], [62, 62, 61], [45, 62], [43, 43], [45, 45], [60, 60], [62, 62], [60, 61], [62, 61], [61, 61], [33, 61], [38, 38], [124, 124], [43, 61], [45, 61], [42, 61], [47, 61], [37, 61], [38, 61], [124, 61], [94, 61], [35, 35], [91], [93], [40], [41], [123], [125], [46], [38], [42], [43], [45], [126], [33], [47], [37], [60], [62], [94], [124], [63], [58], [59], [61], [44], [35]]
noncomputable def JcW : PF := PF.of E0 (fun _ => Jdk) (dL 1 dS)
theorem Jfv : PureOk Tryz.prog 139 JcW := by
 refine xF mixed [] [] trivial trivial Tryz.func139 ?_
 rintro _ out H
 have G := True.intro
 have Y := xZ y_9 <| xZ y_24 <| Tryz.results139
 simp only [Jdk] at H
 refine xS ?_
 refine xr ?_
 replace H := Option.some.inj H
 refine xr ?_
 subst H
 exact xN
theorem Jfy  (r : (List (List UInt8))) (H : Jdk  = some r) : PC JcW [] ((dL 1 dS) r) := PF.c (a := ()) H
noncomputable def ZH (a4 : Int) (x1 : Int) (x2 : Int) : ((List UInt8) × Bool) → Option ((Int × Int) ⊕ Int)
 | (x3, x4) => if x4 = true then inrO (some (IntKind.i64.wrap (a4 + (x3.length : Int)))) else some (.inl (x1, IntKind.i64.wrap (x2 + 1)))
noncomputable def Jbk (a0 : List UInt8) (a4 : Int) (r1 : (List (List UInt8))) : (Int × Int) → Option ((Int × Int) ⊕ Int)
 | (x1, x2) => if (ltI x2 x1) = true then if (0 : Int) ≤ x2 ∧ x2.toNat < r1.length then if (leI ((r1.getD x2.toNat default).length : Int) (IntKind.i64.wrap ((a0.length : Int) - a4))) = true then if (0 : Int) ≤ a4 ∧ a4 ≤ (IntKind.i64.wrap (a4 + ((r1.getD x2.toNat default).length : Int))) ∧ (IntKind.i64.wrap (a4 + ((r1.getD x2.toNat default).length : Int))) ≤ (a0.length : Int) then ZH a4 x1 x2 ((r1.getD x2.toNat default), eqS (List.take ((IntKind.i64.wrap (a4 + ((r1.getD x2.toNat default).length : Int))).toNat - a4.toNat) (List.drop a4.toNat a0)) (r1.getD x2.toNat default)) else none else ZH a4 x1 x2 ((r1.getD x2.toNat default), false) else none else inrO (some (-1))
noncomputable def Z2 (a0 : List UInt8) (a1 : List Int) (a2 : List UInt8) (a3 : Int) (a4 : Int) (a5 : List Token) : Option Int :=
 (Jdk).bind fun r1 => loopO (Jbk a0 a4 r1) ((r1.length : Int), 0)
def XU (a0 : List UInt8) (a1 : List Int) (a2 : List UInt8) (a3 : Int) (a4 : Int) (a5 : List Token) (r : Int) : GI :=
 ⟨[.c (.pt 1 0)], [[.d (.v (str a0)), .d (.sl 1 (List.map dI a1)), .d (.v (str a2)), .d (.v (.int .i64 a3)), .d (.v (.int .i64 a4)), .sl 11 (List.map d_Token a5) 2]], [39], .ret (.c (.d (.v (.int .i64 r)))) [[.d (.v (str a0)), .d (.sl 1 (List.map dI a1)), .d (.v (str a2)), .d (.v (.int .i64 a3)), .d (.v (.int .i64 a4)), .sl 11 (List.map d_Token a5) 2]] [39]⟩
def XV : GI → Prop := fun g => ∃ (a0 : List UInt8) (a1 : List Int) (a2 : List UInt8) (a3 : Int) (a4 : Int) (a5 : List Token) (r : Int), Z2 a0 a1 a2 a3 a4 a5 = some r ∧ g = XU a0 a1 a2 a3 a4 a5 r
theorem Jc8 (a0 : List UInt8) (a1 : List Int) (a2 : List UInt8) (a3 : Int) (a4 : Int) (a5 : List Token) (r : Int) (H : Z2 a0 a1 a2 a3 a4 a5 = some r) : XV (XU a0 a1 a2 a3 a4 a5 r) := ⟨a0, a1, a2, a3, a4, a5, r, H, rfl⟩
theorem Jem : ∀ g, XV g → GenOk Tryz.prog 137 g := by
 rintro _ ⟨a0, a1, a2, a3, a4, a5, r, H, rfl⟩
 refine xGn mixed [(139, JcW)] [] [] ⟨⟨call_139, Jfv⟩, trivial⟩ trivial trivial Tryz.func137 _ ?_
 have G := True.intro
 have Y := xZ y_3 <| xZ y_9 <| xZ y_24 <| xZ y_70 <| xZ y_179 <| xZ Tryz.results137 <| xZ d_Call.eq_1 <| xZ d_Token.eq_1 <| xZ d_Spliced.eq_1 <| XU.eq_1
 dsimp only [XU]
 simp only [Z2] at H
 refine xS ?_
 refine xr ?_
 obtain ⟨r1, hr1, H⟩ := osplit H
 have F := xC Y (Jfy  r1 hr1)
 refine xR ?_
 refine w_loop (Jbk a0 a4 r1) (fun s => [(0, .c (.pt 1 0)), (5, .c (.d (.sl 1 (List.map dS r1)))), (6, .c (.d (.v (.int .i64 s.1)))), (7, .c (.d (.v (.int .i64 s.2))))]) (fun s => [[.d (.v (str a0)), .d (.sl 1 (List.map dI a1)), .d (.v (str a2)), .d (.v (.int .i64 a3)), .d (.v (.int .i64 a4)), .sl 11 (List.map d_Token a5) 2]]) [39] H (xK ⟨[1], [2]⟩) ?_
 rintro n1 ⟨x1, x2⟩ o1 H hF1
 rw [Jbk] at H
 refine xS ?_
 refine xr ?_
 rcases bsplit H with ⟨hp1, H⟩ | ⟨hp1, H⟩
 ·obtain ⟨F, G, hq1⟩ := xH Y G hp1
  refine xT ?_
  obtain ⟨hg1, H⟩ := gsplit H
  have F := xZ Y (map_getD dS r1 x2.toNat default default (by omega))
  refine xR0 ?_
  refine then_normal ?_
  refine w_cut (ZH a4 x1 x2) (fun s => [(0, .c (.pt 1 0)), (4, .c (.d (.v (str s.1)))), (5, .c (.d (.sl 1 (List.map dS r1)))), (6, .c (.d (.v (.int .i64 x1)))), (7, .c (.d (.v (.int .i64 x2)))), (45, .c (.d (.v (.bool s.2))))]) (fun s => [[.d (.v (str a0)), .d (.sl 1 (List.map dI a1)), .d (.v (str a2)), .d (.v (.int .i64 a3)), .d (.v (.int .i64 a4)), .sl 11 (List.map d_Token a5) 2]]) [39] o1 ?_ ?_
  ·rcases bsplit H with ⟨hp3, H⟩ | ⟨hp3, H⟩
   ·obtain ⟨F, G, hq3⟩ := xH Y G hp3
    obtain ⟨hg2, H⟩ := gsplit H
    refine xR ?_
    exact cut_at H (xK ⟨[1], [2]⟩)
   ·obtain ⟨F, G, hq3⟩ := xH Y G hp3
    refine xR ?_
    exact cut_at H (xK ⟨[1], [2]⟩)
  ·rintro ⟨x3, x4⟩ H
   rw [ZH] at H
   rcases bsplit H with ⟨hp2, H⟩ | ⟨hp2, H⟩
   ·obtain ⟨F, G, hq2⟩ := xH Y G hp2
    refine xT ?_
    replace H := inrO_fin H hF1
    replace H := Option.some.inj H
    refine xr ?_
    subst H
    refine xOr ?_
    refine qDf [] ?_
    exact xO ⟨[1], [2]⟩
   ·obtain ⟨F, G, hq2⟩ := xH Y G hp2
    refine xE ?_
    refine xr ?_
    exact round_at (inl_fin H hF1) (xK ⟨[1], [2]⟩)
 ·obtain ⟨F, G, hq1⟩ := xH Y G hp1
  replace H := inrO_fin H hF1
  refine xE ?_
  replace H := Option.some.inj H
  refine xr ?_
  subst H
  refine xOr ?_
  refine qDf [] ?_
  exact xO ⟨[1], [2]⟩
theorem Jeu : Callable Tryz.prog 137 ∧ (∀ g, XV g → GenOk Tryz.prog 137 g) ∧ (true = true → ∀ g, XV g → ∃ val bs ts, g.out = .ret val bs ts) :=
 ⟨call_137, Jem, fun _ => by rintro _ ⟨_, _, _, _, _, _, _, _, rfl⟩; exact ⟨_, _, _, rfl⟩⟩
noncomputable def X4 (a1 : List UInt8) (a2 : List Int) (a3 : List UInt8) (a4 : Int) (a5 : Int) (a6 : List Token) : Bool → Option (Int × Int)
 | x3 => if x3 = true then (ZP a1 a2 a3 a4 a5 a6).bind fun r6 => some (7, r6) else (Z2 a1 a2 a3 a4 a5 a6).bind fun r7 => if (ltI 0 r7) = true then (Z2 a1 a2 a3 a4 a5 a6).bind fun r8 => some (5, r8) else some (6, IntKind.i64.wrap (a5 + 1))
noncomputable def VZ (a0 : Bool) (a1 : List UInt8) (a2 : List Int) (a3 : List UInt8) (a4 : Int) (a5 : Int) (a6 : List Token) : (UInt8 × Bool) → Option (Int × Int)
 | (x1, x2) => if x2 = true then (Jab a1 a2 a3 a4 a5 a6).bind fun r3 => some (2, r3) else if (eqI (x1.toNat : Int) 34) = true then (X1 x1 a1 a2 a3 a4 a5 a6).bind fun r4 => some (4, r4) else if (eqI (x1.toNat : Int) 39) = true then (X1 x1 a1 a2 a3 a4 a5 a6).bind fun r5 => some (3, r5) else if (eqI (x1.toNat : Int) 60) = true then if (!a0) = true then (ZP a1 a2 a3 a4 a5 a6).bind fun r9 => X4 a1 a2 a3 a4 a5 a6 (ltI 0 r9) else X4 a1 a2 a3 a4 a5 a6 false else X4 a1 a2 a3 a4 a5 a6 false
noncomputable def JbE (a0 : Bool) (a1 : List UInt8) (a2 : List Int) (a3 : List UInt8) (a4 : Int) (a5 : Int) (a6 : List Token) : Option (Int × Int) :=
 if (0 : Int) ≤ a5 ∧ a5.toNat < a1.length then (Jbc (a1.getD a5.toNat 0)).bind fun r1 => if r1 = true then (Zq a5 a1 a2 a3 a4 a5 a6).bind fun r2 => some (1, r2) else (JaV (a1.getD a5.toNat 0)).bind fun r10 => if r10 = true then VZ a0 a1 a2 a3 a4 a5 a6 ((a1.getD a5.toNat 0), true) else if (eqI ((a1.getD a5.toNat 0).toNat : Int) 46) = true then if (ltI (IntKind.i64.wrap (a5 + 1)) (a1.length : Int)) = true then if (0 : Int) ≤ (IntKind.i64.wrap (a5 + 1)) ∧ (IntKind.i64.wrap (a5 + 1)).toNat < a1.length then (JaV (a1.getD ((IntKind.i64.wrap (a5 + 1)).toNat) 0)).bind fun r11 => VZ a0 a1 a2 a3 a4 a5 a6 ((a1.getD a5.toNat 0), r11) else none else VZ a0 a1 a2 a3 a4 a5 a6 ((a1.getD a5.toNat 0), false) else VZ a0 a1 a2 a3 a4 a5 a6 ((a1.getD a5.toNat 0), false) else none
def Zy (a0 : Bool) (a1 : List UInt8) (a2 : List Int) (a3 : List UInt8) (a4 : Int) (a5 : Int) (a6 : List Token) (r : (Int × Int)) : GI :=
 ⟨[.c (.pt 1 0), .c (.d (.v (.bool a0)))], [[.d (.v (str a1)), .d (.sl 1 (List.map dI a2)), .d (.v (str a3)), .d (.v (.int .i64 a4)), .d (.v (.int .i64 a5)), .sl 11 (List.map d_Token a6) 2]], [39], .ret (.tu [(false, [.d (.v (.int .i64 r.1))]), (false, [.d (.v (.int .i64 r.2))])]) [[.d (.v (str a1)), .d (.sl 1 (List.map dI a2)), .d (.v (str a3)), .d (.v (.int .i64 a4)), .d (.v (.int .i64 a5)), .sl 11 (List.map d_Token a6) 2]] [39]⟩
def Zz : GI → Prop := fun g => ∃ (a0 : Bool) (a1 : List UInt8) (a2 : List Int) (a3 : List UInt8) (a4 : Int) (a5 : Int) (a6 : List Token) (r : (Int × Int)), JbE a0 a1 a2 a3 a4 a5 a6 = some r ∧ g = Zy a0 a1 a2 a3 a4 a5 a6 r
theorem Je0 (a0 : Bool) (a1 : List UInt8) (a2 : List Int) (a3 : List UInt8) (a4 : Int) (a5 : Int) (a6 : List Token) (r : (Int × Int)) (H : JbE a0 a1 a2 a3 a4 a5 a6 = some r) : Zz (Zy a0 a1 a2 a3 a4 a5 a6 r) := ⟨a0, a1, a2, a3, a4, a5, a6, r, H, rfl⟩
theorem JeG : ∀ g, Zz g → GenOk Tryz.prog 123 g := by
 rintro _ ⟨a0, a1, a2, a3, a4, a5, a6, r, H, rfl⟩
 refine xGn mixed [(131, Jas), (133, Ja1)] [(129, true, Vq), (134, true, Xh), (135, true, Xg), (136, true, X0), (137, true, XV)] [] ⟨⟨call_131, JcN⟩, ⟨call_133, JcZ⟩, trivial⟩ ⟨JdF, Jd9, Jd6, Jex, Jeu, trivial⟩ trivial Tryz.func123 _ ?_
 have G := True.intro
 have Y := xZ y_3 <| xZ y_9 <| xZ y_70 <| xZ y_179 <| xZ Tryz.results123 <| xZ d_Call.eq_1 <| xZ d_Token.eq_1 <| xZ d_Spliced.eq_1 <| xZ Vs.eq_1 <| xZ Xk.eq_1 <| xZ Xe.eq_1 <| xZ XT.eq_1 <| xZ XU.eq_1 <| Zy.eq_1
 dsimp only [Zy]
 simp only [JbE] at H
 refine xS ?_
 refine xr ?_
 refine xr ?_
 obtain ⟨hg1, H⟩ := gsplit H
 refine xr ?_
 obtain ⟨r1, hr1, H⟩ := osplit H
 have F := xC Y (Jc3 (a1.getD a5.toNat 0) r1 hr1)
 refine xR ?_
 rcases bsplit H with ⟨hp1, H⟩ | ⟨hp1, H⟩
 ·obtain ⟨F, G, hq1⟩ := xH Y G hp1
  refine xT ?_
  obtain ⟨r2, hr2, H⟩ := osplit H
  have F := Y
  refine xQ ?_
  refine xs 5 ?_
  refine xc ⟨[1], [2]⟩ (tabG 0 (JdE a5 a1 a2 a3 a4 a5 a6 r2 hr2)) ?_
  refine xs 2 ?_
  refine xl ?_
  replace H := Option.some.inj H
  refine xS ?_
  subst H
  refine xOr ?_
  refine qDf [] ?_
  exact xO ⟨[1], [4]⟩
 ·obtain ⟨F, G, hq1⟩ := xH Y G hp1
  refine xE0 ?_
  refine w_cut (VZ a0 a1 a2 a3 a4 a5 a6) (fun s => [(0, .c (.pt 1 0)), (1, .c (.d (.v (.bool a0)))), (7, .c (.d (.v (.int .u8 (s.1.toNat : Int))))), (28, .c (.d (.v (.bool s.2))))]) (fun s => [[.d (.v (str a1)), .d (.sl 1 (List.map dI a2)), .d (.v (str a3)), .d (.v (.int .i64 a4)), .d (.v (.int .i64 a5)), .sl 11 (List.map d_Token a6) 2]]) [39] r ?_ ?_
  ·obtain ⟨r10, hr10, H⟩ := osplit H
   have F := xC Y (Jcv (a1.getD a5.toNat 0) r10 hr10)
   rcases bsplit H with ⟨hp9, H⟩ | ⟨hp9, H⟩
   ·obtain ⟨F, G, hq9⟩ := xH F G hp9
    refine xR ?_
    exact cut_at H (xK ⟨[1], [2]⟩)
   ·obtain ⟨F, G, hq9⟩ := xH F G hp9
    rcases bsplit H with ⟨hp10, H⟩ | ⟨hp10, H⟩
    ·obtain ⟨F, G, hq10⟩ := xH F G hp10
     rcases bsplit H with ⟨hp11, H⟩ | ⟨hp11, H⟩
     ·obtain ⟨F, G, hq11⟩ := xH F G hp11
      obtain ⟨hg2, H⟩ := gsplit H
      obtain ⟨r11, hr11, H⟩ := osplit H
      have F := xCf F (Jcv (a1.getD ((IntKind.i64.wrap (a5 + 1)).toNat) 0) r11 hr11)
      refine xR ?_
      exact cut_at H (xK ⟨[1], [2]⟩)
     ·obtain ⟨F, G, hq11⟩ := xH F G hp11
      refine xR ?_
      exact cut_at H (xK ⟨[1], [2]⟩)
    ·obtain ⟨F, G, hq10⟩ := xH F G hp10
     refine xR ?_
     exact cut_at H (xK ⟨[1], [2]⟩)
  ·rintro ⟨x1, x2⟩ H
   rw [VZ] at H
   rcases bsplit H with ⟨hp2, H⟩ | ⟨hp2, H⟩
   ·obtain ⟨F, G, hq2⟩ := xH Y G hp2
    refine xT ?_
    obtain ⟨r3, hr3, H⟩ := osplit H
    have F := Y
    refine xQ ?_
    refine xs 1 ?_
    refine xc ⟨[1], [2]⟩ (tabG 1 (Jd1 a1 a2 a3 a4 a5 a6 r3 hr3)) ?_
    refine xs 2 ?_
    refine xl ?_
    replace H := Option.some.inj H
    refine xS ?_
    subst H
    refine xOr ?_
    refine qDf [] ?_
    exact xO ⟨[1], [4]⟩
   ·obtain ⟨F, G, hq2⟩ := xH Y G hp2
    refine xE ?_
    refine xr ?_
    rcases bsplit H with ⟨hp3, H⟩ | ⟨hp3, H⟩
    ·obtain ⟨F, G, hq3⟩ := xH Y G hp3
     refine xT ?_
     obtain ⟨r4, hr4, H⟩ := osplit H
     have F := Y
     refine xQ ?_
     refine xs 2 ?_
     refine xc ⟨[1], [2]⟩ (tabG 2 (JcD x1 a1 a2 a3 a4 a5 a6 r4 hr4)) ?_
     refine xs 2 ?_
     refine xl ?_
     replace H := Option.some.inj H
     refine xS ?_
     subst H
     refine xOr ?_
     refine qDf [] ?_
     exact xO ⟨[1], [4]⟩
    ·obtain ⟨F, G, hq3⟩ := xH Y G hp3
     refine xE ?_
     refine xr ?_
     rcases bsplit H with ⟨hp4, H⟩ | ⟨hp4, H⟩
     ·obtain ⟨F, G, hq4⟩ := xH Y G hp4
      refine xT ?_
      obtain ⟨r5, hr5, H⟩ := osplit H
      have F := Y
      refine xQ ?_
      refine xs 2 ?_
      refine xc ⟨[1], [2]⟩ (tabG 2 (JcD x1 a1 a2 a3 a4 a5 a6 r5 hr5)) ?_
      refine xs 2 ?_
      refine xl ?_
      replace H := Option.some.inj H
      refine xS ?_
      subst H
      refine xOr ?_
      refine qDf [] ?_
      exact xO ⟨[1], [4]⟩
     ·obtain ⟨F, G, hq4⟩ := xH Y G hp4
      refine xE0 ?_
      refine w_cut (X4 a1 a2 a3 a4 a5 a6) (fun s => [(0, .c (.pt 1 0)), (69, .c (.d (.v (.bool s))))]) (fun s => [[.d (.v (str a1)), .d (.sl 1 (List.map dI a2)), .d (.v (str a3)), .d (.v (.int .i64 a4)), .d (.v (.int .i64 a5)), .sl 11 (List.map d_Token a6) 2]]) [39] r ?_ ?_
      ·rcases bsplit H with ⟨hp7, H⟩ | ⟨hp7, H⟩
       ·obtain ⟨F, G, hq7⟩ := xH Y G hp7
        rcases bsplit H with ⟨hp8, H⟩ | ⟨hp8, H⟩
        ·obtain ⟨F, G, hq8⟩ := xH F G hp8
         obtain ⟨r9, hr9, H⟩ := osplit H
         have F := F
         refine xQ ?_
         refine xs 8 ?_
         refine xc ⟨[1], [2]⟩ (tabG 3 (Jc5 a1 a2 a3 a4 a5 a6 r9 hr9)) ?_
         refine xs 3 ?_
         refine xl ?_
         refine xS ?_
         exact cut_at H (xK ⟨[1], [4]⟩)
        ·obtain ⟨F, G, hq8⟩ := xH F G hp8
         refine xR ?_
         exact cut_at H (xK ⟨[1], [2]⟩)
       ·obtain ⟨F, G, hq7⟩ := xH Y G hp7
        refine xR ?_
        exact cut_at H (xK ⟨[1], [2]⟩)
      ·rintro x3 H
       rw [X4] at H
       rcases bsplit H with ⟨hp5, H⟩ | ⟨hp5, H⟩
       ·obtain ⟨F, G, hq5⟩ := xH Y G hp5
        refine xT ?_
        obtain ⟨r6, hr6, H⟩ := osplit H
        have F := Y
        refine xQ ?_
        refine xs 1 ?_
        refine xc ⟨[1], [2]⟩ (tabG 3 (Jc5 a1 a2 a3 a4 a5 a6 r6 hr6)) ?_
        refine xs 2 ?_
        refine xl ?_
        replace H := Option.some.inj H
        refine xS ?_
        subst H
        refine xOr ?_
        refine qDf [] ?_
        exact xO ⟨[1], [4]⟩
       ·obtain ⟨F, G, hq5⟩ := xH Y G hp5
        refine xE ?_
        obtain ⟨r7, hr7, H⟩ := osplit H
        have F := Y
        refine xQ ?_
        refine xs 1 ?_
        refine xc ⟨[1], [2]⟩ (tabG 4 (Jc8 a1 a2 a3 a4 a5 a6 r7 hr7)) ?_
        refine xs 2 ?_
        refine xl ?_
        refine xS ?_
        rcases bsplit H with ⟨hp6, H⟩ | ⟨hp6, H⟩
        ·obtain ⟨F, G, hq6⟩ := xH Y G hp6
         refine xT ?_
         obtain ⟨r8, hr8, H⟩ := osplit H
         have F := Y
         refine xQ ?_
         refine xs 1 ?_
         refine xc ⟨[1], [4]⟩ (tabG 4 (Jc8 a1 a2 a3 a4 a5 a6 r8 hr8)) ?_
         refine xs 2 ?_
         refine xl ?_
         replace H := Option.some.inj H
         refine xS ?_
         subst H
         refine xOr ?_
         refine qDf [] ?_
         exact xO ⟨[1], [6]⟩
        ·obtain ⟨F, G, hq6⟩ := xH Y G hp6
         refine xE ?_
         replace H := Option.some.inj H
         refine xr ?_
         subst H
         refine xOr ?_
         refine qDf [] ?_
         exact xO ⟨[1], [4]⟩
theorem JeQ : Callable Tryz.prog 123 ∧ (∀ g, Zz g → GenOk Tryz.prog 123 g) ∧ (true = true → ∀ g, Zz g → ∃ val bs ts, g.out = .ret val bs ts) :=
 ⟨call_123, JeG, fun _ => by rintro _ ⟨_, _, _, _, _, _, _, _, _, rfl⟩; exact ⟨_, _, _, rfl⟩⟩
noncomputable def JaN (x2 : Int) (x3 : Int) : Int → Option ((Int × Int × Int) ⊕ Int)
 | x4 => some (.inl (x4, x2, IntKind.i64.wrap (x3 + 1)))
noncomputable def Jcc (a0 : List UInt8) : (Int × Int × Int) → Option ((Int × Int × Int) ⊕ Int)
 | (x1, x2, x3) => if (ltI x3 x2) = true then if (0 : Int) ≤ x3 ∧ x3.toNat < a0.length then if (eqI ((a0.getD x3.toNat 0).toNat : Int) 10) = true then JaN x2 x3 (IntKind.i64.wrap (x1 + 1)) else JaN x2 x3 x1 else none else inrO (some x1)
noncomputable def Jb5 (a0 : List UInt8) (a1 : Int) : Option Int :=
 loopO (Jcc a0) (1, (if (a0.length : Int) < (if 0 > a1 then 0 else a1) then (a0.length : Int) else (if 0 > a1 then 0 else a1)), 0)
noncomputable def Jb4 : PF := PF.of (E2 dS dI) (fun a => Jb5 a.1 a.2) dI
theorem JeO : PureOk Tryz.prog 124 Jb4 := by
 refine xF mixed [] [] trivial trivial Tryz.func124 ?_
 rintro ⟨a0, a1⟩ out H
 have G := True.intro
 have Y := xZ y_3 <| xZ y_9 <| Tryz.results124
 simp only [Jb5] at H
 refine xS ?_
 refine xr ?_
 refine xr ?_
 refine xr ?_
 refine w_loop (Jcc a0) (fun s => [(0, .c (.d (.v (str a0)))), (5, .c (.d (.v (.int .i64 s.1)))), (11, .c (.d (.v (.int .i64 s.2.1)))), (12, .c (.d (.v (.int .i64 s.2.2))))]) (fun s => []) [] H (xK ⟨[], []⟩) ?_
 rintro n1 ⟨x1, x2, x3⟩ o1 H hF1
 rw [Jcc] at H
 refine xS ?_
 refine xr ?_
 rcases bsplit H with ⟨hp1, H⟩ | ⟨hp1, H⟩
 ·obtain ⟨F, G, hq1⟩ := xH Y G hp1
  refine xT0 ?_
  refine w_skip ?_
  refine then_normal ?_
  refine w_cut (JaN x2 x3) (fun s => [(0, .c (.d (.v (str a0)))), (5, .c (.d (.v (.int .i64 s)))), (11, .c (.d (.v (.int .i64 x2)))), (12, .c (.d (.v (.int .i64 x3))))]) (fun s => []) [] o1 ?_ ?_
  ·refine xS ?_
   refine xr ?_
   obtain ⟨hg1, H⟩ := gsplit H
   refine xr ?_
   rcases bsplit H with ⟨hp2, H⟩ | ⟨hp2, H⟩
   ·obtain ⟨F, G, hq2⟩ := xH Y G hp2
    refine xT ?_
    refine xr ?_
    exact cut_at H (xK ⟨[], []⟩)
   ·obtain ⟨F, G, hq2⟩ := xH Y G hp2
    refine xE ?_
    exact cut_at H (xK ⟨[], []⟩)
  ·rintro x4 H
   rw [JaN] at H
   refine xr ?_
   exact round_at (inl_fin H hF1) (xK ⟨[], []⟩)
 ·obtain ⟨F, G, hq1⟩ := xH Y G hp1
  replace H := inrO_fin H hF1
  refine xE ?_
  replace H := Option.some.inj H
  refine xr ?_
  subst H
  exact xN
theorem Je4 (a0 : List UInt8) (a1 : Int) (r : Int) (H : Jb5 a0 a1 = some r) : PC Jb4 [dS a0, dI a1] (dI r) := PF.c (a := (a0, a1)) H
noncomputable def JbD (a0 : Int) (a1 : List UInt8) (r1 : Spliced) (x2 : List Token) (r2 : (Bool × Bool × Bool × Int)) : Bool → Option ((Int × (List Token)) ⊕ ((List Token) × Fault))
 | x3 => (ZQ r1 r2.2.2.2).bind fun r4 => (JbE x3 r1.Text r1.At a1 a0 r2.2.2.2 x2).bind fun r5 => if (ltI r5.2 0) = true then inrO (some (([] : List Token), (⟨9, a0, r4⟩ : Fault))) else if (0 : Int) ≤ r2.2.2.2 ∧ r2.2.2.2 ≤ r5.2 ∧ r5.2 ≤ (r1.Text.length : Int) then (ZQ r1 (IntKind.i64.wrap (r5.2 - 1))).bind fun r6 => (Jb5 a1 r4).bind fun r7 => if (x2.length + [(⟨r5.1, List.take (r5.2.toNat - r2.2.2.2.toNat) (List.drop r2.2.2.2.toNat r1.Text), r2.1, x3, a0, r4, IntKind.i64.wrap (r6 + 1), r7, ([] : List (List UInt8)), ([] : List Call), 0⟩ : Token)].length) * 120 ≤ 140737488355328 then some (.inl (r5.2, x2 ++ [(⟨r5.1, List.take (r5.2.toNat - r2.2.2.2.toNat) (List.drop r2.2.2.2.toNat r1.Text), r2.1, x3, a0, r4, IntKind.i64.wrap (r6 + 1), r7, ([] : List (List UInt8)), ([] : List Call), 0⟩ : Token)])) else none else none
noncomputable def JcI (a0 : Int) (a1 : List UInt8) (r1 : Spliced) : (Int × (List Token)) → Option ((Int × (List Token)) ⊕ ((List Token) × Fault))
 | (x1, x2) => (JaO r1.Text r1.At a1 a0 x1 x2).bind fun r2 => if (!r2.2.2.1) = true then (ZQ r1 r2.2.2.2).bind fun r3 => inrO (some (([] : List Token), (⟨9, a0, r3⟩ : Fault))) else if (eqI r2.2.2.2 (r1.Text.length : Int)) = true then inrO (some (x2, (⟨0, (-1), 0⟩ : Fault))) else if (eqI (x2.length : Int) 0) = true then JbD a0 a1 r1 x2 r2 true else JbD a0 a1 r1 x2 r2 r2.2.1
noncomputable def JcU (a0 : Int) (a1 : List UInt8) : Option ((List Token) × Fault) :=
 if (ltI 3000 (a1.length : Int)) = true then some (([] : List Token), (⟨4, a0, 0⟩ : Fault)) else (Jcy a1).bind fun r1 => loopO (JcI a0 a1 r1) (0, ([] : List Token))
noncomputable def JcK : PF := PF.of (E2 dI dS) (fun a => JcU a.1 a.2) (T2 (dL 11 d_Token) d_Fault)
theorem Jfq : PureOk Tryz.prog 107 JcK := by
 refine xF mixed [(120, Jck), (122, Jb1), (124, Jb4)] [(121, true, XJ), (123, true, Zz)] ⟨⟨call_120, Je3⟩, ⟨call_122, JeY⟩, ⟨call_124, JeO⟩, trivial⟩ ⟨Jec, JeQ, trivial⟩ Tryz.func107 ?_
 rintro ⟨a0, a1⟩ out H
 have G := True.intro
 have Y := xZ y_3 <| xZ y_4 <| xZ y_9 <| xZ y_24 <| xZ y_25 <| xZ y_27 <| xZ y_29 <| xZ y_37 <| xZ y_39 <| xZ y_70 <| xZ y_179 <| xZ Tryz.results107 <| xZ d_Call.eq_1 <| xZ d_Token.eq_1 <| xZ d_Spliced.eq_1 <| xZ d_Fault.eq_1 <| xZ XA.eq_1 <| Zy.eq_1
 simp only [JcU] at H
 refine xS ?_
 refine xr ?_
 refine xr ?_
 rcases bsplit H with ⟨hp1, H⟩ | ⟨hp1, H⟩
 ·obtain ⟨F, G, hq1⟩ := xH Y G hp1
  refine xT ?_
  replace H := Option.some.inj H
  refine xr ?_
  subst H
  exact xN
 ·obtain ⟨F, G, hq1⟩ := xH Y G hp1
  refine xE ?_
  obtain ⟨r1, hr1, H⟩ := osplit H
  have F := xC Y (Jfo a1 r1 hr1)
  refine xR ?_
  refine w_loop (JcI a0 a1 r1) (fun s => [(0, .c (.d (.v (.int .i64 a0)))), (1, .c (.d (.v (str a1)))), (5, .c (.pt 1 0)), (6, .c (.pt 2 0))]) (fun s => [[.d (.v (.int .i64 0)), .d (.v (.int .i64 0)), .d (.v (.int .i64 0))], [.d (.v (str r1.Text)), .d (.sl 1 (List.map dI r1.At)), .d (.v (str a1)), .d (.v (.int .i64 a0)), .d (.v (.int .i64 s.1)), .sl 11 (List.map d_Token s.2) 3]]) [39] H (xK ⟨[1,2], [0]⟩) ?_
  rintro n1 ⟨x1, x2⟩ o1 H hF1
  rw [JcI] at H
  refine xS ?_
  obtain ⟨r2, hr2, H⟩ := osplit H
  have F := Y
  refine xQ ?_
  refine xs 1 ?_
  refine xc ⟨[2], [3]⟩ (tabG 0 (Jep r1.Text r1.At a1 a0 x1 x2 r2 hr2)) ?_
  refine xs 7 ?_
  refine xl ?_
  refine xS ?_
  refine xr ?_
  rcases bsplit H with ⟨hp2, H⟩ | ⟨hp2, H⟩
  ·obtain ⟨F, G, hq2⟩ := xH Y G hp2
   refine xT ?_
   obtain ⟨r3, hr3, H⟩ := osplit H
   have F := xC Y (Jcq r1 r2.2.2.2 r3 hr3)
   replace H := inrO_fin H hF1
   replace H := Option.some.inj H
   refine xR ?_
   subst H
   exact xN
  ·obtain ⟨F, G, hq2⟩ := xH Y G hp2
   refine xE ?_
   refine xr ?_
   rcases bsplit H with ⟨hp3, H⟩ | ⟨hp3, H⟩
   ·obtain ⟨F, G, hq3⟩ := xH Y G hp3
    refine xT ?_
    replace H := inrO_fin H hF1
    replace H := Option.some.inj H
    refine xr ?_
    subst H
    exact xN
   ·obtain ⟨F, G, hq3⟩ := xH Y G hp3
    refine xE0 ?_
    refine w_skip ?_
    refine then_normal ?_
    refine w_cut (JbD a0 a1 r1 x2 r2) (fun s => [(0, .c (.d (.v (.int .i64 a0)))), (1, .c (.d (.v (str a1)))), (5, .c (.pt 1 0)), (6, .c (.pt 2 0)), (7, .c (.d (.v (.bool r2.1)))), (10, .c (.d (.v (.bool s))))]) (fun s => [[.d (.v (.int .i64 0)), .d (.v (.int .i64 0)), .d (.v (.int .i64 0))], [.d (.v (str r1.Text)), .d (.sl 1 (List.map dI r1.At)), .d (.v (str a1)), .d (.v (.int .i64 a0)), .d (.v (.int .i64 r2.2.2.2)), .sl 11 (List.map d_Token x2) 3]]) [39] o1 ?_ ?_
    ·rcases bsplit H with ⟨hp5, H⟩ | ⟨hp5, H⟩
     ·obtain ⟨F, G, hq5⟩ := xH Y G hp5
      refine xR ?_
      exact cut_at H (xK ⟨[1,2], [5]⟩)
     ·obtain ⟨F, G, hq5⟩ := xH Y G hp5
      refine xR ?_
      exact cut_at H (xK ⟨[1,2], [5]⟩)
    ·rintro x3 H
     rw [JbD] at H
     refine xS ?_
     obtain ⟨r4, hr4, H⟩ := osplit H
     have F := xC Y (Jcq r1 r2.2.2.2 r4 hr4)
     refine xR ?_
     obtain ⟨r5, hr5, H⟩ := osplit H
     have F := Y
     refine xQ ?_
     refine xs 2 ?_
     refine xc ⟨[2], [3]⟩ (tabG 1 (Je0 x3 r1.Text r1.At a1 a0 r2.2.2.2 x2 r5 hr5)) ?_
     refine xs 5 ?_
     refine xl ?_
     refine xS ?_
     refine xr ?_
     rcases bsplit H with ⟨hp4, H⟩ | ⟨hp4, H⟩
     ·obtain ⟨F, G, hq4⟩ := xH Y G hp4
      refine xT ?_
      replace H := inrO_fin H hF1
      replace H := Option.some.inj H
      refine xr ?_
      subst H
      exact xN
     ·obtain ⟨F, G, hq4⟩ := xH Y G hp4
      refine xE ?_
      obtain ⟨hg1, H⟩ := gsplit H
      obtain ⟨r6, hr6, H⟩ := osplit H
      have F := xC Y (Jcq r1 (IntKind.i64.wrap (r5.2 - 1)) r6 hr6)
      obtain ⟨r7, hr7, H⟩ := osplit H
      have F := xCf F (Je4 a1 r4 r7 hr7)
      obtain ⟨hg2, H⟩ := gsplit H
      have F := xZ F (all_map one_Token [(⟨r5.1, List.take (r5.2.toNat - r2.2.2.2.toNat) (List.drop r2.2.2.2.toNat r1.Text), r2.1, x3, a0, r4, IntKind.i64.wrap (r6 + 1), r7, ([] : List (List UInt8)), ([] : List Call), 0⟩ : Token)])
      refine xR ?_
      refine xr ?_
      exact round_at (inl_fin H hF1) (xK ⟨[1,2], [6]⟩)
theorem Jft (a0 : Int) (a1 : List UInt8) (r : (List Token) × Fault) (H : JcU a0 a1 = some r) : PC JcK [dI a0, dS a1] (T2 (dL 11 d_Token) d_Fault r) := PF.c (a := (a0, a1)) H
noncomputable def Kc (a0 : List (List UInt8)) (a1 : List UInt8) : (Int × Int) → Option ((Int × Int) ⊕ Int)
 | (x1, x2) => if (ltI x2 x1) = true then if (0 : Int) ≤ x2 ∧ x2.toNat < a0.length then if (eqS a1 (a0.getD x2.toNat default)) = true then inrO (some x2) else some (.inl (x1, IntKind.i64.wrap (x2 + 1))) else none else inrO (some (-1))
noncomputable def Jk (a0 : List (List UInt8)) (a1 : List UInt8) : Option Int :=
 loopO (Kc a0 a1) ((a0.length : Int), 0)
noncomputable def JH : PF := PF.of (E2 (dL 1 dS) dS) (fun a => Jk a.1 a.2) dI
theorem Vo : PureOk Tryz.prog 57 JH := by
 refine xF mixed [] [] trivial trivial Tryz.func57 ?_
 rintro ⟨a0, a1⟩ out H
 have G := True.intro
 have Y := xZ y_9 <| xZ y_24 <| Tryz.results57
 simp only [Jk] at H
 refine xS ?_
 refine xr ?_
 refine xr ?_
 refine w_loop (Kc a0 a1) (fun s => [(0, .c (.d (.sl 1 (List.map dS a0)))), (1, .c (.d (.v (str a1)))), (7, .c (.d (.v (.int .i64 s.1)))), (8, .c (.d (.v (.int .i64 s.2))))]) (fun s => []) [] H (xK ⟨[], []⟩) ?_
 rintro n1 ⟨x1, x2⟩ o1 H hF1
 rw [Kc] at H
 refine xS ?_
 refine xr ?_
 rcases bsplit H with ⟨hp1, H⟩ | ⟨hp1, H⟩
 ·obtain ⟨F, G, hq1⟩ := xH Y G hp1
  refine xT ?_
  refine xr ?_
  obtain ⟨hg1, H⟩ := gsplit H
  have F := xZ Y (map_getD dS a0 x2.toNat default default (by omega))
  refine xR ?_
  rcases bsplit H with ⟨hp2, H⟩ | ⟨hp2, H⟩
  ·obtain ⟨F, G, hq2⟩ := xH Y G hp2
   refine xT ?_
   replace H := inrO_fin H hF1
   replace H := Option.some.inj H
   refine xr ?_
   subst H
   exact xN
  ·obtain ⟨F, G, hq2⟩ := xH Y G hp2
   refine xE ?_
   refine xr ?_
   exact round_at (inl_fin H hF1) (xK ⟨[], []⟩)
 ·obtain ⟨F, G, hq1⟩ := xH Y G hp1
  replace H := inrO_fin H hF1
  refine xE ?_
  replace H := Option.some.inj H
  refine xr ?_
  subst H
  exact xN
theorem VA (a0 : List (List UInt8)) (a1 : List UInt8) (r : Int) (H : Jk a0 a1 = some r) : PC JH [(dL 1 dS) a0, dS a1] (dI r) := PF.c (a := (a0, a1)) H
noncomputable def Jd (a0 : List (List UInt8)) (a1 : List UInt8) : Option Bool :=
 (Jk a0 a1).bind fun r1 => some (leI 0 r1)
noncomputable def Jr : PF := PF.of (E2 (dL 1 dS) dS) (fun a => Jd a.1 a.2) dB
theorem KR : PureOk Tryz.prog 37 Jr := by
 refine xF mixed [(57, JH)] [] ⟨⟨call_57, Vo⟩, trivial⟩ trivial Tryz.func37 ?_
 rintro ⟨a0, a1⟩ out H
 have G := True.intro
 have Y := Tryz.results37
 simp only [Jd] at H
 refine xS ?_
 refine xr ?_
 obtain ⟨r1, hr1, H⟩ := osplit H
 have F := xC Y (VA a0 a1 r1 hr1)
 replace H := Option.some.inj H
 refine xR ?_
 subst H
 exact xN
theorem K6 (a0 : List (List UInt8)) (a1 : List UInt8) (r : Bool) (H : Jd a0 a1 = some r) : PC Jr [(dL 1 dS) a0, dS a1] (dB r) := PF.c (a := (a0, a1)) H
noncomputable def JbG (x2 : Int) (x3 : Int) : (List (List UInt8)) → Option (((List (List UInt8)) × Int × Int) ⊕ (List (List UInt8)))
 | x4 => some (.inl (x4, x2, IntKind.i64.wrap (x3 + 1)))
noncomputable def JcH (a0 : List (List UInt8)) (a1 : List (List UInt8)) : ((List (List UInt8)) × Int × Int) → Option (((List (List UInt8)) × Int × Int) ⊕ (List (List UInt8)))
 | (x1, x2, x3) => if (ltI x3 x2) = true then if (0 : Int) ≤ x3 ∧ x3.toNat < a0.length then (Jd a1 (a0.getD x3.toNat default)).bind fun r1 => if r1 = true then if (x1.length + [(a0.getD x3.toNat default)].length) * 16 ≤ 140737488355328 then JbG x2 x3 (x1 ++ [(a0.getD x3.toNat default)]) else none else JbG x2 x3 x1 else none else inrO (some x1)
noncomputable def JcT (a0 : List (List UInt8)) (a1 : List (List UInt8)) : Option (List (List UInt8)) :=
 loopO (JcH a0 a1) (([] : List (List UInt8)), (a0.length : Int), 0)
noncomputable def JcJ : PF := PF.of (E2 (dL 1 dS) (dL 1 dS)) (fun a => JcT a.1 a.2) (dL 1 dS)
theorem Jfl : PureOk Tryz.prog 108 JcJ := by
 refine xF mixed [(37, Jr)] [] ⟨⟨call_37, KR⟩, trivial⟩ trivial Tryz.func108 ?_
 rintro ⟨a0, a1⟩ out H
 have G := True.intro
 have Y := xZ y_9 <| xZ y_24 <| Tryz.results108
 simp only [JcT] at H
 refine xS ?_
 refine xr ?_
 refine xr ?_
 refine xr ?_
 refine w_loop (JcH a0 a1) (fun s => [(1, .c (.d (.sl 1 (List.map dS a1)))), (5, .c (.sl 1 (List.map dS s.1) 1)), (8, .c (.d (.sl 1 (List.map dS a0)))), (9, .c (.d (.v (.int .i64 s.2.1)))), (10, .c (.d (.v (.int .i64 s.2.2))))]) (fun s => []) [9] H (xK ⟨[], [0]⟩) ?_
 rintro n1 ⟨x1, x2, x3⟩ o1 H hF1
 rw [JcH] at H
 refine xS ?_
 refine xr ?_
 rcases bsplit H with ⟨hp1, H⟩ | ⟨hp1, H⟩
 ·obtain ⟨F, G, hq1⟩ := xH Y G hp1
  refine xT0 ?_
  refine w_skip ?_
  refine then_normal ?_
  refine w_cut (JbG x2 x3) (fun s => [(1, .c (.d (.sl 1 (List.map dS a1)))), (5, .c (.sl 1 (List.map dS s) 1)), (8, .c (.d (.sl 1 (List.map dS a0)))), (9, .c (.d (.v (.int .i64 x2)))), (10, .c (.d (.v (.int .i64 x3))))]) (fun s => []) [9] o1 ?_ ?_
  ·refine xS ?_
   obtain ⟨hg1, H⟩ := gsplit H
   have F := xZ Y (map_getD dS a0 x3.toNat default default (by omega))
   refine xR ?_
   obtain ⟨r1, hr1, H⟩ := osplit H
   have F := xC Y (K6 a1 (a0.getD x3.toNat default) r1 hr1)
   refine xR ?_
   rcases bsplit H with ⟨hp2, H⟩ | ⟨hp2, H⟩
   ·obtain ⟨F, G, hq2⟩ := xH Y G hp2
    refine xT ?_
    obtain ⟨hg2, H⟩ := gsplit H
    have F := xZ Y (all_map one_dS [(a0.getD x3.toNat default)])
    refine xR ?_
    exact cut_at H (xK ⟨[], [2]⟩)
   ·obtain ⟨F, G, hq2⟩ := xH Y G hp2
    refine xE ?_
    exact cut_at H (xK ⟨[], [1]⟩)
  ·rintro x4 H
   rw [JbG] at H
   refine xr ?_
   exact round_at (inl_fin H hF1) (xK ⟨[], [1]⟩)
 ·obtain ⟨F, G, hq1⟩ := xH Y G hp1
  replace H := inrO_fin H hF1
  refine xE ?_
  replace H := Option.some.inj H
  refine xr ?_
  subst H
  exact xN
theorem Jfu (a0 : List (List UInt8)) (a1 : List (List UInt8)) (r : (List (List UInt8))) (H : JcT a0 a1 = some r) : PC JcJ [(dL 1 dS) a0, (dL 1 dS) a1] ((dL 1 dS) r) := PF.c (a := (a0, a1)) H
noncomputable def Z3 (a0 : Token) (a1 : Token) (r1 : (List Token) × Fault) : (Bool × (List UInt8)) → Option (Token × Bool)
 | (x1, x2) => if x1 = true then some ((⟨0, [], false, false, 0, 0, 0, 0, ([] : List (List UInt8)), ([] : List Call), 0⟩ : Token), false) else if 0 < r1.1.length then if 0 < r1.1.length then (JcT a0.Hide a1.Hide).bind fun r2 => some ((⟨(r1.1.getD 0 default).Kind, (r1.1.getD 0 default).Text, a0.Space, a0.First, a0.File, a0.At, a0.End, a0.Line, r2, a0.Calls, 1⟩ : Token), true) else none else none
noncomputable def Jcw (a0 : Token) (a1 : Token) : Option (Token × Bool) :=
 if a0.Text.length + a1.Text.length ≤ 9223372036854775807 then (JcU 0 (a0.Text ++ a1.Text)).bind fun r1 => if (!eqI r1.2.Err 0) = true then Z3 a0 a1 r1 (true, []) else if (!eqI (r1.1.length : Int) 1) = true then Z3 a0 a1 r1 (true, []) else if 0 < r1.1.length then if a0.Text.length + a1.Text.length ≤ 9223372036854775807 then Z3 a0 a1 r1 (!eqS ((r1.1.getD 0 default).Text) (a0.Text ++ a1.Text), []) else none else none else none
noncomputable def Jcm : PF := PF.of (E2 d_Token d_Token) (fun a => Jcw a.1 a.2) (T2 d_Token dB)
theorem Jfe : PureOk Tryz.prog 90 Jcm := by
 refine xFl mixed [4] [(107, JcK), (108, JcJ)] [] ⟨⟨call_107, Jfq⟩, ⟨call_108, Jfl⟩, trivial⟩ trivial Tryz.func90 ?_
 rintro ⟨a0, a1⟩ out H
 have G := True.intro
 have Y := xZ y_3 <| xZ y_4 <| xZ y_9 <| xZ y_24 <| xZ y_25 <| xZ y_27 <| xZ y_29 <| xZ y_37 <| xZ y_39 <| xZ Tryz.results90 <| xZ d_Call.eq_1 <| xZ d_Token.eq_1 <| d_Fault.eq_1
 simp only [Jcw] at H
 refine xS ?_
 refine xr ?_
 obtain ⟨hg1, H⟩ := gsplit H
 obtain ⟨r1, hr1, H⟩ := osplit H
 have F := xC Y (Jft 0 (a0.Text ++ a1.Text) r1 hr1)
 refine xR0 ?_
 refine then_normal ?_
 refine w_seq ?_
 refine w_cut (Z3 a0 a1 r1) (fun s => [(2, .c (.pt 1 0)), (3, .c (.pt 2 0)), (4, .c (.pt 3 0)), (6, .c (.d (.sl 11 (List.map d_Token r1.1)))), (36, .c (.d (.v (.bool s.1))))]) (fun s => [[.d (.v (.int .i64 a0.Kind)), .d (.v (str a0.Text)), .d (.v (.bool a0.Space)), .d (.v (.bool a0.First)), .d (.v (.int .i64 a0.File)), .d (.v (.int .i64 a0.At)), .d (.v (.int .i64 a0.End)), .d (.v (.int .i64 a0.Line)), .d (.sl 1 (List.map dS a0.Hide)), .d (.sl 3 (List.map d_Call a0.Calls)), .d (.v (.int .i64 a0.Made))], [.d (.v (.int .i64 a1.Kind)), .d (.v (str a1.Text)), .d (.v (.bool a1.Space)), .d (.v (.bool a1.First)), .d (.v (.int .i64 a1.File)), .d (.v (.int .i64 a1.At)), .d (.v (.int .i64 a1.End)), .d (.v (.int .i64 a1.Line)), .d (.sl 1 (List.map dS a1.Hide)), .d (.sl 3 (List.map d_Call a1.Calls)), .d (.v (.int .i64 a1.Made))], [.d (.v (.int .i64 0)), .d (.v (str s.2)), .d (.v (.bool false)), .d (.v (.bool false)), .d (.v (.int .i64 0)), .d (.v (.int .i64 0)), .d (.v (.int .i64 0)), .d (.v (.int .i64 0)), .sl 1 [] 0, .sl 3 [] 0, .d (.v (.int .i64 0))]]) [] out ?_ ?_
 ·rcases bsplit H with ⟨hp2, H⟩ | ⟨hp2, H⟩
  ·obtain ⟨F, G, hq2⟩ := xH Y G hp2
   refine xR ?_
   exact cut_at H (xK ⟨[1,2,3], []⟩)
  ·obtain ⟨F, G, hq2⟩ := xH Y G hp2
   rcases bsplit H with ⟨hp3, H⟩ | ⟨hp3, H⟩
   ·obtain ⟨F, G, hq3⟩ := xH F G hp3
    refine xR ?_
    exact cut_at H (xK ⟨[1,2,3], []⟩)
   ·obtain ⟨F, G, hq3⟩ := xH F G hp3
    obtain ⟨hg4, H⟩ := gsplit H
    have F := xZ F (map_getD d_Token r1.1 0 default default (by omega))
    obtain ⟨hg5, H⟩ := gsplit H
    refine xR ?_
    exact cut_at H (xK ⟨[1,2,3], []⟩)
 ·rintro ⟨x1, x2⟩ H
  rw [Z3] at H
  rcases bsplit H with ⟨hp1, H⟩ | ⟨hp1, H⟩
  ·obtain ⟨F, G, hq1⟩ := xH Y G hp1
   refine xT ?_
   replace H := Option.some.inj H
   refine xr ?_
   subst H
   exact xN
  ·obtain ⟨F, G, hq1⟩ := xH Y G hp1
   refine xE ?_
   obtain ⟨hg2, H⟩ := gsplit H
   have F := xZ Y (map_getD d_Token r1.1 0 default default (by omega))
   obtain ⟨hg3, H⟩ := gsplit H
   have F := xZ F (map_getD d_Token r1.1 0 default default (by omega))
   refine xP [0, 1, 2, 3, 4, 5, 6, 7, 8, 9, 10, 11, 12, 13] [45] trivial ?_
   refine xsX 7 ?_
   refine xaX ?_
   refine xsX 1 ?_
   refine xbX ?_
   refine xsX 1 ?_
   refine xbX ?_
   refine xsX 1 ?_
   refine xbX ?_
   refine xlX ?_
   refine xS ?_
   obtain ⟨r2, hr2, H⟩ := osplit H
   have F := xC Y (Jfu a0.Hide a1.Hide r2 hr2)
   refine xR ?_
   replace H := Option.some.inj H
   refine xr ?_
   subst H
   exact xN
theorem Jfj (a0 : Token) (a1 : Token) (r : Token × Bool) (H : Jcw a0 a1 = some r) : PC Jcm [d_Token a0, d_Token a1] (T2 d_Token dB r) := PF.c (a := (a0, a1)) H
end Go.Proofs.YtjgimofnepechaaGreatDoor
