/- Functions of data for functions of the program. Written by dec3.py. -/
import Derived.Test.YtfkhlbhjhdpkoaaGreatDoorZcav
import Derived.Test.YtfkhlbhjhdpkoaaGreatDoorZcbd
set_option linter.unusedVariables false
set_option linter.unusedSimpArgs false
set_option maxHeartbeats 4000000
set_option maxRecDepth 100000
namespace Go.Proofs.YtfkhlbhjhdpkoaaGreatDoor
open Go.RowKit
noncomputable def Jbu (r1 : Int × Bool) : Bool → Option (Int × Bool)
 | x5 => if x5 = true then some (0, false) else some (r1.1, true)
noncomputable def Jbp : YN → Option (Int × Bool)
 | (x3, x4) => (X0 x3 x4 64).bind fun r1 => if (!r1.2) = true then Jbu r1 true else if 0 < x3.length then if (eqI ((x3.getD 0 0).toNat : Int) 43) = true then Jbu r1 true else if 0 < x3.length then Jbu r1 (eqI ((x3.getD 0 0).toNat : Int) 45) else none else none
noncomputable def Jcz (x1 : List UInt8) : Bool → Option (Int × Bool)
 | x7 => if x7 = true then if (0 : Int) ≤ 1 ∧ 1 ≤ (x1.length : Int) ∧ (x1.length : Int) ≤ (x1.length : Int) then Jbp (List.drop 1 x1, 8) else none else Jbp (x1, 10)
noncomputable def Jbv (x1 : List UInt8) : Bool → Option (Int × Bool)
 | x6 => if x6 = true then if (0 : Int) ≤ 2 ∧ 2 ≤ (x1.length : Int) ∧ (x1.length : Int) ≤ (x1.length : Int) then Jbp (List.drop 2 x1, 16) else none else if (ltI 1 (x1.length : Int)) = true then if 0 < x1.length then Jcz x1 (eqI ((x1.getD 0 0).toNat : Int) 48) else none else Jcz x1 false
noncomputable def ZH (x1 : List UInt8) : Bool → Option ((List UInt8) ⊕ (Int × Bool))
 | x2 => if x2 = true then if (0 : Int) ≤ 0 ∧ 0 ≤ (IntKind.i64.wrap ((x1.length : Int) - 1)) ∧ (IntKind.i64.wrap ((x1.length : Int) - 1)) ≤ (x1.length : Int) then some (.inl (List.take ((IntKind.i64.wrap ((x1.length : Int) - 1)).toNat) x1)) else none else inrO (if (ltI 2 (x1.length : Int)) = true then if (0 : Int) ≤ 0 ∧ 0 ≤ 2 ∧ 2 ≤ (x1.length : Int) then if (eqS (List.take 2 x1) [48, 120]) = true then Jbv x1 true else if (0 : Int) ≤ 0 ∧ 0 ≤ 2 ∧ 2 ≤ (x1.length : Int) then Jbv x1 (eqS (List.take 2 x1) [48, 88]) else none else none else Jbv x1 false)
noncomputable def Jdt : (List UInt8) → Option ((List UInt8) ⊕ (Int × Bool))
 | x1 => if (ltI 1 (x1.length : Int)) = true then if (0 : Int) ≤ (IntKind.i64.wrap ((x1.length : Int) - 1)) ∧ (IntKind.i64.wrap ((x1.length : Int) - 1)).toNat < x1.length then if (eqI ((x1.getD ((IntKind.i64.wrap ((x1.length : Int) - 1)).toNat) 0).toNat : Int) 76) = true then ZH x1 true else if (0 : Int) ≤ (IntKind.i64.wrap ((x1.length : Int) - 1)) ∧ (IntKind.i64.wrap ((x1.length : Int) - 1)).toNat < x1.length then if (eqI ((x1.getD ((IntKind.i64.wrap ((x1.length : Int) - 1)).toNat) 0).toNat : Int) 85) = true then ZH x1 true else if (0 : Int) ≤ (IntKind.i64.wrap ((x1.length : Int) - 1)) ∧ (IntKind.i64.wrap ((x1.length : Int) - 1)).toNat < x1.length then if (eqI ((x1.getD ((IntKind.i64.wrap ((x1.length : Int) - 1)).toNat) 0).toNat : Int) 108) = true then ZH x1 true else if (0 : Int) ≤ (IntKind.i64.wrap ((x1.length : Int) - 1)) ∧ (IntKind.i64.wrap ((x1.length : Int) - 1)).toNat < x1.length then ZH x1 (eqI ((x1.getD ((IntKind.i64.wrap ((x1.length : Int) - 1)).toNat) 0).toNat : Int) 117) else none else none else none else none else ZH x1 false
noncomputable def Jd5 (a0 : List UInt8) : Option (Int × Bool) :=
 loopO Jdt a0
noncomputable def Jdr : PF := PF.of (E1 dS) (fun a => Jd5 a) (T2 dI dB)
theorem Jgg : PureOk Tryz.prog 167 Jdr := by
 refine xF mixed [(180, X5)] [] ⟨⟨call_180, Jes⟩, trivial⟩ trivial Tryz.func167 ?_
 rintro a0 out H
 have G := True.intro
 have Y := xZ y_9 <| xZ y_210 <| Tryz.results167
 simp only [Jd5] at H
 refine xS ?_
 refine xr ?_
 refine w_loop Jdt (fun s => [(0, cS s)]) (fun s => []) [] H (xK ⟨[], []⟩) ?_
 rintro n1 x1 o1 H hF1
 rw [Jdt] at H
 refine w_seq ?_
 refine w_cut (ZH x1) (fun s => [(0, cS x1), (41, cB s)]) (fun s => []) [] o1 ?_ ?_
 ·rcases xB Y G H with ⟨p, H, F, G, q⟩ | ⟨p, H, F, G, q⟩
  ·obtain ⟨g, H⟩ := gsplit H
   rcases xB F G H with ⟨p, H, F, G, q⟩ | ⟨p, H, F, G, q⟩
   ·refine xR ?_
    exact cut_at H (xK ⟨[], []⟩)
   obtain ⟨g, H⟩ := gsplit H
   rcases xB F G H with ⟨p, H, F, G, q⟩ | ⟨p, H, F, G, q⟩
   ·refine xR ?_
    exact cut_at H (xK ⟨[], []⟩)
   obtain ⟨g, H⟩ := gsplit H
   rcases xB F G H with ⟨p, H, F, G, q⟩ | ⟨p, H, F, G, q⟩
   ·refine xR ?_
    exact cut_at H (xK ⟨[], []⟩)
   obtain ⟨g, H⟩ := gsplit H
   refine xR ?_
   exact cut_at H (xK ⟨[], []⟩)
  refine xR ?_
  exact cut_at H (xK ⟨[], []⟩)
 rintro x2 H
 rw [ZH] at H
 rcases xB Y G H with ⟨p, H, F, G, q⟩ | ⟨p, H, F, G, q⟩
 ·refine xT ?_
  obtain ⟨g, H⟩ := gsplit H
  refine xr ?_
  exact round_at (inl_fin H hF1) (xK ⟨[], []⟩)
 replace H := inrO_fin H hF1
 refine xE ?_
 refine xr0 ?_
 refine then_normal ?_
 refine w_cut Jbp (fun s => [(0, cS s.1), (4, cI s.2)]) (fun s => []) [] out ?_ ?_
 ·refine w_block ?_
  refine w_cut (Jbv x1) (fun s => [(0, cS x1), (4, cI 10), (47, cB s)]) (fun s => []) [] out ?_ ?_
  ·rcases xB Y G H with ⟨p, H, F, G, q⟩ | ⟨p, H, F, G, q⟩
   ·obtain ⟨g, H⟩ := gsplit H
    rcases xB F G H with ⟨p, H, F, G, q⟩ | ⟨p, H, F, G, q⟩
    ·refine xR ?_
     exact cut_at H (xK ⟨[], []⟩)
    obtain ⟨g, H⟩ := gsplit H
    refine xR ?_
    exact cut_at H (xK ⟨[], []⟩)
   refine xR ?_
   exact cut_at H (xK ⟨[], []⟩)
  rintro x6 H
  rw [Jbv] at H
  rcases xB Y G H with ⟨p, H, F, G, q⟩ | ⟨p, H, F, G, q⟩
  ·refine xT ?_
   obtain ⟨g, H⟩ := gsplit H
   refine xr ?_
   exact cut_at H (xK ⟨[], []⟩)
  refine xE0 ?_
  refine w_cut (Jcz x1) (fun s => [(0, cS x1), (4, cI 10), (63, cB s)]) (fun s => []) [] out ?_ ?_
  ·rcases xB Y G H with ⟨p, H, F, G, q⟩ | ⟨p, H, F, G, q⟩
   ·obtain ⟨g, H⟩ := gsplit H
    refine xR ?_
    exact cut_at H (xK ⟨[], []⟩)
   refine xR ?_
   exact cut_at H (xK ⟨[], []⟩)
  rintro x7 H
  rw [Jcz] at H
  rcases xB Y G H with ⟨p, H, F, G, q⟩ | ⟨p, H, F, G, q⟩
  ·refine xT ?_
   obtain ⟨g, H⟩ := gsplit H
   refine xr ?_
   exact cut_at H (xK ⟨[], []⟩)
  refine xE ?_
  exact cut_at H (xK ⟨[], []⟩)
 rintro ⟨x3, x4⟩ H
 rw [Jbp] at H
 refine xS ?_
 obtain ⟨r1, hr1, H⟩ := osplit H
 have F := xC Y (JeC x3 x4 64 r1 hr1)
 refine xR0 ?_
 refine then_normal ?_
 refine w_seq ?_
 refine w_cut (Jbu r1) (fun s => [(5, cI r1.1), (91, cB s)]) (fun s => []) [] out ?_ ?_
 ·rcases xB Y G H with ⟨p, H, F, G, q⟩ | ⟨p, H, F, G, q⟩
  ·refine xR ?_
   exact cut_at H (xK ⟨[], []⟩)
  obtain ⟨g, H⟩ := gsplit H
  rcases xB F G H with ⟨p, H, F, G, q⟩ | ⟨p, H, F, G, q⟩
  ·refine xR ?_
   exact cut_at H (xK ⟨[], []⟩)
  obtain ⟨g, H⟩ := gsplit H
  refine xR ?_
  exact cut_at H (xK ⟨[], []⟩)
 rintro x5 H
 rw [Jbu] at H
 rcases xB Y G H with ⟨p, H, F, G, q⟩ | ⟨p, H, F, G, q⟩
 ·refine xT ?_
  replace H := oI H
  refine xr ?_
  subst H
  exact xN
 refine xE ?_
 replace H := oI H
 refine xr ?_
 subst H
 exact xN
theorem Jgk (a0 : List UInt8) (r : Int × Bool) (H : Jd5 a0 = some r) : PC Jdr [dS a0] (T2 dI dB r) := PF.c (a := a0) H
noncomputable def X9 (a0 : List Token) (a1 : Int) : Bool → Option (List UInt8)
 | x1 => if x1 = true then if (0 : Int) ≤ a1 ∧ a1.toNat < a0.length then some ((a0.getD a1.toNat default).Text) else none else some []
noncomputable def Jaa (a0 : List Token) (a1 a2 a3 : Int) : Option (List UInt8) :=
 if (ltI a1 (a0.length : Int)) = true then if (0 : Int) ≤ a1 ∧ a1.toNat < a0.length then X9 a0 a1 (eqI ((a0.getD a1.toNat default).Kind) 5) else none else X9 a0 a1 false
def VM (a0 : List Token) (a1 a2 a3 : Int) (r : (List UInt8)) : GI :=
 ⟨[.c (.pt 1 0)], [[.d (.sl 11 (List.map d_Token a0)), kI a1, kI a2, kI a3]], [], .ret (cS r) [[.d (.sl 11 (List.map d_Token a0)), kI a1, kI a2, kI a3]] []⟩
def VV : GI → Prop := Sg4 Jaa VM
theorem Jeu : ∀ g, VV g → GenOk Tryz.prog 148 g := by
 rintro _ ⟨a0, a1, a2, a3, r, H, rfl⟩
 refine xGn mixed [] [] [] trivial trivial trivial Tryz.func148 _ ?_
 have G := True.intro
 have Y := xZ y_3 <| xZ y_9 <| xZ y_24 <| xZ y_44 <| xZ y_159 <| xZ Tryz.results148 <| xZ d_Call.eq_1 <| xZ d_Token.eq_1 <| VM.eq_1
 dsimp only [VM]
 simp only [Jaa] at H
 refine xS ?_
 refine xr0 ?_
 refine then_normal ?_
 refine w_seq ?_
 refine w_cut (X9 a0 a1) (fun s => [(0, .c (.pt 1 0)), (26, cB s)]) (fun s => [[.d (.sl 11 (List.map d_Token a0)), kI a1, kI a2, kI a3]]) [] r ?_ ?_
 ·rcases xB Y G H with ⟨p, H, F, G, q⟩ | ⟨p, H, F, G, q⟩
  ·obtain ⟨g, H⟩ := gsplit H
   have F := xZ F (map_getD d_Token a0 a1.toNat default default (by omega))
   refine xR ?_
   exact cut_at H (xK ⟨[1], []⟩)
  refine xR ?_
  exact cut_at H (xK ⟨[1], []⟩)
 rintro x1 H
 rw [X9] at H
 rcases xB Y G H with ⟨p, H, F, G, q⟩ | ⟨p, H, F, G, q⟩
 ·refine xT ?_
  obtain ⟨g, H⟩ := gsplit H
  have F := xZ Y (map_getD d_Token a0 a1.toNat default default (by omega))
  replace H := oI H
  refine xR ?_
  subst H
  refine xrD [] ?_
  exact xO ⟨[1], []⟩
 refine xE ?_
 replace H := oI H
 refine xr ?_
 subst H
 refine xrD [] ?_
 exact xO ⟨[1], []⟩
theorem JcC : Callable Tryz.prog 148 ∧ (∀ g, VV g → GenOk Tryz.prog 148 g) ∧ (true = true → ∀ g, VV g → ∃ val bs ts, g.out = .ret val bs ts) :=
 ⟨call_148, Jeu, fun _ => by rintro _ ⟨_, _, _, _, _, _, rfl⟩; exact ⟨_, _, _, rfl⟩⟩
noncomputable def Kd (a0 : List UInt8) (a1 : List Token) (a2 a3 a4 : Int) : Option (Bool × Int) :=
 (Jaa a1 a2 a3 a4).bind fun r1 => if (!eqS r1 a0) = true then some (false, a2) else some (true, IntKind.i64.wrap (a2 + 1))
def Xm (a0 : List UInt8) (a1 : List Token) (a2 a3 a4 : Int) (r : (Bool × Int)) : GI :=
 ⟨[.c (.pt 1 0), cS a0], [[.d (.sl 11 (List.map d_Token a1)), kI a2, kI a3, kI a4]], [], .ret (cB r.1) [[.d (.sl 11 (List.map d_Token a1)), kI r.2, kI a3, kI a4]] []⟩
def Xo : GI → Prop := Sg5 Kd Xm
theorem JeA : ∀ g, Xo g → GenOk Tryz.prog 128 g := by
 rintro _ ⟨a0, a1, a2, a3, a4, r, H, rfl⟩
 refine xGn mixed [] [(148, true, VV)] [] trivial ⟨JcC, trivial⟩ trivial Tryz.func128 _ ?_
 have G := True.intro
 have Y := xZ y_3 <| xZ y_159 <| xZ Tryz.results128 <| xZ d_Call.eq_1 <| xZ d_Token.eq_1 <| xZ VM.eq_1 <| Xm.eq_1
 dsimp only [Xm]
 simp only [Kd] at H
 refine xS ?_
 refine xr ?_
 obtain ⟨r1, hr1, H⟩ := osplit H
 have F := Y
 refine xQ ?_
 refine xs 1 ?_
 refine xc ⟨[1], []⟩ (tabG 0 (cg4 hr1)) ?_
 refine xs 2 ?_
 refine xl ?_
 refine xS ?_
 rcases xB Y G H with ⟨p, H, F, G, q⟩ | ⟨p, H, F, G, q⟩
 ·refine xT ?_
  replace H := oI H
  refine xr ?_
  subst H
  refine xrD [] ?_
  exact xO ⟨[1], []⟩
 refine xE ?_
 refine xr ?_
 replace H := oI H
 refine xr ?_
 subst H
 refine xrD [] ?_
 exact xO ⟨[1], []⟩
theorem JcU : Callable Tryz.prog 128 ∧ (∀ g, Xo g → GenOk Tryz.prog 128 g) ∧ (true = true → ∀ g, Xo g → ∃ val bs ts, g.out = .ret val bs ts) :=
 ⟨call_128, JeA, fun _ => by rintro _ ⟨_, _, _, _, _, _, _, rfl⟩; exact ⟨_, _, _, rfl⟩⟩
noncomputable def VU (a0 : List Token) (a1 a2 a3 : Int) : Option Int :=
 some (IntKind.i64.wrap (a2 - 1))
def di_cond_parser_atom_1 (a0 : List Token) (a1 a2 a3 r : Int) (u : Option Value) : DI :=
 ⟨[.c (.pt 1 0)], [[.pt 2 0], [.d (.sl 11 (List.map d_Token a0)), kI a1, kI a2, kI a3]], [], u, [[.pt 2 0], [.d (.sl 11 (List.map d_Token a0)), kI a1, kI r, kI a3]], [], u⟩
def SD_cond_parser_atom_1 : DI → Prop := fun d => ∃ (a0 : List Token) (a1 a2 a3 r : Int) (u : Option Value), VU a0 a1 a2 a3 = some r ∧ d = di_cond_parser_atom_1 a0 a1 a2 a3 r u
theorem JbO (a0 : List Token) (a1 a2 a3 r : Int) (u : Option Value) (H : VU a0 a1 a2 a3 = some r) : SD_cond_parser_atom_1 (di_cond_parser_atom_1 a0 a1 a2 a3 r u) := ⟨a0, a1, a2, a3, r, u, H, rfl⟩
theorem JdI : ∀ d, SD_cond_parser_atom_1 d → DOk Tryz.prog 166 d := by
 rintro _ ⟨a0, a1, a2, a3, r, u, H, rfl⟩
 refine xDf mixed [] [] trivial trivial Tryz.func166 _ ?_
 have G := True.intro
 have Y := xZ y_3 <| xZ y_157 <| xZ y_159 <| xZ Tryz.results166 <| xZ d_Call.eq_1 <| xZ d_Token.eq_1 <| di_cond_parser_atom_1.eq_1
 dsimp only [di_cond_parser_atom_1]
 simp only [VU] at H
 replace H := oI H
 refine xr ?_
 subst H
 exact xDn ⟨[1, 2], []⟩
noncomputable def X7 (a0 : List Token) (a1 a3 : Int) : (Bool × Int × Int × (List UInt8) × Bool × Bool × Int × Int × Int × Int × YP × (List Call) × Int) → Option YT
 | (x1, x2, x3, x4, x5, x6, x7, x8, x9, x10, x11, x12, x13) => if x1 = true then (Jd5 x4).bind fun r2 => if (eqI x3 3) = true then none else if (!r2.2) = true then none else (VU a0 (IntKind.i64.wrap (a1 + 1)) x2 a3).bind fun r3 => some (r2.1, (IntKind.i64.wrap (a1 + 1)), r3) else (Kd [40] a0 a1 x2 a3).bind fun r4 => if r4.1 = true then none else (Kd [45] a0 r4.2 x2 a3).bind fun r5 => if r5.1 = true then none else (Kd [43] a0 r5.2 x2 a3).bind fun r6 => if r6.1 = true then none else (Kd [126] a0 r6.2 x2 a3).bind fun r7 => if r7.1 = true then none else (Kd [33] a0 r7.2 x2 a3).bind fun r8 => if r8.1 = true then none else none
noncomputable def JbI (a0 : List Token) (a1 a2 a3 : Int) : Option YT :=
 if (eqI a2 30) = true then none else if (eqI a1 (a0.length : Int)) = true then none else if (0 : Int) ≤ a1 ∧ a1.toNat < a0.length then if (eqI ((a0.getD a1.toNat default).Kind) 1) = true then (VU a0 (IntKind.i64.wrap (a1 + 1)) (IntKind.i64.wrap (a2 + 1)) a3).bind fun r1 => some (0, (IntKind.i64.wrap (a1 + 1)), r1) else if (eqI ((a0.getD a1.toNat default).Kind) 2) = true then X7 a0 a1 a3 (true, IntKind.i64.wrap (a2 + 1), (a0.getD a1.toNat default).Kind, (a0.getD a1.toNat default).Text, (a0.getD a1.toNat default).Space, (a0.getD a1.toNat default).First, (a0.getD a1.toNat default).File, (a0.getD a1.toNat default).At, (a0.getD a1.toNat default).End, (a0.getD a1.toNat default).Line, (a0.getD a1.toNat default).Hide, (a0.getD a1.toNat default).Calls, (a0.getD a1.toNat default).Made) else X7 a0 a1 a3 (eqI ((a0.getD a1.toNat default).Kind) 3, IntKind.i64.wrap (a2 + 1), (a0.getD a1.toNat default).Kind, (a0.getD a1.toNat default).Text, (a0.getD a1.toNat default).Space, (a0.getD a1.toNat default).First, (a0.getD a1.toNat default).File, (a0.getD a1.toNat default).At, (a0.getD a1.toNat default).End, (a0.getD a1.toNat default).Line, (a0.getD a1.toNat default).Hide, (a0.getD a1.toNat default).Calls, (a0.getD a1.toNat default).Made) else none
def Zy (a0 : List Token) (a1 a2 a3 : Int) (r : YT) : GI :=
 ⟨[.c (.pt 1 0)], [[.d (.sl 11 (List.map d_Token a0)), kI a1, kI a2, kI a3]], [], .ret (cI r.1) [[.d (.sl 11 (List.map d_Token a0)), kI r.2.1, kI r.2.2, kI a3]] []⟩
def Zw : GI → Prop := Sg4 JbI Zy
theorem Jeh : ∀ g, Zw g → GenOk Tryz.prog 147 g := by
 rintro _ ⟨a0, a1, a2, a3, r, H, rfl⟩
 refine xGn mixed [(167, Jdr)] [(128, true, Xo)] [(166, SD_cond_parser_atom_1)] ⟨⟨call_167, Jgg⟩, trivial⟩ ⟨JcU, trivial⟩ ⟨⟨call_166, JdI⟩, trivial⟩ Tryz.func147 _ ?_
 have G := True.intro
 have Y := xZ y_3 <| xZ y_9 <| xZ y_24 <| xZ y_44 <| xZ y_157 <| xZ y_159 <| xZ Tryz.results147 <| xZ d_Call.eq_1 <| xZ d_Token.eq_1 <| xZ Xm.eq_1 <| xZ di_cond_parser_atom_1.eq_1 <| Zy.eq_1
 dsimp only [Zy]
 simp only [JbI] at H
 refine xS ?_
 refine xr ?_
 refine xr ?_
 rcases xB Y G H with ⟨p, H, F, G, q⟩ | ⟨p, H, F, G, q⟩
 ·refine xT ?_
  cases H
 refine xE ?_
 refine xr ?_
 have F := Y
 refine xQ ?_
 refine xs 1 ?_
 refine xw ?_
 refine xl ?_
 refine xS ?_
 refine xr ?_
 rcases xB Y G H with ⟨p, H, F, G, q⟩ | ⟨p, H, F, G, q⟩
 ·refine xT ?_
  cases H
 refine xE ?_
 obtain ⟨g, H⟩ := gsplit H
 have F := xZ Y (map_getD d_Token a0 a1.toNat default default (by omega))
 refine xR ?_
 refine xr ?_
 rcases xB Y G H with ⟨p, H, F, G, q⟩ | ⟨p, H, F, G, q⟩
 ·refine xT ?_
  refine xr ?_
  refine xr ?_
  refine xrD [(166, [.pt 2 0])] ?_
  obtain ⟨r1, hr1, H⟩ := osplit H
  refine xD ⟨[2, 1], []⟩ (tabD 0 (JbO a0 (IntKind.i64.wrap (a1 + 1)) (IntKind.i64.wrap (a2 + 1)) a3 r1 none hr1)) ?_
  replace H := oI H
  subst H
  exact xO ⟨[1], []⟩
 refine xE0 ?_
 refine w_cut (X7 a0 a1 a3) (fun s => [(1, .c (.pt 2 0)), (3, .c (.pt 3 0)), (55, cB s.1), (1000000, .df [(166, [.pt 2 0])])]) (fun s => [[.d (.sl 11 (List.map d_Token a0)), kI a1, kI s.2.1, kI a3], [.pt 1 0], [kI s.2.2.1, kS s.2.2.2.1, kB s.2.2.2.2.1, kB s.2.2.2.2.2.1, kI s.2.2.2.2.2.2.1, kI s.2.2.2.2.2.2.2.1, kI s.2.2.2.2.2.2.2.2.1, kI s.2.2.2.2.2.2.2.2.2.1, .d (.sl 1 (List.map dS s.2.2.2.2.2.2.2.2.2.2.1)), .d (.sl 3 (List.map d_Call s.2.2.2.2.2.2.2.2.2.2.2.1)), kI s.2.2.2.2.2.2.2.2.2.2.2.2]]) [] r ?_ ?_
 ·rcases xB Y G H with ⟨p, H, F, G, q⟩ | ⟨p, H, F, G, q⟩
  ·refine xR ?_
   exact cut_at H (xK ⟨[1,2,3], []⟩)
  refine xR ?_
  exact cut_at H (xK ⟨[1,2,3], []⟩)
 rintro ⟨x1, x2, x3, x4, x5, x6, x7, x8, x9, x10, x11, x12, x13⟩ H
 rw [X7] at H
 rcases xB Y G H with ⟨p, H, F, G, q⟩ | ⟨p, H, F, G, q⟩
 ·refine xT ?_
  obtain ⟨r2, hr2, H⟩ := osplit H
  have F := xC Y (Jgk x4 r2 hr2)
  refine xR ?_
  refine xr ?_
  rcases xB Y G H with ⟨p, H, F, G, q⟩ | ⟨p, H, F, G, q⟩
  ·refine xT ?_
   cases H
  refine xE ?_
  refine xr ?_
  rcases xB Y G H with ⟨p, H, F, G, q⟩ | ⟨p, H, F, G, q⟩
  ·refine xT ?_
   cases H
  refine xE ?_
  refine xr ?_
  refine xr ?_
  refine xrD [(166, [.pt 2 0])] ?_
  obtain ⟨r3, hr3, H⟩ := osplit H
  refine xD ⟨[2, 1], []⟩ (tabD 0 (JbO a0 (IntKind.i64.wrap (a1 + 1)) x2 a3 r3 none hr3)) ?_
  replace H := oI H
  subst H
  exact xO ⟨[1], []⟩
 refine xE ?_
 obtain ⟨r4, hr4, H⟩ := osplit H
 have F := Y
 refine xQ ?_
 refine xs 1 ?_
 refine xc ⟨[1], []⟩ (tabG 0 (cg5 hr4)) ?_
 refine xs 1 ?_
 refine xl ?_
 refine xS ?_
 rcases xB Y G H with ⟨p, H, F, G, q⟩ | ⟨p, H, F, G, q⟩
 ·refine xT ?_
  cases H
 refine xE ?_
 obtain ⟨r5, hr5, H⟩ := osplit H
 have F := Y
 refine xQ ?_
 refine xs 1 ?_
 refine xc ⟨[1], []⟩ (tabG 0 (cg5 hr5)) ?_
 refine xs 1 ?_
 refine xl ?_
 refine xS ?_
 rcases xB Y G H with ⟨p, H, F, G, q⟩ | ⟨p, H, F, G, q⟩
 ·refine xT ?_
  cases H
 refine xE ?_
 obtain ⟨r6, hr6, H⟩ := osplit H
 have F := Y
 refine xQ ?_
 refine xs 1 ?_
 refine xc ⟨[1], []⟩ (tabG 0 (cg5 hr6)) ?_
 refine xs 1 ?_
 refine xl ?_
 refine xS ?_
 rcases xB Y G H with ⟨p, H, F, G, q⟩ | ⟨p, H, F, G, q⟩
 ·refine xT ?_
  cases H
 refine xE ?_
 obtain ⟨r7, hr7, H⟩ := osplit H
 have F := Y
 refine xQ ?_
 refine xs 1 ?_
 refine xc ⟨[1], []⟩ (tabG 0 (cg5 hr7)) ?_
 refine xs 1 ?_
 refine xl ?_
 refine xS ?_
 rcases xB Y G H with ⟨p, H, F, G, q⟩ | ⟨p, H, F, G, q⟩
 ·refine xT ?_
  cases H
 refine xE ?_
 obtain ⟨r8, hr8, H⟩ := osplit H
 have F := Y
 refine xQ ?_
 refine xs 1 ?_
 refine xc ⟨[1], []⟩ (tabG 0 (cg5 hr8)) ?_
 refine xs 1 ?_
 refine xl ?_
 refine xS ?_
 rcases xB Y G H with ⟨p, H, F, G, q⟩ | ⟨p, H, F, G, q⟩
 ·refine xT ?_
  cases H
 refine xE ?_
 cases H
theorem JeK : Callable Tryz.prog 147 ∧ (∀ g, Zw g → GenOk Tryz.prog 147 g) ∧ (true = true → ∀ g, Zw g → ∃ val bs ts, g.out = .ret val bs ts) :=
 ⟨call_147, Jeh, fun _ => by rintro _ ⟨_, _, _, _, _, _, rfl⟩; exact ⟨_, _, _, rfl⟩⟩
noncomputable def Jaz : Bool → Option Int
 | x5 => if x5 = true then some 10 else some 0
noncomputable def JbE (a0 : List UInt8) : Bool → Option Int
 | x4 => if x4 = true then some 9 else if (eqS a0 [42]) = true then Jaz true else if (eqS a0 [47]) = true then Jaz true else Jaz (eqS a0 [37])
noncomputable def Jbz (a0 : List UInt8) : Bool → Option Int
 | x3 => if x3 = true then some 8 else if (eqS a0 [43]) = true then JbE a0 true else JbE a0 (eqS a0 [45])
noncomputable def Zf (a0 : List UInt8) : Bool → Option Int
 | x2 => if x2 = true then some 7 else if (eqS a0 [60, 60]) = true then Jbz a0 true else Jbz a0 (eqS a0 [62, 62])
noncomputable def JbD (a0 : List UInt8) : Bool → Option Int
 | x1 => if x1 = true then some 6 else if (eqS a0 [60]) = true then Zf a0 true else if (eqS a0 [62]) = true then Zf a0 true else if (eqS a0 [60, 61]) = true then Zf a0 true else Zf a0 (eqS a0 [62, 61])
noncomputable def JcW (a0 : List UInt8) : Option Int :=
 if (eqS a0 [124, 124]) = true then some 1 else if (eqS a0 [38, 38]) = true then some 2 else if (eqS a0 [124]) = true then some 3 else if (eqS a0 [94]) = true then some 4 else if (eqS a0 [38]) = true then some 5 else if (eqS a0 [61, 61]) = true then JbD a0 true else JbD a0 (eqS a0 [33, 61])
noncomputable def JcQ : PF := PF.of (E1 dS) (fun a => JcW a) dI
theorem JfX : PureOk Tryz.prog 149 JcQ := by
 refine xF mixed [] [] trivial trivial Tryz.func149 ?_
 rintro a0 out H
 have G := True.intro
 have Y := Tryz.results149
 simp only [JcW] at H
 refine xS ?_
 refine xr ?_
 refine xr ?_
 refine xr ?_
 rcases xB Y G H with ⟨p, H, F, G, q⟩ | ⟨p, H, F, G, q⟩
 ·refine xT ?_
  replace H := oI H
  refine xr ?_
  subst H
  exact xN
 refine xE ?_
 refine xr ?_
 rcases xB Y G H with ⟨p, H, F, G, q⟩ | ⟨p, H, F, G, q⟩
 ·refine xT ?_
  replace H := oI H
  refine xr ?_
  subst H
  exact xN
 refine xE ?_
 refine xr ?_
 rcases xB Y G H with ⟨p, H, F, G, q⟩ | ⟨p, H, F, G, q⟩
 ·refine xT ?_
  replace H := oI H
  refine xr ?_
  subst H
  exact xN
 refine xE ?_
 refine xr ?_
 rcases xB Y G H with ⟨p, H, F, G, q⟩ | ⟨p, H, F, G, q⟩
 ·refine xT ?_
  replace H := oI H
  refine xr ?_
  subst H
  exact xN
 refine xE ?_
 refine xr ?_
 rcases xB Y G H with ⟨p, H, F, G, q⟩ | ⟨p, H, F, G, q⟩
 ·refine xT ?_
  replace H := oI H
  refine xr ?_
  subst H
  exact xN
 refine xE0 ?_
 refine w_cut (JbD a0) (fun s => [(3, cS a0), (14, cB s)]) (fun s => []) [] out ?_ ?_
 ·refine xS ?_
  refine xr ?_
  rcases xB Y G H with ⟨p, H, F, G, q⟩ | ⟨p, H, F, G, q⟩
  ·refine xT ?_
   exact cut_at H (xK ⟨[], []⟩)
  refine xE ?_
  refine xr ?_
  exact cut_at H (xK ⟨[], []⟩)
 rintro x1 H
 rw [JbD] at H
 rcases xB Y G H with ⟨p, H, F, G, q⟩ | ⟨p, H, F, G, q⟩
 ·refine xT ?_
  replace H := oI H
  refine xr ?_
  subst H
  exact xN
 refine xE0 ?_
 refine w_cut (Zf a0) (fun s => [(3, cS a0), (17, cB s)]) (fun s => []) [] out ?_ ?_
 ·refine xS ?_
  refine xr ?_
  rcases xB Y G H with ⟨p, H, F, G, q⟩ | ⟨p, H, F, G, q⟩
  ·refine xT ?_
   exact cut_at H (xK ⟨[], []⟩)
  refine xE ?_
  refine xr ?_
  rcases xB Y G H with ⟨p, H, F, G, q⟩ | ⟨p, H, F, G, q⟩
  ·refine xT ?_
   exact cut_at H (xK ⟨[], []⟩)
  refine xE ?_
  refine xr ?_
  rcases xB Y G H with ⟨p, H, F, G, q⟩ | ⟨p, H, F, G, q⟩
  ·refine xT ?_
   exact cut_at H (xK ⟨[], []⟩)
  refine xE ?_
  refine xr ?_
  exact cut_at H (xK ⟨[], []⟩)
 rintro x2 H
 rw [Zf] at H
 rcases xB Y G H with ⟨p, H, F, G, q⟩ | ⟨p, H, F, G, q⟩
 ·refine xT ?_
  replace H := oI H
  refine xr ?_
  subst H
  exact xN
 refine xE0 ?_
 refine w_cut (Jbz a0) (fun s => [(3, cS a0), (22, cB s)]) (fun s => []) [] out ?_ ?_
 ·refine xS ?_
  refine xr ?_
  rcases xB Y G H with ⟨p, H, F, G, q⟩ | ⟨p, H, F, G, q⟩
  ·refine xT ?_
   exact cut_at H (xK ⟨[], []⟩)
  refine xE ?_
  refine xr ?_
  exact cut_at H (xK ⟨[], []⟩)
 rintro x3 H
 rw [Jbz] at H
 rcases xB Y G H with ⟨p, H, F, G, q⟩ | ⟨p, H, F, G, q⟩
 ·refine xT ?_
  replace H := oI H
  refine xr ?_
  subst H
  exact xN
 refine xE0 ?_
 refine w_cut (JbE a0) (fun s => [(3, cS a0), (25, cB s)]) (fun s => []) [] out ?_ ?_
 ·refine xS ?_
  refine xr ?_
  rcases xB Y G H with ⟨p, H, F, G, q⟩ | ⟨p, H, F, G, q⟩
  ·refine xT ?_
   exact cut_at H (xK ⟨[], []⟩)
  refine xE ?_
  refine xr ?_
  exact cut_at H (xK ⟨[], []⟩)
 rintro x4 H
 rw [JbE] at H
 rcases xB Y G H with ⟨p, H, F, G, q⟩ | ⟨p, H, F, G, q⟩
 ·refine xT ?_
  replace H := oI H
  refine xr ?_
  subst H
  exact xN
 refine xE0 ?_
 refine w_cut Jaz (fun s => [(28, cB s)]) (fun s => []) [] out ?_ ?_
 ·refine xS ?_
  refine xr ?_
  rcases xB Y G H with ⟨p, H, F, G, q⟩ | ⟨p, H, F, G, q⟩
  ·refine xT ?_
   exact cut_at H (xK ⟨[], []⟩)
  refine xE ?_
  refine xr ?_
  rcases xB Y G H with ⟨p, H, F, G, q⟩ | ⟨p, H, F, G, q⟩
  ·refine xT ?_
   exact cut_at H (xK ⟨[], []⟩)
  refine xE ?_
  refine xr ?_
  exact cut_at H (xK ⟨[], []⟩)
 rintro x5 H
 rw [Jaz] at H
 rcases xB Y G H with ⟨p, H, F, G, q⟩ | ⟨p, H, F, G, q⟩
 ·refine xT ?_
  replace H := oI H
  refine xr ?_
  subst H
  exact xN
 refine xE ?_
 replace H := oI H
 refine xr ?_
 subst H
 exact xN
theorem Jf8 (a0 : List UInt8) (r : Int) (H : JcW a0 = some r) : PC JcQ [dS a0] (dI r) := PF.c (a := a0) H
noncomputable def Xb : (Bool × Int) → Option YF
 | (x4, x5) => none
noncomputable def JD (a4 : Int) : (Bool × Int) → Option YF
 | (x2, x3) => if x2 = true then Xb (true, IntKind.i64.wrap (a4 + 1)) else Xb (false, a4)
noncomputable def VX (a4 : Int) (r1 : YT) (r2 : (List UInt8)) : Bool → Option YF
 | x1 => if x1 = true then inrO (some (r1.1, r1.2.1, r1.2.2)) else if (eqS r2 [38, 38]) = true then if (eqI r1.1 0) = true then JD a4 (true, IntKind.i64.wrap (r1.2.1 + 1)) else if (eqS r2 [124, 124]) = true then JD a4 (true, IntKind.i64.wrap (r1.2.1 + 1)) else JD a4 (false, IntKind.i64.wrap (r1.2.1 + 1)) else if (eqS r2 [124, 124]) = true then JD a4 (!eqI r1.1 0, IntKind.i64.wrap (r1.2.1 + 1)) else JD a4 (false, IntKind.i64.wrap (r1.2.1 + 1))
noncomputable def Z0 (a0 : Int) (a1 : List Token) (a4 : Int) (r1 : YT) : Unit → Option YF
 | () => (Jaa a1 r1.2.1 r1.2.2 a4).bind fun r2 => (JcW r2).bind fun r3 => if (eqI r3 0) = true then VX a4 r1 r2 true else VX a4 r1 r2 (ltI r3 a0)
noncomputable def JaS (a0 : Int) (a1 : List Token) (a2 a3 a4 : Int) : Option YT :=
 (JbI a1 a2 a3 a4).bind fun r1 => loopO (Z0 a0 a1 a4 r1) ()
def Xt (a0 : Int) (a1 : List Token) (a2 a3 a4 : Int) (r : YT) : GI :=
 ⟨[.c (.pt 1 0), cI a0], [[.d (.sl 11 (List.map d_Token a1)), kI a2, kI a3, kI a4]], [], .ret (cI r.1) [[.d (.sl 11 (List.map d_Token a1)), kI r.2.1, kI r.2.2, kI a4]] []⟩
def XC : GI → Prop := Sg5 JaS Xt
theorem JdW : ∀ g, XC g → GenOk Tryz.prog 127 g := by
 rintro _ ⟨a0, a1, a2, a3, a4, r, H, rfl⟩
 refine xGn mixed [(149, JcQ)] [(147, true, Zw), (148, true, VV)] [] ⟨⟨call_149, JfX⟩, trivial⟩ ⟨JeK, JcC, trivial⟩ trivial Tryz.func127 _ ?_
 have G := True.intro
 have Y := xZ y_3 <| xZ y_159 <| xZ Tryz.results127 <| xZ d_Call.eq_1 <| xZ d_Token.eq_1 <| xZ Zy.eq_1 <| xZ VM.eq_1 <| Xt.eq_1
 dsimp only [Xt]
 simp only [JaS] at H
 refine xS ?_
 refine xr ?_
 obtain ⟨r1, hr1, H⟩ := osplit H
 have F := Y
 refine xQ ?_
 refine xs 1 ?_
 refine xc ⟨[1], []⟩ (tabG 0 (cg4 hr1)) ?_
 refine xs 1 ?_
 refine xl ?_
 refine xS ?_
 refine w_loop (Z0 a0 a1 a4 r1) (fun s => [(0, .c (.pt 1 0)), (1, cI a0), (5, cI r1.1)]) (fun s => [[.d (.sl 11 (List.map d_Token a1)), kI r1.2.1, kI r1.2.2, kI a4]]) [] H (xK ⟨[1], []⟩) ?_
 rintro n1 ⟨⟩ o1 H hF1
 rw [Z0] at H
 refine xS ?_
 obtain ⟨r2, hr2, H⟩ := osplit H
 have F := Y
 refine xQ ?_
 refine xs 1 ?_
 refine xc ⟨[1], []⟩ (tabG 1 (cg4 hr2)) ?_
 refine xs 1 ?_
 refine xl ?_
 refine xS ?_
 obtain ⟨r3, hr3, H⟩ := osplit H
 have F := xC Y (Jf8 r2 r3 hr3)
 refine xR0 ?_
 refine then_normal ?_
 refine w_seq ?_
 refine w_cut (VX a4 r1 r2) (fun s => [(0, .c (.pt 1 0)), (1, cI a0), (5, cI r1.1), (6, cS r2), (7, cI r3), (23, cB s)]) (fun s => [[.d (.sl 11 (List.map d_Token a1)), kI r1.2.1, kI r1.2.2, kI a4]]) [] o1 ?_ ?_
 ·rcases xB Y G H with ⟨p, H, F, G, q⟩ | ⟨p, H, F, G, q⟩
  ·refine xR ?_
   exact cut_at H (xK ⟨[1], []⟩)
  refine xR ?_
  exact cut_at H (xK ⟨[1], []⟩)
 rintro x1 H
 rw [VX] at H
 rcases xB Y G H with ⟨p, H, F, G, q⟩ | ⟨p, H, F, G, q⟩
 ·refine xT ?_
  replace H := inrO_fin H hF1
  replace H := oI H
  refine xr ?_
  subst H
  refine xrD [] ?_
  exact xO ⟨[1], []⟩
 refine xE ?_
 refine xr ?_
 refine xr0 ?_
 refine then_normal ?_
 refine w_cut (JD a4) (fun s => [(0, .c (.pt 1 0)), (1, cI a0), (5, cI r1.1), (6, cS r2), (7, cI r3), (8, cI r1.2.1), (9, cB s.1)]) (fun s => [[.d (.sl 11 (List.map d_Token a1)), kI s.2, kI r1.2.2, kI a4]]) [] o1 ?_ ?_
 ·rcases xB Y G H with ⟨p, H, F, G, q⟩ | ⟨p, H, F, G, q⟩
  ·rcases xB F G H with ⟨p, H, F, G, q⟩ | ⟨p, H, F, G, q⟩
   ·refine xR ?_
    exact cut_at H (xK ⟨[1], []⟩)
   rcases xB F G H with ⟨p, H, F, G, q⟩ | ⟨p, H, F, G, q⟩
   ·refine xR ?_
    exact cut_at H (xK ⟨[1], []⟩)
   refine xR ?_
   exact cut_at H (xK ⟨[1], []⟩)
  rcases xB F G H with ⟨p, H, F, G, q⟩ | ⟨p, H, F, G, q⟩
  ·refine xR ?_
   exact cut_at H (xK ⟨[1], []⟩)
  refine xR ?_
  exact cut_at H (xK ⟨[1], []⟩)
 rintro ⟨x2, x3⟩ H
 rw [JD] at H
 refine w_cut Xb (fun s => [(0, .c (.pt 1 0)), (1, cI a0), (5, cI r1.1), (6, cS r2), (7, cI r3), (8, cI r1.2.1), (9, cB s.1)]) (fun s => [[.d (.sl 11 (List.map d_Token a1)), kI x3, kI r1.2.2, kI s.2]]) [] o1 ?_ ?_
 ·refine xS ?_
  refine xr ?_
  rcases xB Y G H with ⟨p, H, F, G, q⟩ | ⟨p, H, F, G, q⟩
  ·refine xT ?_
   refine xr ?_
   exact cut_at H (xK ⟨[1], []⟩)
  refine xE ?_
  exact cut_at H (xK ⟨[1], []⟩)
 rintro ⟨x4, x5⟩ H
 rw [Xb] at H
 refine xS ?_
 cases H
theorem JdX : Callable Tryz.prog 127 ∧ (∀ g, XC g → GenOk Tryz.prog 127 g) ∧ (true = true → ∀ g, XC g → ∃ val bs ts, g.out = .ret val bs ts) :=
 ⟨call_127, JdW, fun _ => by rintro _ ⟨_, _, _, _, _, _, _, rfl⟩; exact ⟨_, _, _, rfl⟩⟩
noncomputable def V5 : (Bool × Int) → Option YF
 | (x1, x2) => none
noncomputable def ZY (a3 : Int) (r1 : YT) : Unit → Option YF
 | () => if (eqB (!eqI r1.1 0) (eqI 0 1)) = true then V5 (true, IntKind.i64.wrap (a3 + 1)) else V5 (false, a3)
noncomputable def JaZ (a0 : List Token) (a1 a2 a3 : Int) : Option YT :=
 (JaS 1 a0 a1 a2 a3).bind fun r1 => (Kd [63] a0 r1.2.1 r1.2.2 a3).bind fun r2 => if (!r2.1) = true then some (r1.1, r2.2, r1.2.2) else loopO (ZY a3 r1) ()
def XL (a0 : List Token) (a1 a2 a3 : Int) (r : YT) : GI :=
 ⟨[.c (.pt 1 0)], [[.d (.sl 11 (List.map d_Token a0)), kI a1, kI a2, kI a3]], [], .ret (cI r.1) [[.d (.sl 11 (List.map d_Token a0)), kI r.2.1, kI r.2.2, kI a3]] []⟩
def Xr : GI → Prop := Sg4 JaZ XL
theorem JdR : ∀ g, Xr g → GenOk Tryz.prog 106 g := by
 rintro _ ⟨a0, a1, a2, a3, r, H, rfl⟩
 refine xGn mixed [] [(127, true, XC), (128, true, Xo)] [] trivial ⟨JdX, JcU, trivial⟩ trivial Tryz.func106 _ ?_
 have G := True.intro
 have Y := xZ y_3 <| xZ y_4 <| xZ y_159 <| xZ y_178 <| xZ Tryz.results106 <| xZ d_Call.eq_1 <| xZ d_Token.eq_1 <| xZ Xt.eq_1 <| xZ Xm.eq_1 <| XL.eq_1
 dsimp only [XL]
 simp only [JaZ] at H
 refine xS ?_
 refine xr ?_
 obtain ⟨r1, hr1, H⟩ := osplit H
 have F := Y
 refine xQ ?_
 refine xs 1 ?_
 refine xc ⟨[1], []⟩ (tabG 0 (cg5 hr1)) ?_
 refine xs 1 ?_
 refine xl ?_
 refine xS ?_
 obtain ⟨r2, hr2, H⟩ := osplit H
 have F := Y
 refine xQ ?_
 refine xs 1 ?_
 refine xc ⟨[1], []⟩ (tabG 1 (cg5 hr2)) ?_
 refine xs 1 ?_
 refine xl ?_
 refine xS ?_
 rcases xB Y G H with ⟨p, H, F, G, q⟩ | ⟨p, H, F, G, q⟩
 ·refine xT ?_
  replace H := oI H
  refine xr ?_
  subst H
  refine xrD [] ?_
  exact xO ⟨[1], []⟩
 refine xE ?_
 refine xr ?_
 refine xr ?_
 refine w_loop (ZY a3 r1) (fun s => [(0, .c (.pt 1 0)), (3, cI r1.1), (4, .c (.pt 2 0)), (14, cI 0)]) (fun s => [[.d (.sl 11 (List.map d_Token a0)), kI r2.2, kI r1.2.2, kI a3], [kI 0, kI 0]]) [] H (xK ⟨[1,4], []⟩) ?_
 rintro n1 ⟨⟩ o1 H hF1
 rw [ZY] at H
 refine xS ?_
 refine xr ?_
 refine xt ?_
 refine xr ?_
 refine xr0 ?_
 refine then_normal ?_
 refine w_cut V5 (fun s => [(0, .c (.pt 1 0)), (3, cI r1.1), (4, .c (.pt 2 0)), (5, cI 0), (6, cB s.1), (14, cI 0)]) (fun s => [[.d (.sl 11 (List.map d_Token a0)), kI r2.2, kI r1.2.2, kI s.2], [kI 0, kI 0]]) [] o1 ?_ ?_
 ·refine xS ?_
  refine xr ?_
  rcases xB Y G H with ⟨p, H, F, G, q⟩ | ⟨p, H, F, G, q⟩
  ·refine xT ?_
   refine xr ?_
   exact cut_at H (xK ⟨[1,2], []⟩)
  refine xE ?_
  exact cut_at H (xK ⟨[1,2], []⟩)
 rintro ⟨x1, x2⟩ H
 rw [V5] at H
 refine xS ?_
 cases H
theorem Jeb : Callable Tryz.prog 106 ∧ (∀ g, Xr g → GenOk Tryz.prog 106 g) ∧ (true = true → ∀ g, Xr g → ∃ val bs ts, g.out = .ret val bs ts) :=
 ⟨call_106, JdR, fun _ => by rintro _ ⟨_, _, _, _, _, _, rfl⟩; exact ⟨_, _, _, rfl⟩⟩
noncomputable def Jcw (a0 a1 a2 a3 : Int) : Option Unit :=
 some ()
def di_cond_Eval_1 (a0 a1 a2 a3 : Int) (r : Unit) : DI :=
 ⟨[.c (.pt 1 0), .c (.pt 2 0)], [[kI a0], [kI a1, kI a2, kI a3]], [], none, [[kI a0], [kI a1, kI a2, kI a3]], [], none⟩
def SD_cond_Eval_1 : DI → Prop := fun d => ∃ (a0 a1 a2 a3 : Int) (r : Unit), Jcw a0 a1 a2 a3 = some r ∧ d = di_cond_Eval_1 a0 a1 a2 a3 r
theorem JfJ (a0 a1 a2 a3 : Int) (r : Unit) (H : Jcw a0 a1 a2 a3 = some r) : SD_cond_Eval_1 (di_cond_Eval_1 a0 a1 a2 a3 r) := ⟨a0, a1, a2, a3, r, H, rfl⟩
theorem Jfh : ∀ d, SD_cond_Eval_1 d → DOk Tryz.prog 105 d := by
 rintro _ ⟨a0, a1, a2, a3, r, H, rfl⟩
 refine xRcl mixed [7] [] [] trivial trivial Tryz.func105 _ ?_
 have G := True.intro
 have Y := xZ y_3 <| xZ y_20 <| xZ y_31 <| xZ y_156 <| xZ Tryz.results105 <| di_cond_Eval_1.eq_1
 dsimp only [di_cond_Eval_1, Option.getD_some, Option.getD_none]
 unfold Jcw at H
 refine xS ?_
 refine xr ?_
 refine xt ?_
 replace H := oI H
 refine xr ?_
 subst H
 exact xDn ⟨[1, 2], []⟩
noncomputable def Jey (a0 : List Token) : Option (Int × Int) :=
 (JaZ a0 0 0 0).bind fun r1 => if (ltI r1.2.1 (a0.length : Int)) = true then none else (Jcw r1.1 0 (-1) 0).bind fun r2 => some (r1.1, (-1))
def Jcy (a0 : List Token) (r : (Int × Int)) : GI :=
 ⟨[.c (.d (.sl 11 (List.map d_Token a0)))], [], [], .ret (.tu [(false, [kI r.1]), (true, [kI 0, kI r.2, kI 0])]) [] []⟩
def Jcu : GI → Prop := Sg1 Jey Jcy
theorem Jge : ∀ g, Jcu g → GenOk Tryz.prog 79 g := by
 rintro _ ⟨a0, r, H, rfl⟩
 refine xGn mixed [] [(106, true, Xr)] [(105, SD_cond_Eval_1)] trivial ⟨Jeb, trivial⟩ ⟨⟨call_105, Jfh⟩, trivial⟩ Tryz.func79 _ ?_
 have G := True.intro
 have Y := xZ y_3 <| xZ y_24 <| xZ y_29 <| xZ y_31 <| xZ y_44 <| xZ y_159 <| xZ Tryz.results79 <| xZ d_Call.eq_1 <| xZ d_Token.eq_1 <| xZ XL.eq_1 <| xZ di_cond_Eval_1.eq_1 <| Jcy.eq_1
 dsimp only [Jcy]
 simp only [Jey] at H
 refine xS ?_
 refine xr ?_
 have F := Y
 refine xQ ?_
 refine xs 1 ?_
 refine xw ?_
 refine xl ?_
 refine xS ?_
 refine xr ?_
 obtain ⟨r1, hr1, H⟩ := osplit H
 have F := Y
 refine xQ ?_
 refine xs 1 ?_
 refine xc ⟨[3], []⟩ (tabG 0 (cg4 hr1)) ?_
 refine xs 1 ?_
 refine xl ?_
 refine xS ?_
 refine xr ?_
 rcases xB Y G H with ⟨p, H, F, G, q⟩ | ⟨p, H, F, G, q⟩
 ·refine xT ?_
  cases H
 refine xE ?_
 refine xr ?_
 refine xrD [(105, [.pt 1 0, .pt 2 0])] ?_
 obtain ⟨r2, hr2, H⟩ := osplit H
 refine xD ⟨[1, 2], []⟩ (tabD 0 (JfJ r1.1 0 (-1) 0 r2 hr2)) ?_
 replace H := oI H
 subst H
 exact xO ⟨[], []⟩
theorem JdA : Callable Tryz.prog 79 ∧ (∀ g, Jcu g → GenOk Tryz.prog 79 g) ∧ (true = true → ∀ g, Jcu g → ∃ val bs ts, g.out = .ret val bs ts) :=
 ⟨call_79, Jge, fun _ => by rintro _ ⟨_, _, _, rfl⟩; exact ⟨_, _, _, rfl⟩⟩
end Go.Proofs.YtfkhlbhjhdpkoaaGreatDoor
