/- Functions of data for functions of the program. Written by dec3.py. -/
import Derived.Test.YtfkhlbhjhdpkoaaGreatDoorZcav
import Derived.Test.YtfkhlbhjhdpkoaaGreatDoorZcbd
set_option linter.unusedVariables false
set_option linter.unusedSimpArgs false
set_option maxHeartbeats 4000000
set_option maxRecDepth 100000
namespace Go.Proofs.YtfkhlbhjhdpkoaaGreatDoor
open Go.RowKit
noncomputable def Jbu (r1 : Int × Bool) : Bool → Option (Int × Bool)
 | x5 => if x5 = true then some (0, false) else some (r1.1, true)
noncomputable def Jbv : YN → Option (Int × Bool)
 | (x3, x4) => (XQ x3 x4 64).bind fun r1 => if (!r1.2) = true then Jbu r1 true else if 0 < x3.length then if (eqI ((x3.getD 0 0).toNat : Int) 43) = true then Jbu r1 true else if 0 < x3.length then Jbu r1 (eqI ((x3.getD 0 0).toNat : Int) 45) else none else none
noncomputable def Jcw (x1 : List UInt8) : Bool → Option (Int × Bool)
 | x7 => if x7 = true then if (0 : Int) ≤ 1 ∧ 1 ≤ (x1.length : Int) ∧ (x1.length : Int) ≤ (x1.length : Int) then Jbv (List.drop 1 x1, 8) else none else Jbv (x1, 10)
noncomputable def Jbr (x1 : List UInt8) : Bool → Option (Int × Bool)
 | x6 => if x6 = true then if (0 : Int) ≤ 2 ∧ 2 ≤ (x1.length : Int) ∧ (x1.length : Int) ≤ (x1.length : Int) then Jbv (List.drop 2 x1, 16) else none else if (ltI 1 (x1.length : Int)) = true then if 0 < x1.length then Jcw x1 (eqI ((x1.getD 0 0).toNat : Int) 48) else none else Jcw x1 false
noncomputable def ZE (x1 : List UInt8) : Bool → Option ((List UInt8) ⊕ (Int × Bool))
 | x2 => if x2 = true then if (0 : Int) ≤ 0 ∧ 0 ≤ (IntKind.i64.wrap ((x1.length : Int) - 1)) ∧ (IntKind.i64.wrap ((x1.length : Int) - 1)) ≤ (x1.length : Int) then some (.inl (List.take ((IntKind.i64.wrap ((x1.length : Int) - 1)).toNat) x1)) else none else inrO (if (ltI 2 (x1.length : Int)) = true then if (0 : Int) ≤ 0 ∧ 0 ≤ 2 ∧ 2 ≤ (x1.length : Int) then if (eqS (List.take 2 x1) [48, 120]) = true then Jbr x1 true else if (0 : Int) ≤ 0 ∧ 0 ≤ 2 ∧ 2 ≤ (x1.length : Int) then Jbr x1 (eqS (List.take 2 x1) [48, 88]) else none else none else Jbr x1 false)
noncomputable def JdE : (List UInt8) → Option ((List UInt8) ⊕ (Int × Bool))
 | x1 => if (ltI 1 (x1.length : Int)) = true then if (0 : Int) ≤ (IntKind.i64.wrap ((x1.length : Int) - 1)) ∧ (IntKind.i64.wrap ((x1.length : Int) - 1)).toNat < x1.length then if (eqI ((x1.getD ((IntKind.i64.wrap ((x1.length : Int) - 1)).toNat) 0).toNat : Int) 76) = true then ZE x1 true else if (0 : Int) ≤ (IntKind.i64.wrap ((x1.length : Int) - 1)) ∧ (IntKind.i64.wrap ((x1.length : Int) - 1)).toNat < x1.length then if (eqI ((x1.getD ((IntKind.i64.wrap ((x1.length : Int) - 1)).toNat) 0).toNat : Int) 85) = true then ZE x1 true else if (0 : Int) ≤ (IntKind.i64.wrap ((x1.length : Int) - 1)) ∧ (IntKind.i64.wrap ((x1.length : Int) - 1)).toNat < x1.length then if (eqI ((x1.getD ((IntKind.i64.wrap ((x1.length : Int) - 1)).toNat) 0).toNat : Int) 108) = true then ZE x1 true else if (0 : Int) ≤ (IntKind.i64.wrap ((x1.length : Int) - 1)) ∧ (IntKind.i64.wrap ((x1.length : Int) - 1)).toNat < x1.length then ZE x1 (eqI ((x1.getD ((IntKind.i64.wrap ((x1.length : Int) - 1)).toNat) 0).toNat : Int) 117) else none else none else none else none else ZE x1 false
noncomputable def Jd9 (a0 : List UInt8) : Option (Int × Bool) :=
 loopO JdE a0
noncomputable def JdB : PF := PF.of (E1 dS) (fun a => Jd9 a) (T2 dI dB)
theorem Jgg : PureOk Tryz.prog 167 JdB := by
 refine xF mixed [(180, Za)] [] ⟨⟨call_180, Jeu⟩, trivial⟩ trivial Tryz.func167 ?_
 rintro a0 out H
 have G := True.intro
 have Y := xZ y_9 <| xZ y_210 <| Tryz.results167
 simp only [Jd9] at H
 refine xS ?_
 refine xr ?_
 refine w_loop JdE (fun s => [(0, cS s)]) (fun s => []) [] H (xK ⟨[], []⟩) ?_
 rintro n1 x1 o1 H hF1
 rw [JdE] at H
 refine w_seq ?_
 refine w_cut (ZE x1) (fun s => [(0, cS x1), (41, cB s)]) (fun s => []) [] o1 ?_ ?_
 ·rcases xB Y G H with ⟨p, H, F, G, q⟩ | ⟨p, H, F, G, q⟩
  ·obtain ⟨g, H⟩ := gsplit H
   rcases xB F G H with ⟨p, H, F, G, q⟩ | ⟨p, H, F, G, q⟩
   ·refine xR ?_
    exact cut_at H (xK ⟨[], []⟩)
   obtain ⟨g, H⟩ := gsplit H
   rcases xB F G H with ⟨p, H, F, G, q⟩ | ⟨p, H, F, G, q⟩
   ·refine xR ?_
    exact cut_at H (xK ⟨[], []⟩)
   obtain ⟨g, H⟩ := gsplit H
   rcases xB F G H with ⟨p, H, F, G, q⟩ | ⟨p, H, F, G, q⟩
   ·refine xR ?_
    exact cut_at H (xK ⟨[], []⟩)
   obtain ⟨g, H⟩ := gsplit H
   refine xR ?_
   exact cut_at H (xK ⟨[], []⟩)
  refine xR ?_
  exact cut_at H (xK ⟨[], []⟩)
 rintro x2 H
 rw [ZE] at H
 rcases xB Y G H with ⟨p, H, F, G, q⟩ | ⟨p, H, F, G, q⟩
 ·refine xT ?_
  obtain ⟨g, H⟩ := gsplit H
  refine xr ?_
  exact round_at (inl_fin H hF1) (xK ⟨[], []⟩)
 replace H := inrO_fin H hF1
 refine xE ?_
 refine xr0 ?_
 refine then_normal ?_
 refine w_cut Jbv (fun s => [(0, cS s.1), (4, cI s.2)]) (fun s => []) [] out ?_ ?_
 ·refine w_block ?_
  refine w_cut (Jbr x1) (fun s => [(0, cS x1), (4, cI 10), (47, cB s)]) (fun s => []) [] out ?_ ?_
  ·rcases xB Y G H with ⟨p, H, F, G, q⟩ | ⟨p, H, F, G, q⟩
   ·obtain ⟨g, H⟩ := gsplit H
    rcases xB F G H with ⟨p, H, F, G, q⟩ | ⟨p, H, F, G, q⟩
    ·refine xR ?_
     exact cut_at H (xK ⟨[], []⟩)
    obtain ⟨g, H⟩ := gsplit H
    refine xR ?_
    exact cut_at H (xK ⟨[], []⟩)
   refine xR ?_
   exact cut_at H (xK ⟨[], []⟩)
  rintro x6 H
  rw [Jbr] at H
  rcases xB Y G H with ⟨p, H, F, G, q⟩ | ⟨p, H, F, G, q⟩
  ·refine xT ?_
   obtain ⟨g, H⟩ := gsplit H
   refine xr ?_
   exact cut_at H (xK ⟨[], []⟩)
  refine xE0 ?_
  refine w_cut (Jcw x1) (fun s => [(0, cS x1), (4, cI 10), (63, cB s)]) (fun s => []) [] out ?_ ?_
  ·rcases xB Y G H with ⟨p, H, F, G, q⟩ | ⟨p, H, F, G, q⟩
   ·obtain ⟨g, H⟩ := gsplit H
    refine xR ?_
    exact cut_at H (xK ⟨[], []⟩)
   refine xR ?_
   exact cut_at H (xK ⟨[], []⟩)
  rintro x7 H
  rw [Jcw] at H
  rcases xB Y G H with ⟨p, H, F, G, q⟩ | ⟨p, H, F, G, q⟩
  ·refine xT ?_
   obtain ⟨g, H⟩ := gsplit H
   refine xr ?_
   exact cut_at H (xK ⟨[], []⟩)
  refine xE ?_
  exact cut_at H (xK ⟨[], []⟩)
 rintro ⟨x3, x4⟩ H
 rw [Jbv] at H
 refine xS ?_
 obtain ⟨r1, hr1, H⟩ := osplit H
 have F := xC Y (JeR x3 x4 64 r1 hr1)
 refine xR0 ?_
 refine then_normal ?_
 refine w_seq ?_
 refine w_cut (Jbu r1) (fun s => [(5, cI r1.1), (91, cB s)]) (fun s => []) [] out ?_ ?_
 ·rcases xB Y G H with ⟨p, H, F, G, q⟩ | ⟨p, H, F, G, q⟩
  ·refine xR ?_
   exact cut_at H (xK ⟨[], []⟩)
  obtain ⟨g, H⟩ := gsplit H
  rcases xB F G H with ⟨p, H, F, G, q⟩ | ⟨p, H, F, G, q⟩
  ·refine xR ?_
   exact cut_at H (xK ⟨[], []⟩)
  obtain ⟨g, H⟩ := gsplit H
  refine xR ?_
  exact cut_at H (xK ⟨[], []⟩)
 rintro x5 H
 rw [Jbu] at H
 rcases xB Y G H with ⟨p, H, F, G, q⟩ | ⟨p, H, F, G, q⟩
 ·refine xT ?_
  replace H := oI H
  refine xr ?_
  subst H
  exact xN
 refine xE ?_
 replace H := oI H
 refine xr ?_
 subst H
 exact xN
theorem Jgk (a0 : List UInt8) (r : Int × Bool) (H : Jd9 a0 = some r) : PC JdB [dS a0] (T2 dI dB r) := PF.c (a := a0) H
noncomputable def X4 (a0 : List Token) (a1 : Int) : Bool → Option (List UInt8)
 | x1 => if x1 = true then if (0 : Int) ≤ a1 ∧ a1.toNat < a0.length then some ((a0.getD a1.toNat default).Text) else none else some []
noncomputable def Jab (a0 : List Token) (a1 a2 a3 : Int) : Option (List UInt8) :=
 if (ltI a1 (a0.length : Int)) = true then if (0 : Int) ≤ a1 ∧ a1.toNat < a0.length then X4 a0 a1 (eqI ((a0.getD a1.toNat default).Kind) 5) else none else X4 a0 a1 false
def VI (a0 : List Token) (a1 a2 a3 : Int) (r : (List UInt8)) : GI :=
 ⟨[.c (.pt 1 0)], [[.d (.sl 11 (List.map d_Token a0)), kI a1, kI a2, kI a3]], [], .ret (cS r) [[.d (.sl 11 (List.map d_Token a0)), kI a1, kI a2, kI a3]] []⟩
def VP : GI → Prop := Sg4 Jab VI
theorem Jem : ∀ g, VP g → GenOk Tryz.prog 148 g := by
 rintro _ ⟨a0, a1, a2, a3, r, H, rfl⟩
 refine xGn mixed [] [] [] trivial trivial trivial Tryz.func148 _ ?_
 have G := True.intro
 have Y := xZ y_3 <| xZ y_9 <| xZ y_24 <| xZ y_44 <| xZ y_159 <| xZ Tryz.results148 <| xZ d_Call.eq_1 <| xZ d_Token.eq_1 <| VI.eq_1
 dsimp only [VI]
 simp only [Jab] at H
 refine xS ?_
 refine xr0 ?_
 refine then_normal ?_
 refine w_seq ?_
 refine w_cut (X4 a0 a1) (fun s => [(0, .c (.pt 1 0)), (26, cB s)]) (fun s => [[.d (.sl 11 (List.map d_Token a0)), kI a1, kI a2, kI a3]]) [] r ?_ ?_
 ·rcases xB Y G H with ⟨p, H, F, G, q⟩ | ⟨p, H, F, G, q⟩
  ·obtain ⟨g, H⟩ := gsplit H
   have F := xZ F (map_getD d_Token a0 a1.toNat default default (by omega))
   refine xR ?_
   exact cut_at H (xK ⟨[1], []⟩)
  refine xR ?_
  exact cut_at H (xK ⟨[1], []⟩)
 rintro x1 H
 rw [X4] at H
 rcases xB Y G H with ⟨p, H, F, G, q⟩ | ⟨p, H, F, G, q⟩
 ·refine xT ?_
  obtain ⟨g, H⟩ := gsplit H
  have F := xZ Y (map_getD d_Token a0 a1.toNat default default (by omega))
  replace H := oI H
  refine xR ?_
  subst H
  refine xrD [] ?_
  exact xO ⟨[1], []⟩
 refine xE ?_
 replace H := oI H
 refine xr ?_
 subst H
 refine xrD [] ?_
 exact xO ⟨[1], []⟩
theorem JcH : Callable Tryz.prog 148 ∧ (∀ g, VP g → GenOk Tryz.prog 148 g) ∧ (true = true → ∀ g, VP g → ∃ val bs ts, g.out = .ret val bs ts) :=
 ⟨call_148, Jem, fun _ => by rintro _ ⟨_, _, _, _, _, _, rfl⟩; exact ⟨_, _, _, rfl⟩⟩
noncomputable def Kd (a0 : List UInt8) (a1 : List Token) (a2 a3 a4 : Int) : Option (Bool × Int) :=
 (Jab a1 a2 a3 a4).bind fun r1 => if (!eqS r1 a0) = true then some (false, a2) else some (true, IntKind.i64.wrap (a2 + 1))
def Xn (a0 : List UInt8) (a1 : List Token) (a2 a3 a4 : Int) (r : (Bool × Int)) : GI :=
 ⟨[.c (.pt 1 0), cS a0], [[.d (.sl 11 (List.map d_Token a1)), kI a2, kI a3, kI a4]], [], .ret (cB r.1) [[.d (.sl 11 (List.map d_Token a1)), kI r.2, kI a3, kI a4]] []⟩
def Xj : GI → Prop := Sg5 Kd Xn
theorem JeF : ∀ g, Xj g → GenOk Tryz.prog 128 g := by
 rintro _ ⟨a0, a1, a2, a3, a4, r, H, rfl⟩
 refine xGn mixed [] [(148, true, VP)] [] trivial ⟨JcH, trivial⟩ trivial Tryz.func128 _ ?_
 have G := True.intro
 have Y := xZ y_3 <| xZ y_159 <| xZ Tryz.results128 <| xZ d_Call.eq_1 <| xZ d_Token.eq_1 <| xZ VI.eq_1 <| Xn.eq_1
 dsimp only [Xn]
 simp only [Kd] at H
 refine xS ?_
 refine xr ?_
 obtain ⟨r1, hr1, H⟩ := osplit H
 have F := Y
 refine xQ ?_
 refine xs 1 ?_
 refine xc ⟨[1], []⟩ (tabG 0 (cg4 hr1)) ?_
 refine xs 2 ?_
 refine xl ?_
 refine xS ?_
 rcases xB Y G H with ⟨p, H, F, G, q⟩ | ⟨p, H, F, G, q⟩
 ·refine xT ?_
  replace H := oI H
  refine xr ?_
  subst H
  refine xrD [] ?_
  exact xO ⟨[1], []⟩
 refine xE ?_
 refine xr ?_
 replace H := oI H
 refine xr ?_
 subst H
 refine xrD [] ?_
 exact xO ⟨[1], []⟩
theorem JcU : Callable Tryz.prog 128 ∧ (∀ g, Xj g → GenOk Tryz.prog 128 g) ∧ (true = true → ∀ g, Xj g → ∃ val bs ts, g.out = .ret val bs ts) :=
 ⟨call_128, JeF, fun _ => by rintro _ ⟨_, _, _, _, _, _, _, rfl⟩; exact ⟨_, _, _, rfl⟩⟩
noncomputable def VG (a0 : List Token) (a1 a2 a3 : Int) : Option Int :=
 some (IntKind.i64.wrap (a2 - 1))
def di_cond_parser_atom_1 (a0 : List Token) (a1 a2 a3 r : Int) (u : Option Value) : DI :=
 ⟨[.c (.pt 1 0)], [[.pt 2 0], [.d (.sl 11 (List.map d_Token a0)), kI a1, kI a2, kI a3]], [], u, [[.pt 2 0], [.d (.sl 11 (List.map d_Token a0)), kI a1, kI r, kI a3]], [], u⟩
def SD_cond_parser_atom_1 : DI → Prop := fun d => ∃ (a0 : List Token) (a1 a2 a3 r : Int) (u : Option Value), VG a0 a1 a2 a3 = some r ∧ d = di_cond_parser_atom_1 a0 a1 a2 a3 r u
theorem JbP (a0 : List Token) (a1 a2 a3 r : Int) (u : Option Value) (H : VG a0 a1 a2 a3 = some r) : SD_cond_parser_atom_1 (di_cond_parser_atom_1 a0 a1 a2 a3 r u) := ⟨a0, a1, a2, a3, r, u, H, rfl⟩
theorem Jdz : ∀ d, SD_cond_parser_atom_1 d → DOk Tryz.prog 166 d := by
 rintro _ ⟨a0, a1, a2, a3, r, u, H, rfl⟩
 refine xDf mixed [] [] trivial trivial Tryz.func166 _ ?_
 have G := True.intro
 have Y := xZ y_3 <| xZ y_157 <| xZ y_159 <| xZ Tryz.results166 <| xZ d_Call.eq_1 <| xZ d_Token.eq_1 <| di_cond_parser_atom_1.eq_1
 dsimp only [di_cond_parser_atom_1]
 simp only [VG] at H
 replace H := oI H
 refine xr ?_
 subst H
 exact xDn ⟨[1, 2], []⟩
noncomputable def X9 (a0 : List Token) (a1 a3 : Int) : (Bool × Int × Int × (List UInt8) × Bool × Bool × Int × Int × Int × Int × YP × (List Call) × Int) → Option YT
 | (x1, x2, x3, x4, x5, x6, x7, x8, x9, x10, x11, x12, x13) => if x1 = true then (Jd9 x4).bind fun r2 => if (eqI x3 3) = true then none else if (!r2.2) = true then none else (VG a0 (IntKind.i64.wrap (a1 + 1)) x2 a3).bind fun r3 => some (r2.1, (IntKind.i64.wrap (a1 + 1)), r3) else (Kd [40] a0 a1 x2 a3).bind fun r4 => if r4.1 = true then none else (Kd [45] a0 r4.2 x2 a3).bind fun r5 => if r5.1 = true then none else (Kd [43] a0 r5.2 x2 a3).bind fun r6 => if r6.1 = true then none else (Kd [126] a0 r6.2 x2 a3).bind fun r7 => if r7.1 = true then none else (Kd [33] a0 r7.2 x2 a3).bind fun r8 => if r8.1 = true then none else none
noncomputable def JbJ (a0 : List Token) (a1 a2 a3 : Int) : Option YT :=
 if (eqI a2 30) = true then none else if (eqI a1 (a0.length : Int)) = true then none else if (0 : Int) ≤ a1 ∧ a1.toNat < a0.length then if (eqI ((a0.getD a1.toNat default).Kind) 1) = true then (VG a0 (IntKind.i64.wrap (a1 + 1)) (IntKind.i64.wrap (a2 + 1)) a3).bind fun r1 => some (0, (IntKind.i64.wrap (a1 + 1)), r1) else if (eqI ((a0.getD a1.toNat default).Kind) 2) = true then X9 a0 a1 a3 (true, IntKind.i64.wrap (a2 + 1), (a0.getD a1.toNat default).Kind, (a0.getD a1.toNat default).Text, (a0.getD a1.toNat default).Space, (a0.getD a1.toNat default).First, (a0.getD a1.toNat default).File, (a0.getD a1.toNat default).At, (a0.getD a1.toNat default).End, (a0.getD a1.toNat default).Line, (a0.getD a1.toNat default).Hide, (a0.getD a1.toNat default).Calls, (a0.getD a1.toNat default).Made) else X9 a0 a1 a3 (eqI ((a0.getD a1.toNat default).Kind) 3, IntKind.i64.wrap (a2 + 1), (a0.getD a1.toNat default).Kind, (a0.getD a1.toNat default).Text, (a0.getD a1.toNat default).Space, (a0.getD a1.toNat default).First, (a0.getD a1.toNat default).File, (a0.getD a1.toNat default).At, (a0.getD a1.toNat default).End, (a0.getD a1.toNat default).Line, (a0.getD a1.toNat default).Hide, (a0.getD a1.toNat default).Calls, (a0.getD a1.toNat default).Made) else none
def Zv (a0 : List Token) (a1 a2 a3 : Int) (r : YT) : GI :=
 ⟨[.c (.pt 1 0)], [[.d (.sl 11 (List.map d_Token a0)), kI a1, kI a2, kI a3]], [], .ret (cI r.1) [[.d (.sl 11 (List.map d_Token a0)), kI r.2.1, kI r.2.2, kI a3]] []⟩
def Zz : GI → Prop := Sg4 JbJ Zv
theorem Jek : ∀ g, Zz g → GenOk Tryz.prog 147 g := by
 rintro _ ⟨a0, a1, a2, a3, r, H, rfl⟩
 refine xGn mixed [(167, JdB)] [(128, true, Xj)] [(166, SD_cond_parser_atom_1)] ⟨⟨call_167, Jgg⟩, trivial⟩ ⟨JcU, trivial⟩ ⟨⟨call_166, Jdz⟩, trivial⟩ Tryz.func147 _ ?_
 have G := True.intro
 have Y := xZ y_3 <| xZ y_9 <| xZ y_24 <| xZ y_44 <| xZ y_157 <| xZ y_159 <| xZ Tryz.results147 <| xZ d_Call.eq_1 <| xZ d_Token.eq_1 <| xZ Xn.eq_1 <| xZ di_cond_parser_atom_1.eq_1 <| Zv.eq_1
 dsimp only [Zv]
 simp only [JbJ] at H
 refine xS ?_
 refine xr ?_
 refine xr ?_
 rcases xB Y G H with ⟨p, H, F, G, q⟩ | ⟨p, H, F, G, q⟩
 ·refine xT ?_
  cases H
 refine xE ?_
 refine xr ?_
 have F := Y
 refine xQ ?_
 refine xs 1 ?_
 refine xw ?_
 refine xl ?_
 refine xS ?_
 refine xr ?_
 rcases xB Y G H with ⟨p, H, F, G, q⟩ | ⟨p, H, F, G, q⟩
 ·refine xT ?_
  cases H
 refine xE ?_
 obtain ⟨g, H⟩ := gsplit H
 have F := xZ Y (map_getD d_Token a0 a1.toNat default default (by omega))
 refine xR ?_
 refine xr ?_
 rcases xB Y G H with ⟨p, H, F, G, q⟩ | ⟨p, H, F, G, q⟩
 ·refine xT ?_
  refine xr ?_
  refine xr ?_
  refine xrD [(166, [.pt 2 0])] ?_
  obtain ⟨r1, hr1, H⟩ := osplit H
  refine xD ⟨[2, 1], []⟩ (tabD 0 (JbP a0 (IntKind.i64.wrap (a1 + 1)) (IntKind.i64.wrap (a2 + 1)) a3 r1 none hr1)) ?_
  replace H := oI H
  subst H
  exact xO ⟨[1], []⟩
 refine xE0 ?_
 refine w_cut (X9 a0 a1 a3) (fun s => [(1, .c (.pt 2 0)), (3, .c (.pt 3 0)), (55, cB s.1), (1000000, .df [(166, [.pt 2 0])])]) (fun s => [[.d (.sl 11 (List.map d_Token a0)), kI a1, kI s.2.1, kI a3], [.pt 1 0], [kI s.2.2.1, kS s.2.2.2.1, kB s.2.2.2.2.1, kB s.2.2.2.2.2.1, kI s.2.2.2.2.2.2.1, kI s.2.2.2.2.2.2.2.1, kI s.2.2.2.2.2.2.2.2.1, kI s.2.2.2.2.2.2.2.2.2.1, .d (.sl 1 (List.map dS s.2.2.2.2.2.2.2.2.2.2.1)), .d (.sl 3 (List.map d_Call s.2.2.2.2.2.2.2.2.2.2.2.1)), kI s.2.2.2.2.2.2.2.2.2.2.2.2]]) [] r ?_ ?_
 ·rcases xB Y G H with ⟨p, H, F, G, q⟩ | ⟨p, H, F, G, q⟩
  ·refine xR ?_
   exact cut_at H (xK ⟨[1,2,3], []⟩)
  refine xR ?_
  exact cut_at H (xK ⟨[1,2,3], []⟩)
 rintro ⟨x1, x2, x3, x4, x5, x6, x7, x8, x9, x10, x11, x12, x13⟩ H
 rw [X9] at H
 rcases xB Y G H with ⟨p, H, F, G, q⟩ | ⟨p, H, F, G, q⟩
 ·refine xT ?_
  obtain ⟨r2, hr2, H⟩ := osplit H
  have F := xC Y (Jgk x4 r2 hr2)
  refine xR ?_
  refine xr ?_
  rcases xB Y G H with ⟨p, H, F, G, q⟩ | ⟨p, H, F, G, q⟩
  ·refine xT ?_
   cases H
  refine xE ?_
  refine xr ?_
  rcases xB Y G H with ⟨p, H, F, G, q⟩ | ⟨p, H, F, G, q⟩
  ·refine xT ?_
   cases H
  refine xE ?_
  refine xr ?_
  refine xr ?_
  refine xrD [(166, [.pt 2 0])] ?_
  obtain ⟨r3, hr3, H⟩ := osplit H
  refine xD ⟨[2, 1], []⟩ (tabD 0 (JbP a0 (IntKind.i64.wrap (a1 + 1)) x2 a3 r3 none hr3)) ?_
  replace H := oI H
  subst H
  exact xO ⟨[1], []⟩
 refine xE ?_
 obtain ⟨r4, hr4, H⟩ := osplit H
 have F := Y
 refine xQ ?_
 refine xs 1 ?_
 refine xc ⟨[1], []⟩ (tabG 0 (cg5 hr4)) ?_
 refine xs 1 ?_
 refine xl ?_
 refine xS ?_
 rcases xB Y G H with ⟨p, H, F, G, q⟩ | ⟨p, H, F, G, q⟩
 ·refine xT ?_
  cases H
 refine xE ?_
 obtain ⟨r5, hr5, H⟩ := osplit H
 have F := Y
 refine xQ ?_
 refine xs 1 ?_
 refine xc ⟨[1], []⟩ (tabG 0 (cg5 hr5)) ?_
 refine xs 1 ?_
 refine xl ?_
 refine xS ?_
 rcases xB Y G H with ⟨p, H, F, G, q⟩ | ⟨p, H, F, G, q⟩
 ·refine xT ?_
  cases H
 refine xE ?_
 obtain ⟨r6, hr6, H⟩ := osplit H
 have F := Y
 refine xQ ?_
 refine xs 1 ?_
 refine xc ⟨[1], []⟩ (tabG 0 (cg5 hr6)) ?_
 refine xs 1 ?_
 refine xl ?_
 refine xS ?_
 rcases xB Y G H with ⟨p, H, F, G, q⟩ | ⟨p, H, F, G, q⟩
 ·refine xT ?_
  cases H
 refine xE ?_
 obtain ⟨r7, hr7, H⟩ := osplit H
 have F := Y
 refine xQ ?_
 refine xs 1 ?_
 refine xc ⟨[1], []⟩ (tabG 0 (cg5 hr7)) ?_
 refine xs 1 ?_
 refine xl ?_
 refine xS ?_
 rcases xB Y G H with ⟨p, H, F, G, q⟩ | ⟨p, H, F, G, q⟩
 ·refine xT ?_
  cases H
 refine xE ?_
 obtain ⟨r8, hr8, H⟩ := osplit H
 have F := Y
 refine xQ ?_
 refine xs 1 ?_
 refine xc ⟨[1], []⟩ (tabG 0 (cg5 hr8)) ?_
 refine xs 1 ?_
 refine xl ?_
 refine xS ?_
 rcases xB Y G H with ⟨p, H, F, G, q⟩ | ⟨p, H, F, G, q⟩
 ·refine xT ?_
  cases H
 refine xE ?_
 cases H
theorem JeC : Callable Tryz.prog 147 ∧ (∀ g, Zz g → GenOk Tryz.prog 147 g) ∧ (true = true → ∀ g, Zz g → ∃ val bs ts, g.out = .ret val bs ts) :=
 ⟨call_147, Jek, fun _ => by rintro _ ⟨_, _, _, _, _, _, rfl⟩; exact ⟨_, _, _, rfl⟩⟩
noncomputable def Jat : Bool → Option Int
 | x5 => if x5 = true then some 10 else some 0
noncomputable def JbE (a0 : List UInt8) : Bool → Option Int
 | x4 => if x4 = true then some 9 else if (eqS a0 [42]) = true then Jat true else if (eqS a0 [47]) = true then Jat true else Jat (eqS a0 [37])
noncomputable def Jbx (a0 : List UInt8) : Bool → Option Int
 | x3 => if x3 = true then some 8 else if (eqS a0 [43]) = true then JbE a0 true else JbE a0 (eqS a0 [45])
noncomputable def Zj (a0 : List UInt8) : Bool → Option Int
 | x2 => if x2 = true then some 7 else if (eqS a0 [60, 60]) = true then Jbx a0 true else Jbx a0 (eqS a0 [62, 62])
noncomputable def JbA (a0 : List UInt8) : Bool → Option Int
 | x1 => if x1 = true then some 6 else if (eqS a0 [60]) = true then Zj a0 true else if (eqS a0 [62]) = true then Zj a0 true else if (eqS a0 [60, 61]) = true then Zj a0 true else Zj a0 (eqS a0 [62, 61])
noncomputable def JcV (a0 : List UInt8) : Option Int :=
 if (eqS a0 [124, 124]) = true then some 1 else if (eqS a0 [38, 38]) = true then some 2 else if (eqS a0 [124]) = true then some 3 else if (eqS a0 [94]) = true then some 4 else if (eqS a0 [38]) = true then some 5 else if (eqS a0 [61, 61]) = true then JbA a0 true else JbA a0 (eqS a0 [33, 61])
noncomputable def JcQ : PF := PF.of (E1 dS) (fun a => JcV a) dI
theorem Jf1 : PureOk Tryz.prog 149 JcQ := by
 refine xF mixed [] [] trivial trivial Tryz.func149 ?_
 rintro a0 out H
 have G := True.intro
 have Y := Tryz.results149
 simp only [JcV] at H
 refine xS ?_
 refine xr ?_
 refine xr ?_
 refine xr ?_
 rcases xB Y G H with ⟨p, H, F, G, q⟩ | ⟨p, H, F, G, q⟩
 ·refine xT ?_
  replace H := oI H
  refine xr ?_
  subst H
  exact xN
 refine xE ?_
 refine xr ?_
 rcases xB Y G H with ⟨p, H, F, G, q⟩ | ⟨p, H, F, G, q⟩
 ·refine xT ?_
  replace H := oI H
  refine xr ?_
  subst H
  exact xN
 refine xE ?_
 refine xr ?_
 rcases xB Y G H with ⟨p, H, F, G, q⟩ | ⟨p, H, F, G, q⟩
 ·refine xT ?_
  replace H := oI H
  refine xr ?_
  subst H
  exact xN
 refine xE ?_
 refine xr ?_
 rcases xB Y G H with ⟨p, H, F, G, q⟩ | ⟨p, H, F, G, q⟩
 ·refine xT ?_
  replace H := oI H
  refine xr ?_
  subst H
  exact xN
 refine xE ?_
 refine xr ?_
 rcases xB Y G H with ⟨p, H, F, G, q⟩ | ⟨p, H, F, G, q⟩
 ·refine xT ?_
  replace H := oI H
  refine xr ?_
  subst H
  exact xN
 refine xE0 ?_
 refine w_cut (JbA a0) (fun s => [(3, cS a0), (14, cB s)]) (fun s => []) [] out ?_ ?_
 ·refine xS ?_
  refine xr ?_
  rcases xB Y G H with ⟨p, H, F, G, q⟩ | ⟨p, H, F, G, q⟩
  ·refine xT ?_
   exact cut_at H (xK ⟨[], []⟩)
  refine xE ?_
  refine xr ?_
  exact cut_at H (xK ⟨[], []⟩)
 rintro x1 H
 rw [JbA] at H
 rcases xB Y G H with ⟨p, H, F, G, q⟩ | ⟨p, H, F, G, q⟩
 ·refine xT ?_
  replace H := oI H
  refine xr ?_
  subst H
  exact xN
 refine xE0 ?_
 refine w_cut (Zj a0) (fun s => [(3, cS a0), (17, cB s)]) (fun s => []) [] out ?_ ?_
 ·refine xS ?_
  refine xr ?_
  rcases xB Y G H with ⟨p, H, F, G, q⟩ | ⟨p, H, F, G, q⟩
  ·refine xT ?_
   exact cut_at H (xK ⟨[], []⟩)
  refine xE ?_
  refine xr ?_
  rcases xB Y G H with ⟨p, H, F, G, q⟩ | ⟨p, H, F, G, q⟩
  ·refine xT ?_
   exact cut_at H (xK ⟨[], []⟩)
  refine xE ?_
  refine xr ?_
  rcases xB Y G H with ⟨p, H, F, G, q⟩ | ⟨p, H, F, G, q⟩
  ·refine xT ?_
   exact cut_at H (xK ⟨[], []⟩)
  refine xE ?_
  refine xr ?_
  exact cut_at H (xK ⟨[], []⟩)
 rintro x2 H
 rw [Zj] at H
 rcases xB Y G H with ⟨p, H, F, G, q⟩ | ⟨p, H, F, G, q⟩
 ·refine xT ?_
  replace H := oI H
  refine xr ?_
  subst H
  exact xN
 refine xE0 ?_
 refine w_cut (Jbx a0) (fun s => [(3, cS a0), (22, cB s)]) (fun s => []) [] out ?_ ?_
 ·refine xS ?_
  refine xr ?_
  rcases xB Y G H with ⟨p, H, F, G, q⟩ | ⟨p, H, F, G, q⟩
  ·refine xT ?_
   exact cut_at H (xK ⟨[], []⟩)
  refine xE ?_
  refine xr ?_
  exact cut_at H (xK ⟨[], []⟩)
 rintro x3 H
 rw [Jbx] at H
 rcases xB Y G H with ⟨p, H, F, G, q⟩ | ⟨p, H, F, G, q⟩
 ·refine xT ?_
  replace H := oI H
  refine xr ?_
  subst H
  exact xN
 refine xE0 ?_
 refine w_cut (JbE a0) (fun s => [(3, cS a0), (25, cB s)]) (fun s => []) [] out ?_ ?_
 ·refine xS ?_
  refine xr ?_
  rcases xB Y G H with ⟨p, H, F, G, q⟩ | ⟨p, H, F, G, q⟩
  ·refine xT ?_
   exact cut_at H (xK ⟨[], []⟩)
  refine xE ?_
  refine xr ?_
  exact cut_at H (xK ⟨[], []⟩)
 rintro x4 H
 rw [JbE] at H
 rcases xB Y G H with ⟨p, H, F, G, q⟩ | ⟨p, H, F, G, q⟩
 ·refine xT ?_
  replace H := oI H
  refine xr ?_
  subst H
  exact xN
 refine xE0 ?_
 refine w_cut Jat (fun s => [(28, cB s)]) (fun s => []) [] out ?_ ?_
 ·refine xS ?_
  refine xr ?_
  rcases xB Y G H with ⟨p, H, F, G, q⟩ | ⟨p, H, F, G, q⟩
  ·refine xT ?_
   exact cut_at H (xK ⟨[], []⟩)
  refine xE ?_
  refine xr ?_
  rcases xB Y G H with ⟨p, H, F, G, q⟩ | ⟨p, H, F, G, q⟩
  ·refine xT ?_
   exact cut_at H (xK ⟨[], []⟩)
  refine xE ?_
  refine xr ?_
  exact cut_at H (xK ⟨[], []⟩)
 rintro x5 H
 rw [Jat] at H
 rcases xB Y G H with ⟨p, H, F, G, q⟩ | ⟨p, H, F, G, q⟩
 ·refine xT ?_
  replace H := oI H
  refine xr ?_
  subst H
  exact xN
 refine xE ?_
 replace H := oI H
 refine xr ?_
 subst H
 exact xN
theorem Jgd (a0 : List UInt8) (r : Int) (H : JcV a0 = some r) : PC JcQ [dS a0] (dI r) := PF.c (a := a0) H
noncomputable def V0 : (Bool × Int) → Option YF
 | (x4, x5) => none
noncomputable def JD (a4 : Int) : (Bool × Int) → Option YF
 | (x2, x3) => if x2 = true then V0 (true, IntKind.i64.wrap (a4 + 1)) else V0 (false, a4)
noncomputable def Xf (a4 : Int) (r1 : YT) (r2 : (List UInt8)) : Bool → Option YF
 | x1 => if x1 = true then inrO (some (r1.1, r1.2.1, r1.2.2)) else if (eqS r2 [38, 38]) = true then if (eqI r1.1 0) = true then JD a4 (true, IntKind.i64.wrap (r1.2.1 + 1)) else if (eqS r2 [124, 124]) = true then JD a4 (true, IntKind.i64.wrap (r1.2.1 + 1)) else JD a4 (false, IntKind.i64.wrap (r1.2.1 + 1)) else if (eqS r2 [124, 124]) = true then JD a4 (!eqI r1.1 0, IntKind.i64.wrap (r1.2.1 + 1)) else JD a4 (false, IntKind.i64.wrap (r1.2.1 + 1))
noncomputable def ZP (a0 : Int) (a1 : List Token) (a4 : Int) (r1 : YT) : Unit → Option YF
 | () => (Jab a1 r1.2.1 r1.2.2 a4).bind fun r2 => (JcV r2).bind fun r3 => if (eqI r3 0) = true then Xf a4 r1 r2 true else Xf a4 r1 r2 (ltI r3 a0)
noncomputable def JaS (a0 : Int) (a1 : List Token) (a2 a3 a4 : Int) : Option YT :=
 (JbJ a1 a2 a3 a4).bind fun r1 => loopO (ZP a0 a1 a4 r1) ()
def XA (a0 : Int) (a1 : List Token) (a2 a3 a4 : Int) (r : YT) : GI :=
 ⟨[.c (.pt 1 0), cI a0], [[.d (.sl 11 (List.map d_Token a1)), kI a2, kI a3, kI a4]], [], .ret (cI r.1) [[.d (.sl 11 (List.map d_Token a1)), kI r.2.1, kI r.2.2, kI a4]] []⟩
def XG : GI → Prop := Sg5 JaS XA
theorem JdR : ∀ g, XG g → GenOk Tryz.prog 127 g := by
 rintro _ ⟨a0, a1, a2, a3, a4, r, H, rfl⟩
 refine xGn mixed [(149, JcQ)] [(147, true, Zz), (148, true, VP)] [] ⟨⟨call_149, Jf1⟩, trivial⟩ ⟨JeC, JcH, trivial⟩ trivial Tryz.func127 _ ?_
 have G := True.intro
 have Y := xZ y_3 <| xZ y_159 <| xZ Tryz.results127 <| xZ d_Call.eq_1 <| xZ d_Token.eq_1 <| xZ Zv.eq_1 <| xZ VI.eq_1 <| XA.eq_1
 dsimp only [XA]
 simp only [JaS] at H
 refine xS ?_
 refine xr ?_
 obtain ⟨r1, hr1, H⟩ := osplit H
 have F := Y
 refine xQ ?_
 refine xs 1 ?_
 refine xc ⟨[1], []⟩ (tabG 0 (cg4 hr1)) ?_
 refine xs 1 ?_
 refine xl ?_
 refine xS ?_
 refine w_loop (ZP a0 a1 a4 r1) (fun s => [(0, .c (.pt 1 0)), (1, cI a0), (5, cI r1.1)]) (fun s => [[.d (.sl 11 (List.map d_Token a1)), kI r1.2.1, kI r1.2.2, kI a4]]) [] H (xK ⟨[1], []⟩) ?_
 rintro n1 ⟨⟩ o1 H hF1
 rw [ZP] at H
 refine xS ?_
 obtain ⟨r2, hr2, H⟩ := osplit H
 have F := Y
 refine xQ ?_
 refine xs 1 ?_
 refine xc ⟨[1], []⟩ (tabG 1 (cg4 hr2)) ?_
 refine xs 1 ?_
 refine xl ?_
 refine xS ?_
 obtain ⟨r3, hr3, H⟩ := osplit H
 have F := xC Y (Jgd r2 r3 hr3)
 refine xR0 ?_
 refine then_normal ?_
 refine w_seq ?_
 refine w_cut (Xf a4 r1 r2) (fun s => [(0, .c (.pt 1 0)), (1, cI a0), (5, cI r1.1), (6, cS r2), (7, cI r3), (23, cB s)]) (fun s => [[.d (.sl 11 (List.map d_Token a1)), kI r1.2.1, kI r1.2.2, kI a4]]) [] o1 ?_ ?_
 ·rcases xB Y G H with ⟨p, H, F, G, q⟩ | ⟨p, H, F, G, q⟩
  ·refine xR ?_
   exact cut_at H (xK ⟨[1], []⟩)
  refine xR ?_
  exact cut_at H (xK ⟨[1], []⟩)
 rintro x1 H
 rw [Xf] at H
 rcases xB Y G H with ⟨p, H, F, G, q⟩ | ⟨p, H, F, G, q⟩
 ·refine xT ?_
  replace H := inrO_fin H hF1
  replace H := oI H
  refine xr ?_
  subst H
  refine xrD [] ?_
  exact xO ⟨[1], []⟩
 refine xE ?_
 refine xr ?_
 refine xr0 ?_
 refine then_normal ?_
 refine w_cut (JD a4) (fun s => [(0, .c (.pt 1 0)), (1, cI a0), (5, cI r1.1), (6, cS r2), (7, cI r3), (8, cI r1.2.1), (9, cB s.1)]) (fun s => [[.d (.sl 11 (List.map d_Token a1)), kI s.2, kI r1.2.2, kI a4]]) [] o1 ?_ ?_
 ·rcases xB Y G H with ⟨p, H, F, G, q⟩ | ⟨p, H, F, G, q⟩
  ·rcases xB F G H with ⟨p, H, F, G, q⟩ | ⟨p, H, F, G, q⟩
   ·refine xR ?_
    exact cut_at H (xK ⟨[1], []⟩)
   rcases xB F G H with ⟨p, H, F, G, q⟩ | ⟨p, H, F, G, q⟩
   ·refine xR ?_
    exact cut_at H (xK ⟨[1], []⟩)
   refine xR ?_
   exact cut_at H (xK ⟨[1], []⟩)
  rcases xB F G H with ⟨p, H, F, G, q⟩ | ⟨p, H, F, G, q⟩
  ·refine xR ?_
   exact cut_at H (xK ⟨[1], []⟩)
  refine xR ?_
  exact cut_at H (xK ⟨[1], []⟩)
 rintro ⟨x2, x3⟩ H
 rw [JD] at H
 refine w_cut V0 (fun s => [(0, .c (.pt 1 0)), (1, cI a0), (5, cI r1.1), (6, cS r2), (7, cI r3), (8, cI r1.2.1), (9, cB s.1)]) (fun s => [[.d (.sl 11 (List.map d_Token a1)), kI x3, kI r1.2.2, kI s.2]]) [] o1 ?_ ?_
 ·refine xS ?_
  refine xr ?_
  rcases xB Y G H with ⟨p, H, F, G, q⟩ | ⟨p, H, F, G, q⟩
  ·refine xT ?_
   refine xr ?_
   exact cut_at H (xK ⟨[1], []⟩)
  refine xE ?_
  exact cut_at H (xK ⟨[1], []⟩)
 rintro ⟨x4, x5⟩ H
 rw [V0] at H
 refine xS ?_
 cases H
theorem Jd6 : Callable Tryz.prog 127 ∧ (∀ g, XG g → GenOk Tryz.prog 127 g) ∧ (true = true → ∀ g, XG g → ∃ val bs ts, g.out = .ret val bs ts) :=
 ⟨call_127, JdR, fun _ => by rintro _ ⟨_, _, _, _, _, _, _, rfl⟩; exact ⟨_, _, _, rfl⟩⟩
noncomputable def VZ : (Bool × Int) → Option YF
 | (x1, x2) => none
noncomputable def Z0 (a3 : Int) (r1 : YT) : Unit → Option YF
 | () => if (eqB (!eqI r1.1 0) (eqI 0 1)) = true then VZ (true, IntKind.i64.wrap (a3 + 1)) else VZ (false, a3)
noncomputable def JaV (a0 : List Token) (a1 a2 a3 : Int) : Option YT :=
 (JaS 1 a0 a1 a2 a3).bind fun r1 => (Kd [63] a0 r1.2.1 r1.2.2 a3).bind fun r2 => if (!r2.1) = true then some (r1.1, r2.2, r1.2.2) else loopO (Z0 a3 r1) ()
def XM (a0 : List Token) (a1 a2 a3 : Int) (r : YT) : GI :=
 ⟨[.c (.pt 1 0)], [[.d (.sl 11 (List.map d_Token a0)), kI a1, kI a2, kI a3]], [], .ret (cI r.1) [[.d (.sl 11 (List.map d_Token a0)), kI r.2.1, kI r.2.2, kI a3]] []⟩
def Xw : GI → Prop := Sg4 JaV XM
theorem JdL : ∀ g, Xw g → GenOk Tryz.prog 106 g := by
 rintro _ ⟨a0, a1, a2, a3, r, H, rfl⟩
 refine xGn mixed [] [(127, true, XG), (128, true, Xj)] [] trivial ⟨Jd6, JcU, trivial⟩ trivial Tryz.func106 _ ?_
 have G := True.intro
 have Y := xZ y_3 <| xZ y_4 <| xZ y_159 <| xZ y_178 <| xZ Tryz.results106 <| xZ d_Call.eq_1 <| xZ d_Token.eq_1 <| xZ XA.eq_1 <| xZ Xn.eq_1 <| XM.eq_1
 dsimp only [XM]
 simp only [JaV] at H
 refine xS ?_
 refine xr ?_
 obtain ⟨r1, hr1, H⟩ := osplit H
 have F := Y
 refine xQ ?_
 refine xs 1 ?_
 refine xc ⟨[1], []⟩ (tabG 0 (cg5 hr1)) ?_
 refine xs 1 ?_
 refine xl ?_
 refine xS ?_
 obtain ⟨r2, hr2, H⟩ := osplit H
 have F := Y
 refine xQ ?_
 refine xs 1 ?_
 refine xc ⟨[1], []⟩ (tabG 1 (cg5 hr2)) ?_
 refine xs 1 ?_
 refine xl ?_
 refine xS ?_
 rcases xB Y G H with ⟨p, H, F, G, q⟩ | ⟨p, H, F, G, q⟩
 ·refine xT ?_
  replace H := oI H
  refine xr ?_
  subst H
  refine xrD [] ?_
  exact xO ⟨[1], []⟩
 refine xE ?_
 refine xr ?_
 refine xr ?_
 refine w_loop (Z0 a3 r1) (fun s => [(0, .c (.pt 1 0)), (3, cI r1.1), (4, .c (.pt 2 0)), (14, cI 0)]) (fun s => [[.d (.sl 11 (List.map d_Token a0)), kI r2.2, kI r1.2.2, kI a3], [kI 0, kI 0]]) [] H (xK ⟨[1,4], []⟩) ?_
 rintro n1 ⟨⟩ o1 H hF1
 rw [Z0] at H
 refine xS ?_
 refine xr ?_
 refine xt ?_
 refine xr ?_
 refine xr0 ?_
 refine then_normal ?_
 refine w_cut VZ (fun s => [(0, .c (.pt 1 0)), (3, cI r1.1), (4, .c (.pt 2 0)), (5, cI 0), (6, cB s.1), (14, cI 0)]) (fun s => [[.d (.sl 11 (List.map d_Token a0)), kI r2.2, kI r1.2.2, kI s.2], [kI 0, kI 0]]) [] o1 ?_ ?_
 ·refine xS ?_
  refine xr ?_
  rcases xB Y G H with ⟨p, H, F, G, q⟩ | ⟨p, H, F, G, q⟩
  ·refine xT ?_
   refine xr ?_
   exact cut_at H (xK ⟨[1,2], []⟩)
  refine xE ?_
  exact cut_at H (xK ⟨[1,2], []⟩)
 rintro ⟨x1, x2⟩ H
 rw [VZ] at H
 refine xS ?_
 cases H
theorem Jd7 : Callable Tryz.prog 106 ∧ (∀ g, Xw g → GenOk Tryz.prog 106 g) ∧ (true = true → ∀ g, Xw g → ∃ val bs ts, g.out = .ret val bs ts) :=
 ⟨call_106, JdL, fun _ => by rintro _ ⟨_, _, _, _, _, _, rfl⟩; exact ⟨_, _, _, rfl⟩⟩
noncomputable def Jcx (a0 a1 a2 a3 : Int) : Option Unit :=
 some ()
def di_cond_Eval_1 (a0 a1 a2 a3 : Int) (r : Unit) : DI :=
 ⟨[.c (.pt 1 0), .c (.pt 2 0)], [[kI a0], [kI a1, kI a2, kI a3]], [], none, [[kI a0], [kI a1, kI a2, kI a3]], [], none⟩
def SD_cond_Eval_1 : DI → Prop := fun d => ∃ (a0 a1 a2 a3 : Int) (r : Unit), Jcx a0 a1 a2 a3 = some r ∧ d = di_cond_Eval_1 a0 a1 a2 a3 r
theorem JfR (a0 a1 a2 a3 : Int) (r : Unit) (H : Jcx a0 a1 a2 a3 = some r) : SD_cond_Eval_1 (di_cond_Eval_1 a0 a1 a2 a3 r) := ⟨a0, a1, a2, a3, r, H, rfl⟩
theorem Jfu : ∀ d, SD_cond_Eval_1 d → DOk Tryz.prog 105 d := by
 rintro _ ⟨a0, a1, a2, a3, r, H, rfl⟩
 refine xRcl mixed [7] [] [] trivial trivial Tryz.func105 _ ?_
 have G := True.intro
 have Y := xZ y_3 <| xZ y_20 <| xZ y_31 <| xZ y_156 <| xZ Tryz.results105 <| di_cond_Eval_1.eq_1
 dsimp only [di_cond_Eval_1, Option.getD_some, Option.getD_none]
 unfold Jcx at H
 refine xS ?_
 refine xr ?_
 refine xt ?_
 replace H := oI H
 refine xr ?_
 subst H
 exact xDn ⟨[1, 2], []⟩
noncomputable def JeA (a0 : List Token) : Option (Int × Int) :=
 (JaV a0 0 0 0).bind fun r1 => if (ltI r1.2.1 (a0.length : Int)) = true then none else (Jcx r1.1 0 (-1) 0).bind fun r2 => some (r1.1, (-1))
def JcB (a0 : List Token) (r : (Int × Int)) : GI :=
 ⟨[.c (.d (.sl 11 (List.map d_Token a0)))], [], [], .ret (.tu [(false, [kI r.1]), (true, [kI 0, kI r.2, kI 0])]) [] []⟩
def Jcy : GI → Prop := Sg1 JeA JcB
theorem Jf9 : ∀ g, Jcy g → GenOk Tryz.prog 79 g := by
 rintro _ ⟨a0, r, H, rfl⟩
 refine xGn mixed [] [(106, true, Xw)] [(105, SD_cond_Eval_1)] trivial ⟨Jd7, trivial⟩ ⟨⟨call_105, Jfu⟩, trivial⟩ Tryz.func79 _ ?_
 have G := True.intro
 have Y := xZ y_3 <| xZ y_24 <| xZ y_29 <| xZ y_31 <| xZ y_44 <| xZ y_159 <| xZ Tryz.results79 <| xZ d_Call.eq_1 <| xZ d_Token.eq_1 <| xZ XM.eq_1 <| xZ di_cond_Eval_1.eq_1 <| JcB.eq_1
 dsimp only [JcB]
 simp only [JeA] at H
 refine xS ?_
 refine xr ?_
 have F := Y
 refine xQ ?_
 refine xs 1 ?_
 refine xw ?_
 refine xl ?_
 refine xS ?_
 refine xr ?_
 obtain ⟨r1, hr1, H⟩ := osplit H
 have F := Y
 refine xQ ?_
 refine xs 1 ?_
 refine xc ⟨[3], []⟩ (tabG 0 (cg4 hr1)) ?_
 refine xs 1 ?_
 refine xl ?_
 refine xS ?_
 refine xr ?_
 rcases xB Y G H with ⟨p, H, F, G, q⟩ | ⟨p, H, F, G, q⟩
 ·refine xT ?_
  cases H
 refine xE ?_
 refine xr ?_
 refine xrD [(105, [.pt 1 0, .pt 2 0])] ?_
 obtain ⟨r2, hr2, H⟩ := osplit H
 refine xD ⟨[1, 2], []⟩ (tabD 0 (JfR r1.1 0 (-1) 0 r2 hr2)) ?_
 replace H := oI H
 subst H
 exact xO ⟨[], []⟩
theorem Jdv : Callable Tryz.prog 79 ∧ (∀ g, Jcy g → GenOk Tryz.prog 79 g) ∧ (true = true → ∀ g, Jcy g → ∃ val bs ts, g.out = .ret val bs ts) :=
 ⟨call_79, Jf9, fun _ => by rintro _ ⟨_, _, _, rfl⟩; exact ⟨_, _, _, rfl⟩⟩
end Go.Proofs.YtfkhlbhjhdpkoaaGreatDoor
