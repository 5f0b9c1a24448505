/- Functions of data for functions of the program. Written by dec3.py. -/
import Derived.Test.YtfkhlbhjhdpkoaaGreatDoorZcbb
import Derived.Test.YtfkhlbhjhdpkoaaGreatDoorZcbd
set_option linter.unusedVariables false
set_option linter.unusedSimpArgs false
set_option maxHeartbeats 4000000
set_option maxRecDepth 100000
namespace Go.Proofs.YtfkhlbhjhdpkoaaGreatDoor
open Go.RowKit
noncomputable def Ja4 (x1 x2 : Int) : Bool → Option ((Int × Int) ⊕ Fault)
 | x3 => if x3 = true then inrO (some (⟨2, x2, 0⟩ : Fault)) else some (.inl (x1, IntKind.i64.wrap (x2 + 1)))
noncomputable def Jcq (a0 : List Source) : (Int × Int) → Option ((Int × Int) ⊕ Fault)
 | (x1, x2) => if (ltI x2 x1) = true then if (0 : Int) ≤ x2 ∧ x2.toNat < a0.length then (Jbo ((a0.getD x2.toNat default).Path)).bind fun r1 => if (!r1) = true then inrO (some (⟨7, x2, 0⟩ : Fault)) else if (ltI 3000 (((a0.getD x2.toNat default).Text).length : Int)) = true then inrO (some (⟨4, x2, 0⟩ : Fault)) else if (ltI 0 x2) = true then if (0 : Int) ≤ (IntKind.i64.wrap (x2 - 1)) ∧ (IntKind.i64.wrap (x2 - 1)).toNat < a0.length then Ja4 x1 x2 (!Op.bytesLess ((a0.getD ((IntKind.i64.wrap (x2 - 1)).toNat) default).Path) ((a0.getD x2.toNat default).Path)) else none else Ja4 x1 x2 false else none else inrO (some (⟨0, (-1), 0⟩ : Fault))
noncomputable def Jbq (a0 : List Source) : Option Fault :=
 if (ltI 8 (a0.length : Int)) = true then some (⟨5, (-1), 0⟩ : Fault) else loopO (Jcq a0) ((a0.length : Int), 0)
noncomputable def Jcm : PF := PF.of (E1 (dL 2 d_Source)) (fun a => Jbq a) d_Fault
theorem JfG : PureOk Tryz.prog 20 Jcm := by
 refine xF mixed [(31, Jbb)] [] ⟨⟨call_31, JdO⟩, trivial⟩ trivial Tryz.func20 ?_
 rintro a0 out H
 have G := True.intro
 have Y := xZ y_3 <| xZ y_9 <| xZ y_29 <| xZ y_31 <| xZ y_35 <| xZ y_37 <| xZ Tryz.results20 <| xZ d_Source.eq_1 <| d_Fault.eq_1
 simp only [Jbq] at H
 refine xS ?_
 refine xr ?_
 refine xr ?_
 rcases xB Y G H with ⟨p, H, F, G, q⟩ | ⟨p, H, F, G, q⟩
 ·refine xT ?_
  replace H := oI H
  refine xr ?_
  subst H
  exact xN
 refine xE ?_
 refine xr ?_
 refine w_loop (Jcq a0) (fun s => [(0, .c (.d (.sl 2 (List.map d_Source a0)))), (2, .c (.pt 1 0)), (9, .c (.d (.sl 2 (List.map d_Source a0)))), (10, cI s.1), (11, cI s.2)]) (fun s => [[kI 0, kI 0, kI 0]]) [] H (xK ⟨[1], []⟩) ?_
 rintro n1 ⟨x1, x2⟩ o1 H hF1
 rw [Jcq] at H
 refine xS ?_
 refine xr ?_
 rcases xB Y G H with ⟨p, H, F, G, q⟩ | ⟨p, H, F, G, q⟩
 ·refine xT ?_
  obtain ⟨g, H⟩ := gsplit H
  have F := xZ Y (map_getD d_Source a0 x2.toNat default default (by omega))
  refine xR ?_
  obtain ⟨r1, hr1, H⟩ := osplit H
  have F := xC Y (JcM ((a0.getD x2.toNat default).Path) r1 hr1)
  refine xR ?_
  rcases xB Y G H with ⟨p, H, F, G, q⟩ | ⟨p, H, F, G, q⟩
  ·refine xT ?_
   replace H := inrO_fin H hF1
   replace H := oI H
   refine xr ?_
   subst H
   exact xN
  refine xE ?_
  refine xr ?_
  rcases xB Y G H with ⟨p, H, F, G, q⟩ | ⟨p, H, F, G, q⟩
  ·refine xT ?_
   replace H := inrO_fin H hF1
   replace H := oI H
   refine xr ?_
   subst H
   exact xN
  refine xE0 ?_
  refine w_cut (Ja4 x1 x2) (fun s => [(0, .c (.d (.sl 2 (List.map d_Source a0)))), (2, .c (.pt 1 0)), (3, cI x2), (9, .c (.d (.sl 2 (List.map d_Source a0)))), (10, cI x1), (11, cI x2), (30, cB s)]) (fun s => [[kI 0, kI 0, kI 0]]) [] o1 ?_ ?_
  ·rcases xB Y G H with ⟨p, H, F, G, q⟩ | ⟨p, H, F, G, q⟩
   ·obtain ⟨g, H⟩ := gsplit H
    have F := xZ F (map_getD d_Source a0 ((IntKind.i64.wrap (x2 - 1)).toNat) default default (by omega))
    refine xR ?_
    exact cut_at H (xK ⟨[1], []⟩)
   refine xR ?_
   exact cut_at H (xK ⟨[1], []⟩)
  rintro x3 H
  rw [Ja4] at H
  rcases xB Y G H with ⟨p, H, F, G, q⟩ | ⟨p, H, F, G, q⟩
  ·refine xT ?_
   replace H := inrO_fin H hF1
   replace H := oI H
   refine xr ?_
   subst H
   exact xN
  refine xE ?_
  refine xr ?_
  exact round_at (inl_fin H hF1) (xK ⟨[1], []⟩)
 replace H := inrO_fin H hF1
 refine xE ?_
 replace H := oI H
 refine xr ?_
 subst H
 exact xN
theorem Jf3 (a0 : List Source) (r : Fault) (H : Jbq a0 = some r) : PC Jcm [(dL 2 d_Source) a0] (d_Fault r) := PF.c (a := a0) H
noncomputable def Jc8 (a0 : Source) (a1 : List UInt8) : Option Bool :=
 some (eqS a0.Path a1)
def Ja2 (a0 : Source) (a1 : List UInt8) (r : Bool) : GI :=
 ⟨[.ag [kS a0.Path, kS a0.Text], .c (.pt 1 0)], [[kS a1]], [], .ret (cB r) [[kS a1]] []⟩
def Jbf : GI → Prop := Sg2 Jc8 Ja2
theorem Jfl : ∀ g, Jbf g → GenOk Tryz.prog 131 g := by
 rintro _ ⟨a0, a1, r, H, rfl⟩
 refine xGn mixed [] [] [] trivial trivial trivial Tryz.func131 _ ?_
 have G := True.intro
 have Y := xZ y_9 <| xZ y_35 <| xZ Tryz.results131 <| xZ d_Source.eq_1 <| Ja2.eq_1
 dsimp only [Ja2]
 simp only [Jc8] at H
 refine xS ?_
 refine xr ?_
 replace H := oI H
 refine xr ?_
 subst H
 refine xrD [] ?_
 exact xO ⟨[1], []⟩
theorem JfB : Callable Tryz.prog 131 ∧ (∀ g, Jbf g → GenOk Tryz.prog 131 g) ∧ (true = true → ∀ g, Jbf g → ∃ val bs ts, g.out = .ret val bs ts) :=
 ⟨call_131, Jfl, fun _ => by rintro _ ⟨_, _, _, _, rfl⟩; exact ⟨_, _, _, rfl⟩⟩
noncomputable def JK (a0 : List Source) (a1 : List UInt8) : (Int × Int) → Option YQ
 | (x1, x2) => if (ltI x2 x1) = true then if (0 : Int) ≤ x2 ∧ x2.toNat < a0.length then (Jc8 (a0.getD x2.toNat default) a1).bind fun r1 => if r1 = true then inrO (some x2) else some (.inl (x1, IntKind.i64.wrap (x2 + 1))) else none else inrO (some (-1))
noncomputable def JV (a0 : List Source) (a1 : List UInt8) : Option Int :=
 loopO (JK a0 a1) ((a0.length : Int), 0)
def Jq (a0 : List Source) (a1 : List UInt8) (r : Int) : GI :=
 ⟨[.c (.d (.sl 2 (List.map d_Source a0))), .c (.clo 131 [1])], [[kS a1]], [], .ret (cI r) [[kS a1]] []⟩
def Jr : GI → Prop := Sg2 JV Jq
theorem Jan : ∀ g, Jr g → GenOk Tryz.prog 130 g := by
 rintro _ ⟨a0, a1, r, H, rfl⟩
 refine xGn mixed [] [(131, true, Jbf)] [] trivial ⟨JfB, trivial⟩ trivial Tryz.func130 _ ?_
 have G := True.intro
 have Y := xZ y_35 <| xZ y_37 <| xZ Tryz.results130 <| xZ d_Source.eq_1 <| xZ Ja2.eq_1 <| Jq.eq_1
 dsimp only [Jq]
 simp only [JV] at H
 refine xS ?_
 refine xr ?_
 refine xr ?_
 refine w_loop (JK a0 a1) (fun s => [(0, .c (.d (.sl 2 (List.map d_Source a0)))), (1, .c (.clo 131 [1])), (7, cI s.1), (8, cI s.2)]) (fun s => [[kS a1]]) [] H (xK ⟨[1], []⟩) ?_
 rintro n1 ⟨x1, x2⟩ o1 H hF1
 rw [JK] at H
 refine xS ?_
 refine xr ?_
 rcases xB Y G H with ⟨p, H, F, G, q⟩ | ⟨p, H, F, G, q⟩
 ·refine xT ?_
  refine xr ?_
  obtain ⟨g, H⟩ := gsplit H
  have F := xZ Y (map_getD d_Source a0 x2.toNat default default (by omega))
  obtain ⟨r1, hr1, H⟩ := osplit H
  have F := F
  refine xQ ?_
  refine xs 5 ?_
  refine xc ⟨[1], []⟩ (tabG 0 (cg2 hr1)) ?_
  refine xl ?_
  refine xS ?_
  rcases xB Y G H with ⟨p, H, F, G, q⟩ | ⟨p, H, F, G, q⟩
  ·refine xT ?_
   replace H := inrO_fin H hF1
   replace H := oI H
   refine xr ?_
   subst H
   refine xrD [] ?_
   exact xO ⟨[1], []⟩
  refine xE ?_
  refine xr ?_
  exact round_at (inl_fin H hF1) (xK ⟨[1], []⟩)
 replace H := inrO_fin H hF1
 refine xE ?_
 replace H := oI H
 refine xr ?_
 subst H
 refine xrD [] ?_
 exact xO ⟨[1], []⟩
theorem Jas : Callable Tryz.prog 130 ∧ (∀ g, Jr g → GenOk Tryz.prog 130 g) ∧ (true = true → ∀ g, Jr g → ∃ val bs ts, g.out = .ret val bs ts) :=
 ⟨call_130, Jan, fun _ => by rintro _ ⟨_, _, _, _, rfl⟩; exact ⟨_, _, _, rfl⟩⟩
noncomputable def Jbd (a0 : List Source) (a1 : List UInt8) : Option Int :=
 (JV a0 a1).bind fun r1 => some r1
noncomputable def JcO : PF := PF.of (E2 (dL 2 d_Source) dS) (fun a => Jbd a.1 a.2) dI
theorem JfT : PureOk Tryz.prog 114 JcO := by
 refine xF mixed [] [(130, true, Jr)] trivial ⟨Jas, trivial⟩ Tryz.func114 ?_
 rintro ⟨a0, a1⟩ out H
 have G := True.intro
 have Y := xZ Tryz.results114 <| xZ d_Source.eq_1 <| Jq.eq_1
 simp only [Jbd] at H
 refine xS ?_
 refine xr ?_
 obtain ⟨r1, hr1, H⟩ := osplit H
 have F := Y
 refine xQ ?_
 refine xs 2 ?_
 refine xc ⟨[1], []⟩ (tabG 0 (cg2 hr1)) ?_
 refine xs 1 ?_
 refine xl ?_
 replace H := oI H
 refine xS ?_
 subst H
 exact xN
theorem JcZ (a0 : List Source) (a1 : List UInt8) (r : Int) (H : Jbd a0 a1 = some r) : PC JcO [(dL 2 d_Source) a0, dS a1] (dI r) := PF.c (a := (a0, a1)) H
noncomputable def Z8 (a0 : List Source) (a1 : Int) (a2 : List UInt8) (a3 : Bool) : Bool → Option Int
 | x1 => if x1 = true then some (-1) else if (!a3) = true then (Z5 [108, 105, 98, 47, 120] a2).bind fun r1 => (Jbd a0 r1).bind fun r2 => some r2 else if (0 : Int) ≤ a1 ∧ a1.toNat < a0.length then (Z5 ((a0.getD a1.toNat default).Path) a2).bind fun r3 => (Jbd a0 r3).bind fun r4 => if (leI 0 r4) = true then some r4 else (Z5 [120] a2).bind fun r5 => (Jbd a0 r5).bind fun r6 => some r6 else none
noncomputable def JbH (a0 : List Source) (a1 : Int) (a2 : List UInt8) (a3 : Bool) : Option Int :=
 if (ltI a1 0) = true then Z8 a0 a1 a2 a3 true else Z8 a0 a1 a2 a3 (leI (a0.length : Int) a1)
noncomputable def JbL : PF := PF.of (E4 (dL 2 d_Source) dI dS dB) (fun a => JbH a.1 a.2.1 a.2.2.1 a.2.2.2) dI
theorem Je8 : PureOk Tryz.prog 90 JbL := by
 refine xF mixed [(115, Jb5), (114, JcO)] [] ⟨⟨call_115, Jfh⟩, ⟨call_114, JfT⟩, trivial⟩ trivial Tryz.func90 ?_
 rintro ⟨a0, a1, a2, a3⟩ out H
 have G := True.intro
 have Y := xZ y_9 <| xZ y_35 <| xZ y_37 <| xZ Tryz.results90 <| d_Source.eq_1
 simp only [JbH] at H
 refine xS ?_
 refine xr0 ?_
 refine then_normal ?_
 refine w_seq ?_
 refine w_cut (Z8 a0 a1 a2 a3) (fun s => [(0, .c (.d (.sl 2 (List.map d_Source a0)))), (1, cI a1), (2, cS a2), (3, cB a3), (17, cB s)]) (fun s => []) [] out ?_ ?_
 ·rcases xB Y G H with ⟨p, H, F, G, q⟩ | ⟨p, H, F, G, q⟩
  ·refine xR ?_
   exact cut_at H (xK ⟨[], []⟩)
  refine xR ?_
  exact cut_at H (xK ⟨[], []⟩)
 rintro x1 H
 rw [Z8] at H
 rcases xB Y G H with ⟨p, H, F, G, q⟩ | ⟨p, H, F, G, q⟩
 ·refine xT ?_
  replace H := oI H
  refine xr ?_
  subst H
  exact xN
 refine xE ?_
 refine xr ?_
 rcases xB Y G H with ⟨p, H, F, G, q⟩ | ⟨p, H, F, G, q⟩
 ·refine xT ?_
  obtain ⟨r1, hr1, H⟩ := osplit H
  have F := xC Y (Jcn [108, 105, 98, 47, 120] a2 r1 hr1)
  obtain ⟨r2, hr2, H⟩ := osplit H
  have F := xCf F (JcZ a0 r1 r2 hr2)
  replace H := oI H
  refine xR ?_
  subst H
  exact xN
 refine xE ?_
 obtain ⟨g, H⟩ := gsplit H
 have F := xZ Y (map_getD d_Source a0 a1.toNat default default (by omega))
 obtain ⟨r3, hr3, H⟩ := osplit H
 have F := xCf F (Jcn ((a0.getD a1.toNat default).Path) a2 r3 hr3)
 obtain ⟨r4, hr4, H⟩ := osplit H
 have F := xCf F (JcZ a0 r3 r4 hr4)
 refine xR ?_
 refine xr ?_
 rcases xB Y G H with ⟨p, H, F, G, q⟩ | ⟨p, H, F, G, q⟩
 ·refine xT ?_
  replace H := oI H
  refine xr ?_
  subst H
  exact xN
 refine xE ?_
 obtain ⟨r5, hr5, H⟩ := osplit H
 have F := xC Y (Jcn [120] a2 r5 hr5)
 obtain ⟨r6, hr6, H⟩ := osplit H
 have F := xCf F (JcZ a0 r5 r6 hr6)
 replace H := oI H
 refine xR ?_
 subst H
 exact xN
theorem Jfw (a0 : List Source) (a1 : Int) (a2 : List UInt8) (a3 : Bool) (r : Int) (H : JbH a0 a1 a2 a3 = some r) : PC JbL [(dL 2 d_Source) a0, dI a1, dS a2, dB a3] (dI r) := PF.c (a := (a0, a1, a2, a3)) H
end Go.Proofs.YtfkhlbhjhdpkoaaGreatDoor
