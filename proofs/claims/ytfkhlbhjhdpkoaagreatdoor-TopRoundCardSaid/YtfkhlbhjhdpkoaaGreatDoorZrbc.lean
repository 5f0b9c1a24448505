/- Functions of data for functions of the program. Written by dec3.py. -/
import Derived.Test.YtfkhlbhjhdpkoaaGreatDoorZraz
import Derived.Test.YtfkhlbhjhdpkoaaGreatDoorZrbb
set_option linter.unusedVariables false
set_option linter.unusedSimpArgs false
set_option maxHeartbeats 4000000
set_option maxRecDepth 100000
namespace Go.Proofs.YtfkhlbhjhdpkoaaGreatDoor
open Go.RowKit
noncomputable def JaD (x1 : Int) (x2 : Int) : Bool → Option ((Int × Int) ⊕ Fault)
 | x3 => if x3 = true then inrO (some (⟨2, x2, 0⟩ : Fault)) else some (.inl (x1, IntKind.i64.wrap (x2 + 1)))
noncomputable def JbY (a0 : List Source) : (Int × Int) → Option ((Int × Int) ⊕ Fault)
 | (x1, x2) => if (ltI x2 x1) = true then if (0 : Int) ≤ x2 ∧ x2.toNat < a0.length then (Ja2 ((a0.getD x2.toNat default).Path)).bind fun r1 => if (!r1) = true then inrO (some (⟨7, x2, 0⟩ : Fault)) else if (ltI 3000 (((a0.getD x2.toNat default).Text).length : Int)) = true then inrO (some (⟨4, x2, 0⟩ : Fault)) else if (ltI 0 x2) = true then if (0 : Int) ≤ (IntKind.i64.wrap (x2 - 1)) ∧ (IntKind.i64.wrap (x2 - 1)).toNat < a0.length then JaD x1 x2 (!Op.bytesLess ((a0.getD ((IntKind.i64.wrap (x2 - 1)).toNat) default).Path) ((a0.getD x2.toNat default).Path)) else none else JaD x1 x2 false else none else inrO (some (⟨0, (-1), 0⟩ : Fault))
noncomputable def JaW (a0 : List Source) : Option Fault :=
 if (ltI 8 (a0.length : Int)) = true then some (⟨5, (-1), 0⟩ : Fault) else loopO (JbY a0) ((a0.length : Int), 0)
noncomputable def Jb1 : PF := PF.of (E1 (dL 2 d_Source)) (fun a => JaW a) d_Fault
theorem Je2 : PureOk Tryz.prog 20 Jb1 := by
 refine xF mixed [(31, JaJ)] [] ⟨⟨call_31, Jdh⟩, trivial⟩ trivial Tryz.func20 ?_
 rintro a0 out H
 have G := True.intro
 have Y := xZ y_3 <| xZ y_9 <| xZ y_29 <| xZ y_31 <| xZ y_35 <| xZ y_37 <| xZ Tryz.results20 <| xZ d_Source.eq_1 <| d_Fault.eq_1
 simp only [JaW] at H
 refine xS ?_
 refine xr ?_
 refine xr ?_
 rcases bsplit H with ⟨hp1, H⟩ | ⟨hp1, H⟩
 ·obtain ⟨F, G, hq1⟩ := xH Y G hp1
  refine xT ?_
  replace H := Option.some.inj H
  refine xr ?_
  subst H
  exact xN
 ·obtain ⟨F, G, hq1⟩ := xH Y G hp1
  refine xE ?_
  refine xr ?_
  refine w_loop (JbY a0) (fun s => [(0, .c (.d (.sl 2 (List.map d_Source a0)))), (2, .c (.pt 1 0)), (9, .c (.d (.sl 2 (List.map d_Source a0)))), (10, .c (.d (.v (.int .i64 s.1)))), (11, .c (.d (.v (.int .i64 s.2))))]) (fun s => [[.d (.v (.int .i64 0)), .d (.v (.int .i64 0)), .d (.v (.int .i64 0))]]) [] H (xK ⟨[1], []⟩) ?_
  rintro n1 ⟨x1, x2⟩ o1 H hF1
  rw [JbY] at H
  refine xS ?_
  refine xr ?_
  rcases bsplit H with ⟨hp2, H⟩ | ⟨hp2, H⟩
  ·obtain ⟨F, G, hq2⟩ := xH Y G hp2
   refine xT ?_
   obtain ⟨hg1, H⟩ := gsplit H
   have F := xZ Y (map_getD d_Source a0 x2.toNat default default (by omega))
   refine xR ?_
   obtain ⟨r1, hr1, H⟩ := osplit H
   have F := xC Y (Jcj ((a0.getD x2.toNat default).Path) r1 hr1)
   refine xR ?_
   rcases bsplit H with ⟨hp3, H⟩ | ⟨hp3, H⟩
   ·obtain ⟨F, G, hq3⟩ := xH Y G hp3
    refine xT ?_
    replace H := inrO_fin H hF1
    replace H := Option.some.inj H
    refine xr ?_
    subst H
    exact xN
   ·obtain ⟨F, G, hq3⟩ := xH Y G hp3
    refine xE ?_
    refine xr ?_
    rcases bsplit H with ⟨hp4, H⟩ | ⟨hp4, H⟩
    ·obtain ⟨F, G, hq4⟩ := xH Y G hp4
     refine xT ?_
     replace H := inrO_fin H hF1
     replace H := Option.some.inj H
     refine xr ?_
     subst H
     exact xN
    ·obtain ⟨F, G, hq4⟩ := xH Y G hp4
     refine xE0 ?_
     refine w_cut (JaD x1 x2) (fun s => [(0, .c (.d (.sl 2 (List.map d_Source a0)))), (2, .c (.pt 1 0)), (3, .c (.d (.v (.int .i64 x2)))), (9, .c (.d (.sl 2 (List.map d_Source a0)))), (10, .c (.d (.v (.int .i64 x1)))), (11, .c (.d (.v (.int .i64 x2)))), (30, .c (.d (.v (.bool s))))]) (fun s => [[.d (.v (.int .i64 0)), .d (.v (.int .i64 0)), .d (.v (.int .i64 0))]]) [] o1 ?_ ?_
     ·rcases bsplit H with ⟨hp6, H⟩ | ⟨hp6, H⟩
      ·obtain ⟨F, G, hq6⟩ := xH Y G hp6
       obtain ⟨hg2, H⟩ := gsplit H
       have F := xZ F (map_getD d_Source a0 ((IntKind.i64.wrap (x2 - 1)).toNat) default default (by omega))
       refine xR ?_
       exact cut_at H (xK ⟨[1], []⟩)
      ·obtain ⟨F, G, hq6⟩ := xH Y G hp6
       refine xR ?_
       exact cut_at H (xK ⟨[1], []⟩)
     ·rintro x3 H
      rw [JaD] at H
      rcases bsplit H with ⟨hp5, H⟩ | ⟨hp5, H⟩
      ·obtain ⟨F, G, hq5⟩ := xH Y G hp5
       refine xT ?_
       replace H := inrO_fin H hF1
       replace H := Option.some.inj H
       refine xr ?_
       subst H
       exact xN
      ·obtain ⟨F, G, hq5⟩ := xH Y G hp5
       refine xE ?_
       refine xr ?_
       exact round_at (inl_fin H hF1) (xK ⟨[1], []⟩)
  ·obtain ⟨F, G, hq2⟩ := xH Y G hp2
   replace H := inrO_fin H hF1
   refine xE ?_
   replace H := Option.some.inj H
   refine xr ?_
   subst H
   exact xN
theorem Jfm (a0 : List Source) (r : Fault) (H : JaW a0 = some r) : PC Jb1 [(dL 2 d_Source) a0] (d_Fault r) := PF.c (a := a0) H
noncomputable def Jbs (a0 : Source) (a1 : List UInt8) : Option Bool :=
 some (eqS a0.Path a1)
def ZR (a0 : Source) (a1 : List UInt8) (r : Bool) : GI :=
 ⟨[.ag [.d (.v (str a0.Path)), .d (.v (str a0.Text))], .c (.pt 1 0)], [[.d (.v (str a1))]], [], .ret (.c (.d (.v (.bool r)))) [[.d (.v (str a1))]] []⟩
def ZP : GI → Prop := fun g => ∃ (a0 : Source) (a1 : List UInt8) (r : Bool), Jbs a0 a1 = some r ∧ g = ZR a0 a1 r
theorem Je4 (a0 : Source) (a1 : List UInt8) (r : Bool) (H : Jbs a0 a1 = some r) : ZP (ZR a0 a1 r) := ⟨a0, a1, r, H, rfl⟩
theorem JeI : ∀ g, ZP g → GenOk Tryz.prog 131 g := by
 rintro _ ⟨a0, a1, r, H, rfl⟩
 refine xGn mixed [] [] [] trivial trivial trivial Tryz.func131 _ ?_
 have G := True.intro
 have Y := xZ y_9 <| xZ y_35 <| xZ Tryz.results131 <| xZ d_Source.eq_1 <| ZR.eq_1
 dsimp only [ZR]
 simp only [Jbs] at H
 refine xS ?_
 refine xr ?_
 replace H := Option.some.inj H
 refine xr ?_
 subst H
 refine xrD [] ?_
 exact xO ⟨[1], []⟩
theorem Je5 : Callable Tryz.prog 131 ∧ (∀ g, ZP g → GenOk Tryz.prog 131 g) ∧ (true = true → ∀ g, ZP g → ∃ val bs ts, g.out = .ret val bs ts) :=
 ⟨call_131, JeI, fun _ => by rintro _ ⟨_, _, _, _, rfl⟩; exact ⟨_, _, _, rfl⟩⟩
noncomputable def JX (a0 : List Source) (a1 : List UInt8) : (Int × Int) → Option ((Int × Int) ⊕ Int)
 | (x1, x2) => if (ltI x2 x1) = true then if (0 : Int) ≤ x2 ∧ x2.toNat < a0.length then (Jbs (a0.getD x2.toNat default) a1).bind fun r1 => if r1 = true then inrO (some x2) else some (.inl (x1, IntKind.i64.wrap (x2 + 1))) else none else inrO (some (-1))
noncomputable def JG (a0 : List Source) (a1 : List UInt8) : Option Int :=
 loopO (JX a0 a1) ((a0.length : Int), 0)
def Jo (a0 : List Source) (a1 : List UInt8) (r : Int) : GI :=
 ⟨[.c (.d (.sl 2 (List.map d_Source a0))), .c (.clo 131 [1])], [[.d (.v (str a1))]], [], .ret (.c (.d (.v (.int .i64 r)))) [[.d (.v (str a1))]] []⟩
def Jp : GI → Prop := fun g => ∃ (a0 : List Source) (a1 : List UInt8) (r : Int), JG a0 a1 = some r ∧ g = Jo a0 a1 r
theorem Z6 (a0 : List Source) (a1 : List UInt8) (r : Int) (H : JG a0 a1 = some r) : Jp (Jo a0 a1 r) := ⟨a0, a1, r, H, rfl⟩
theorem ZY : ∀ g, Jp g → GenOk Tryz.prog 130 g := by
 rintro _ ⟨a0, a1, r, H, rfl⟩
 refine xGn mixed [] [(131, true, ZP)] [] trivial ⟨Je5, trivial⟩ trivial Tryz.func130 _ ?_
 have G := True.intro
 have Y := xZ y_35 <| xZ y_37 <| xZ Tryz.results130 <| xZ d_Source.eq_1 <| xZ ZR.eq_1 <| Jo.eq_1
 dsimp only [Jo]
 simp only [JG] at H
 refine xS ?_
 refine xr ?_
 refine xr ?_
 refine w_loop (JX a0 a1) (fun s => [(0, .c (.d (.sl 2 (List.map d_Source a0)))), (1, .c (.clo 131 [1])), (7, .c (.d (.v (.int .i64 s.1)))), (8, .c (.d (.v (.int .i64 s.2))))]) (fun s => [[.d (.v (str a1))]]) [] H (xK ⟨[1], []⟩) ?_
 rintro n1 ⟨x1, x2⟩ o1 H hF1
 rw [JX] at H
 refine xS ?_
 refine xr ?_
 rcases bsplit H with ⟨hp1, H⟩ | ⟨hp1, H⟩
 ·obtain ⟨F, G, hq1⟩ := xH Y G hp1
  refine xT ?_
  refine xr ?_
  obtain ⟨hg1, H⟩ := gsplit H
  have F := xZ Y (map_getD d_Source a0 x2.toNat default default (by omega))
  obtain ⟨r1, hr1, H⟩ := osplit H
  have F := F
  refine xQ ?_
  refine xs 5 ?_
  refine xc ⟨[1], []⟩ (tabG 0 (Je4 (a0.getD x2.toNat default) a1 r1 hr1)) ?_
  refine xl ?_
  refine xS ?_
  rcases bsplit H with ⟨hp2, H⟩ | ⟨hp2, H⟩
  ·obtain ⟨F, G, hq2⟩ := xH Y G hp2
   refine xT ?_
   replace H := inrO_fin H hF1
   replace H := Option.some.inj H
   refine xr ?_
   subst H
   refine xrD [] ?_
   exact xO ⟨[1], []⟩
  ·obtain ⟨F, G, hq2⟩ := xH Y G hp2
   refine xE ?_
   refine xr ?_
   exact round_at (inl_fin H hF1) (xK ⟨[1], []⟩)
 ·obtain ⟨F, G, hq1⟩ := xH Y G hp1
  replace H := inrO_fin H hF1
  refine xE ?_
  replace H := Option.some.inj H
  refine xr ?_
  subst H
  refine xrD [] ?_
  exact xO ⟨[1], []⟩
theorem Jaf : Callable Tryz.prog 130 ∧ (∀ g, Jp g → GenOk Tryz.prog 130 g) ∧ (true = true → ∀ g, Jp g → ∃ val bs ts, g.out = .ret val bs ts) :=
 ⟨call_130, ZY, fun _ => by rintro _ ⟨_, _, _, _, rfl⟩; exact ⟨_, _, _, rfl⟩⟩
noncomputable def JaI (a0 : List Source) (a1 : List UInt8) : Option Int :=
 (JG a0 a1).bind fun r1 => some r1
noncomputable def Jcq : PF := PF.of (E2 (dL 2 d_Source) dS) (fun a => JaI a.1 a.2) dI
theorem Jfj : PureOk Tryz.prog 114 Jcq := by
 refine xF mixed [] [(130, true, Jp)] trivial ⟨Jaf, trivial⟩ Tryz.func114 ?_
 rintro ⟨a0, a1⟩ out H
 have G := True.intro
 have Y := xZ Tryz.results114 <| xZ d_Source.eq_1 <| Jo.eq_1
 simp only [JaI] at H
 refine xS ?_
 refine xr ?_
 obtain ⟨r1, hr1, H⟩ := osplit H
 have F := Y
 refine xQ ?_
 refine xs 2 ?_
 refine xc ⟨[1], []⟩ (tabG 0 (Z6 a0 a1 r1 hr1)) ?_
 refine xs 1 ?_
 refine xl ?_
 replace H := Option.some.inj H
 refine xS ?_
 subst H
 exact xN
theorem JcK (a0 : List Source) (a1 : List UInt8) (r : Int) (H : JaI a0 a1 = some r) : PC Jcq [(dL 2 d_Source) a0, dS a1] (dI r) := PF.c (a := (a0, a1)) H
noncomputable def ZV (a0 : List Source) (a1 : Int) (a2 : List UInt8) (a3 : Bool) : Bool → Option Int
 | x1 => if x1 = true then some (-1) else if (!a3) = true then (ZQ [108, 105, 98, 47, 120] a2).bind fun r1 => (JaI a0 r1).bind fun r2 => some r2 else if (0 : Int) ≤ a1 ∧ a1.toNat < a0.length then (ZQ ((a0.getD a1.toNat default).Path) a2).bind fun r3 => (JaI a0 r3).bind fun r4 => if (leI 0 r4) = true then some r4 else (ZQ [120] a2).bind fun r5 => (JaI a0 r5).bind fun r6 => some r6 else none
noncomputable def Ja4 (a0 : List Source) (a1 : Int) (a2 : List UInt8) (a3 : Bool) : Option Int :=
 if (ltI a1 0) = true then ZV a0 a1 a2 a3 true else ZV a0 a1 a2 a3 (leI (a0.length : Int) a1)
noncomputable def Jbf : PF := PF.of (E4 (dL 2 d_Source) dI dS dB) (fun a => Ja4 a.1 a.2.1 a.2.2.1 a.2.2.2) dI
theorem Jew : PureOk Tryz.prog 90 Jbf := by
 refine xF mixed [(115, JbJ), (114, Jcq)] [] ⟨⟨call_115, JeJ⟩, ⟨call_114, Jfj⟩, trivial⟩ trivial Tryz.func90 ?_
 rintro ⟨a0, a1, a2, a3⟩ out H
 have G := True.intro
 have Y := xZ y_9 <| xZ y_35 <| xZ y_37 <| xZ Tryz.results90 <| d_Source.eq_1
 simp only [Ja4] at H
 refine xS ?_
 refine xr0 ?_
 refine then_normal ?_
 refine w_seq ?_
 refine w_cut (ZV a0 a1 a2 a3) (fun s => [(0, .c (.d (.sl 2 (List.map d_Source a0)))), (1, .c (.d (.v (.int .i64 a1)))), (2, .c (.d (.v (str a2)))), (3, .c (.d (.v (.bool a3)))), (17, .c (.d (.v (.bool s))))]) (fun s => []) [] out ?_ ?_
 ·rcases bsplit H with ⟨hp4, H⟩ | ⟨hp4, H⟩
  ·obtain ⟨F, G, hq4⟩ := xH Y G hp4
   refine xR ?_
   exact cut_at H (xK ⟨[], []⟩)
  ·obtain ⟨F, G, hq4⟩ := xH Y G hp4
   refine xR ?_
   exact cut_at H (xK ⟨[], []⟩)
 ·rintro x1 H
  rw [ZV] at H
  rcases bsplit H with ⟨hp1, H⟩ | ⟨hp1, H⟩
  ·obtain ⟨F, G, hq1⟩ := xH Y G hp1
   refine xT ?_
   replace H := Option.some.inj H
   refine xr ?_
   subst H
   exact xN
  ·obtain ⟨F, G, hq1⟩ := xH Y G hp1
   refine xE ?_
   refine xr ?_
   rcases bsplit H with ⟨hp2, H⟩ | ⟨hp2, H⟩
   ·obtain ⟨F, G, hq2⟩ := xH Y G hp2
    refine xT ?_
    obtain ⟨r1, hr1, H⟩ := osplit H
    have F := xC Y (Jb8 [108, 105, 98, 47, 120] a2 r1 hr1)
    obtain ⟨r2, hr2, H⟩ := osplit H
    have F := xCf F (JcK a0 r1 r2 hr2)
    replace H := Option.some.inj H
    refine xR ?_
    subst H
    exact xN
   ·obtain ⟨F, G, hq2⟩ := xH Y G hp2
    refine xE ?_
    obtain ⟨hg1, H⟩ := gsplit H
    have F := xZ Y (map_getD d_Source a0 a1.toNat default default (by omega))
    obtain ⟨r3, hr3, H⟩ := osplit H
    have F := xCf F (Jb8 ((a0.getD a1.toNat default).Path) a2 r3 hr3)
    obtain ⟨r4, hr4, H⟩ := osplit H
    have F := xCf F (JcK a0 r3 r4 hr4)
    refine xR ?_
    refine xr ?_
    rcases bsplit H with ⟨hp3, H⟩ | ⟨hp3, H⟩
    ·obtain ⟨F, G, hq3⟩ := xH Y G hp3
     refine xT ?_
     replace H := Option.some.inj H
     refine xr ?_
     subst H
     exact xN
    ·obtain ⟨F, G, hq3⟩ := xH Y G hp3
     refine xE ?_
     obtain ⟨r5, hr5, H⟩ := osplit H
     have F := xC Y (Jb8 [120] a2 r5 hr5)
     obtain ⟨r6, hr6, H⟩ := osplit H
     have F := xCf F (JcK a0 r5 r6 hr6)
     replace H := Option.some.inj H
     refine xR ?_
     subst H
     exact xN
theorem JeL (a0 : List Source) (a1 : Int) (a2 : List UInt8) (a3 : Bool) (r : Int) (H : Ja4 a0 a1 a2 a3 = some r) : PC Jbf [(dL 2 d_Source) a0, dI a1, dS a2, dB a3] (dI r) := PF.c (a := (a0, a1, a2, a3)) H
end Go.Proofs.YtfkhlbhjhdpkoaaGreatDoor
