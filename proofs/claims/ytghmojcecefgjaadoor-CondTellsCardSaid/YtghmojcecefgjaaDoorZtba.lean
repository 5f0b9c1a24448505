/- Functions of data for functions of the program. Written by dec3.py. -/
import Derived.Test.YtghmojcecefgjaaDoorZtah
import Derived.Test.YtghmojcecefgjaaDoorZtay
set_option linter.unusedVariables false
set_option linter.unusedSimpArgs false
namespace Go.Proofs.YtghmojcecefgjaaDoor
open Go.RowKit
noncomputable def preref4_Levels  : Option (List (List (List UInt8))) :=
  some [[[124, 124]], [[38, 38]], [[124]], [[94]], [[38]], [[61, 61], [33, 61]], [[60], [62], [60, 61], [62, 61]], [[60, 60], [62, 62]], [[43], [45]], [[42], [47], [37]]]
noncomputable def pf_preref4_Levels : PF := PF.of E0 (fun _ => preref4_Levels) (dL 1 (dL 1 dS))
set_option maxRecDepth 100000 in
set_option maxHeartbeats 4000000 in
theorem preref4_Levels_ok : PureOk Tryd.prog 48 pf_preref4_Levels := by
  refine xF mixed [] [] trivial trivial Tryd.func48 ?_
  rintro _ out H
  have G := True.intro
  have Y := xZ y_9 <| xZ y_38 <| xZ y_82 <| Tryd.results48
  simp only [preref4_Levels] at H
  refine xS ?_
  refine xr ?_
  replace H := Option.some.inj H
  refine xr ?_
  subst H
  exact xN
theorem preref4_Levels_c  (r : (List (List (List UInt8)))) (H : preref4_Levels  = some r) : PC pf_preref4_Levels [] ((dL 1 (dL 1 dS)) r) := PF.c (a := ()) H
noncomputable def preref4_C_Is_j1 : Bool → Option Bool
  | x1 => some x1
noncomputable def preref4_C_Is (a0 : Int) (a1 : List UInt8) (a2 : List Token) (a3 : Int) (a4 : Int) (a5 : Int) (a6 : Int) (a7 : Int) : Option Bool :=
  if (ltI a0 (a2.length : Int)) = true then if (0 : Int) ≤ a0 ∧ a0.toNat < a2.length then if (eqI ((a2.getD a0.toNat default).Kind) 5) = true then if (0 : Int) ≤ a0 ∧ a0.toNat < a2.length then preref4_C_Is_j1 (eqS ((a2.getD a0.toNat default).Text) a1) else none else preref4_C_Is_j1 false else none else preref4_C_Is_j1 false
def g_preref4_C_Is (a0 : Int) (a1 : List UInt8) (a2 : List Token) (a3 : Int) (a4 : Int) (a5 : Int) (a6 : Int) (a7 : Int) (r : Bool) : GI :=
  ⟨[.c (.pt 1 0), .c (.d (.v (.int .i64 a0))), .c (.d (.v (str a1)))], [[.d (.sl 11 (List.map d_Token a2)), .d (.v (.int .i64 a3)), .d (.v (.int .i64 a4)), .d (.v (.int .i64 a5)), .d (.v (.int .i64 a6)), .d (.v (.int .i64 a7))]], [], .ret (.c (.d (.v (.bool r)))) [[.d (.sl 11 (List.map d_Token a2)), .d (.v (.int .i64 a3)), .d (.v (.int .i64 a4)), .d (.v (.int .i64 a5)), .d (.v (.int .i64 a6)), .d (.v (.int .i64 a7))]] []⟩
def S_preref4_C_Is : GI → Prop := fun g => ∃ (a0 : Int) (a1 : List UInt8) (a2 : List Token) (a3 : Int) (a4 : Int) (a5 : Int) (a6 : Int) (a7 : Int) (r : Bool), preref4_C_Is a0 a1 a2 a3 a4 a5 a6 a7 = some r ∧ g = g_preref4_C_Is a0 a1 a2 a3 a4 a5 a6 a7 r
theorem preref4_C_Is_c (a0 : Int) (a1 : List UInt8) (a2 : List Token) (a3 : Int) (a4 : Int) (a5 : Int) (a6 : Int) (a7 : Int) (r : Bool) (H : preref4_C_Is a0 a1 a2 a3 a4 a5 a6 a7 = some r) : S_preref4_C_Is (g_preref4_C_Is a0 a1 a2 a3 a4 a5 a6 a7 r) := ⟨a0, a1, a2, a3, a4, a5, a6, a7, r, H, rfl⟩
set_option maxRecDepth 100000 in
set_option maxHeartbeats 4000000 in
theorem preref4_C_Is_ok : ∀ g, S_preref4_C_Is g → GenOk Tryd.prog 37 g := by
  rintro _ ⟨a0, a1, a2, a3, a4, a5, a6, a7, r, H, rfl⟩
  refine xGn mixed [] [] [] trivial trivial trivial Tryd.func37 _ ?_
  have G := True.intro
  have Y := xZ y_3 <| xZ y_9 <| xZ y_22 <| xZ y_47 <| xZ y_60 <| xZ Tryd.results37 <| xZ d_Call.eq_1 <| xZ d_Token.eq_1 <| xZ d_Fault.eq_1 <| g_preref4_C_Is.eq_1
  dsimp only [g_preref4_C_Is]
  simp only [preref4_C_Is] at H
  refine xS ?_
  refine xr0 ?_
  refine then_normal ?_
  refine w_cut preref4_C_Is_j1 (fun s => [(6, .c (.d (.v (.bool s))))]) (fun s => [[.d (.sl 11 (List.map d_Token a2)), .d (.v (.int .i64 a3)), .d (.v (.int .i64 a4)), .d (.v (.int .i64 a5)), .d (.v (.int .i64 a6)), .d (.v (.int .i64 a7))]]) [] r ?_ ?_
  · rcases bsplit H with ⟨hp1, H⟩ | ⟨hp1, H⟩
    · obtain ⟨F, G, hq1⟩ := xH Y G hp1
      obtain ⟨hg1, H⟩ := gsplit H
      have F := xZ F (map_getD d_Token a2 a0.toNat default default (by omega))
      rcases bsplit H with ⟨hp2, H⟩ | ⟨hp2, H⟩
      · obtain ⟨F, G, hq2⟩ := xH F G hp2
        obtain ⟨hg2, H⟩ := gsplit H
        have F := xZ F (map_getD d_Token a2 a0.toNat default default (by omega))
        refine xR ?_
        exact cut_at H (xK ⟨[1], []⟩)
      · obtain ⟨F, G, hq2⟩ := xH F G hp2
        refine xR ?_
        exact cut_at H (xK ⟨[1], []⟩)
    · obtain ⟨F, G, hq1⟩ := xH Y G hp1
      refine xR ?_
      exact cut_at H (xK ⟨[1], []⟩)
  · rintro x1 H
    rw [preref4_C_Is_j1] at H
    replace H := Option.some.inj H
    refine xS ?_
    subst H
    refine xOr ?_
    refine qDf [] ?_
    exact xO ⟨[1], []⟩
theorem preref4_C_Is_k : Callable Tryd.prog 37 ∧ (∀ g, S_preref4_C_Is g → GenOk Tryd.prog 37 g) ∧ (true = true → ∀ g, S_preref4_C_Is g → ∃ val bs ts, g.out = .ret val bs ts) :=
  ⟨call_37, preref4_C_Is_ok, fun _ => by rintro _ ⟨_, _, _, _, _, _, _, _, _, _, rfl⟩; exact ⟨_, _, _, rfl⟩⟩
noncomputable def preref4_one (a0 : Bool) : Option Int :=
  if a0 = true then some 1 else some 0
noncomputable def pf_preref4_one : PF := PF.of (E1 dB) (fun a => preref4_one a) dI
set_option maxRecDepth 100000 in
set_option maxHeartbeats 4000000 in
theorem preref4_one_ok : PureOk Tryd.prog 50 pf_preref4_one := by
  refine xF mixed [] [] trivial trivial Tryd.func50 ?_
  rintro a0 out H
  have G := True.intro
  have Y := Tryd.results50
  simp only [preref4_one] at H
  refine xS ?_
  refine xr ?_
  refine xr ?_
  rcases bsplit H with ⟨hp1, H⟩ | ⟨hp1, H⟩
  · obtain ⟨F, G, hq1⟩ := xH Y G hp1
    refine xT ?_
    replace H := Option.some.inj H
    refine xr ?_
    subst H
    exact xN
  · obtain ⟨F, G, hq1⟩ := xH Y G hp1
    refine xE ?_
    replace H := Option.some.inj H
    refine xr ?_
    subst H
    exact xN
theorem preref4_one_c (a0 : Bool) (r : Int) (H : preref4_one a0 = some r) : PC pf_preref4_one [dB a0] (dI r) := PF.c (a := a0) H
noncomputable def preref4_C_Op_j3 : (Int × Int × Int) → Option (Int × Int × Int × Int)
  | (x5, x6, x7) => some (0, x5, x6, x7)
noncomputable def preref4_C_Op_j5 (x9 : Int) : Int → Option ((Int × Int) ⊕ (Int × Int × Int × Int))
  | x10 => some (.inl (x10, IntKind.i64.wrap (x9 + 1)))
noncomputable def preref4_C_Op_b4 (a2 : Int) (a4 : Int) (a5 : Int) (a6 : Int) (x1 : List UInt8) : (Int × Int) → Option ((Int × Int) ⊕ (Int × Int × Int × Int))
  | (x8, x9) => if (ltI x9 a2) = true then if (eqS x1 [60, 60]) = true then preref4_C_Op_j5 x9 (IntKind.i64.wrap (2 * x8)) else if (0 : Int) ≤ 1 then preref4_C_Op_j5 x9 (Int.fdiv x8 (2 ^ (min 1 IntKind.i64.bits))) else none else inrO (some (x8, a4, a5, a6))
noncomputable def preref4_C_Op_j2 (a0 : Int) (a1 : Int) (a2 : Int) (a3 : List Token) (a4 : Int) (a5 : Int) (a6 : Int) (a7 : Int) (a8 : Int) (x1 : List UInt8) : Bool → Option (Int × Int × Int × Int)
  | x4 => if x4 = true then if (eqI a8 0) = true then (preref4_C_Stop a0 3 a3 a4 a5 a6 a7 a8).bind fun r1 => preref4_C_Op_j3 (r1.1, r1.2.1, r1.2.2) else preref4_C_Op_j3 (a4, a5, a6) else loopO (preref4_C_Op_b4 a2 a4 a5 a6 x1) (a1, 0)
noncomputable def preref4_C_Op_j7 : (Int × Int × Int) → Option (Int × Int × Int × Int)
  | (x12, x13, x14) => some (0, x12, x13, x14)
noncomputable def preref4_C_Op_j6 (a0 : Int) (a1 : Int) (a2 : Int) (a3 : List Token) (a4 : Int) (a5 : Int) (a6 : Int) (a7 : Int) (a8 : Int) (x1 : List UInt8) : Bool → Option (Int × Int × Int × Int)
  | x11 => if x11 = true then if (eqI a2 0) = true then if (eqI a8 0) = true then (preref4_C_Stop a0 13 a3 a4 a5 a6 a7 a8).bind fun r2 => preref4_C_Op_j7 (r2.1, r2.2.1, r2.2.2) else preref4_C_Op_j7 (a4, a5, a6) else if (eqI a2 (-1)) = true then if x1.length ≤ 9223372036854775807 then some (valA a1 x1, a4, a5, a6) else none else if x1.length ≤ 9223372036854775807 then some (valB a1 a2 x1, a4, a5, a6) else none else if x1.length ≤ 9223372036854775807 then some (valC a1 a2 x1, a4, a5, a6) else none
noncomputable def preref4_C_Op_j1 (a0 : Int) (a1 : Int) (a2 : Int) (a3 : List Token) (a4 : Int) (a5 : Int) (a6 : Int) (a7 : Int) (a8 : Int) : ((List UInt8) × (List UInt8) × Bool) → Option (Int × Int × Int × Int)
  | (x1, x2, x3) => if x3 = true then if (ltI a2 0) = true then preref4_C_Op_j2 a0 a1 a2 a3 a4 a5 a6 a7 a8 x1 true else preref4_C_Op_j2 a0 a1 a2 a3 a4 a5 a6 a7 a8 x1 (ltI 63 a2) else if (eqS x2 [47]) = true then preref4_C_Op_j6 a0 a1 a2 a3 a4 a5 a6 a7 a8 x1 true else preref4_C_Op_j6 a0 a1 a2 a3 a4 a5 a6 a7 a8 x1 (eqS x2 [37])
noncomputable def preref4_C_Op (a0 : Int) (a1 : Int) (a2 : Int) (a3 : List Token) (a4 : Int) (a5 : Int) (a6 : Int) (a7 : Int) (a8 : Int) : Option (Int × Int × Int × Int) :=
  if (0 : Int) ≤ a0 ∧ a0.toNat < a3.length then if (eqS ((a3.getD a0.toNat default).Text) [60, 60]) = true then preref4_C_Op_j1 a0 a1 a2 a3 a4 a5 a6 a7 a8 ((a3.getD a0.toNat default).Text, (a3.getD a0.toNat default).Text, true) else preref4_C_Op_j1 a0 a1 a2 a3 a4 a5 a6 a7 a8 ((a3.getD a0.toNat default).Text, (a3.getD a0.toNat default).Text, eqS ((a3.getD a0.toNat default).Text) [62, 62]) else none
def g_preref4_C_Op (a0 : Int) (a1 : Int) (a2 : Int) (a3 : List Token) (a4 : Int) (a5 : Int) (a6 : Int) (a7 : Int) (a8 : Int) (r : (Int × Int × Int × Int)) : GI :=
  ⟨[.c (.pt 1 0), .c (.d (.v (.int .i64 a0))), .c (.d (.v (.int .i64 a1))), .c (.d (.v (.int .i64 a2)))], [[.d (.sl 11 (List.map d_Token a3)), .d (.v (.int .i64 a4)), .d (.v (.int .i64 a5)), .d (.v (.int .i64 a6)), .d (.v (.int .i64 a7)), .d (.v (.int .i64 a8))]], [], .ret (.c (.d (.v (.int .i64 r.1)))) [[.d (.sl 11 (List.map d_Token a3)), .d (.v (.int .i64 r.2.1)), .d (.v (.int .i64 r.2.2.1)), .d (.v (.int .i64 r.2.2.2)), .d (.v (.int .i64 a7)), .d (.v (.int .i64 a8))]] []⟩
def S_preref4_C_Op : GI → Prop := fun g => ∃ (a0 : Int) (a1 : Int) (a2 : Int) (a3 : List Token) (a4 : Int) (a5 : Int) (a6 : Int) (a7 : Int) (a8 : Int) (r : (Int × Int × Int × Int)), preref4_C_Op a0 a1 a2 a3 a4 a5 a6 a7 a8 = some r ∧ g = g_preref4_C_Op a0 a1 a2 a3 a4 a5 a6 a7 a8 r
theorem preref4_C_Op_c (a0 : Int) (a1 : Int) (a2 : Int) (a3 : List Token) (a4 : Int) (a5 : Int) (a6 : Int) (a7 : Int) (a8 : Int) (r : (Int × Int × Int × Int)) (H : preref4_C_Op a0 a1 a2 a3 a4 a5 a6 a7 a8 = some r) : S_preref4_C_Op (g_preref4_C_Op a0 a1 a2 a3 a4 a5 a6 a7 a8 r) := ⟨a0, a1, a2, a3, a4, a5, a6, a7, a8, r, H, rfl⟩
set_option maxRecDepth 100000 in
set_option maxHeartbeats 4000000 in
theorem preref4_C_Op_ok : ∀ g, S_preref4_C_Op g → GenOk Tryd.prog 51 g := by
  rintro _ ⟨a0, a1, a2, a3, a4, a5, a6, a7, a8, r, H, rfl⟩
  refine xGnl mixed [24, 1000124] [] [(26, true, S_preref4_C_Stop)] [] trivial ⟨preref4_C_Stop_k, trivial⟩ trivial Tryd.func51 _ ?_
  have G := True.intro
  have Y := xZ y_3 <| xZ y_9 <| xZ y_22 <| xZ y_47 <| xZ y_60 <| xZ Tryd.results51 <| xZ d_Call.eq_1 <| xZ d_Token.eq_1 <| xZ d_Fault.eq_1 <| xZ g_preref4_C_Stop.eq_1 <| g_preref4_C_Op.eq_1
  dsimp only [g_preref4_C_Op]
  simp only [preref4_C_Op] at H
  refine xS ?_
  refine xr ?_
  obtain ⟨hg1, H⟩ := gsplit H
  have F := xZ Y (map_getD d_Token a3 a0.toNat default default (by omega))
  refine xR ?_
  refine xr0 ?_
  refine then_normal ?_
  refine w_block ?_
  refine w_cut (preref4_C_Op_j1 a0 a1 a2 a3 a4 a5 a6 a7 a8) (fun s => [(0, .c (.pt 1 0)), (1, .c (.d (.v (.int .i64 a0)))), (2, .c (.d (.v (.int .i64 a1)))), (3, .c (.d (.v (.int .i64 a2)))), (9, .c (.d (.v (str s.1)))), (18, .c (.d (.v (str s.2.1)))), (19, .c (.d (.v (.bool s.2.2))))]) (fun s => [[.d (.sl 11 (List.map d_Token a3)), .d (.v (.int .i64 a4)), .d (.v (.int .i64 a5)), .d (.v (.int .i64 a6)), .d (.v (.int .i64 a7)), .d (.v (.int .i64 a8))]]) [] r ?_ ?_
  · refine xS ?_
    refine xr ?_
    rcases bsplit H with ⟨hp12, H⟩ | ⟨hp12, H⟩
    · obtain ⟨F, G, hq12⟩ := xH Y G hp12
      refine xT ?_
      exact cut_at H (xK ⟨[1], []⟩)
    · obtain ⟨F, G, hq12⟩ := xH Y G hp12
      refine xE ?_
      refine xr ?_
      exact cut_at H (xK ⟨[1], []⟩)
  · rintro ⟨x1, x2, x3⟩ H
    rw [preref4_C_Op_j1] at H
    rcases bsplit H with ⟨hp1, H⟩ | ⟨hp1, H⟩
    · obtain ⟨F, G, hq1⟩ := xH Y G hp1
      refine xT0 ?_
      refine w_seq ?_
      refine w_cut (preref4_C_Op_j2 a0 a1 a2 a3 a4 a5 a6 a7 a8 x1) (fun s => [(0, .c (.pt 1 0)), (1, .c (.d (.v (.int .i64 a0)))), (2, .c (.d (.v (.int .i64 a1)))), (3, .c (.d (.v (.int .i64 a2)))), (9, .c (.d (.v (str x1)))), (27, .c (.d (.v (.bool s))))]) (fun s => [[.d (.sl 11 (List.map d_Token a3)), .d (.v (.int .i64 a4)), .d (.v (.int .i64 a5)), .d (.v (.int .i64 a6)), .d (.v (.int .i64 a7)), .d (.v (.int .i64 a8))]]) [] r ?_ ?_
      · rcases bsplit H with ⟨hp6, H⟩ | ⟨hp6, H⟩
        · obtain ⟨F, G, hq6⟩ := xH Y G hp6
          refine xR ?_
          exact cut_at H (xK ⟨[1], []⟩)
        · obtain ⟨F, G, hq6⟩ := xH Y G hp6
          refine xR ?_
          exact cut_at H (xK ⟨[1], []⟩)
      · rintro x4 H
        rw [preref4_C_Op_j2] at H
        rcases bsplit H with ⟨hp2, H⟩ | ⟨hp2, H⟩
        · obtain ⟨F, G, hq2⟩ := xH Y G hp2
          refine xT0 ?_
          refine w_cut preref4_C_Op_j3 (fun s => []) (fun s => [[.d (.sl 11 (List.map d_Token a3)), .d (.v (.int .i64 s.1)), .d (.v (.int .i64 s.2.1)), .d (.v (.int .i64 s.2.2)), .d (.v (.int .i64 a7)), .d (.v (.int .i64 a8))]]) [] r ?_ ?_
          · refine xS ?_
            refine xr ?_
            rcases bsplit H with ⟨hp3, H⟩ | ⟨hp3, H⟩
            · obtain ⟨F, G, hq3⟩ := xH Y G hp3
              refine xT ?_
              obtain ⟨r1, hr1, H⟩ := osplit H
              have F := Y
              refine xQ ?_
              refine xs 2 ?_
              refine xc ⟨[1], []⟩ (tabG 0 (preref4_C_Stop_c a0 3 a3 a4 a5 a6 a7 a8 r1 hr1)) ?_
              refine xl ?_
              refine xS ?_
              exact cut_at H (xK ⟨[1], []⟩)
            · obtain ⟨F, G, hq3⟩ := xH Y G hp3
              refine xE ?_
              exact cut_at H (xK ⟨[1], []⟩)
          · rintro ⟨x5, x6, x7⟩ H
            rw [preref4_C_Op_j3] at H
            refine xS ?_
            replace H := Option.some.inj H
            refine xr ?_
            subst H
            refine xOr ?_
            refine qDf [] ?_
            exact xO ⟨[1], []⟩
        · obtain ⟨F, G, hq2⟩ := xH Y G hp2
          refine xE ?_
          refine xr ?_
          refine w_loop (preref4_C_Op_b4 a2 a4 a5 a6 x1) (fun s => [(2, .c (.d (.v (.int .i64 s.1)))), (9, .c (.d (.v (str x1)))), (36, .c (.d (.v (.int .i64 a2)))), (37, .c (.d (.v (.int .i64 s.2))))]) (fun s => [[.d (.sl 11 (List.map d_Token a3)), .d (.v (.int .i64 a4)), .d (.v (.int .i64 a5)), .d (.v (.int .i64 a6)), .d (.v (.int .i64 a7)), .d (.v (.int .i64 a8))]]) [] H (xK ⟨[1], []⟩) ?_
          rintro n1 ⟨x8, x9⟩ o1 H hF1
          rw [preref4_C_Op_b4] at H
          refine xS ?_
          refine xr ?_
          rcases bsplit H with ⟨hp4, H⟩ | ⟨hp4, H⟩
          · obtain ⟨F, G, hq4⟩ := xH Y G hp4
            refine xT0 ?_
            refine w_skip ?_
            refine then_normal ?_
            refine w_cut (preref4_C_Op_j5 x9) (fun s => [(2, .c (.d (.v (.int .i64 s)))), (9, .c (.d (.v (str x1)))), (36, .c (.d (.v (.int .i64 a2)))), (37, .c (.d (.v (.int .i64 x9))))]) (fun s => [[.d (.sl 11 (List.map d_Token a3)), .d (.v (.int .i64 a4)), .d (.v (.int .i64 a5)), .d (.v (.int .i64 a6)), .d (.v (.int .i64 a7)), .d (.v (.int .i64 a8))]]) [] o1 ?_ ?_
            · refine xS ?_
              refine xr ?_
              rcases bsplit H with ⟨hp5, H⟩ | ⟨hp5, H⟩
              · obtain ⟨F, G, hq5⟩ := xH Y G hp5
                refine xT ?_
                refine xr ?_
                exact cut_at H (xK ⟨[1], []⟩)
              · obtain ⟨F, G, hq5⟩ := xH Y G hp5
                refine xE ?_
                obtain ⟨hg2, H⟩ := gsplit H
                refine xr ?_
                exact cut_at H (xK ⟨[1], []⟩)
            · rintro x10 H
              rw [preref4_C_Op_j5] at H
              refine xr ?_
              exact round_at (inl_fin H hF1) (xK ⟨[1], []⟩)
          · obtain ⟨F, G, hq4⟩ := xH Y G hp4
            replace H := inrO_fin H hF1
            refine xE ?_
            replace H := Option.some.inj H
            refine xr ?_
            subst H
            refine xOr ?_
            refine qDf [] ?_
            exact xO ⟨[1], []⟩
    · obtain ⟨F, G, hq1⟩ := xH Y G hp1
      refine xE0 ?_
      refine w_cut (preref4_C_Op_j6 a0 a1 a2 a3 a4 a5 a6 a7 a8 x1) (fun s => [(0, .c (.pt 1 0)), (1, .c (.d (.v (.int .i64 a0)))), (2, .c (.d (.v (.int .i64 a1)))), (3, .c (.d (.v (.int .i64 a2)))), (9, .c (.d (.v (str x1)))), (47, .c (.d (.v (.bool s))))]) (fun s => [[.d (.sl 11 (List.map d_Token a3)), .d (.v (.int .i64 a4)), .d (.v (.int .i64 a5)), .d (.v (.int .i64 a6)), .d (.v (.int .i64 a7)), .d (.v (.int .i64 a8))]]) [] r ?_ ?_
      · refine xS ?_
        refine xr ?_
        rcases bsplit H with ⟨hp11, H⟩ | ⟨hp11, H⟩
        · obtain ⟨F, G, hq11⟩ := xH Y G hp11
          refine xT ?_
          exact cut_at H (xK ⟨[1], []⟩)
        · obtain ⟨F, G, hq11⟩ := xH Y G hp11
          refine xE ?_
          refine xr ?_
          exact cut_at H (xK ⟨[1], []⟩)
      · rintro x11 H
        rw [preref4_C_Op_j6] at H
        rcases bsplit H with ⟨hp7, H⟩ | ⟨hp7, H⟩
        · obtain ⟨F, G, hq7⟩ := xH Y G hp7
          refine xT ?_
          refine xr ?_
          rcases bsplit H with ⟨hp8, H⟩ | ⟨hp8, H⟩
          · obtain ⟨F, G, hq8⟩ := xH Y G hp8
            refine xT0 ?_
            refine w_cut preref4_C_Op_j7 (fun s => []) (fun s => [[.d (.sl 11 (List.map d_Token a3)), .d (.v (.int .i64 s.1)), .d (.v (.int .i64 s.2.1)), .d (.v (.int .i64 s.2.2)), .d (.v (.int .i64 a7)), .d (.v (.int .i64 a8))]]) [] r ?_ ?_
            · refine xS ?_
              refine xr ?_
              rcases bsplit H with ⟨hp9, H⟩ | ⟨hp9, H⟩
              · obtain ⟨F, G, hq9⟩ := xH Y G hp9
                refine xT ?_
                obtain ⟨r2, hr2, H⟩ := osplit H
                have F := Y
                refine xQ ?_
                refine xs 2 ?_
                refine xc ⟨[1], []⟩ (tabG 0 (preref4_C_Stop_c a0 13 a3 a4 a5 a6 a7 a8 r2 hr2)) ?_
                refine xl ?_
                refine xS ?_
                exact cut_at H (xK ⟨[1], []⟩)
              · obtain ⟨F, G, hq9⟩ := xH Y G hp9
                refine xE ?_
                exact cut_at H (xK ⟨[1], []⟩)
            · rintro ⟨x12, x13, x14⟩ H
              rw [preref4_C_Op_j7] at H
              refine xS ?_
              replace H := Option.some.inj H
              refine xr ?_
              subst H
              refine xOr ?_
              refine qDf [] ?_
              exact xO ⟨[1], []⟩
          · obtain ⟨F, G, hq8⟩ := xH Y G hp8
            refine xE ?_
            refine xr ?_
            rcases bsplit H with ⟨hp10, H⟩ | ⟨hp10, H⟩
            · obtain ⟨F, G, hq10⟩ := xH Y G hp10
              refine xT ?_
              obtain ⟨hgh, H⟩ := gsplit H
              refine hand23 a1 x1 hgh ?_
              replace H := Option.some.inj H
              refine xS ?_
              subst H
              refine xOr ?_
              refine qDf [] ?_
              exact xO ⟨[1], []⟩
            · obtain ⟨F, G, hq10⟩ := xH Y G hp10
              refine xE ?_
              obtain ⟨hgh, H⟩ := gsplit H
              refine hand24 a1 a2 x1 (by intro hb; have e : (eqI a2 0) = true := decide_eq_true hb; simp_all) hgh ?_
              replace H := Option.some.inj H
              refine xS ?_
              subst H
              refine xOr ?_
              refine qDf [] ?_
              exact xO ⟨[1], []⟩
        · obtain ⟨F, G, hq7⟩ := xH Y G hp7
          refine xE ?_
          obtain ⟨hgh, H⟩ := gsplit H
          refine hand25 a1 a2 x1 hgh ?_
          replace H := Option.some.inj H
          refine xS ?_
          subst H
          refine xOr ?_
          refine qDf [] ?_
          exact xO ⟨[1], []⟩
theorem preref4_C_Op_k : Callable Tryd.prog 51 ∧ (∀ g, S_preref4_C_Op g → GenOk Tryd.prog 51 g) ∧ (true = true → ∀ g, S_preref4_C_Op g → ∃ val bs ts, g.out = .ret val bs ts) :=
  ⟨call_51, preref4_C_Op_ok, fun _ => by rintro _ ⟨_, _, _, _, _, _, _, _, _, _, _, rfl⟩; exact ⟨_, _, _, rfl⟩⟩
def g_preref4_C_Choice (a0 : Int) (a1 : List Token) (a2 : Int) (a3 : Int) (a4 : Int) (a5 : Int) (a6 : Int) (r : (Int × Int × Int × Int × Int × Int × Int)) : GI :=
  ⟨[.c (.pt 1 0), .c (.d (.v (.int .i64 a0)))], [[.d (.sl 11 (List.map d_Token a1)), .d (.v (.int .i64 a2)), .d (.v (.int .i64 a3)), .d (.v (.int .i64 a4)), .d (.v (.int .i64 a5)), .d (.v (.int .i64 a6))]], [], .ret (.tu [(false, [.d (.v (.int .i64 r.1))]), (false, [.d (.v (.int .i64 r.2.1))])]) [[.d (.sl 11 (List.map d_Token a1)), .d (.v (.int .i64 r.2.2.1)), .d (.v (.int .i64 r.2.2.2.1)), .d (.v (.int .i64 r.2.2.2.2.1)), .d (.v (.int .i64 r.2.2.2.2.2.1)), .d (.v (.int .i64 r.2.2.2.2.2.2))]] []⟩
def SF_preref4_C_Choice (q : Int → (List Token) → Int → Int → Int → Int → Int → Option (Int × Int × Int × Int × Int × Int × Int)) : GI → Prop := fun g => ∃ (a0 : Int) (a1 : List Token) (a2 : Int) (a3 : Int) (a4 : Int) (a5 : Int) (a6 : Int) (r : (Int × Int × Int × Int × Int × Int × Int)), q a0 a1 a2 a3 a4 a5 a6 = some r ∧ g = g_preref4_C_Choice a0 a1 a2 a3 a4 a5 a6 r
theorem preref4_C_Choice_sc (q : Int → (List Token) → Int → Int → Int → Int → Int → Option (Int × Int × Int × Int × Int × Int × Int)) (a0 : Int) (a1 : List Token) (a2 : Int) (a3 : Int) (a4 : Int) (a5 : Int) (a6 : Int) (r : (Int × Int × Int × Int × Int × Int × Int)) (H : q a0 a1 a2 a3 a4 a5 a6 = some r) : SF_preref4_C_Choice q (g_preref4_C_Choice a0 a1 a2 a3 a4 a5 a6 r) := ⟨a0, a1, a2, a3, a4, a5, a6, r, H, rfl⟩
def g_preref4_C_Level (a0 : Int) (a1 : Int) (a2 : List Token) (a3 : Int) (a4 : Int) (a5 : Int) (a6 : Int) (a7 : Int) (r : (Int × Int × Int × Int × Int × Int × Int)) : GI :=
  ⟨[.c (.pt 1 0), .c (.d (.v (.int .i64 a0))), .c (.d (.v (.int .i64 a1)))], [[.d (.sl 11 (List.map d_Token a2)), .d (.v (.int .i64 a3)), .d (.v (.int .i64 a4)), .d (.v (.int .i64 a5)), .d (.v (.int .i64 a6)), .d (.v (.int .i64 a7))]], [], .ret (.tu [(false, [.d (.v (.int .i64 r.1))]), (false, [.d (.v (.int .i64 r.2.1))])]) [[.d (.sl 11 (List.map d_Token a2)), .d (.v (.int .i64 r.2.2.1)), .d (.v (.int .i64 r.2.2.2.1)), .d (.v (.int .i64 r.2.2.2.2.1)), .d (.v (.int .i64 r.2.2.2.2.2.1)), .d (.v (.int .i64 r.2.2.2.2.2.2))]] []⟩
def SF_preref4_C_Level (q : Int → Int → (List Token) → Int → Int → Int → Int → Int → Option (Int × Int × Int × Int × Int × Int × Int)) : GI → Prop := fun g => ∃ (a0 : Int) (a1 : Int) (a2 : List Token) (a3 : Int) (a4 : Int) (a5 : Int) (a6 : Int) (a7 : Int) (r : (Int × Int × Int × Int × Int × Int × Int)), q a0 a1 a2 a3 a4 a5 a6 a7 = some r ∧ g = g_preref4_C_Level a0 a1 a2 a3 a4 a5 a6 a7 r
theorem preref4_C_Level_sc (q : Int → Int → (List Token) → Int → Int → Int → Int → Int → Option (Int × Int × Int × Int × Int × Int × Int)) (a0 : Int) (a1 : Int) (a2 : List Token) (a3 : Int) (a4 : Int) (a5 : Int) (a6 : Int) (a7 : Int) (r : (Int × Int × Int × Int × Int × Int × Int)) (H : q a0 a1 a2 a3 a4 a5 a6 a7 = some r) : SF_preref4_C_Level q (g_preref4_C_Level a0 a1 a2 a3 a4 a5 a6 a7 r) := ⟨a0, a1, a2, a3, a4, a5, a6, a7, r, H, rfl⟩
def g_preref4_C_Atom (a0 : Int) (a1 : List Token) (a2 : Int) (a3 : Int) (a4 : Int) (a5 : Int) (a6 : Int) (r : (Int × Int × Int × Int × Int × Int × Int)) : GI :=
  ⟨[.c (.pt 1 0), .c (.d (.v (.int .i64 a0)))], [[.d (.sl 11 (List.map d_Token a1)), .d (.v (.int .i64 a2)), .d (.v (.int .i64 a3)), .d (.v (.int .i64 a4)), .d (.v (.int .i64 a5)), .d (.v (.int .i64 a6))]], [], .ret (.tu [(false, [.d (.v (.int .i64 r.1))]), (false, [.d (.v (.int .i64 r.2.1))])]) [[.d (.sl 11 (List.map d_Token a1)), .d (.v (.int .i64 r.2.2.1)), .d (.v (.int .i64 r.2.2.2.1)), .d (.v (.int .i64 r.2.2.2.2.1)), .d (.v (.int .i64 r.2.2.2.2.2.1)), .d (.v (.int .i64 r.2.2.2.2.2.2))]] []⟩
def SF_preref4_C_Atom (q : Int → (List Token) → Int → Int → Int → Int → Int → Option (Int × Int × Int × Int × Int × Int × Int)) : GI → Prop := fun g => ∃ (a0 : Int) (a1 : List Token) (a2 : Int) (a3 : Int) (a4 : Int) (a5 : Int) (a6 : Int) (r : (Int × Int × Int × Int × Int × Int × Int)), q a0 a1 a2 a3 a4 a5 a6 = some r ∧ g = g_preref4_C_Atom a0 a1 a2 a3 a4 a5 a6 r
theorem preref4_C_Atom_sc (q : Int → (List Token) → Int → Int → Int → Int → Int → Option (Int × Int × Int × Int × Int × Int × Int)) (a0 : Int) (a1 : List Token) (a2 : Int) (a3 : Int) (a4 : Int) (a5 : Int) (a6 : Int) (r : (Int × Int × Int × Int × Int × Int × Int)) (H : q a0 a1 a2 a3 a4 a5 a6 = some r) : SF_preref4_C_Atom q (g_preref4_C_Atom a0 a1 a2 a3 a4 a5 a6 r) := ⟨a0, a1, a2, a3, a4, a5, a6, r, H, rfl⟩
noncomputable def preref4_C_Choice_j5 (q1 : Int → (List Token) → Int → Int → Int → Int → Int → Option (Int × Int × Int × Int × Int × Int × Int)) (a1 : List Token) (r1 : (Int × Int × Int × Int × Int × Int × Int)) (r2 : (Int × Int × Int × Int × Int × Int × Int)) (x4 : Int) (x5 : Int) (x6 : Int) : Int → Option (Int × Int × Int × Int × Int × Int × Int)
  | x7 => (q1 (IntKind.i64.wrap (r2.2.1 + 1)) a1 x4 x5 x6 r2.2.2.2.2.2.1 x7).bind fun r3 => if (!eqI r1.1 0) = true then some (r2.1, r3.2.1, r3.2.2.1, r3.2.2.2.1, r3.2.2.2.2.1, r3.2.2.2.2.2.1, IntKind.i64.wrap (r3.2.2.2.2.2.2 - 1)) else some (r3.1, r3.2.1, r3.2.2.1, r3.2.2.2.1, r3.2.2.2.2.1, r3.2.2.2.2.2.1, r3.2.2.2.2.2.2)
noncomputable def preref4_C_Choice_j4 (q1 : Int → (List Token) → Int → Int → Int → Int → Int → Option (Int × Int × Int × Int × Int × Int × Int)) (a1 : List Token) (r1 : (Int × Int × Int × Int × Int × Int × Int)) (r2 : (Int × Int × Int × Int × Int × Int × Int)) (x3 : Int) : (Int × Int × Int) → Option (Int × Int × Int × Int × Int × Int × Int)
  | (x4, x5, x6) => if (!eqI r1.1 0) = true then preref4_C_Choice_j5 q1 a1 r1 r2 x4 x5 x6 (IntKind.i64.wrap (x3 + 1)) else preref4_C_Choice_j5 q1 a1 r1 r2 x4 x5 x6 x3
noncomputable def preref4_C_Choice_j3 (q1 : Int → (List Token) → Int → Int → Int → Int → Int → Option (Int × Int × Int × Int × Int × Int × Int)) (a1 : List Token) (r1 : (Int × Int × Int × Int × Int × Int × Int)) (r2 : (Int × Int × Int × Int × Int × Int × Int)) : Int → Option (Int × Int × Int × Int × Int × Int × Int)
  | x3 => (preref4_C_Is r2.2.1 [58] a1 r2.2.2.1 r2.2.2.2.1 r2.2.2.2.2.1 r2.2.2.2.2.2.1 x3).bind fun r4 => if (!r4) = true then (preref4_C_Stop r2.2.1 2 a1 r2.2.2.1 r2.2.2.2.1 r2.2.2.2.2.1 r2.2.2.2.2.2.1 x3).bind fun r5 => preref4_C_Choice_j4 q1 a1 r1 r2 x3 (r5.1, r5.2.1, r5.2.2) else preref4_C_Choice_j4 q1 a1 r1 r2 x3 (r2.2.2.1, r2.2.2.2.1, r2.2.2.2.2.1)
noncomputable def preref4_C_Choice_j2 (q1 : Int → (List Token) → Int → Int → Int → Int → Int → Option (Int × Int × Int × Int × Int × Int × Int)) (a1 : List Token) (r1 : (Int × Int × Int × Int × Int × Int × Int)) : Int → Option (Int × Int × Int × Int × Int × Int × Int)
  | x2 => (q1 (IntKind.i64.wrap (r1.2.1 + 1)) a1 r1.2.2.1 r1.2.2.2.1 r1.2.2.2.2.1 r1.2.2.2.2.2.1 x2).bind fun r2 => if (eqI r1.1 0) = true then preref4_C_Choice_j3 q1 a1 r1 r2 (IntKind.i64.wrap (r2.2.2.2.2.2.2 - 1)) else preref4_C_Choice_j3 q1 a1 r1 r2 r2.2.2.2.2.2.2
noncomputable def preref4_C_Choice_j1 (q1 : Int → (List Token) → Int → Int → Int → Int → Int → Option (Int × Int × Int × Int × Int × Int × Int)) (a1 : List Token) (r1 : (Int × Int × Int × Int × Int × Int × Int)) : Bool → Option (Int × Int × Int × Int × Int × Int × Int)
  | x1 => if x1 = true then some (r1.1, r1.2.1, r1.2.2.1, r1.2.2.2.1, r1.2.2.2.2.1, r1.2.2.2.2.2.1, r1.2.2.2.2.2.2) else if (eqI r1.1 0) = true then preref4_C_Choice_j2 q1 a1 r1 (IntKind.i64.wrap (r1.2.2.2.2.2.2 + 1)) else preref4_C_Choice_j2 q1 a1 r1 r1.2.2.2.2.2.2
noncomputable def preref4_C_Choice_s (q1 : Int → (List Token) → Int → Int → Int → Int → Int → Option (Int × Int × Int × Int × Int × Int × Int)) (q2 : Int → Int → (List Token) → Int → Int → Int → Int → Int → Option (Int × Int × Int × Int × Int × Int × Int)) (q3 : Int → (List Token) → Int → Int → Int → Int → Int → Option (Int × Int × Int × Int × Int × Int × Int)) (a0 : Int) (a1 : List Token) (a2 : Int) (a3 : Int) (a4 : Int) (a5 : Int) (a6 : Int) : Option (Int × Int × Int × Int × Int × Int × Int) :=
  (q2 0 a0 a1 a2 a3 a4 a5 a6).bind fun r1 => if (!eqI r1.2.2.1 0) = true then preref4_C_Choice_j1 q1 a1 r1 true else (preref4_C_Is r1.2.1 [63] a1 r1.2.2.1 r1.2.2.2.1 r1.2.2.2.2.1 r1.2.2.2.2.2.1 r1.2.2.2.2.2.2).bind fun r6 => preref4_C_Choice_j1 q1 a1 r1 (!r6)
set_option maxRecDepth 100000 in
set_option maxHeartbeats 4000000 in
theorem preref4_C_Choice_sok (q1 : Int → (List Token) → Int → Int → Int → Int → Int → Option (Int × Int × Int × Int × Int × Int × Int)) (q2 : Int → Int → (List Token) → Int → Int → Int → Int → Int → Option (Int × Int × Int × Int × Int × Int × Int)) (q3 : Int → (List Token) → Int → Int → Int → Int → Int → Option (Int × Int × Int × Int × Int × Int × Int)) (kq1 : Kok Tryd.prog 25 true (SF_preref4_C_Choice q1)) (kq2 : Kok Tryd.prog 36 true (SF_preref4_C_Level q2)) (kq3 : Kok Tryd.prog 49 true (SF_preref4_C_Atom q3)) : ∀ g, SF_preref4_C_Choice (preref4_C_Choice_s q1 q2 q3) g → GenOk Tryd.prog 25 g := by
  rintro _ ⟨a0, a1, a2, a3, a4, a5, a6, r, H, rfl⟩
  refine xGn mixed [] [(36, true, (SF_preref4_C_Level q2)), (25, true, (SF_preref4_C_Choice q1)), (37, true, S_preref4_C_Is), (26, true, S_preref4_C_Stop)] [] trivial ⟨kq2, kq1, preref4_C_Is_k, preref4_C_Stop_k, trivial⟩ trivial Tryd.func25 _ ?_
  have G := True.intro
  have Y := xZ y_3 <| xZ y_23 <| xZ y_25 <| xZ y_60 <| xZ Tryd.results25 <| xZ d_Call.eq_1 <| xZ d_Token.eq_1 <| xZ d_Fault.eq_1 <| xZ g_preref4_C_Level.eq_1 <| xZ g_preref4_C_Choice.eq_1 <| xZ g_preref4_C_Is.eq_1 <| xZ g_preref4_C_Stop.eq_1 <| g_preref4_C_Choice.eq_1
  dsimp only [g_preref4_C_Choice]
  simp only [preref4_C_Choice_s] at H
  refine xS ?_
  refine xr ?_
  obtain ⟨r1, hr1, H⟩ := osplit H
  have F := Y
  refine xQ ?_
  refine xs 2 ?_
  refine xc ⟨[1], []⟩ (tabG 0 (preref4_C_Level_sc q2 0 a0 a1 a2 a3 a4 a5 a6 r1 hr1)) ?_
  refine xs 5 ?_
  refine xl ?_
  refine  ?_
  refine then_normal ?_
  refine w_seq ?_
  refine w_cut (preref4_C_Choice_j1 q1 a1 r1) (fun s => [(0, .c (.pt 1 0)), (6, .c (.d (.v (.int .i64 r1.1)))), (7, .c (.d (.v (.int .i64 r1.2.1)))), (27, .c (.d (.v (.bool s))))]) (fun s => [[.d (.sl 11 (List.map d_Token a1)), .d (.v (.int .i64 r1.2.2.1)), .d (.v (.int .i64 r1.2.2.2.1)), .d (.v (.int .i64 r1.2.2.2.2.1)), .d (.v (.int .i64 r1.2.2.2.2.2.1)), .d (.v (.int .i64 r1.2.2.2.2.2.2))]]) [] r ?_ ?_
  · rcases bsplit H with ⟨hp7, H⟩ | ⟨hp7, H⟩
    · obtain ⟨F, G, hq7⟩ := xH Y G hp7
      refine xR ?_
      exact cut_at H (xK ⟨[1], []⟩)
    · obtain ⟨F, G, hq7⟩ := xH Y G hp7
      obtain ⟨r6, hr6, H⟩ := osplit H
      have F := F
      refine xQ ?_
      refine xs 9 ?_
      refine xc ⟨[1], []⟩ (tabG 2 (preref4_C_Is_c r1.2.1 [63] a1 r1.2.2.1 r1.2.2.2.1 r1.2.2.2.2.1 r1.2.2.2.2.2.1 r1.2.2.2.2.2.2 r6 hr6)) ?_
      refine xs 2 ?_
      refine xl ?_
      refine xS ?_
      exact cut_at H (xK ⟨[1], []⟩)
  · rintro x1 H
    rw [preref4_C_Choice_j1] at H
    rcases bsplit H with ⟨hp1, H⟩ | ⟨hp1, H⟩
    · obtain ⟨F, G, hq1⟩ := xH Y G hp1
      refine xT ?_
      replace H := Option.some.inj H
      refine xr ?_
      subst H
      refine xOr ?_
      refine qDf [] ?_
      exact xO ⟨[1], []⟩
    · obtain ⟨F, G, hq1⟩ := xH Y G hp1
      refine xE0 ?_
      refine w_skip ?_
      refine then_normal ?_
      refine w_cut (preref4_C_Choice_j2 q1 a1 r1) (fun s => [(0, .c (.pt 1 0)), (6, .c (.d (.v (.int .i64 r1.1)))), (7, .c (.d (.v (.int .i64 r1.2.1))))]) (fun s => [[.d (.sl 11 (List.map d_Token a1)), .d (.v (.int .i64 r1.2.2.1)), .d (.v (.int .i64 r1.2.2.2.1)), .d (.v (.int .i64 r1.2.2.2.2.1)), .d (.v (.int .i64 r1.2.2.2.2.2.1)), .d (.v (.int .i64 s))]]) [] r ?_ ?_
      · refine xS ?_
        refine xr ?_
        rcases bsplit H with ⟨hp6, H⟩ | ⟨hp6, H⟩
        · obtain ⟨F, G, hq6⟩ := xH Y G hp6
          refine xT ?_
          refine xr ?_
          exact cut_at H (xK ⟨[1], []⟩)
        · obtain ⟨F, G, hq6⟩ := xH Y G hp6
          refine xE ?_
          exact cut_at H (xK ⟨[1], []⟩)
      · rintro x2 H
        rw [preref4_C_Choice_j2] at H
        refine xS ?_
        obtain ⟨r2, hr2, H⟩ := osplit H
        have F := Y
        refine xQ ?_
        refine xs 3 ?_
        refine xc ⟨[1], []⟩ (tabG 1 (preref4_C_Choice_sc q1 (IntKind.i64.wrap (r1.2.1 + 1)) a1 r1.2.2.1 r1.2.2.2.1 r1.2.2.2.2.1 r1.2.2.2.2.2.1 x2 r2 hr2)) ?_
        refine xs 5 ?_
        refine xl ?_
        refine  ?_
        refine then_normal ?_
        refine w_cut (preref4_C_Choice_j3 q1 a1 r1 r2) (fun s => [(0, .c (.pt 1 0)), (6, .c (.d (.v (.int .i64 r1.1)))), (7, .c (.d (.v (.int .i64 r2.2.1)))), (8, .c (.d (.v (.int .i64 r2.1))))]) (fun s => [[.d (.sl 11 (List.map d_Token a1)), .d (.v (.int .i64 r2.2.2.1)), .d (.v (.int .i64 r2.2.2.2.1)), .d (.v (.int .i64 r2.2.2.2.2.1)), .d (.v (.int .i64 r2.2.2.2.2.2.1)), .d (.v (.int .i64 s))]]) [] r ?_ ?_
        · refine xS ?_
          refine xr ?_
          rcases bsplit H with ⟨hp5, H⟩ | ⟨hp5, H⟩
          · obtain ⟨F, G, hq5⟩ := xH Y G hp5
            refine xT ?_
            refine xr ?_
            exact cut_at H (xK ⟨[1], []⟩)
          · obtain ⟨F, G, hq5⟩ := xH Y G hp5
            refine xE ?_
            exact cut_at H (xK ⟨[1], []⟩)
        · rintro x3 H
          rw [preref4_C_Choice_j3] at H
          refine w_cut (preref4_C_Choice_j4 q1 a1 r1 r2 x3) (fun s => [(0, .c (.pt 1 0)), (6, .c (.d (.v (.int .i64 r1.1)))), (7, .c (.d (.v (.int .i64 r2.2.1)))), (8, .c (.d (.v (.int .i64 r2.1))))]) (fun s => [[.d (.sl 11 (List.map d_Token a1)), .d (.v (.int .i64 s.1)), .d (.v (.int .i64 s.2.1)), .d (.v (.int .i64 s.2.2)), .d (.v (.int .i64 r2.2.2.2.2.2.1)), .d (.v (.int .i64 x3))]]) [] r ?_ ?_
          · refine xS ?_
            obtain ⟨r4, hr4, H⟩ := osplit H
            have F := Y
            refine xQ ?_
            refine xs 2 ?_
            refine xc ⟨[1], []⟩ (tabG 2 (preref4_C_Is_c r2.2.1 [58] a1 r2.2.2.1 r2.2.2.2.1 r2.2.2.2.2.1 r2.2.2.2.2.2.1 x3 r4 hr4)) ?_
            refine xs 1 ?_
            refine xl ?_
            refine xS ?_
            rcases bsplit H with ⟨hp4, H⟩ | ⟨hp4, H⟩
            · obtain ⟨F, G, hq4⟩ := xH Y G hp4
              refine xT ?_
              obtain ⟨r5, hr5, H⟩ := osplit H
              have F := Y
              refine xQ ?_
              refine xs 2 ?_
              refine xc ⟨[1], []⟩ (tabG 3 (preref4_C_Stop_c r2.2.1 2 a1 r2.2.2.1 r2.2.2.2.1 r2.2.2.2.2.1 r2.2.2.2.2.2.1 x3 r5 hr5)) ?_
              refine xl ?_
              refine xS ?_
              exact cut_at H (xK ⟨[1], []⟩)
            · obtain ⟨F, G, hq4⟩ := xH Y G hp4
              refine xE ?_
              exact cut_at H (xK ⟨[1], []⟩)
          · rintro ⟨x4, x5, x6⟩ H
            rw [preref4_C_Choice_j4] at H
            refine w_cut (preref4_C_Choice_j5 q1 a1 r1 r2 x4 x5 x6) (fun s => [(0, .c (.pt 1 0)), (6, .c (.d (.v (.int .i64 r1.1)))), (7, .c (.d (.v (.int .i64 r2.2.1)))), (8, .c (.d (.v (.int .i64 r2.1))))]) (fun s => [[.d (.sl 11 (List.map d_Token a1)), .d (.v (.int .i64 x4)), .d (.v (.int .i64 x5)), .d (.v (.int .i64 x6)), .d (.v (.int .i64 r2.2.2.2.2.2.1)), .d (.v (.int .i64 s))]]) [] r ?_ ?_
            · refine xS ?_
              refine xr ?_
              rcases bsplit H with ⟨hp3, H⟩ | ⟨hp3, H⟩
              · obtain ⟨F, G, hq3⟩ := xH Y G hp3
                refine xT ?_
                refine xr ?_
                exact cut_at H (xK ⟨[1], []⟩)
              · obtain ⟨F, G, hq3⟩ := xH Y G hp3
                refine xE ?_
                exact cut_at H (xK ⟨[1], []⟩)
            · rintro x7 H
              rw [preref4_C_Choice_j5] at H
              refine xS ?_
              obtain ⟨r3, hr3, H⟩ := osplit H
              have F := Y
              refine xQ ?_
              refine xs 3 ?_
              refine xc ⟨[1], []⟩ (tabG 1 (preref4_C_Choice_sc q1 (IntKind.i64.wrap (r2.2.1 + 1)) a1 x4 x5 x6 r2.2.2.2.2.2.1 x7 r3 hr3)) ?_
              refine xs 5 ?_
              refine xl ?_
              refine xS ?_
              refine xr ?_
              rcases bsplit H with ⟨hp2, H⟩ | ⟨hp2, H⟩
              · obtain ⟨F, G, hq2⟩ := xH Y G hp2
                refine xT ?_
                refine xr ?_
                replace H := Option.some.inj H
                refine xr ?_
                subst H
                refine xOr ?_
                refine qDf [] ?_
                exact xO ⟨[1], []⟩
              · obtain ⟨F, G, hq2⟩ := xH Y G hp2
                refine xE ?_
                replace H := Option.some.inj H
                refine xr ?_
                subst H
                refine xOr ?_
                refine qDf [] ?_
                exact xO ⟨[1], []⟩
noncomputable def preref4_C_Level_j1 : (Int × Int × Int × Int × Int × Int × Int) → Option (Int × Int × Int × Int × Int × Int × Int)
  | (x1, x2, x3, x4, x5, x6, x7) => some (x1, x2, x3, x4, x5, x6, x7)
noncomputable def preref4_C_Level_j4 (x16 : List (List UInt8)) (x17 : Int) (x18 : Int) : Bool → Option ((Bool × (List (List UInt8)) × Int × Int) ⊕ ((Int × Int × Int × Int × Int × Int × Int) ⊕ (Int × Int × Int × Int × Int × Int × Int)))
  | x19 => some (.inl (x19, x16, x17, IntKind.i64.wrap (x18 + 1)))
noncomputable def preref4_C_Level_j8 (r6 : (Int × Int × Int × Int × Int × Int × Int)) (x24 : Int) : (Int × Int × Int × Int) → Option ((Int × Int × Int × Int × Int × Int × Int) ⊕ (Int × Int × Int × Int × Int × Int × Int))
  | (x25, x26, x27, x28) => some (.inl (x25, r6.2.1, x26, x27, x28, r6.2.2.2.2.2.1, x24))
noncomputable def preref4_C_Level_j7 (a2 : List Token) (x8 : Int) (x9 : Int) (x20 : List UInt8) (r6 : (Int × Int × Int × Int × Int × Int × Int)) : Int → Option ((Int × Int × Int × Int × Int × Int × Int) ⊕ (Int × Int × Int × Int × Int × Int × Int))
  | x24 => if (!eqI r6.2.2.1 0) = true then inrO (preref4_C_Level_j1 (x8, x9, r6.2.2.1, r6.2.2.2.1, r6.2.2.2.2.1, r6.2.2.2.2.2.1, x24)) else if (eqS x20 [38, 38]) = true then if (!eqI x8 0) = true then (preref4_one (!eqI r6.1 0)).bind fun r7 => preref4_C_Level_j8 r6 x24 (r7, r6.2.2.1, r6.2.2.2.1, r6.2.2.2.2.1) else (preref4_one false).bind fun r8 => preref4_C_Level_j8 r6 x24 (r8, r6.2.2.1, r6.2.2.2.1, r6.2.2.2.2.1) else if (eqS x20 [124, 124]) = true then if (!eqI x8 0) = true then (preref4_one true).bind fun r9 => preref4_C_Level_j8 r6 x24 (r9, r6.2.2.1, r6.2.2.2.1, r6.2.2.2.2.1) else (preref4_one (!eqI r6.1 0)).bind fun r10 => preref4_C_Level_j8 r6 x24 (r10, r6.2.2.1, r6.2.2.2.1, r6.2.2.2.2.1) else (preref4_C_Op x9 x8 r6.1 a2 r6.2.2.1 r6.2.2.2.1 r6.2.2.2.2.1 r6.2.2.2.2.2.1 x24).bind fun r11 => preref4_C_Level_j8 r6 x24 (r11.1, r11.2.1, r11.2.2.1, r11.2.2.2)
noncomputable def preref4_C_Level_j6 (q2 : Int → Int → (List Token) → Int → Int → Int → Int → Int → Option (Int × Int × Int × Int × Int × Int × Int)) (a0 : Int) (a2 : List Token) (x8 : Int) (x9 : Int) (x10 : Int) (x11 : Int) (x12 : Int) (x13 : Int) (x20 : List UInt8) : (Bool × Int) → Option ((Int × Int × Int × Int × Int × Int × Int) ⊕ (Int × Int × Int × Int × Int × Int × Int))
  | (x22, x23) => (q2 (IntKind.i64.wrap (a0 + 1)) (IntKind.i64.wrap (x9 + 1)) a2 x10 x11 x12 x13 x23).bind fun r6 => if x22 = true then preref4_C_Level_j7 a2 x8 x9 x20 r6 (IntKind.i64.wrap (r6.2.2.2.2.2.2 - 1)) else preref4_C_Level_j7 a2 x8 x9 x20 r6 r6.2.2.2.2.2.2
noncomputable def preref4_C_Level_j5 (q2 : Int → Int → (List Token) → Int → Int → Int → Int → Int → Option (Int × Int × Int × Int × Int × Int × Int)) (a0 : Int) (a2 : List Token) (x8 : Int) (x9 : Int) (x10 : Int) (x11 : Int) (x12 : Int) (x13 : Int) (x14 : Int) : ((List UInt8) × Bool) → Option ((Int × Int × Int × Int × Int × Int × Int) ⊕ (Int × Int × Int × Int × Int × Int × Int))
  | (x20, x21) => if x21 = true then preref4_C_Level_j6 q2 a0 a2 x8 x9 x10 x11 x12 x13 x20 (true, IntKind.i64.wrap (x14 + 1)) else preref4_C_Level_j6 q2 a0 a2 x8 x9 x10 x11 x12 x13 x20 (false, x14)
noncomputable def preref4_C_Level_b3 (q2 : Int → Int → (List Token) → Int → Int → Int → Int → Int → Option (Int × Int × Int × Int × Int × Int × Int)) (a0 : Int) (a2 : List Token) (x8 : Int) (x9 : Int) (x10 : Int) (x11 : Int) (x12 : Int) (x13 : Int) (x14 : Int) : (Bool × (List (List UInt8)) × Int × Int) → Option ((Bool × (List (List UInt8)) × Int × Int) ⊕ ((Int × Int × Int × Int × Int × Int × Int) ⊕ (Int × Int × Int × Int × Int × Int × Int)))
  | (x15, x16, x17, x18) => if (ltI x18 x17) = true then if (0 : Int) ≤ x18 ∧ x18.toNat < x16.length then if x15 = true then preref4_C_Level_j4 x16 x17 x18 true else (preref4_C_Is x9 (x16.getD x18.toNat default) a2 x10 x11 x12 x13 x14).bind fun r5 => preref4_C_Level_j4 x16 x17 x18 r5 else none else inrO (if (!x15) = true then inrO (preref4_C_Level_j1 (x8, x9, x10, x11, x12, x13, x14)) else if (0 : Int) ≤ x9 ∧ x9.toNat < a2.length then if (eqS ((a2.getD x9.toNat default).Text) [38, 38]) = true then if (eqI x8 0) = true then preref4_C_Level_j5 q2 a0 a2 x8 x9 x10 x11 x12 x13 x14 ((a2.getD x9.toNat default).Text, true) else if (eqS ((a2.getD x9.toNat default).Text) [124, 124]) = true then preref4_C_Level_j5 q2 a0 a2 x8 x9 x10 x11 x12 x13 x14 ((a2.getD x9.toNat default).Text, true) else preref4_C_Level_j5 q2 a0 a2 x8 x9 x10 x11 x12 x13 x14 ((a2.getD x9.toNat default).Text, false) else if (eqS ((a2.getD x9.toNat default).Text) [124, 124]) = true then preref4_C_Level_j5 q2 a0 a2 x8 x9 x10 x11 x12 x13 x14 ((a2.getD x9.toNat default).Text, !eqI x8 0) else preref4_C_Level_j5 q2 a0 a2 x8 x9 x10 x11 x12 x13 x14 ((a2.getD x9.toNat default).Text, false) else none)
noncomputable def preref4_C_Level_b2 (q2 : Int → Int → (List Token) → Int → Int → Int → Int → Int → Option (Int × Int × Int × Int × Int × Int × Int)) (a0 : Int) (a2 : List Token) : (Int × Int × Int × Int × Int × Int × Int) → Option ((Int × Int × Int × Int × Int × Int × Int) ⊕ (Int × Int × Int × Int × Int × Int × Int))
  | (x8, x9, x10, x11, x12, x13, x14) => if (eqI x10 0) = true then (preref4_Levels).bind fun r4 => if (0 : Int) ≤ a0 ∧ a0.toNat < r4.length then loopO (preref4_C_Level_b3 q2 a0 a2 x8 x9 x10 x11 x12 x13 x14) (false, (r4.getD a0.toNat default), ((r4.getD a0.toNat default).length : Int), 0) else none else inrO (preref4_C_Level_j1 (x8, x9, x10, x11, x12, x13, x14))
noncomputable def preref4_C_Level_s (q1 : Int → (List Token) → Int → Int → Int → Int → Int → Option (Int × Int × Int × Int × Int × Int × Int)) (q2 : Int → Int → (List Token) → Int → Int → Int → Int → Int → Option (Int × Int × Int × Int × Int × Int × Int)) (q3 : Int → (List Token) → Int → Int → Int → Int → Int → Option (Int × Int × Int × Int × Int × Int × Int)) (a0 : Int) (a1 : Int) (a2 : List Token) (a3 : Int) (a4 : Int) (a5 : Int) (a6 : Int) (a7 : Int) : Option (Int × Int × Int × Int × Int × Int × Int) :=
  (preref4_Levels).bind fun r1 => if (eqI a0 (r1.length : Int)) = true then (q3 a1 a2 a3 a4 a5 a6 a7).bind fun r2 => some (r2.1, r2.2.1, r2.2.2.1, r2.2.2.2.1, r2.2.2.2.2.1, r2.2.2.2.2.2.1, r2.2.2.2.2.2.2) else (q2 (IntKind.i64.wrap (a0 + 1)) a1 a2 a3 a4 a5 a6 a7).bind fun r3 => loopO (preref4_C_Level_b2 q2 a0 a2) (r3.1, r3.2.1, r3.2.2.1, r3.2.2.2.1, r3.2.2.2.2.1, r3.2.2.2.2.2.1, r3.2.2.2.2.2.2)
set_option maxRecDepth 100000 in
set_option maxHeartbeats 4000000 in
theorem preref4_C_Level_sok (q1 : Int → (List Token) → Int → Int → Int → Int → Int → Option (Int × Int × Int × Int × Int × Int × Int)) (q2 : Int → Int → (List Token) → Int → Int → Int → Int → Int → Option (Int × Int × Int × Int × Int × Int × Int)) (q3 : Int → (List Token) → Int → Int → Int → Int → Int → Option (Int × Int × Int × Int × Int × Int × Int)) (kq1 : Kok Tryd.prog 25 true (SF_preref4_C_Choice q1)) (kq2 : Kok Tryd.prog 36 true (SF_preref4_C_Level q2)) (kq3 : Kok Tryd.prog 49 true (SF_preref4_C_Atom q3)) : ∀ g, SF_preref4_C_Level (preref4_C_Level_s q1 q2 q3) g → GenOk Tryd.prog 36 g := by
  rintro _ ⟨a0, a1, a2, a3, a4, a5, a6, a7, r, H, rfl⟩
  refine xGn mixed [(48, pf_preref4_Levels), (50, pf_preref4_one)] [(49, true, (SF_preref4_C_Atom q3)), (36, true, (SF_preref4_C_Level q2)), (37, true, S_preref4_C_Is), (51, true, S_preref4_C_Op)] [] ⟨⟨call_48, preref4_Levels_ok⟩, ⟨call_50, preref4_one_ok⟩, trivial⟩ ⟨kq3, kq2, preref4_C_Is_k, preref4_C_Op_k, trivial⟩ trivial Tryd.func36 _ ?_
  have G := True.intro
  have Y := xZ y_3 <| xZ y_9 <| xZ y_22 <| xZ y_23 <| xZ y_25 <| xZ y_38 <| xZ y_47 <| xZ y_60 <| xZ y_82 <| xZ Tryd.results36 <| xZ d_Call.eq_1 <| xZ d_Token.eq_1 <| xZ d_Fault.eq_1 <| xZ g_preref4_C_Atom.eq_1 <| xZ g_preref4_C_Level.eq_1 <| xZ g_preref4_C_Is.eq_1 <| xZ g_preref4_C_Op.eq_1 <| g_preref4_C_Level.eq_1
  dsimp only [g_preref4_C_Level]
  simp only [preref4_C_Level_s] at H
  refine xS ?_
  refine xr ?_
  obtain ⟨r1, hr1, H⟩ := osplit H
  have F := xC Y (preref4_Levels_c  r1 hr1)
  refine xR ?_
  rcases bsplit H with ⟨hp1, H⟩ | ⟨hp1, H⟩
  · obtain ⟨F, G, hq1⟩ := xH Y G hp1
    refine xT ?_
    obtain ⟨r2, hr2, H⟩ := osplit H
    have F := Y
    refine xQ ?_
    refine xs 2 ?_
    refine xc ⟨[1], []⟩ (tabG 0 (preref4_C_Atom_sc q3 a1 a2 a3 a4 a5 a6 a7 r2 hr2)) ?_
    refine xs 4 ?_
    refine xl ?_
    replace H := Option.some.inj H
    refine xS ?_
    subst H
    refine xOr ?_
    refine qDf [] ?_
    exact xO ⟨[1], []⟩
  · obtain ⟨F, G, hq1⟩ := xH Y G hp1
    refine xE ?_
    obtain ⟨r3, hr3, H⟩ := osplit H
    have F := Y
    refine xQ ?_
    refine xs 4 ?_
    refine xc ⟨[1], []⟩ (tabG 1 (preref4_C_Level_sc q2 (IntKind.i64.wrap (a0 + 1)) a1 a2 a3 a4 a5 a6 a7 r3 hr3)) ?_
    refine xs 5 ?_
    refine xl ?_
    refine  ?_
    refine then_normal ?_
    refine w_cut preref4_C_Level_j1 (fun s => [(8, .c (.d (.v (.int .i64 s.1)))), (9, .c (.d (.v (.int .i64 s.2.1))))]) (fun s => [[.d (.sl 11 (List.map d_Token a2)), .d (.v (.int .i64 s.2.2.1)), .d (.v (.int .i64 s.2.2.2.1)), .d (.v (.int .i64 s.2.2.2.2.1)), .d (.v (.int .i64 s.2.2.2.2.2.1)), .d (.v (.int .i64 s.2.2.2.2.2.2))]]) [] r ?_ ?_
    · refine xS ?_
      refine w_loop (preref4_C_Level_b2 q2 a0 a2) (fun s => [(0, .c (.pt 1 0)), (1, .c (.d (.v (.int .i64 a0)))), (8, .c (.d (.v (.int .i64 s.1)))), (9, .c (.d (.v (.int .i64 s.2.1))))]) (fun s => [[.d (.sl 11 (List.map d_Token a2)), .d (.v (.int .i64 s.2.2.1)), .d (.v (.int .i64 s.2.2.2.1)), .d (.v (.int .i64 s.2.2.2.2.1)), .d (.v (.int .i64 s.2.2.2.2.2.1)), .d (.v (.int .i64 s.2.2.2.2.2.2))]]) [] H (xK ⟨[1], []⟩) ?_
      rintro n1 ⟨x8, x9, x10, x11, x12, x13, x14⟩ o1 H hF1
      rw [preref4_C_Level_b2] at H
      refine xS ?_
      refine xr ?_
      rcases bsplit H with ⟨hp2, H⟩ | ⟨hp2, H⟩
      · obtain ⟨F, G, hq2⟩ := xH Y G hp2
        refine xT ?_
        refine xr ?_
        obtain ⟨r4, hr4, H⟩ := osplit H
        have F := xC Y (preref4_Levels_c  r4 hr4)
        obtain ⟨hg1, H⟩ := gsplit H
        have F := xZ F (map_getD (dL 1 dS) r4 a0.toNat default default (by omega))
        refine xR ?_
        refine w_loop (preref4_C_Level_b3 q2 a0 a2 x8 x9 x10 x11 x12 x13 x14) (fun s => [(0, .c (.pt 1 0)), (1, .c (.d (.v (.int .i64 a0)))), (8, .c (.d (.v (.int .i64 x8)))), (9, .c (.d (.v (.int .i64 x9)))), (10, .c (.d (.v (.bool s.1)))), (43, .c (.d (.sl 1 (List.map dS s.2.1)))), (44, .c (.d (.v (.int .i64 s.2.2.1)))), (45, .c (.d (.v (.int .i64 s.2.2.2))))]) (fun s => [[.d (.sl 11 (List.map d_Token a2)), .d (.v (.int .i64 x10)), .d (.v (.int .i64 x11)), .d (.v (.int .i64 x12)), .d (.v (.int .i64 x13)), .d (.v (.int .i64 x14))]]) [] H (xK ⟨[1], []⟩) ?_
        rintro n2 ⟨x15, x16, x17, x18⟩ o2 H hF2
        rw [preref4_C_Level_b3] at H
        refine xS ?_
        refine xr ?_
        rcases bsplit H with ⟨hp3, H⟩ | ⟨hp3, H⟩
        · obtain ⟨F, G, hq3⟩ := xH Y G hp3
          refine xT0 ?_
          refine w_skip ?_
          refine then_normal ?_
          refine w_cut (preref4_C_Level_j4 x16 x17 x18) (fun s => [(0, .c (.pt 1 0)), (1, .c (.d (.v (.int .i64 a0)))), (8, .c (.d (.v (.int .i64 x8)))), (9, .c (.d (.v (.int .i64 x9)))), (10, .c (.d (.v (.bool s)))), (43, .c (.d (.sl 1 (List.map dS x16)))), (44, .c (.d (.v (.int .i64 x17)))), (45, .c (.d (.v (.int .i64 x18))))]) (fun s => [[.d (.sl 11 (List.map d_Token a2)), .d (.v (.int .i64 x10)), .d (.v (.int .i64 x11)), .d (.v (.int .i64 x12)), .d (.v (.int .i64 x13)), .d (.v (.int .i64 x14))]]) [] o2 ?_ ?_
          · refine xS ?_
            obtain ⟨hg2, H⟩ := gsplit H
            have F := xZ Y (map_getD dS x16 x18.toNat default default (by omega))
            refine xR ?_
            rcases bsplit H with ⟨hp4, H⟩ | ⟨hp4, H⟩
            · obtain ⟨F, G, hq4⟩ := xH Y G hp4
              refine xR ?_
              exact cut_at H (xK ⟨[1], []⟩)
            · obtain ⟨F, G, hq4⟩ := xH Y G hp4
              obtain ⟨r5, hr5, H⟩ := osplit H
              have F := F
              refine xQ ?_
              refine xs 5 ?_
              refine xc ⟨[1], []⟩ (tabG 2 (preref4_C_Is_c x9 (x16.getD x18.toNat default) a2 x10 x11 x12 x13 x14 r5 hr5)) ?_
              refine xs 2 ?_
              refine xl ?_
              refine xS ?_
              exact cut_at H (xK ⟨[1], []⟩)
          · rintro x19 H
            rw [preref4_C_Level_j4] at H
            refine xr ?_
            exact round_at (inl_fin H hF2) (xK ⟨[1], []⟩)
        · obtain ⟨F, G, hq3⟩ := xH Y G hp3
          replace H := inrO_fin H hF2
          refine xE ?_
          refine xr ?_
          rcases bsplit H with ⟨hp5, H⟩ | ⟨hp5, H⟩
          · obtain ⟨F, G, hq5⟩ := xH Y G hp5
            replace H := inrO_fin H hF1
            refine xT ?_
            exact cut_at H (xK ⟨[1], []⟩)
          · obtain ⟨F, G, hq5⟩ := xH Y G hp5
            refine xE ?_
            obtain ⟨hg3, H⟩ := gsplit H
            have F := xZ Y (map_getD d_Token a2 x9.toNat default default (by omega))
            refine xR0 ?_
            refine then_normal ?_
            refine w_cut (preref4_C_Level_j5 q2 a0 a2 x8 x9 x10 x11 x12 x13 x14) (fun s => [(0, .c (.pt 1 0)), (1, .c (.d (.v (.int .i64 a0)))), (8, .c (.d (.v (.int .i64 x8)))), (9, .c (.d (.v (.int .i64 x9)))), (13, .c (.d (.v (str s.1)))), (14, .c (.d (.v (.bool s.2))))]) (fun s => [[.d (.sl 11 (List.map d_Token a2)), .d (.v (.int .i64 x10)), .d (.v (.int .i64 x11)), .d (.v (.int .i64 x12)), .d (.v (.int .i64 x13)), .d (.v (.int .i64 x14))]]) [] o1 ?_ ?_
            · rcases bsplit H with ⟨hp13, H⟩ | ⟨hp13, H⟩
              · obtain ⟨F, G, hq13⟩ := xH Y G hp13
                rcases bsplit H with ⟨hp14, H⟩ | ⟨hp14, H⟩
                · obtain ⟨F, G, hq14⟩ := xH F G hp14
                  refine xR ?_
                  exact cut_at H (xK ⟨[1], []⟩)
                · obtain ⟨F, G, hq14⟩ := xH F G hp14
                  rcases bsplit H with ⟨hp15, H⟩ | ⟨hp15, H⟩
                  · obtain ⟨F, G, hq15⟩ := xH F G hp15
                    refine xR ?_
                    exact cut_at H (xK ⟨[1], []⟩)
                  · obtain ⟨F, G, hq15⟩ := xH F G hp15
                    refine xR ?_
                    exact cut_at H (xK ⟨[1], []⟩)
              · obtain ⟨F, G, hq13⟩ := xH Y G hp13
                rcases bsplit H with ⟨hp16, H⟩ | ⟨hp16, H⟩
                · obtain ⟨F, G, hq16⟩ := xH F G hp16
                  refine xR ?_
                  exact cut_at H (xK ⟨[1], []⟩)
                · obtain ⟨F, G, hq16⟩ := xH F G hp16
                  refine xR ?_
                  exact cut_at H (xK ⟨[1], []⟩)
            · rintro ⟨x20, x21⟩ H
              rw [preref4_C_Level_j5] at H
              refine w_cut (preref4_C_Level_j6 q2 a0 a2 x8 x9 x10 x11 x12 x13 x20) (fun s => [(0, .c (.pt 1 0)), (1, .c (.d (.v (.int .i64 a0)))), (8, .c (.d (.v (.int .i64 x8)))), (9, .c (.d (.v (.int .i64 x9)))), (13, .c (.d (.v (str x20)))), (14, .c (.d (.v (.bool s.1))))]) (fun s => [[.d (.sl 11 (List.map d_Token a2)), .d (.v (.int .i64 x10)), .d (.v (.int .i64 x11)), .d (.v (.int .i64 x12)), .d (.v (.int .i64 x13)), .d (.v (.int .i64 s.2))]]) [] o1 ?_ ?_
              · refine xS ?_
                refine xr ?_
                rcases bsplit H with ⟨hp12, H⟩ | ⟨hp12, H⟩
                · obtain ⟨F, G, hq12⟩ := xH Y G hp12
                  refine xT ?_
                  refine xr ?_
                  exact cut_at H (xK ⟨[1], []⟩)
                · obtain ⟨F, G, hq12⟩ := xH Y G hp12
                  refine xE ?_
                  exact cut_at H (xK ⟨[1], []⟩)
              · rintro ⟨x22, x23⟩ H
                rw [preref4_C_Level_j6] at H
                refine xS ?_
                obtain ⟨r6, hr6, H⟩ := osplit H
                have F := Y
                refine xQ ?_
                refine xs 5 ?_
                refine xc ⟨[1], []⟩ (tabG 1 (preref4_C_Level_sc q2 (IntKind.i64.wrap (a0 + 1)) (IntKind.i64.wrap (x9 + 1)) a2 x10 x11 x12 x13 x23 r6 hr6)) ?_
                refine xs 5 ?_
                refine xl ?_
                refine  ?_
                refine then_normal ?_
                refine w_cut (preref4_C_Level_j7 a2 x8 x9 x20 r6) (fun s => [(0, .c (.pt 1 0)), (1, .c (.d (.v (.int .i64 a0)))), (8, .c (.d (.v (.int .i64 x8)))), (9, .c (.d (.v (.int .i64 x9)))), (13, .c (.d (.v (str x20)))), (15, .c (.d (.v (.int .i64 r6.1)))), (16, .c (.d (.v (.int .i64 r6.2.1))))]) (fun s => [[.d (.sl 11 (List.map d_Token a2)), .d (.v (.int .i64 r6.2.2.1)), .d (.v (.int .i64 r6.2.2.2.1)), .d (.v (.int .i64 r6.2.2.2.2.1)), .d (.v (.int .i64 r6.2.2.2.2.2.1)), .d (.v (.int .i64 s))]]) [] o1 ?_ ?_
                · refine xS ?_
                  refine xr ?_
                  rcases bsplit H with ⟨hp11, H⟩ | ⟨hp11, H⟩
                  · obtain ⟨F, G, hq11⟩ := xH Y G hp11
                    refine xT ?_
                    refine xr ?_
                    exact cut_at H (xK ⟨[1], []⟩)
                  · obtain ⟨F, G, hq11⟩ := xH Y G hp11
                    refine xE ?_
                    exact cut_at H (xK ⟨[1], []⟩)
                · rintro x24 H
                  rw [preref4_C_Level_j7] at H
                  refine xS ?_
                  refine xr ?_
                  rcases bsplit H with ⟨hp6, H⟩ | ⟨hp6, H⟩
                  · obtain ⟨F, G, hq6⟩ := xH Y G hp6
                    replace H := inrO_fin H hF1
                    refine xT ?_
                    exact cut_at H (xK ⟨[1], []⟩)
                  · obtain ⟨F, G, hq6⟩ := xH Y G hp6
                    refine xE0 ?_
                    refine w_skip ?_
                    refine then_normal ?_
                    refine w_cut (preref4_C_Level_j8 r6 x24) (fun s => [(0, .c (.pt 1 0)), (1, .c (.d (.v (.int .i64 a0)))), (8, .c (.d (.v (.int .i64 s.1)))), (16, .c (.d (.v (.int .i64 r6.2.1))))]) (fun s => [[.d (.sl 11 (List.map d_Token a2)), .d (.v (.int .i64 s.2.1)), .d (.v (.int .i64 s.2.2.1)), .d (.v (.int .i64 s.2.2.2)), .d (.v (.int .i64 r6.2.2.2.2.2.1)), .d (.v (.int .i64 x24))]]) [] o1 ?_ ?_
                    · refine xS ?_
                      refine xr ?_
                      refine xr ?_
                      rcases bsplit H with ⟨hp7, H⟩ | ⟨hp7, H⟩
                      · obtain ⟨F, G, hq7⟩ := xH Y G hp7
                        refine xT ?_
                        rcases bsplit H with ⟨hp8, H⟩ | ⟨hp8, H⟩
                        · obtain ⟨F, G, hq8⟩ := xH Y G hp8
                          obtain ⟨r7, hr7, H⟩ := osplit H
                          have F := xCf F (preref4_one_c (!eqI r6.1 0) r7 hr7)
                          refine xR ?_
                          exact cut_at H (xK ⟨[1], []⟩)
                        · obtain ⟨F, G, hq8⟩ := xH Y G hp8
                          obtain ⟨r8, hr8, H⟩ := osplit H
                          have F := xCf F (preref4_one_c false r8 hr8)
                          refine xR ?_
                          exact cut_at H (xK ⟨[1], []⟩)
                      · obtain ⟨F, G, hq7⟩ := xH Y G hp7
                        refine xE ?_
                        refine xr ?_
                        rcases bsplit H with ⟨hp9, H⟩ | ⟨hp9, H⟩
                        · obtain ⟨F, G, hq9⟩ := xH Y G hp9
                          refine xT ?_
                          rcases bsplit H with ⟨hp10, H⟩ | ⟨hp10, H⟩
                          · obtain ⟨F, G, hq10⟩ := xH Y G hp10
                            obtain ⟨r9, hr9, H⟩ := osplit H
                            have F := xCf F (preref4_one_c true r9 hr9)
                            refine xR ?_
                            exact cut_at H (xK ⟨[1], []⟩)
                          · obtain ⟨F, G, hq10⟩ := xH Y G hp10
                            obtain ⟨r10, hr10, H⟩ := osplit H
                            have F := xCf F (preref4_one_c (!eqI r6.1 0) r10 hr10)
                            refine xR ?_
                            exact cut_at H (xK ⟨[1], []⟩)
                        · obtain ⟨F, G, hq9⟩ := xH Y G hp9
                          refine xE ?_
                          obtain ⟨r11, hr11, H⟩ := osplit H
                          have F := Y
                          refine xQ ?_
                          refine xs 4 ?_
                          refine xc ⟨[1], []⟩ (tabG 3 (preref4_C_Op_c x9 x8 r6.1 a2 r6.2.2.1 r6.2.2.2.1 r6.2.2.2.2.1 r6.2.2.2.2.2.1 x24 r11 hr11)) ?_
                          refine xs 1 ?_
                          refine xl ?_
                          refine xS ?_
                          exact cut_at H (xK ⟨[1], []⟩)
                    · rintro ⟨x25, x26, x27, x28⟩ H
                      rw [preref4_C_Level_j8] at H
                      refine xr ?_
                      exact round_at (inl_fin H hF1) (xK ⟨[1], []⟩)
      · obtain ⟨F, G, hq2⟩ := xH Y G hp2
        replace H := inrO_fin H hF1
        refine xE ?_
        exact cut_at H (xK ⟨[1], []⟩)
    · rintro ⟨x1, x2, x3, x4, x5, x6, x7⟩ H
      rw [preref4_C_Level_j1] at H
      refine xS ?_
      replace H := Option.some.inj H
      refine xr ?_
      subst H
      refine xOr ?_
      refine qDf [] ?_
      exact xO ⟨[1], []⟩
noncomputable def preref4_C_Atom_j1 : (Int × Int × Int × Int × Int × Int × Int) → Option (Int × Int × Int × Int × Int × Int × Int)
  | (x1, x2, x3, x4, x5, x6, x7) => some (x1, x2, x3, x4, x5, IntKind.i64.wrap (x6 - 1), x7)
noncomputable def preref4_C_Atom_j4 (a6 : Int) (x8 : Int) (x10 : Int) (x22 : Int) : (Int × Int × Int) → Option (Int × Int × Int × Int × Int × Int × Int)
  | (x24, x25, x26) => preref4_C_Atom_j1 (x22, x8, x24, x25, x26, x10, a6)
noncomputable def preref4_C_Atom_j3 (a0 : Int) (a1 : List Token) (a2 : Int) (a3 : Int) (a4 : Int) (a6 : Int) (x8 : Int) (x10 : Int) : (Int × Bool) → Option (Int × Int × Int × Int × Int × Int × Int)
  | (x22, x23) => if (!x23) = true then (preref4_C_Stop a0 3 a1 a2 a3 a4 x10 a6).bind fun r4 => preref4_C_Atom_j4 a6 x8 x10 x22 (r4.1, r4.2.1, r4.2.2) else preref4_C_Atom_j4 a6 x8 x10 x22 (a2, a3, a4)
noncomputable def preref4_C_Atom_j5 (r7 : (Int × Int × Int × Int × Int × Int × Int)) : (Int × Int × Int) → Option (Int × Int × Int × Int × Int × Int × Int)
  | (x27, x28, x29) => preref4_C_Atom_j1 (r7.1, IntKind.i64.wrap (r7.2.1 + 1), x27, x28, x29, r7.2.2.2.2.2.1, r7.2.2.2.2.2.2)
noncomputable def preref4_C_Atom_j2 (q3 : Int → (List Token) → Int → Int → Int → Int → Int → Option (Int × Int × Int × Int × Int × Int × Int)) (q1 : Int → (List Token) → Int → Int → Int → Int → Int → Option (Int × Int × Int × Int × Int × Int × Int)) (a0 : Int) (a1 : List Token) (a2 : Int) (a3 : Int) (a4 : Int) (a6 : Int) : (Int × Bool × Int × Int × (List UInt8) × Bool × Bool × Int × Int × Int × Int × (List (List UInt8)) × (List Call) × Int) → Option (Int × Int × Int × Int × Int × Int × Int)
  | (x8, x9, x10, x11, x12, x13, x14, x15, x16, x17, x18, x19, x20, x21) => if x9 = true then (preref4_Num x12).bind fun r3 => if (eqI x11 3) = true then (preref4_Char x12).bind fun r5 => preref4_C_Atom_j3 a0 a1 a2 a3 a4 a6 x8 x10 (r5.1, r5.2) else preref4_C_Atom_j3 a0 a1 a2 a3 a4 a6 x8 x10 (r3.1, r3.2) else (preref4_C_Is a0 [40] a1 a2 a3 a4 x10 a6).bind fun r6 => if r6 = true then (q1 (IntKind.i64.wrap (a0 + 1)) a1 a2 a3 a4 x10 a6).bind fun r7 => (preref4_C_Is r7.2.1 [41] a1 r7.2.2.1 r7.2.2.2.1 r7.2.2.2.2.1 r7.2.2.2.2.2.1 r7.2.2.2.2.2.2).bind fun r8 => if (!r8) = true then (preref4_C_Stop r7.2.1 2 a1 r7.2.2.1 r7.2.2.2.1 r7.2.2.2.2.1 r7.2.2.2.2.2.1 r7.2.2.2.2.2.2).bind fun r9 => preref4_C_Atom_j5 r7 (r9.1, r9.2.1, r9.2.2) else preref4_C_Atom_j5 r7 (r7.2.2.1, r7.2.2.2.1, r7.2.2.2.2.1) else (preref4_C_Is a0 [45] a1 a2 a3 a4 x10 a6).bind fun r10 => if r10 = true then (q3 (IntKind.i64.wrap (a0 + 1)) a1 a2 a3 a4 x10 a6).bind fun r11 => preref4_C_Atom_j1 (IntKind.i64.wrap (0 - r11.1), r11.2.1, r11.2.2.1, r11.2.2.2.1, r11.2.2.2.2.1, r11.2.2.2.2.2.1, r11.2.2.2.2.2.2) else (preref4_C_Is a0 [43] a1 a2 a3 a4 x10 a6).bind fun r12 => if r12 = true then (q3 (IntKind.i64.wrap (a0 + 1)) a1 a2 a3 a4 x10 a6).bind fun r13 => preref4_C_Atom_j1 (r13.1, r13.2.1, r13.2.2.1, r13.2.2.2.1, r13.2.2.2.2.1, r13.2.2.2.2.2.1, r13.2.2.2.2.2.2) else (preref4_C_Is a0 [126] a1 a2 a3 a4 x10 a6).bind fun r14 => if r14 = true then (q3 (IntKind.i64.wrap (a0 + 1)) a1 a2 a3 a4 x10 a6).bind fun r15 => preref4_C_Atom_j1 (IntKind.i64.wrap ((-1) - r15.1), r15.2.1, r15.2.2.1, r15.2.2.2.1, r15.2.2.2.2.1, r15.2.2.2.2.2.1, r15.2.2.2.2.2.2) else (preref4_C_Is a0 [33] a1 a2 a3 a4 x10 a6).bind fun r16 => if r16 = true then (q3 (IntKind.i64.wrap (a0 + 1)) a1 a2 a3 a4 x10 a6).bind fun r17 => (preref4_one (eqI r17.1 0)).bind fun r18 => preref4_C_Atom_j1 (r18, r17.2.1, r17.2.2.1, r17.2.2.2.1, r17.2.2.2.2.1, r17.2.2.2.2.2.1, r17.2.2.2.2.2.2) else (preref4_C_Stop a0 2 a1 a2 a3 a4 x10 a6).bind fun r19 => preref4_C_Atom_j1 (0, x8, r19.1, r19.2.1, r19.2.2, x10, a6)
noncomputable def preref4_C_Atom_s (q1 : Int → (List Token) → Int → Int → Int → Int → Int → Option (Int × Int × Int × Int × Int × Int × Int)) (q2 : Int → Int → (List Token) → Int → Int → Int → Int → Int → Option (Int × Int × Int × Int × Int × Int × Int)) (q3 : Int → (List Token) → Int → Int → Int → Int → Int → Option (Int × Int × Int × Int × Int × Int × Int)) (a0 : Int) (a1 : List Token) (a2 : Int) (a3 : Int) (a4 : Int) (a5 : Int) (a6 : Int) : Option (Int × Int × Int × Int × Int × Int × Int) :=
  if (!eqI a2 0) = true then some (0, a0, a2, a3, a4, a5, a6) else if (leI 30 a5) = true then (preref4_C_Stop a0 10 a1 a2 a3 a4 a5 a6).bind fun r1 => some (0, a0, r1.1, r1.2.1, r1.2.2, a5, a6) else if (leI (a1.length : Int) a0) = true then (preref4_C_Stop a0 9 a1 a2 a3 a4 a5 a6).bind fun r2 => some (0, a0, r2.1, r2.2.1, r2.2.2, a5, a6) else if (0 : Int) ≤ a0 ∧ a0.toNat < a1.length then if (eqI ((a1.getD a0.toNat default).Kind) 1) = true then preref4_C_Atom_j1 (0, IntKind.i64.wrap (a0 + 1), a2, a3, a4, IntKind.i64.wrap (a5 + 1), a6) else if (eqI ((a1.getD a0.toNat default).Kind) 2) = true then preref4_C_Atom_j2 q3 q1 a0 a1 a2 a3 a4 a6 (IntKind.i64.wrap (a0 + 1), true, IntKind.i64.wrap (a5 + 1), (a1.getD a0.toNat default).Kind, (a1.getD a0.toNat default).Text, (a1.getD a0.toNat default).Space, (a1.getD a0.toNat default).First, (a1.getD a0.toNat default).File, (a1.getD a0.toNat default).At, (a1.getD a0.toNat default).End, (a1.getD a0.toNat default).Line, (a1.getD a0.toNat default).Hide, (a1.getD a0.toNat default).Calls, (a1.getD a0.toNat default).Made) else preref4_C_Atom_j2 q3 q1 a0 a1 a2 a3 a4 a6 (IntKind.i64.wrap (a0 + 1), eqI ((a1.getD a0.toNat default).Kind) 3, IntKind.i64.wrap (a5 + 1), (a1.getD a0.toNat default).Kind, (a1.getD a0.toNat default).Text, (a1.getD a0.toNat default).Space, (a1.getD a0.toNat default).First, (a1.getD a0.toNat default).File, (a1.getD a0.toNat default).At, (a1.getD a0.toNat default).End, (a1.getD a0.toNat default).Line, (a1.getD a0.toNat default).Hide, (a1.getD a0.toNat default).Calls, (a1.getD a0.toNat default).Made) else none
set_option maxRecDepth 100000 in
set_option maxHeartbeats 4000000 in
theorem preref4_C_Atom_sok (q1 : Int → (List Token) → Int → Int → Int → Int → Int → Option (Int × Int × Int × Int × Int × Int × Int)) (q2 : Int → Int → (List Token) → Int → Int → Int → Int → Int → Option (Int × Int × Int × Int × Int × Int × Int)) (q3 : Int → (List Token) → Int → Int → Int → Int → Int → Option (Int × Int × Int × Int × Int × Int × Int)) (kq1 : Kok Tryd.prog 25 true (SF_preref4_C_Choice q1)) (kq2 : Kok Tryd.prog 36 true (SF_preref4_C_Level q2)) (kq3 : Kok Tryd.prog 49 true (SF_preref4_C_Atom q3)) : ∀ g, SF_preref4_C_Atom (preref4_C_Atom_s q1 q2 q3) g → GenOk Tryd.prog 49 g := by
  rintro _ ⟨a0, a1, a2, a3, a4, a5, a6, r, H, rfl⟩
  refine xGn mixed [(11, pf_preref4_Num), (13, pf_preref4_Char), (50, pf_preref4_one)] [(26, true, S_preref4_C_Stop), (37, true, S_preref4_C_Is), (25, true, (SF_preref4_C_Choice q1)), (49, true, (SF_preref4_C_Atom q3))] [] ⟨⟨call_11, preref4_Num_ok⟩, ⟨call_13, preref4_Char_ok⟩, ⟨call_50, preref4_one_ok⟩, trivial⟩ ⟨preref4_C_Stop_k, preref4_C_Is_k, kq1, kq3, trivial⟩ trivial Tryd.func49 _ ?_
  have G := True.intro
  have Y := xZ y_3 <| xZ y_9 <| xZ y_22 <| xZ y_23 <| xZ y_25 <| xZ y_47 <| xZ y_60 <| xZ Tryd.results49 <| xZ d_Call.eq_1 <| xZ d_Token.eq_1 <| xZ d_Fault.eq_1 <| xZ g_preref4_C_Stop.eq_1 <| xZ g_preref4_C_Is.eq_1 <| xZ g_preref4_C_Choice.eq_1 <| xZ g_preref4_C_Atom.eq_1 <| g_preref4_C_Atom.eq_1
  dsimp only [g_preref4_C_Atom]
  simp only [preref4_C_Atom_s] at H
  refine xS ?_
  refine xr ?_
  refine xr ?_
  rcases bsplit H with ⟨hp1, H⟩ | ⟨hp1, H⟩
  · obtain ⟨F, G, hq1⟩ := xH Y G hp1
    refine xT ?_
    replace H := Option.some.inj H
    refine xr ?_
    subst H
    refine xOr ?_
    refine qDf [] ?_
    exact xO ⟨[1], []⟩
  · obtain ⟨F, G, hq1⟩ := xH Y G hp1
    refine xE ?_
    refine xr ?_
    rcases bsplit H with ⟨hp2, H⟩ | ⟨hp2, H⟩
    · obtain ⟨F, G, hq2⟩ := xH Y G hp2
      refine xT ?_
      obtain ⟨r1, hr1, H⟩ := osplit H
      have F := Y
      refine xQ ?_
      refine xs 2 ?_
      refine xc ⟨[1], []⟩ (tabG 0 (preref4_C_Stop_c a0 10 a1 a2 a3 a4 a5 a6 r1 hr1)) ?_
      refine xl ?_
      refine xS ?_
      replace H := Option.some.inj H
      refine xr ?_
      subst H
      refine xOr ?_
      refine qDf [] ?_
      exact xO ⟨[1], []⟩
    · obtain ⟨F, G, hq2⟩ := xH Y G hp2
      refine xE ?_
      refine xr ?_
      rcases bsplit H with ⟨hp3, H⟩ | ⟨hp3, H⟩
      · obtain ⟨F, G, hq3⟩ := xH Y G hp3
        refine xT ?_
        obtain ⟨r2, hr2, H⟩ := osplit H
        have F := Y
        refine xQ ?_
        refine xs 2 ?_
        refine xc ⟨[1], []⟩ (tabG 0 (preref4_C_Stop_c a0 9 a1 a2 a3 a4 a5 a6 r2 hr2)) ?_
        refine xl ?_
        refine xS ?_
        replace H := Option.some.inj H
        refine xr ?_
        subst H
        refine xOr ?_
        refine qDf [] ?_
        exact xO ⟨[1], []⟩
      · obtain ⟨F, G, hq3⟩ := xH Y G hp3
        refine xE ?_
        refine xr ?_
        refine xr ?_
        obtain ⟨hg1, H⟩ := gsplit H
        have F := xZ Y (map_getD d_Token a1 a0.toNat default default (by omega))
        refine xR0 ?_
        refine then_normal ?_
        refine w_cut preref4_C_Atom_j1 (fun s => [(0, .c (.pt 1 0)), (6, .c (.d (.v (.int .i64 s.1)))), (7, .c (.d (.v (.int .i64 s.2.1))))]) (fun s => [[.d (.sl 11 (List.map d_Token a1)), .d (.v (.int .i64 s.2.2.1)), .d (.v (.int .i64 s.2.2.2.1)), .d (.v (.int .i64 s.2.2.2.2.1)), .d (.v (.int .i64 s.2.2.2.2.2.1)), .d (.v (.int .i64 s.2.2.2.2.2.2))]]) [] r ?_ ?_
        · refine xS ?_
          refine xr ?_
          rcases bsplit H with ⟨hp4, H⟩ | ⟨hp4, H⟩
          · obtain ⟨F, G, hq4⟩ := xH Y G hp4
            refine xT ?_
            exact cut_at H (xK ⟨[1], []⟩)
          · obtain ⟨F, G, hq4⟩ := xH Y G hp4
            refine xE0 ?_
            refine w_cut (preref4_C_Atom_j2 q3 q1 a0 a1 a2 a3 a4 a6) (fun s => [(0, .c (.pt 1 0)), (1, .c (.d (.v (.int .i64 a0)))), (6, .c (.d (.v (.int .i64 0)))), (7, .c (.d (.v (.int .i64 s.1)))), (8, .c (.pt 2 0)), (61, .c (.d (.v (.bool s.2.1))))]) (fun s => [[.d (.sl 11 (List.map d_Token a1)), .d (.v (.int .i64 a2)), .d (.v (.int .i64 a3)), .d (.v (.int .i64 a4)), .d (.v (.int .i64 s.2.2.1)), .d (.v (.int .i64 a6))], [.d (.v (.int .i64 s.2.2.2.1)), .d (.v (str s.2.2.2.2.1)), .d (.v (.bool s.2.2.2.2.2.1)), .d (.v (.bool s.2.2.2.2.2.2.1)), .d (.v (.int .i64 s.2.2.2.2.2.2.2.1)), .d (.v (.int .i64 s.2.2.2.2.2.2.2.2.1)), .d (.v (.int .i64 s.2.2.2.2.2.2.2.2.2.1)), .d (.v (.int .i64 s.2.2.2.2.2.2.2.2.2.2.1)), .d (.sl 1 (List.map dS s.2.2.2.2.2.2.2.2.2.2.2.1)), .d (.sl 3 (List.map d_Call s.2.2.2.2.2.2.2.2.2.2.2.2.1)), .d (.v (.int .i64 s.2.2.2.2.2.2.2.2.2.2.2.2.2))]]) [] r ?_ ?_
            · refine xS ?_
              refine xr ?_
              rcases bsplit H with ⟨hp14, H⟩ | ⟨hp14, H⟩
              · obtain ⟨F, G, hq14⟩ := xH Y G hp14
                refine xT ?_
                exact cut_at H (xK ⟨[1,2], []⟩)
              · obtain ⟨F, G, hq14⟩ := xH Y G hp14
                refine xE ?_
                refine xr ?_
                exact cut_at H (xK ⟨[1,2], []⟩)
            · rintro ⟨x8, x9, x10, x11, x12, x13, x14, x15, x16, x17, x18, x19, x20, x21⟩ H
              rw [preref4_C_Atom_j2] at H
              rcases bsplit H with ⟨hp5, H⟩ | ⟨hp5, H⟩
              · obtain ⟨F, G, hq5⟩ := xH Y G hp5
                refine xT ?_
                obtain ⟨r3, hr3, H⟩ := osplit H
                have F := xC Y (preref4_Num_c x12 r3 hr3)
                refine xR0 ?_
                refine then_normal ?_
                refine w_cut (preref4_C_Atom_j3 a0 a1 a2 a3 a4 a6 x8 x10) (fun s => [(0, .c (.pt 1 0)), (1, .c (.d (.v (.int .i64 a0)))), (7, .c (.d (.v (.int .i64 x8)))), (9, .c (.d (.v (.int .i64 s.1)))), (10, .c (.d (.v (.bool s.2))))]) (fun s => [[.d (.sl 11 (List.map d_Token a1)), .d (.v (.int .i64 a2)), .d (.v (.int .i64 a3)), .d (.v (.int .i64 a4)), .d (.v (.int .i64 x10)), .d (.v (.int .i64 a6))]]) [] r ?_ ?_
                · refine xS ?_
                  refine xr ?_
                  rcases bsplit H with ⟨hp7, H⟩ | ⟨hp7, H⟩
                  · obtain ⟨F, G, hq7⟩ := xH Y G hp7
                    refine xT ?_
                    obtain ⟨r5, hr5, H⟩ := osplit H
                    have F := xC Y (preref4_Char_c x12 r5 hr5)
                    refine xR ?_
                    exact cut_at H (xK ⟨[1], []⟩)
                  · obtain ⟨F, G, hq7⟩ := xH Y G hp7
                    refine xE ?_
                    exact cut_at H (xK ⟨[1], []⟩)
                · rintro ⟨x22, x23⟩ H
                  rw [preref4_C_Atom_j3] at H
                  refine w_cut (preref4_C_Atom_j4 a6 x8 x10 x22) (fun s => [(0, .c (.pt 1 0)), (7, .c (.d (.v (.int .i64 x8)))), (9, .c (.d (.v (.int .i64 x22))))]) (fun s => [[.d (.sl 11 (List.map d_Token a1)), .d (.v (.int .i64 s.1)), .d (.v (.int .i64 s.2.1)), .d (.v (.int .i64 s.2.2)), .d (.v (.int .i64 x10)), .d (.v (.int .i64 a6))]]) [] r ?_ ?_
                  · refine xS ?_
                    refine xr ?_
                    rcases bsplit H with ⟨hp6, H⟩ | ⟨hp6, H⟩
                    · obtain ⟨F, G, hq6⟩ := xH Y G hp6
                      refine xT ?_
                      obtain ⟨r4, hr4, H⟩ := osplit H
                      have F := Y
                      refine xQ ?_
                      refine xs 2 ?_
                      refine xc ⟨[1], []⟩ (tabG 0 (preref4_C_Stop_c a0 3 a1 a2 a3 a4 x10 a6 r4 hr4)) ?_
                      refine xl ?_
                      refine xS ?_
                      exact cut_at H (xK ⟨[1], []⟩)
                    · obtain ⟨F, G, hq6⟩ := xH Y G hp6
                      refine xE ?_
                      exact cut_at H (xK ⟨[1], []⟩)
                  · rintro ⟨x24, x25, x26⟩ H
                    rw [preref4_C_Atom_j4] at H
                    refine xr ?_
                    exact cut_at H (xK ⟨[1], []⟩)
              · obtain ⟨F, G, hq5⟩ := xH Y G hp5
                refine xE ?_
                obtain ⟨r6, hr6, H⟩ := osplit H
                have F := Y
                refine xQ ?_
                refine xs 2 ?_
                refine xc ⟨[1], []⟩ (tabG 1 (preref4_C_Is_c a0 [40] a1 a2 a3 a4 x10 a6 r6 hr6)) ?_
                refine xs 1 ?_
                refine xl ?_
                refine xS ?_
                rcases bsplit H with ⟨hp8, H⟩ | ⟨hp8, H⟩
                · obtain ⟨F, G, hq8⟩ := xH Y G hp8
                  refine xT ?_
                  obtain ⟨r7, hr7, H⟩ := osplit H
                  have F := Y
                  refine xQ ?_
                  refine xs 3 ?_
                  refine xc ⟨[1], []⟩ (tabG 2 (preref4_C_Choice_sc q1 (IntKind.i64.wrap (a0 + 1)) a1 a2 a3 a4 x10 a6 r7 hr7)) ?_
                  refine xs 5 ?_
                  refine xl ?_
                  refine  ?_
                  refine then_normal ?_
                  refine w_cut (preref4_C_Atom_j5 r7) (fun s => [(0, .c (.pt 1 0)), (6, .c (.d (.v (.int .i64 r7.1)))), (7, .c (.d (.v (.int .i64 r7.2.1))))]) (fun s => [[.d (.sl 11 (List.map d_Token a1)), .d (.v (.int .i64 s.1)), .d (.v (.int .i64 s.2.1)), .d (.v (.int .i64 s.2.2)), .d (.v (.int .i64 r7.2.2.2.2.2.1)), .d (.v (.int .i64 r7.2.2.2.2.2.2))]]) [] r ?_ ?_
                  · refine xS ?_
                    obtain ⟨r8, hr8, H⟩ := osplit H
                    have F := Y
                    refine xQ ?_
                    refine xs 2 ?_
                    refine xc ⟨[1], []⟩ (tabG 1 (preref4_C_Is_c r7.2.1 [41] a1 r7.2.2.1 r7.2.2.2.1 r7.2.2.2.2.1 r7.2.2.2.2.2.1 r7.2.2.2.2.2.2 r8 hr8)) ?_
                    refine xs 1 ?_
                    refine xl ?_
                    refine xS ?_
                    rcases bsplit H with ⟨hp9, H⟩ | ⟨hp9, H⟩
                    · obtain ⟨F, G, hq9⟩ := xH Y G hp9
                      refine xT ?_
                      obtain ⟨r9, hr9, H⟩ := osplit H
                      have F := Y
                      refine xQ ?_
                      refine xs 2 ?_
                      refine xc ⟨[1], []⟩ (tabG 0 (preref4_C_Stop_c r7.2.1 2 a1 r7.2.2.1 r7.2.2.2.1 r7.2.2.2.2.1 r7.2.2.2.2.2.1 r7.2.2.2.2.2.2 r9 hr9)) ?_
                      refine xl ?_
                      refine xS ?_
                      exact cut_at H (xK ⟨[1], []⟩)
                    · obtain ⟨F, G, hq9⟩ := xH Y G hp9
                      refine xE ?_
                      exact cut_at H (xK ⟨[1], []⟩)
                  · rintro ⟨x27, x28, x29⟩ H
                    rw [preref4_C_Atom_j5] at H
                    refine xr ?_
                    exact cut_at H (xK ⟨[1], []⟩)
                · obtain ⟨F, G, hq8⟩ := xH Y G hp8
                  refine xE ?_
                  obtain ⟨r10, hr10, H⟩ := osplit H
                  have F := Y
                  refine xQ ?_
                  refine xs 2 ?_
                  refine xc ⟨[1], []⟩ (tabG 1 (preref4_C_Is_c a0 [45] a1 a2 a3 a4 x10 a6 r10 hr10)) ?_
                  refine xs 1 ?_
                  refine xl ?_
                  refine xS ?_
                  rcases bsplit H with ⟨hp10, H⟩ | ⟨hp10, H⟩
                  · obtain ⟨F, G, hq10⟩ := xH Y G hp10
                    refine xT ?_
                    obtain ⟨r11, hr11, H⟩ := osplit H
                    have F := Y
                    refine xQ ?_
                    refine xs 3 ?_
                    refine xc ⟨[1], []⟩ (tabG 3 (preref4_C_Atom_sc q3 (IntKind.i64.wrap (a0 + 1)) a1 a2 a3 a4 x10 a6 r11 hr11)) ?_
                    refine xs 5 ?_
                    refine xl ?_
                    refine xS ?_
                    refine xr ?_
                    exact cut_at H (xK ⟨[1], []⟩)
                  · obtain ⟨F, G, hq10⟩ := xH Y G hp10
                    refine xE ?_
                    obtain ⟨r12, hr12, H⟩ := osplit H
                    have F := Y
                    refine xQ ?_
                    refine xs 2 ?_
                    refine xc ⟨[1], []⟩ (tabG 1 (preref4_C_Is_c a0 [43] a1 a2 a3 a4 x10 a6 r12 hr12)) ?_
                    refine xs 1 ?_
                    refine xl ?_
                    refine xS ?_
                    rcases bsplit H with ⟨hp11, H⟩ | ⟨hp11, H⟩
                    · obtain ⟨F, G, hq11⟩ := xH Y G hp11
                      refine xT ?_
                      obtain ⟨r13, hr13, H⟩ := osplit H
                      have F := Y
                      refine xQ ?_
                      refine xs 3 ?_
                      refine xc ⟨[1], []⟩ (tabG 3 (preref4_C_Atom_sc q3 (IntKind.i64.wrap (a0 + 1)) a1 a2 a3 a4 x10 a6 r13 hr13)) ?_
                      refine xs 5 ?_
                      refine xl ?_
                      refine xS ?_
                      exact cut_at H (xK ⟨[1], []⟩)
                    · obtain ⟨F, G, hq11⟩ := xH Y G hp11
                      refine xE ?_
                      obtain ⟨r14, hr14, H⟩ := osplit H
                      have F := Y
                      refine xQ ?_
                      refine xs 2 ?_
                      refine xc ⟨[1], []⟩ (tabG 1 (preref4_C_Is_c a0 [126] a1 a2 a3 a4 x10 a6 r14 hr14)) ?_
                      refine xs 1 ?_
                      refine xl ?_
                      refine xS ?_
                      rcases bsplit H with ⟨hp12, H⟩ | ⟨hp12, H⟩
                      · obtain ⟨F, G, hq12⟩ := xH Y G hp12
                        refine xT ?_
                        obtain ⟨r15, hr15, H⟩ := osplit H
                        have F := Y
                        refine xQ ?_
                        refine xs 3 ?_
                        refine xc ⟨[1], []⟩ (tabG 3 (preref4_C_Atom_sc q3 (IntKind.i64.wrap (a0 + 1)) a1 a2 a3 a4 x10 a6 r15 hr15)) ?_
                        refine xs 5 ?_
                        refine xl ?_
                        refine xS ?_
                        refine xr ?_
                        exact cut_at H (xK ⟨[1], []⟩)
                      · obtain ⟨F, G, hq12⟩ := xH Y G hp12
                        refine xE ?_
                        obtain ⟨r16, hr16, H⟩ := osplit H
                        have F := Y
                        refine xQ ?_
                        refine xs 2 ?_
                        refine xc ⟨[1], []⟩ (tabG 1 (preref4_C_Is_c a0 [33] a1 a2 a3 a4 x10 a6 r16 hr16)) ?_
                        refine xs 1 ?_
                        refine xl ?_
                        refine xS ?_
                        rcases bsplit H with ⟨hp13, H⟩ | ⟨hp13, H⟩
                        · obtain ⟨F, G, hq13⟩ := xH Y G hp13
                          refine xT ?_
                          obtain ⟨r17, hr17, H⟩ := osplit H
                          have F := Y
                          refine xQ ?_
                          refine xs 3 ?_
                          refine xc ⟨[1], []⟩ (tabG 3 (preref4_C_Atom_sc q3 (IntKind.i64.wrap (a0 + 1)) a1 a2 a3 a4 x10 a6 r17 hr17)) ?_
                          refine xs 5 ?_
                          refine xl ?_
                          refine xS ?_
                          obtain ⟨r18, hr18, H⟩ := osplit H
                          have F := xC Y (preref4_one_c (eqI r17.1 0) r18 hr18)
                          refine xR ?_
                          exact cut_at H (xK ⟨[1], []⟩)
                        · obtain ⟨F, G, hq13⟩ := xH Y G hp13
                          refine xE ?_
                          obtain ⟨r19, hr19, H⟩ := osplit H
                          have F := Y
                          refine xQ ?_
                          refine xs 2 ?_
                          refine xc ⟨[1], []⟩ (tabG 0 (preref4_C_Stop_c a0 2 a1 a2 a3 a4 x10 a6 r19 hr19)) ?_
                          refine xl ?_
                          refine xS ?_
                          exact cut_at H (xK ⟨[1], []⟩)
        · rintro ⟨x1, x2, x3, x4, x5, x6, x7⟩ H
          rw [preref4_C_Atom_j1] at H
          refine xS ?_
          refine xr ?_
          replace H := Option.some.inj H
          refine xr ?_
          subst H
          refine xOr ?_
          refine qDf [] ?_
          exact xO ⟨[1], []⟩
noncomputable def rec_preref4_C_Choice : Nat → (Int → (List Token) → Int → Int → Int → Int → Int → Option (Int × Int × Int × Int × Int × Int × Int)) × (Int → Int → (List Token) → Int → Int → Int → Int → Int → Option (Int × Int × Int × Int × Int × Int × Int)) × (Int → (List Token) → Int → Int → Int → Int → Int → Option (Int × Int × Int × Int × Int × Int × Int))
  | 0 => (fun _ _ _ _ _ _ _ => none, fun _ _ _ _ _ _ _ _ => none, fun _ _ _ _ _ _ _ => none)
  | n + 1 => (preref4_C_Choice_s ((rec_preref4_C_Choice n).1) ((rec_preref4_C_Choice n).2.1) ((rec_preref4_C_Choice n).2.2), preref4_C_Level_s ((rec_preref4_C_Choice n).1) ((rec_preref4_C_Choice n).2.1) ((rec_preref4_C_Choice n).2.2), preref4_C_Atom_s ((rec_preref4_C_Choice n).1) ((rec_preref4_C_Choice n).2.1) ((rec_preref4_C_Choice n).2.2))
theorem rec_preref4_C_Choice_k : ∀ n, Kok Tryd.prog 25 true (SF_preref4_C_Choice (rec_preref4_C_Choice n).1) ∧ Kok Tryd.prog 36 true (SF_preref4_C_Level (rec_preref4_C_Choice n).2.1) ∧ Kok Tryd.prog 49 true (SF_preref4_C_Atom (rec_preref4_C_Choice n).2.2)
  | 0 => ⟨⟨call_25, (by rintro _ ⟨_, _, _, _, _, _, _, _, H, _⟩; cases H), fun _ => by rintro _ ⟨_, _, _, _, _, _, _, _, _, rfl⟩; exact ⟨_, _, _, rfl⟩⟩, ⟨call_36, (by rintro _ ⟨_, _, _, _, _, _, _, _, _, H, _⟩; cases H), fun _ => by rintro _ ⟨_, _, _, _, _, _, _, _, _, _, rfl⟩; exact ⟨_, _, _, rfl⟩⟩, ⟨call_49, (by rintro _ ⟨_, _, _, _, _, _, _, _, H, _⟩; cases H), fun _ => by rintro _ ⟨_, _, _, _, _, _, _, _, _, rfl⟩; exact ⟨_, _, _, rfl⟩⟩⟩
  | n + 1 => have h := rec_preref4_C_Choice_k n; ⟨⟨call_25, preref4_C_Choice_sok _ _ _ h.1 h.2.1 h.2.2, fun _ => by rintro _ ⟨_, _, _, _, _, _, _, _, _, rfl⟩; exact ⟨_, _, _, rfl⟩⟩, ⟨call_36, preref4_C_Level_sok _ _ _ h.1 h.2.1 h.2.2, fun _ => by rintro _ ⟨_, _, _, _, _, _, _, _, _, _, rfl⟩; exact ⟨_, _, _, rfl⟩⟩, ⟨call_49, preref4_C_Atom_sok _ _ _ h.1 h.2.1 h.2.2, fun _ => by rintro _ ⟨_, _, _, _, _, _, _, _, _, rfl⟩; exact ⟨_, _, _, rfl⟩⟩⟩
noncomputable def preref4_C_Choice : Int → (List Token) → Int → Int → Int → Int → Int → Option (Int × Int × Int × Int × Int × Int × Int) := (rec_preref4_C_Choice bigF).1
def S_preref4_C_Choice : GI → Prop := SF_preref4_C_Choice preref4_C_Choice
theorem preref4_C_Choice_c (a0 : Int) (a1 : List Token) (a2 : Int) (a3 : Int) (a4 : Int) (a5 : Int) (a6 : Int) (r : (Int × Int × Int × Int × Int × Int × Int)) (H : preref4_C_Choice a0 a1 a2 a3 a4 a5 a6 = some r) : S_preref4_C_Choice (g_preref4_C_Choice a0 a1 a2 a3 a4 a5 a6 r) := preref4_C_Choice_sc preref4_C_Choice a0 a1 a2 a3 a4 a5 a6 r H
theorem preref4_C_Choice_k : Kok Tryd.prog 25 true S_preref4_C_Choice := (rec_preref4_C_Choice_k bigF).1
noncomputable def preref4_Eval_j1 (r1 : (Int × Int × Int × Int × Int × Int × Int)) : (Int × Int × Int) → Option (Int × Fault)
  | (x1, x2, x3) => if (!eqI x1 0) = true then some (0, (⟨x1, x2, x3⟩ : Fault)) else some (r1.1, (⟨x1, x2, x3⟩ : Fault))
noncomputable def preref4_Eval (a0 : List Token) : Option (Int × Fault) :=
  (preref4_C_Choice 0 a0 0 (-1) 0 0 0).bind fun r1 => if (ltI r1.2.1 (a0.length : Int)) = true then (preref4_C_Stop r1.2.1 2 a0 r1.2.2.1 r1.2.2.2.1 r1.2.2.2.2.1 r1.2.2.2.2.2.1 r1.2.2.2.2.2.2).bind fun r2 => preref4_Eval_j1 r1 (r2.1, r2.2.1, r2.2.2) else preref4_Eval_j1 r1 (r1.2.2.1, r1.2.2.2.1, r1.2.2.2.2.1)
noncomputable def pf_preref4_Eval : PF := PF.of (E1 (dL 11 d_Token)) (fun a => preref4_Eval a) (T2 dI d_Fault)
set_option maxRecDepth 100000 in
set_option maxHeartbeats 4000000 in
theorem preref4_Eval_ok : PureOk Tryd.prog 9 pf_preref4_Eval := by
  refine xF mixed [] [(25, true, S_preref4_C_Choice), (26, true, S_preref4_C_Stop)] trivial ⟨preref4_C_Choice_k, preref4_C_Stop_k, trivial⟩ Tryd.func9 ?_
  rintro a0 out H
  have G := True.intro
  have Y := xZ y_3 <| xZ y_22 <| xZ y_23 <| xZ y_25 <| xZ y_47 <| xZ y_60 <| xZ Tryd.results9 <| xZ d_Call.eq_1 <| xZ d_Token.eq_1 <| xZ d_Fault.eq_1 <| xZ g_preref4_C_Choice.eq_1 <| g_preref4_C_Stop.eq_1
  simp only [preref4_Eval] at H
  refine xS ?_
  refine xr ?_
  refine xr ?_
  obtain ⟨r1, hr1, H⟩ := osplit H
  have F := Y
  refine xQ ?_
  refine xs 1 ?_
  refine xc ⟨[2], []⟩ (tabG 0 (preref4_C_Choice_c 0 a0 0 (-1) 0 0 0 r1 hr1)) ?_
  refine xs 5 ?_
  refine xl ?_
  refine  ?_
  refine then_normal ?_
  refine w_cut (preref4_Eval_j1 r1) (fun s => [(3, .c (.pt 1 0)), (4, .c (.pt 2 0)), (5, .c (.d (.v (.int .i64 r1.1))))]) (fun s => [[.d (.v (.int .i64 0)), .d (.v (.int .i64 0)), .d (.v (.int .i64 0))], [.d (.sl 11 (List.map d_Token a0)), .d (.v (.int .i64 s.1)), .d (.v (.int .i64 s.2.1)), .d (.v (.int .i64 s.2.2)), .d (.v (.int .i64 r1.2.2.2.2.2.1)), .d (.v (.int .i64 r1.2.2.2.2.2.2))]]) [] out ?_ ?_
  · refine xS ?_
    refine xr ?_
    rcases bsplit H with ⟨hp2, H⟩ | ⟨hp2, H⟩
    · obtain ⟨F, G, hq2⟩ := xH Y G hp2
      refine xT ?_
      obtain ⟨r2, hr2, H⟩ := osplit H
      have F := Y
      refine xQ ?_
      refine xs 2 ?_
      refine xc ⟨[2], []⟩ (tabG 1 (preref4_C_Stop_c r1.2.1 2 a0 r1.2.2.1 r1.2.2.2.1 r1.2.2.2.2.1 r1.2.2.2.2.2.1 r1.2.2.2.2.2.2 r2 hr2)) ?_
      refine xl ?_
      refine xS ?_
      exact cut_at H (xK ⟨[1,2], []⟩)
    · obtain ⟨F, G, hq2⟩ := xH Y G hp2
      refine xE ?_
      exact cut_at H (xK ⟨[1,2], []⟩)
  · rintro ⟨x1, x2, x3⟩ H
    rw [preref4_Eval_j1] at H
    refine xS ?_
    refine xr ?_
    rcases bsplit H with ⟨hp1, H⟩ | ⟨hp1, H⟩
    · obtain ⟨F, G, hq1⟩ := xH Y G hp1
      refine xT ?_
      replace H := Option.some.inj H
      refine xr ?_
      subst H
      exact xN
    · obtain ⟨F, G, hq1⟩ := xH Y G hp1
      refine xE ?_
      replace H := Option.some.inj H
      refine xr ?_
      subst H
      exact xN
theorem preref4_Eval_c (a0 : List Token) (r : Int × Fault) (H : preref4_Eval a0 = some r) : PC pf_preref4_Eval [(dL 11 d_Token) a0] (T2 dI d_Fault r) := PF.c (a := a0) H
noncomputable def prelaw4_CondTells_j3 : Bool → Option Bool
  | x2 => some x2
noncomputable def prelaw4_CondTells_j2 (a1 : List UInt8) : Bool → Option Bool
  | x1 => if x1 = true then some false else (cond_Char a1).bind fun r3 => (preref4_Char a1).bind fun r4 => if (eqI r3.1 r4.1) = true then prelaw4_CondTells_j3 (eqB r3.2 r4.2) else prelaw4_CondTells_j3 false
noncomputable def prelaw4_CondTells_j1 (a1 : List UInt8) : Unit → Option Bool
  | () => (cond_Num a1).bind fun r1 => (preref4_Num a1).bind fun r2 => if (!eqS a1 []) = true then if (!eqI r1.1 r2.1) = true then prelaw4_CondTells_j2 a1 true else prelaw4_CondTells_j2 a1 (!eqB r1.2 r2.2) else prelaw4_CondTells_j2 a1 false
noncomputable def prelaw4_CondTells_j4 (a1 : List UInt8) : Bool → Option Bool
  | x3 => if x3 = true then some false else prelaw4_CondTells_j1 a1 ()
noncomputable def prelaw4_CondTells (a0 : List UInt8) (a1 : List UInt8) : Option Bool :=
  (preref1_Tokens 0 a0).bind fun r5 => if (eqI r5.2.Err 0) = true then (cond_Eval r5.1).bind fun r6 => (preref4_Eval r5.1).bind fun r7 => if (!eqI r6.1 r7.1) = true then prelaw4_CondTells_j4 a1 true else prelaw4_CondTells_j4 a1 (!(eqI r6.2.1 r7.2.Err && (eqI r6.2.2.1 r7.2.File && (eqI r6.2.2.2 r7.2.At)))) else prelaw4_CondTells_j1 a1 ()
noncomputable def pf_prelaw4_CondTells : PF := PF.of (E2 dS dS) (fun a => prelaw4_CondTells a.1 a.2) dB
set_option maxRecDepth 100000 in
set_option maxHeartbeats 4000000 in
theorem prelaw4_CondTells_ok : PureOk Tryd.prog 3 pf_prelaw4_CondTells := by
  refine xF mixed [(10, pf_cond_Num), (11, pf_preref4_Num), (12, pf_cond_Char), (13, pf_preref4_Char), (7, pf_preref1_Tokens), (9, pf_preref4_Eval)] [(8, true, S_cond_Eval)] ⟨⟨call_10, cond_Num_ok⟩, ⟨call_11, preref4_Num_ok⟩, ⟨call_12, cond_Char_ok⟩, ⟨call_13, preref4_Char_ok⟩, ⟨call_7, preref1_Tokens_ok⟩, ⟨call_9, preref4_Eval_ok⟩, trivial⟩ ⟨cond_Eval_k, trivial⟩ Tryd.func3 ?_
  rintro ⟨a0, a1⟩ out H
  have G := True.intro
  have Y := xZ y_4 <| xZ y_23 <| xZ y_25 <| xZ Tryd.results3 <| xZ d_Call.eq_1 <| xZ d_Token.eq_1 <| xZ d_Fault.eq_1 <| g_cond_Eval.eq_1
  simp only [prelaw4_CondTells] at H
  refine xS ?_
  refine xr0 ?_
  refine then_normal ?_
  refine w_cut (prelaw4_CondTells_j1 a1) (fun s => [(1, .c (.d (.v (str a1))))]) (fun s => []) [] out ?_ ?_
  · refine xS ?_
    obtain ⟨r5, hr5, H⟩ := osplit H
    have F := xC Y (preref1_Tokens_c 0 a0 r5 hr5)
    refine xR ?_
    refine xr ?_
    rcases bsplit H with ⟨hp5, H⟩ | ⟨hp5, H⟩
    · obtain ⟨F, G, hq5⟩ := xH Y G hp5
      refine xT ?_
      obtain ⟨r6, hr6, H⟩ := osplit H
      have F := Y
      refine xQ ?_
      refine xs 1 ?_
      refine xc ⟨[], []⟩ (tabG 0 (cond_Eval_c r5.1 r6 hr6)) ?_
      refine xs 6 ?_
      refine xl ?_
      refine xS ?_
      obtain ⟨r7, hr7, H⟩ := osplit H
      have F := xC Y (preref4_Eval_c r5.1 r7 hr7)
      refine xR0 ?_
      refine then_normal ?_
      refine w_cut (prelaw4_CondTells_j4 a1) (fun s => [(1, .c (.d (.v (str a1)))), (40, .c (.d (.v (.bool s))))]) (fun s => []) [] out ?_ ?_
      · rcases bsplit H with ⟨hp7, H⟩ | ⟨hp7, H⟩
        · obtain ⟨F, G, hq7⟩ := xH Y G hp7
          refine xR ?_
          exact cut_at H (xK ⟨[], []⟩)
        · obtain ⟨F, G, hq7⟩ := xH Y G hp7
          refine xR ?_
          exact cut_at H (xK ⟨[], []⟩)
      · rintro x3 H
        rw [prelaw4_CondTells_j4] at H
        rcases bsplit H with ⟨hp6, H⟩ | ⟨hp6, H⟩
        · obtain ⟨F, G, hq6⟩ := xH Y G hp6
          refine xT ?_
          replace H := Option.some.inj H
          refine xr ?_
          subst H
          exact xN
        · obtain ⟨F, G, hq6⟩ := xH Y G hp6
          refine xE ?_
          exact cut_at H (xK ⟨[], []⟩)
    · obtain ⟨F, G, hq5⟩ := xH Y G hp5
      refine xE ?_
      exact cut_at H (xK ⟨[], []⟩)
  · rintro ⟨⟩ H
    rw [prelaw4_CondTells_j1] at H
    refine xS ?_
    obtain ⟨r1, hr1, H⟩ := osplit H
    have F := xC Y (cond_Num_c a1 r1 hr1)
    refine xR ?_
    obtain ⟨r2, hr2, H⟩ := osplit H
    have F := xC Y (preref4_Num_c a1 r2 hr2)
    refine xR0 ?_
    refine then_normal ?_
    refine w_seq ?_
    refine w_cut (prelaw4_CondTells_j2 a1) (fun s => [(1, .c (.d (.v (str a1)))), (62, .c (.d (.v (.bool s))))]) (fun s => []) [] out ?_ ?_
    · rcases bsplit H with ⟨hp3, H⟩ | ⟨hp3, H⟩
      · obtain ⟨F, G, hq3⟩ := xH Y G hp3
        rcases bsplit H with ⟨hp4, H⟩ | ⟨hp4, H⟩
        · obtain ⟨F, G, hq4⟩ := xH F G hp4
          refine xR ?_
          exact cut_at H (xK ⟨[], []⟩)
        · obtain ⟨F, G, hq4⟩ := xH F G hp4
          refine xR ?_
          exact cut_at H (xK ⟨[], []⟩)
      · obtain ⟨F, G, hq3⟩ := xH Y G hp3
        refine xR ?_
        exact cut_at H (xK ⟨[], []⟩)
    · rintro x1 H
      rw [prelaw4_CondTells_j2] at H
      rcases bsplit H with ⟨hp1, H⟩ | ⟨hp1, H⟩
      · obtain ⟨F, G, hq1⟩ := xH Y G hp1
        refine xT ?_
        replace H := Option.some.inj H
        refine xr ?_
        subst H
        exact xN
      · obtain ⟨F, G, hq1⟩ := xH Y G hp1
        refine xE ?_
        obtain ⟨r3, hr3, H⟩ := osplit H
        have F := xC Y (cond_Char_c a1 r3 hr3)
        refine xR ?_
        obtain ⟨r4, hr4, H⟩ := osplit H
        have F := xC Y (preref4_Char_c a1 r4 hr4)
        refine xR0 ?_
        refine then_normal ?_
        refine w_cut prelaw4_CondTells_j3 (fun s => [(4, .c (.d (.v (.bool s))))]) (fun s => []) [] out ?_ ?_
        · rcases bsplit H with ⟨hp2, H⟩ | ⟨hp2, H⟩
          · obtain ⟨F, G, hq2⟩ := xH Y G hp2
            refine xR ?_
            exact cut_at H (xK ⟨[], []⟩)
          · obtain ⟨F, G, hq2⟩ := xH Y G hp2
            refine xR ?_
            exact cut_at H (xK ⟨[], []⟩)
        · rintro x2 H
          rw [prelaw4_CondTells_j3] at H
          replace H := Option.some.inj H
          refine xS ?_
          subst H
          exact xN
end Go.Proofs.YtghmojcecefgjaaDoor
