/- Functions of data for functions of the program. Written by dec3.py. -/
import Derived.Test.YtkhcecpbbmfcaaaZaj
import Derived.Test.YtkhcecpbbmfcaaaZan
set_option linter.unusedVariables false
set_option linter.unusedSimpArgs false
namespace Go.Proofs.Ytkhcecpbbmfcaaa
open Go.RowKit
noncomputable def macro_Find_1 (a0 : Macro) (a1 : List UInt8) : Option Bool :=
  some (eqS a0.Name a1)
def g_macro_Find_1 (a0 : Macro) (a1 : List UInt8) (r : Bool) : GI :=
  ⟨[.ag [.d (.v (str a0.Name)), .d (.v (.bool a0.Call)), .d (.sl 1 (List.map dS a0.Params)), .d (.v (.bool a0.More)), .d (.sl 11 (List.map d_Token a0.Body))], .c (.pt 1 0)], [[.d (.v (str a1))]], [], .ret (.c (.d (.v (.bool r)))) [[.d (.v (str a1))]] []⟩
def S_macro_Find_1 : GI → Prop := fun g => ∃ (a0 : Macro) (a1 : List UInt8) (r : Bool), macro_Find_1 a0 a1 = some r ∧ g = g_macro_Find_1 a0 a1 r
theorem macro_Find_1_c (a0 : Macro) (a1 : List UInt8) (r : Bool) (H : macro_Find_1 a0 a1 = some r) : S_macro_Find_1 (g_macro_Find_1 a0 a1 r) := ⟨a0, a1, r, H, rfl⟩
set_option maxRecDepth 100000 in
set_option maxHeartbeats 4000000 in
theorem macro_Find_1_ok : ∀ g, S_macro_Find_1 g → GenOk Try.prog 53 g := by
  rintro _ ⟨a0, a1, r, H, rfl⟩
  refine xGn mixed [] [] [] trivial trivial trivial Try.func53 _ ?_
  have G := True.intro
  have Y := xZ y_9 <| xZ y_32 <| xZ Try.results53 <| xZ d_Call.eq_1 <| xZ d_Token.eq_1 <| xZ d_Macro.eq_1 <| g_macro_Find_1.eq_1
  dsimp only [g_macro_Find_1]
  simp only [macro_Find_1] at H
  refine xS ?_
  refine xr ?_
  replace H := Option.some.inj H
  refine xr ?_
  subst H
  refine xOr ?_
  refine qDf [] ?_
  exact xO ⟨[1], []⟩
theorem macro_Find_1_k : Callable Try.prog 53 ∧ (∀ g, S_macro_Find_1 g → GenOk Try.prog 53 g) ∧ (true = true → ∀ g, S_macro_Find_1 g → ∃ val bs ts, g.out = .ret val bs ts) :=
  ⟨call_53, macro_Find_1_ok, fun _ => by rintro _ ⟨_, _, _, _, rfl⟩; exact ⟨_, _, _, rfl⟩⟩
noncomputable def slices_IndexFunc_s_api_Macro_api_Macro_b1 (a0 : List Macro) (a1 : List UInt8) : (Int × Int) → Option ((Int × Int) ⊕ Int)
  | (x1, x2) => if (ltI x2 x1) = true then if (0 : Int) ≤ x2 ∧ x2.toNat < a0.length then (macro_Find_1 (a0.getD x2.toNat default) a1).bind fun r1 => if r1 = true then inrO (some x2) else some (.inl (x1, IntKind.i64.wrap (x2 + 1))) else none else inrO (some (-1))
noncomputable def slices_IndexFunc_s_api_Macro_api_Macro (a0 : List Macro) (a1 : List UInt8) : Option Int :=
  loopO (slices_IndexFunc_s_api_Macro_api_Macro_b1 a0 a1) ((a0.length : Int), 0)
def g_slices_IndexFunc_s_api_Macro_api_Macro (a0 : List Macro) (a1 : List UInt8) (r : Int) : GI :=
  ⟨[.c (.d (.sl 5 (List.map d_Macro a0))), .c (.clo 53 [1])], [[.d (.v (str a1))]], [], .ret (.c (.d (.v (.int .i64 r)))) [[.d (.v (str a1))]] []⟩
def S_slices_IndexFunc_s_api_Macro_api_Macro : GI → Prop := fun g => ∃ (a0 : List Macro) (a1 : List UInt8) (r : Int), slices_IndexFunc_s_api_Macro_api_Macro a0 a1 = some r ∧ g = g_slices_IndexFunc_s_api_Macro_api_Macro a0 a1 r
theorem slices_IndexFunc_s_api_Macro_api_Macro_c (a0 : List Macro) (a1 : List UInt8) (r : Int) (H : slices_IndexFunc_s_api_Macro_api_Macro a0 a1 = some r) : S_slices_IndexFunc_s_api_Macro_api_Macro (g_slices_IndexFunc_s_api_Macro_api_Macro a0 a1 r) := ⟨a0, a1, r, H, rfl⟩
set_option maxRecDepth 100000 in
set_option maxHeartbeats 4000000 in
theorem slices_IndexFunc_s_api_Macro_api_Macro_ok : ∀ g, S_slices_IndexFunc_s_api_Macro_api_Macro g → GenOk Try.prog 52 g := by
  rintro _ ⟨a0, a1, r, H, rfl⟩
  refine xGn mixed [] [(53, true, S_macro_Find_1)] [] trivial ⟨macro_Find_1_k, trivial⟩ trivial Try.func52 _ ?_
  have G := True.intro
  have Y := xZ y_29 <| xZ y_32 <| xZ Try.results52 <| xZ d_Call.eq_1 <| xZ d_Token.eq_1 <| xZ d_Macro.eq_1 <| xZ g_macro_Find_1.eq_1 <| g_slices_IndexFunc_s_api_Macro_api_Macro.eq_1
  dsimp only [g_slices_IndexFunc_s_api_Macro_api_Macro]
  simp only [slices_IndexFunc_s_api_Macro_api_Macro] at H
  refine xS ?_
  refine xr ?_
  refine xr ?_
  refine w_loop (slices_IndexFunc_s_api_Macro_api_Macro_b1 a0 a1) (fun s => [(0, .c (.d (.sl 5 (List.map d_Macro a0)))), (1, .c (.clo 53 [1])), (7, .c (.d (.v (.int .i64 s.1)))), (8, .c (.d (.v (.int .i64 s.2))))]) (fun s => [[.d (.v (str a1))]]) [] H (xK ⟨[1], []⟩) ?_
  rintro n1 ⟨x1, x2⟩ o1 H hF1
  rw [slices_IndexFunc_s_api_Macro_api_Macro_b1] at H
  refine xS ?_
  refine xr ?_
  rcases bsplit H with ⟨hp1, H⟩ | ⟨hp1, H⟩
  · obtain ⟨F, G, hq1⟩ := xH Y G hp1
    refine xT ?_
    refine xr ?_
    obtain ⟨hg1, H⟩ := gsplit H
    have F := xZ Y (map_getD d_Macro a0 x2.toNat default default (by omega))
    obtain ⟨r1, hr1, H⟩ := osplit H
    have F := F
    refine xQ ?_
    refine xs 5 ?_
    refine xc ⟨[1], []⟩ (tabG 0 (macro_Find_1_c (a0.getD x2.toNat default) a1 r1 hr1)) ?_
    refine xl ?_
    refine xS ?_
    rcases bsplit H with ⟨hp2, H⟩ | ⟨hp2, H⟩
    · obtain ⟨F, G, hq2⟩ := xH Y G hp2
      refine xT ?_
      replace H := inrO_fin H hF1
      replace H := Option.some.inj H
      refine xr ?_
      subst H
      refine xOr ?_
      refine qDf [] ?_
      exact xO ⟨[1], []⟩
    · obtain ⟨F, G, hq2⟩ := xH Y G hp2
      refine xE ?_
      refine xr ?_
      exact round_at (inl_fin H hF1) (xK ⟨[1], []⟩)
  · obtain ⟨F, G, hq1⟩ := xH Y G hp1
    replace H := inrO_fin H hF1
    refine xE ?_
    replace H := Option.some.inj H
    refine xr ?_
    subst H
    refine xOr ?_
    refine qDf [] ?_
    exact xO ⟨[1], []⟩
theorem slices_IndexFunc_s_api_Macro_api_Macro_k : Callable Try.prog 52 ∧ (∀ g, S_slices_IndexFunc_s_api_Macro_api_Macro g → GenOk Try.prog 52 g) ∧ (true = true → ∀ g, S_slices_IndexFunc_s_api_Macro_api_Macro g → ∃ val bs ts, g.out = .ret val bs ts) :=
  ⟨call_52, slices_IndexFunc_s_api_Macro_api_Macro_ok, fun _ => by rintro _ ⟨_, _, _, _, rfl⟩; exact ⟨_, _, _, rfl⟩⟩
noncomputable def macro_Find (a0 : List Macro) (a1 : List UInt8) : Option Int :=
  (slices_IndexFunc_s_api_Macro_api_Macro a0 a1).bind fun r1 => some r1
noncomputable def pf_macro_Find : PF := PF.of (E2 (dL 5 d_Macro) dS) (fun a => macro_Find a.1 a.2) dI
set_option maxRecDepth 100000 in
set_option maxHeartbeats 4000000 in
theorem macro_Find_ok : PureOk Try.prog 19 pf_macro_Find := by
  refine xF mixed [] [(52, true, S_slices_IndexFunc_s_api_Macro_api_Macro)] trivial ⟨slices_IndexFunc_s_api_Macro_api_Macro_k, trivial⟩ Try.func19 ?_
  rintro ⟨a0, a1⟩ out H
  have G := True.intro
  have Y := xZ Try.results19 <| xZ d_Call.eq_1 <| xZ d_Token.eq_1 <| xZ d_Macro.eq_1 <| g_slices_IndexFunc_s_api_Macro_api_Macro.eq_1
  simp only [macro_Find] at H
  refine xS ?_
  refine xr ?_
  obtain ⟨r1, hr1, H⟩ := osplit H
  have F := Y
  refine xQ ?_
  refine xs 2 ?_
  refine xc ⟨[1], []⟩ (tabG 0 (slices_IndexFunc_s_api_Macro_api_Macro_c a0 a1 r1 hr1)) ?_
  refine xs 1 ?_
  refine xl ?_
  replace H := Option.some.inj H
  refine xS ?_
  subst H
  exact xN
theorem macro_Find_c (a0 : List Macro) (a1 : List UInt8) (r : Int) (H : macro_Find a0 a1 = some r) : PC pf_macro_Find [(dL 5 d_Macro) a0, dS a1] (dI r) := PF.c (a := (a0, a1)) H
noncomputable def preref4_Find_b1 (a0 : List Macro) (a1 : List UInt8) : (Int × Int) → Option ((Int × Int) ⊕ Int)
  | (x1, x2) => if (ltI x2 x1) = true then if (0 : Int) ≤ x2 ∧ x2.toNat < a0.length then if (eqS ((a0.getD x2.toNat default).Name) a1) = true then inrO (some x2) else some (.inl (x1, IntKind.i64.wrap (x2 + 1))) else none else inrO (some (-1))
noncomputable def preref4_Find (a0 : List Macro) (a1 : List UInt8) : Option Int :=
  loopO (preref4_Find_b1 a0 a1) ((a0.length : Int), 0)
noncomputable def pf_preref4_Find : PF := PF.of (E2 (dL 5 d_Macro) dS) (fun a => preref4_Find a.1 a.2) dI
set_option maxRecDepth 100000 in
set_option maxHeartbeats 4000000 in
theorem preref4_Find_ok : PureOk Try.prog 20 pf_preref4_Find := by
  refine xF mixed [] [] trivial trivial Try.func20 ?_
  rintro ⟨a0, a1⟩ out H
  have G := True.intro
  have Y := xZ y_9 <| xZ y_29 <| xZ y_32 <| xZ Try.results20 <| xZ d_Call.eq_1 <| xZ d_Token.eq_1 <| d_Macro.eq_1
  simp only [preref4_Find] at H
  refine xS ?_
  refine xr ?_
  refine xr ?_
  refine w_loop (preref4_Find_b1 a0 a1) (fun s => [(1, .c (.d (.v (str a1)))), (7, .c (.d (.sl 5 (List.map d_Macro a0)))), (8, .c (.d (.v (.int .i64 s.1)))), (9, .c (.d (.v (.int .i64 s.2))))]) (fun s => []) [] H (xK ⟨[], []⟩) ?_
  rintro n1 ⟨x1, x2⟩ o1 H hF1
  rw [preref4_Find_b1] at H
  refine xS ?_
  refine xr ?_
  rcases bsplit H with ⟨hp1, H⟩ | ⟨hp1, H⟩
  · obtain ⟨F, G, hq1⟩ := xH Y G hp1
    refine xT ?_
    obtain ⟨hg1, H⟩ := gsplit H
    have F := xZ Y (map_getD d_Macro a0 x2.toNat default default (by omega))
    refine xR ?_
    refine xr ?_
    rcases bsplit H with ⟨hp2, H⟩ | ⟨hp2, H⟩
    · obtain ⟨F, G, hq2⟩ := xH Y G hp2
      refine xT ?_
      replace H := inrO_fin H hF1
      replace H := Option.some.inj H
      refine xr ?_
      subst H
      exact xN
    · obtain ⟨F, G, hq2⟩ := xH Y G hp2
      refine xE ?_
      refine xr ?_
      exact round_at (inl_fin H hF1) (xK ⟨[], []⟩)
  · obtain ⟨F, G, hq1⟩ := xH Y G hp1
    replace H := inrO_fin H hF1
    refine xE ?_
    replace H := Option.some.inj H
    refine xr ?_
    subst H
    exact xN
theorem preref4_Find_c (a0 : List Macro) (a1 : List UInt8) (r : Int) (H : preref4_Find a0 a1 = some r) : PC pf_preref4_Find [(dL 5 d_Macro) a0, dS a1] (dI r) := PF.c (a := (a0, a1)) H
noncomputable def macro_Define (a0 : List Macro) (a1 : Macro) : Option ((List Macro) × Int) :=
  (macro_Find a0 a1.Name).bind fun r1 => if (leI 0 r1) = true then if (0 : Int) ≤ r1 ∧ r1.toNat < a0.length then (macro_Same (a0.getD r1.toNat default) a1).bind fun r2 => if (!r2) = true then some (([] : List Macro), 7) else (slices_Clone_s_api_Macro_api_Macro a0).bind fun r3 => some (a0, 0) else none else if (leI 30 (a0.length : Int)) = true then some (([] : List Macro), 5) else (slices_Clone_s_api_Macro_api_Macro a0).bind fun r4 => if (a0.length + [a1].length) * 80 ≤ 140737488355328 then some (a0 ++ [a1], 0) else none
noncomputable def pf_macro_Define : PF := PF.of (E2 (dL 5 d_Macro) d_Macro) (fun a => macro_Define a.1 a.2) (T2 (dL 5 d_Macro) dI)
set_option maxRecDepth 100000 in
set_option maxHeartbeats 4000000 in
theorem macro_Define_ok : PureOk Try.prog 16 pf_macro_Define := by
  refine xFl mixed [8] [(19, pf_macro_Find), (14, pf_macro_Same)] [(51, true, S_slices_Clone_s_api_Macro_api_Macro)] ⟨⟨call_19, macro_Find_ok⟩, ⟨call_14, macro_Same_ok⟩, trivial⟩ ⟨slices_Clone_s_api_Macro_api_Macro_k, trivial⟩ Try.func16 ?_
  rintro ⟨a0, a1⟩ out H
  have G := True.intro
  have Y := xZ y_9 <| xZ y_29 <| xZ y_32 <| xZ Try.results16 <| xZ d_Call.eq_1 <| xZ d_Token.eq_1 <| xZ d_Macro.eq_1 <| g_slices_Clone_s_api_Macro_api_Macro.eq_1
  simp only [macro_Define] at H
  refine xS ?_
  refine xr ?_
  obtain ⟨r1, hr1, H⟩ := osplit H
  have F := xC Y (macro_Find_c a0 a1.Name r1 hr1)
  refine xR ?_
  refine xr ?_
  rcases bsplit H with ⟨hp1, H⟩ | ⟨hp1, H⟩
  · obtain ⟨F, G, hq1⟩ := xH Y G hp1
    refine xT ?_
    obtain ⟨hg1, H⟩ := gsplit H
    have F := xZ Y (map_getD d_Macro a0 r1.toNat default default (by omega))
    obtain ⟨r2, hr2, H⟩ := osplit H
    have F := xCf F (macro_Same_c (a0.getD r1.toNat default) a1 r2 hr2)
    refine xR ?_
    rcases bsplit H with ⟨hp2, H⟩ | ⟨hp2, H⟩
    · obtain ⟨F, G, hq2⟩ := xH Y G hp2
      refine xT ?_
      replace H := Option.some.inj H
      refine xr ?_
      subst H
      exact xN
    · obtain ⟨F, G, hq2⟩ := xH Y G hp2
      refine xE ?_
      obtain ⟨r3, hr3, H⟩ := osplit H
      have F := Y
      refine xQ ?_
      refine xs 1 ?_
      refine xc ⟨[], []⟩ (tabG 0 (slices_Clone_s_api_Macro_api_Macro_c a0 r3 hr3)) ?_
      refine xs 2 ?_
      refine xl ?_
      replace H := Option.some.inj H
      refine xS ?_
      subst H
      refine xNf 2 5 (List.map d_Macro a0) [] ?_
      exact xN
  · obtain ⟨F, G, hq1⟩ := xH Y G hp1
    refine xE ?_
    refine xr ?_
    rcases bsplit H with ⟨hp3, H⟩ | ⟨hp3, H⟩
    · obtain ⟨F, G, hq3⟩ := xH Y G hp3
      refine xT ?_
      replace H := Option.some.inj H
      refine xr ?_
      subst H
      exact xN
    · obtain ⟨F, G, hq3⟩ := xH Y G hp3
      refine xE ?_
      obtain ⟨r4, hr4, H⟩ := osplit H
      have F := Y
      obtain ⟨hg2, H⟩ := gsplit H
      have F := xZ F (all_map one_Macro [a1])
      refine xX 7 0 [27] ⟨slices_Clone_s_api_Macro_api_Macro_k, trivial⟩ ?_
      refine xsX 1 ?_
      refine xcX ⟨[], []⟩ (tabG 0 (slices_Clone_s_api_Macro_api_Macro_c a0 r4 hr4)) ?_
      refine xaX ?_
      refine xsX 1 ?_
      refine xbX ?_
      refine xsX 2 ?_
      refine xlX ?_
      replace H := Option.some.inj H
      refine xS ?_
      subst H
      refine xNf 3 5 (List.map d_Macro (a0 ++ [a1])) [] ?_
      exact xN
theorem macro_Define_c (a0 : List Macro) (a1 : Macro) (r : (List Macro) × Int) (H : macro_Define a0 a1 = some r) : PC pf_macro_Define [(dL 5 d_Macro) a0, d_Macro a1] (T2 (dL 5 d_Macro) dI r) := PF.c (a := (a0, a1)) H
noncomputable def preref4_Define_j1 (a0 : List Macro) (a1 : Macro) (r1 : Int) : Bool → Option ((List Macro) × Int)
  | x1 => if x1 = true then some (([] : List Macro), 7) else if (leI 0 r1) = true then some (a0, 0) else if (leI 30 (a0.length : Int)) = true then some (([] : List Macro), 5) else if a0.length * 80 ≤ 140737488355328 then if (a0.length + [a1].length) * 80 ≤ 140737488355328 then some (a0 ++ [a1], 0) else none else none
noncomputable def preref4_Define (a0 : List Macro) (a1 : Macro) : Option ((List Macro) × Int) :=
  (preref4_Find a0 a1.Name).bind fun r1 => if (leI 0 r1) = true then if (0 : Int) ≤ r1 ∧ r1.toNat < a0.length then (preref4_SameMacro (a0.getD r1.toNat default) a1).bind fun r2 => preref4_Define_j1 a0 a1 r1 (!r2) else none else preref4_Define_j1 a0 a1 r1 false
noncomputable def pf_preref4_Define : PF := PF.of (E2 (dL 5 d_Macro) d_Macro) (fun a => preref4_Define a.1 a.2) (T2 (dL 5 d_Macro) dI)
set_option maxRecDepth 100000 in
set_option maxHeartbeats 4000000 in
theorem preref4_Define_ok : PureOk Try.prog 17 pf_preref4_Define := by
  refine xFl mixed [8] [(20, pf_preref4_Find), (15, pf_preref4_SameMacro)] [] ⟨⟨call_20, preref4_Find_ok⟩, ⟨call_15, preref4_SameMacro_ok⟩, trivial⟩ trivial Try.func17 ?_
  rintro ⟨a0, a1⟩ out H
  have G := True.intro
  have Y := xZ y_9 <| xZ y_29 <| xZ y_32 <| xZ Try.results17 <| xZ d_Call.eq_1 <| xZ d_Token.eq_1 <| d_Macro.eq_1
  simp only [preref4_Define] at H
  refine xS ?_
  refine xr ?_
  obtain ⟨r1, hr1, H⟩ := osplit H
  have F := xC Y (preref4_Find_c a0 a1.Name r1 hr1)
  refine xR0 ?_
  refine then_normal ?_
  refine w_seq ?_
  refine w_cut (preref4_Define_j1 a0 a1 r1) (fun s => [(0, .c (.d (.sl 5 (List.map d_Macro a0)))), (3, .c (.pt 1 0)), (6, .c (.d (.v (.int .i64 r1)))), (21, .c (.d (.v (.bool s))))]) (fun s => [[.d (.v (str a1.Name)), .d (.v (.bool a1.Call)), .d (.sl 1 (List.map dS a1.Params)), .d (.v (.bool a1.More)), .d (.sl 11 (List.map d_Token a1.Body))]]) [] out ?_ ?_
  · rcases bsplit H with ⟨hp4, H⟩ | ⟨hp4, H⟩
    · obtain ⟨F, G, hq4⟩ := xH Y G hp4
      obtain ⟨hg3, H⟩ := gsplit H
      have F := xZ F (map_getD d_Macro a0 r1.toNat default default (by omega))
      obtain ⟨r2, hr2, H⟩ := osplit H
      have F := xCf F (preref4_SameMacro_c (a0.getD r1.toNat default) a1 r2 hr2)
      refine xR ?_
      exact cut_at H (xK ⟨[1], []⟩)
    · obtain ⟨F, G, hq4⟩ := xH Y G hp4
      refine xR ?_
      exact cut_at H (xK ⟨[1], []⟩)
  · rintro x1 H
    rw [preref4_Define_j1] at H
    rcases bsplit H with ⟨hp1, H⟩ | ⟨hp1, H⟩
    · obtain ⟨F, G, hq1⟩ := xH Y G hp1
      refine xT ?_
      replace H := Option.some.inj H
      refine xr ?_
      subst H
      exact xN
    · obtain ⟨F, G, hq1⟩ := xH Y G hp1
      refine xE ?_
      refine xr ?_
      rcases bsplit H with ⟨hp2, H⟩ | ⟨hp2, H⟩
      · obtain ⟨F, G, hq2⟩ := xH Y G hp2
        refine xT ?_
        replace H := Option.some.inj H
        refine xr ?_
        subst H
        exact xN
      · obtain ⟨F, G, hq2⟩ := xH Y G hp2
        refine xE ?_
        refine xr ?_
        rcases bsplit H with ⟨hp3, H⟩ | ⟨hp3, H⟩
        · obtain ⟨F, G, hq3⟩ := xH Y G hp3
          refine xT ?_
          replace H := Option.some.inj H
          refine xr ?_
          subst H
          exact xN
        · obtain ⟨F, G, hq3⟩ := xH Y G hp3
          refine xE ?_
          obtain ⟨hg1, H⟩ := gsplit H
          have F := xZ Y (all_map one_Macro a0)
          have A := all_map one_Macro a0
          obtain ⟨hg2, H⟩ := gsplit H
          have F := xZ F (all_map one_Macro [a1])
          refine xX 8 0 [31] trivial ?_
          refine xsX 2 ?_
          refine xbX ?_
          refine xaX ?_
          refine xsX 1 ?_
          refine xbX ?_
          refine xsX 2 ?_
          refine xlX ?_
          replace H := Option.some.inj H
          refine xS ?_
          subst H
          refine xNf 3 5 (List.map d_Macro (a0 ++ [a1])) [] ?_
          exact xN
theorem preref4_Define_c (a0 : List Macro) (a1 : Macro) (r : (List Macro) × Int) (H : preref4_Define a0 a1 = some r) : PC pf_preref4_Define [(dL 5 d_Macro) a0, d_Macro a1] (T2 (dL 5 d_Macro) dI r) := PF.c (a := (a0, a1)) H
noncomputable def preref4_EqualMacros_b1 (a0 : List Macro) (a1 : List Macro) : (Int × Int) → Option ((Int × Int) ⊕ Bool)
  | (x1, x2) => if (ltI x2 x1) = true then if (0 : Int) ≤ x2 ∧ x2.toNat < a0.length then if (0 : Int) ≤ x2 ∧ x2.toNat < a1.length then (preref4_Equal (a0.getD x2.toNat default) (a1.getD x2.toNat default)).bind fun r1 => if (!r1) = true then inrO (some false) else some (.inl (x1, IntKind.i64.wrap (x2 + 1))) else none else none else inrO (some true)
noncomputable def preref4_EqualMacros (a0 : List Macro) (a1 : List Macro) : Option Bool :=
  if (!eqI (a0.length : Int) (a1.length : Int)) = true then some false else loopO (preref4_EqualMacros_b1 a0 a1) ((a0.length : Int), 0)
noncomputable def pf_preref4_EqualMacros : PF := PF.of (E2 (dL 5 d_Macro) (dL 5 d_Macro)) (fun a => preref4_EqualMacros a.1 a.2) dB
set_option maxRecDepth 100000 in
set_option maxHeartbeats 4000000 in
theorem preref4_EqualMacros_ok : PureOk Try.prog 18 pf_preref4_EqualMacros := by
  refine xF mixed [(13, pf_preref4_Equal)] [] ⟨⟨call_13, preref4_Equal_ok⟩, trivial⟩ trivial Try.func18 ?_
  rintro ⟨a0, a1⟩ out H
  have G := True.intro
  have Y := xZ y_29 <| xZ y_32 <| xZ Try.results18 <| xZ d_Call.eq_1 <| xZ d_Token.eq_1 <| d_Macro.eq_1
  simp only [preref4_EqualMacros] at H
  refine xS ?_
  refine xr ?_
  refine xr ?_
  rcases bsplit H with ⟨hp1, H⟩ | ⟨hp1, H⟩
  · obtain ⟨F, G, hq1⟩ := xH Y G hp1
    refine xT ?_
    replace H := Option.some.inj H
    refine xr ?_
    subst H
    exact xN
  · obtain ⟨F, G, hq1⟩ := xH Y G hp1
    refine xE ?_
    refine xr ?_
    refine w_loop (preref4_EqualMacros_b1 a0 a1) (fun s => [(0, .c (.d (.sl 5 (List.map d_Macro a0)))), (1, .c (.d (.sl 5 (List.map d_Macro a1)))), (12, .c (.d (.v (.int .i64 s.1)))), (13, .c (.d (.v (.int .i64 s.2))))]) (fun s => []) [] H (xK ⟨[], []⟩) ?_
    rintro n1 ⟨x1, x2⟩ o1 H hF1
    rw [preref4_EqualMacros_b1] at H
    refine xS ?_
    refine xr ?_
    rcases bsplit H with ⟨hp2, H⟩ | ⟨hp2, H⟩
    · obtain ⟨F, G, hq2⟩ := xH Y G hp2
      refine xT ?_
      refine xr ?_
      obtain ⟨hg1, H⟩ := gsplit H
      have F := xZ Y (map_getD d_Macro a0 x2.toNat default default (by omega))
      obtain ⟨hg2, H⟩ := gsplit H
      have F := xZ F (map_getD d_Macro a1 x2.toNat default default (by omega))
      obtain ⟨r1, hr1, H⟩ := osplit H
      have F := xCf F (preref4_Equal_c (a0.getD x2.toNat default) (a1.getD x2.toNat default) r1 hr1)
      refine xR ?_
      rcases bsplit H with ⟨hp3, H⟩ | ⟨hp3, H⟩
      · obtain ⟨F, G, hq3⟩ := xH Y G hp3
        refine xT ?_
        replace H := inrO_fin H hF1
        replace H := Option.some.inj H
        refine xr ?_
        subst H
        exact xN
      · obtain ⟨F, G, hq3⟩ := xH Y G hp3
        refine xE ?_
        refine xr ?_
        exact round_at (inl_fin H hF1) (xK ⟨[], []⟩)
    · obtain ⟨F, G, hq2⟩ := xH Y G hp2
      replace H := inrO_fin H hF1
      refine xE ?_
      replace H := Option.some.inj H
      refine xr ?_
      subst H
      exact xN
theorem preref4_EqualMacros_c (a0 : List Macro) (a1 : List Macro) (r : Bool) (H : preref4_EqualMacros a0 a1 = some r) : PC pf_preref4_EqualMacros [(dL 5 d_Macro) a0, (dL 5 d_Macro) a1] (dB r) := PF.c (a := (a0, a1)) H
end Go.Proofs.Ytkhcecpbbmfcaaa
