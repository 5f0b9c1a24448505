/- Functions of data for functions of the program. Written by dec3.py. -/
import Derived.Test.YtkhcecpbbmfcaaaZaj
import Derived.Test.YtkhcecpbbmfcaaaZan
import Derived.Test.YtkhcecpbbmfcaaaZaq
set_option linter.unusedVariables false
set_option linter.unusedSimpArgs false
namespace Go.Proofs.Ytkhcecpbbmfcaaa
open Go.RowKit
noncomputable def macro_Undef_1 (a0 : Macro) (a1 : List UInt8) : Option Bool :=
  some (eqS a0.Name a1)
def g_macro_Undef_1 (a0 : Macro) (a1 : List UInt8) (r : Bool) : GI :=
  ⟨[.ag [.d (.v (str a0.Name)), .d (.v (.bool a0.Call)), .d (.sl 1 (List.map dS a0.Params)), .d (.v (.bool a0.More)), .d (.sl 11 (List.map d_Token a0.Body))], .c (.pt 1 0)], [[.d (.v (str a1))]], [], .ret (.c (.d (.v (.bool r)))) [[.d (.v (str a1))]] []⟩
def S_macro_Undef_1 : GI → Prop := fun g => ∃ (a0 : Macro) (a1 : List UInt8) (r : Bool), macro_Undef_1 a0 a1 = some r ∧ g = g_macro_Undef_1 a0 a1 r
theorem macro_Undef_1_c (a0 : Macro) (a1 : List UInt8) (r : Bool) (H : macro_Undef_1 a0 a1 = some r) : S_macro_Undef_1 (g_macro_Undef_1 a0 a1 r) := ⟨a0, a1, r, H, rfl⟩
set_option maxRecDepth 100000 in
set_option maxHeartbeats 4000000 in
theorem macro_Undef_1_ok : ∀ g, S_macro_Undef_1 g → GenOk Try.prog 55 g := by
  rintro _ ⟨a0, a1, r, H, rfl⟩
  refine xGn mixed [] [] [] trivial trivial trivial Try.func55 _ ?_
  have G := True.intro
  have Y := xZ y_9 <| xZ y_32 <| xZ Try.results55 <| xZ d_Call.eq_1 <| xZ d_Token.eq_1 <| xZ d_Macro.eq_1 <| g_macro_Undef_1.eq_1
  dsimp only [g_macro_Undef_1]
  simp only [macro_Undef_1] at H
  refine xS ?_
  refine xr ?_
  replace H := Option.some.inj H
  refine xr ?_
  subst H
  refine xOr ?_
  refine qDf [] ?_
  exact xO ⟨[1], []⟩
theorem macro_Undef_1_k : Callable Try.prog 55 ∧ (∀ g, S_macro_Undef_1 g → GenOk Try.prog 55 g) ∧ (true = true → ∀ g, S_macro_Undef_1 g → ∃ val bs ts, g.out = .ret val bs ts) :=
  ⟨call_55, macro_Undef_1_ok, fun _ => by rintro _ ⟨_, _, _, _, rfl⟩; exact ⟨_, _, _, rfl⟩⟩
noncomputable def slices_IndexFunc_s_api_Macro_api_Macro_v2_b1 (a0 : List Macro) (a1 : List UInt8) : (Int × Int) → Option ((Int × Int) ⊕ Int)
  | (x1, x2) => if (ltI x2 x1) = true then if (0 : Int) ≤ x2 ∧ x2.toNat < a0.length then if x2.toNat < a0.length then (macro_Undef_1 (a0.getD x2.toNat default) a1).bind fun r1 => if r1 = true then inrO (some x2) else some (.inl (x1, IntKind.i64.wrap (x2 + 1))) else none else none else inrO (some (-1))
noncomputable def slices_IndexFunc_s_api_Macro_api_Macro_v2 (a0 : List Macro) (a1 : List UInt8) : Option Int :=
  loopO (slices_IndexFunc_s_api_Macro_api_Macro_v2_b1 a0 a1) (((a0.length : Nat) : Int), 0)
def g_slices_IndexFunc_s_api_Macro_api_Macro_v2 (a0 : List Macro) (a1 : List UInt8) (r : Int) : GI :=
  ⟨[.c (.os 1 5 0 a0.length), .c (.clo 55 [2])], [[.arr 5 (List.map d_Macro a0)], [.d (.v (str a1))]], [], .ret (.c (.d (.v (.int .i64 r)))) [[.arr 5 (List.map d_Macro a0)], [.d (.v (str a1))]] []⟩
def S_slices_IndexFunc_s_api_Macro_api_Macro_v2 : GI → Prop := fun g => ∃ (a0 : List Macro) (a1 : List UInt8) (r : Int), slices_IndexFunc_s_api_Macro_api_Macro_v2 a0 a1 = some r ∧ g = g_slices_IndexFunc_s_api_Macro_api_Macro_v2 a0 a1 r
theorem slices_IndexFunc_s_api_Macro_api_Macro_v2_c (a0 : List Macro) (a1 : List UInt8) (r : Int) (H : slices_IndexFunc_s_api_Macro_api_Macro_v2 a0 a1 = some r) : S_slices_IndexFunc_s_api_Macro_api_Macro_v2 (g_slices_IndexFunc_s_api_Macro_api_Macro_v2 a0 a1 r) := ⟨a0, a1, r, H, rfl⟩
set_option maxRecDepth 100000 in
set_option maxHeartbeats 4000000 in
theorem slices_IndexFunc_s_api_Macro_api_Macro_v2_ok : ∀ g, S_slices_IndexFunc_s_api_Macro_api_Macro_v2 g → GenOk Try.prog 52 g := by
  rintro _ ⟨a0, a1, r, H, rfl⟩
  refine xGn mixed [] [(55, true, S_macro_Undef_1)] [] trivial ⟨macro_Undef_1_k, trivial⟩ trivial Try.func52 _ ?_
  have G := True.intro
  have Y := xZ y_29 <| xZ y_32 <| xZ Try.results52 <| xZ d_Call.eq_1 <| xZ d_Token.eq_1 <| xZ d_Macro.eq_1 <| xZ g_macro_Undef_1.eq_1 <| g_slices_IndexFunc_s_api_Macro_api_Macro_v2.eq_1
  dsimp only [g_slices_IndexFunc_s_api_Macro_api_Macro_v2]
  simp only [slices_IndexFunc_s_api_Macro_api_Macro_v2] at H
  refine xS ?_
  refine xr ?_
  refine xr ?_
  refine w_loop (slices_IndexFunc_s_api_Macro_api_Macro_v2_b1 a0 a1) (fun s => [(0, .c (.os 1 5 0 a0.length)), (1, .c (.clo 55 [2])), (7, .c (.d (.v (.int .i64 s.1)))), (8, .c (.d (.v (.int .i64 s.2))))]) (fun s => [[.arr 5 (List.map d_Macro a0)], [.d (.v (str a1))]]) [] H (xK ⟨[1,2], []⟩) ?_
  rintro n1 ⟨x1, x2⟩ o1 H hF1
  rw [slices_IndexFunc_s_api_Macro_api_Macro_v2_b1] at H
  refine xS ?_
  refine xr ?_
  rcases bsplit H with ⟨hp1, H⟩ | ⟨hp1, H⟩
  · obtain ⟨F, G, hq1⟩ := xH Y G hp1
    refine xT ?_
    refine xr ?_
    obtain ⟨hg1, H⟩ := gsplit H
    obtain ⟨hg, H⟩ := gsplit H
    have F := xZ Y (map_getD d_Macro a0 x2.toNat default default (by omega))
    obtain ⟨r1, hr1, H⟩ := osplit H
    have F := F
    refine xQ ?_
    refine xs 5 ?_
    refine xc ⟨[2], []⟩ (tabG 0 (macro_Undef_1_c (a0.getD x2.toNat default) a1 r1 hr1)) ?_
    refine xl ?_
    refine xS ?_
    rcases bsplit H with ⟨hp2, H⟩ | ⟨hp2, H⟩
    · obtain ⟨F, G, hq2⟩ := xH Y G hp2
      refine xT ?_
      replace H := inrO_fin H hF1
      replace H := Option.some.inj H
      refine xr ?_
      subst H
      refine xOr ?_
      refine qDf [] ?_
      exact xO ⟨[1, 2], []⟩
    · obtain ⟨F, G, hq2⟩ := xH Y G hp2
      refine xE ?_
      refine xr ?_
      exact round_at (inl_fin H hF1) (xK ⟨[1,2], []⟩)
  · obtain ⟨F, G, hq1⟩ := xH Y G hp1
    replace H := inrO_fin H hF1
    refine xE ?_
    replace H := Option.some.inj H
    refine xr ?_
    subst H
    refine xOr ?_
    refine qDf [] ?_
    exact xO ⟨[1, 2], []⟩
theorem slices_IndexFunc_s_api_Macro_api_Macro_v2_k : Callable Try.prog 52 ∧ (∀ g, S_slices_IndexFunc_s_api_Macro_api_Macro_v2 g → GenOk Try.prog 52 g) ∧ (true = true → ∀ g, S_slices_IndexFunc_s_api_Macro_api_Macro_v2 g → ∃ val bs ts, g.out = .ret val bs ts) :=
  ⟨call_52, slices_IndexFunc_s_api_Macro_api_Macro_v2_ok, fun _ => by rintro _ ⟨_, _, _, _, rfl⟩; exact ⟨_, _, _, rfl⟩⟩
noncomputable def slices_DeleteFunc_s_api_Macro_api_Macro_j2 (x2 : Int) : (Int × (List Macro)) → Option ((Int × Int × (List Macro)) ⊕ (List Macro))
  | (x4, x5) => some (.inl (x4, IntKind.i64.wrap (x2 + 1), x5))
noncomputable def slices_DeleteFunc_s_api_Macro_api_Macro_b1 (a1 : List UInt8) : (Int × Int × (List Macro)) → Option ((Int × Int × (List Macro)) ⊕ (List Macro))
  | (x1, x2, x3) => if (ltI x2 ((x3.length : Nat) : Int)) = true then if (0 : Int) ≤ x2 ∧ x2.toNat < x3.length then if x2.toNat < x3.length then (macro_Undef_1 (x3.getD x2.toNat default) a1).bind fun r2 => if (!r2) = true then if (0 : Int) ≤ x1 ∧ x1.toNat < x3.length then if x1.toNat < x3.length then slices_DeleteFunc_s_api_Macro_api_Macro_j2 x2 (IntKind.i64.wrap (x1 + 1), List.set x3 x1.toNat (x3.getD x2.toNat default)) else none else none else slices_DeleteFunc_s_api_Macro_api_Macro_j2 x2 (x1, x3) else none else none else inrO (if (0 : Int) ≤ x1 ∧ x1 ≤ ((x3.length : Nat) : Int) ∧ ((x3.length : Nat) : Int) ≤ ((x3.length : Nat) : Int) then if (0 : Int) ≤ 0 ∧ 0 ≤ x1 ∧ x1 ≤ ((x3.length : Nat) : Int) then some (List.take x1.toNat x3) else none else none)
noncomputable def slices_DeleteFunc_s_api_Macro_api_Macro (a0 : List Macro) (a1 : List UInt8) : Option (List Macro) :=
  (slices_IndexFunc_s_api_Macro_api_Macro_v2 a0 a1).bind fun r1 => if (eqI r1 (-1)) = true then some a0 else loopO (slices_DeleteFunc_s_api_Macro_api_Macro_b1 a1) (r1, IntKind.i64.wrap (r1 + 1), a0)
def g_slices_DeleteFunc_s_api_Macro_api_Macro (a0 : List Macro) (a1 : List UInt8) (r : (List Macro)) : GI :=
  ⟨[.c (.os 1 5 0 a0.length), .c (.clo 55 [2])], [[.arr 5 (List.map d_Macro a0)], [.d (.v (str a1))]], [], .ret (.c (.os 1 5 0 r.length)) [[.arr 5 (List.map d_Macro r)], [.d (.v (str a1))]] []⟩
def S_slices_DeleteFunc_s_api_Macro_api_Macro : GI → Prop := fun g => ∃ (a0 : List Macro) (a1 : List UInt8) (r : (List Macro)), slices_DeleteFunc_s_api_Macro_api_Macro a0 a1 = some r ∧ g = g_slices_DeleteFunc_s_api_Macro_api_Macro a0 a1 r
theorem slices_DeleteFunc_s_api_Macro_api_Macro_c (a0 : List Macro) (a1 : List UInt8) (r : (List Macro)) (H : slices_DeleteFunc_s_api_Macro_api_Macro a0 a1 = some r) : S_slices_DeleteFunc_s_api_Macro_api_Macro (g_slices_DeleteFunc_s_api_Macro_api_Macro a0 a1 r) := ⟨a0, a1, r, H, rfl⟩
set_option maxRecDepth 100000 in
set_option maxHeartbeats 4000000 in
theorem slices_DeleteFunc_s_api_Macro_api_Macro_ok : ∀ g, S_slices_DeleteFunc_s_api_Macro_api_Macro g → GenOk Try.prog 54 g := by
  rintro _ ⟨a0, a1, r, H, rfl⟩
  refine xGn mixed [] [(52, true, S_slices_IndexFunc_s_api_Macro_api_Macro_v2), (55, true, S_macro_Undef_1)] [] trivial ⟨slices_IndexFunc_s_api_Macro_api_Macro_v2_k, macro_Undef_1_k, trivial⟩ trivial Try.func54 _ ?_
  have G := True.intro
  have Y := xZ y_29 <| xZ y_32 <| xZ Try.results54 <| xZ d_Call.eq_1 <| xZ d_Token.eq_1 <| xZ d_Macro.eq_1 <| xZ g_slices_IndexFunc_s_api_Macro_api_Macro_v2.eq_1 <| xZ g_macro_Undef_1.eq_1 <| g_slices_DeleteFunc_s_api_Macro_api_Macro.eq_1
  dsimp only [g_slices_DeleteFunc_s_api_Macro_api_Macro]
  simp only [slices_DeleteFunc_s_api_Macro_api_Macro] at H
  refine xS ?_
  refine xr ?_
  obtain ⟨r1, hr1, H⟩ := osplit H
  have F := Y
  refine xQ ?_
  refine xs 2 ?_
  refine xc ⟨[1, 2], []⟩ (tabG 0 (slices_IndexFunc_s_api_Macro_api_Macro_v2_c a0 a1 r1 hr1)) ?_
  refine xs 1 ?_
  refine xl ?_
  refine xS ?_
  refine xr ?_
  rcases bsplit H with ⟨hp1, H⟩ | ⟨hp1, H⟩
  · obtain ⟨F, G, hq1⟩ := xH Y G hp1
    refine xT ?_
    replace H := Option.some.inj H
    refine xr ?_
    subst H
    refine xOr ?_
    refine qDf [] ?_
    exact xO ⟨[1, 2], []⟩
  · obtain ⟨F, G, hq1⟩ := xH Y G hp1
    refine xE ?_
    refine xr ?_
    refine w_loop (slices_DeleteFunc_s_api_Macro_api_Macro_b1 a1) (fun s => [(0, .c (.os 1 5 0 s.2.2.length)), (1, .c (.clo 55 [2])), (5, .c (.d (.v (.int .i64 s.1)))), (6, .c (.d (.v (.int .i64 s.2.1))))]) (fun s => [[.arr 5 (List.map d_Macro s.2.2)], [.d (.v (str a1))]]) [] H (xK ⟨[1,2], []⟩) ?_
    rintro n1 ⟨x1, x2, x3⟩ o1 H hF1
    rw [slices_DeleteFunc_s_api_Macro_api_Macro_b1] at H
    refine xS ?_
    refine xr ?_
    rcases bsplit H with ⟨hp2, H⟩ | ⟨hp2, H⟩
    · obtain ⟨F, G, hq2⟩ := xH Y G hp2
      refine xT0 ?_
      refine w_skip ?_
      refine then_normal ?_
      refine w_cut (slices_DeleteFunc_s_api_Macro_api_Macro_j2 x2) (fun s => [(0, .c (.os 1 5 0 s.2.length)), (1, .c (.clo 55 [2])), (5, .c (.d (.v (.int .i64 s.1)))), (6, .c (.d (.v (.int .i64 x2))))]) (fun s => [[.arr 5 (List.map d_Macro s.2)], [.d (.v (str a1))]]) [] o1 ?_ ?_
      · refine xS ?_
        obtain ⟨hg1, H⟩ := gsplit H
        obtain ⟨hg, H⟩ := gsplit H
        have F := xZ Y (map_getD d_Macro x3 x2.toNat default default (by omega))
        refine xR ?_
        obtain ⟨r2, hr2, H⟩ := osplit H
        have F := Y
        refine xQ ?_
        refine xs 2 ?_
        refine xc ⟨[2], []⟩ (tabG 1 (macro_Undef_1_c (x3.getD x2.toNat default) a1 r2 hr2)) ?_
        refine xs 1 ?_
        refine xl ?_
        refine xS ?_
        rcases bsplit H with ⟨hp3, H⟩ | ⟨hp3, H⟩
        · obtain ⟨F, G, hq3⟩ := xH Y G hp3
          refine xT ?_
          obtain ⟨hg2, H⟩ := gsplit H
          obtain ⟨hg, H⟩ := gsplit H
          have F := xZ Y (map_getD d_Macro x3 x1.toNat default default (by omega))
          refine xR ?_
          refine xr ?_
          exact cut_at H (xK ⟨[1,2], []⟩)
        · obtain ⟨F, G, hq3⟩ := xH Y G hp3
          refine xE ?_
          exact cut_at H (xK ⟨[1,2], []⟩)
      · rintro ⟨x4, x5⟩ H
        rw [slices_DeleteFunc_s_api_Macro_api_Macro_j2] at H
        refine xr ?_
        exact round_at (inl_fin H hF1) (xK ⟨[1,2], []⟩)
    · obtain ⟨F, G, hq2⟩ := xH Y G hp2
      replace H := inrO_fin H hF1
      refine xE ?_
      obtain ⟨hg3, H⟩ := gsplit H
      refine xr ?_
      obtain ⟨hg4, H⟩ := gsplit H
      have F := xZ Y (Nat.min_eq_left (show x1.toNat ≤ x3.length by omega))
      have G := xZ G (Nat.min_eq_left (show x1.toNat ≤ x3.length by omega))
      replace H := Option.some.inj H
      refine xR ?_
      subst H
      refine xOr ?_
      refine qDf [] ?_
      exact xO ⟨[1, 2], []⟩
theorem slices_DeleteFunc_s_api_Macro_api_Macro_k : Callable Try.prog 54 ∧ (∀ g, S_slices_DeleteFunc_s_api_Macro_api_Macro g → GenOk Try.prog 54 g) ∧ (true = true → ∀ g, S_slices_DeleteFunc_s_api_Macro_api_Macro g → ∃ val bs ts, g.out = .ret val bs ts) :=
  ⟨call_54, slices_DeleteFunc_s_api_Macro_api_Macro_ok, fun _ => by rintro _ ⟨_, _, _, _, rfl⟩; exact ⟨_, _, _, rfl⟩⟩
noncomputable def macro_Undef (a0 : List Macro) (a1 : List UInt8) : Option (List Macro) :=
  (slices_Clone_s_api_Macro_api_Macro a0).bind fun r1 => (slices_DeleteFunc_s_api_Macro_api_Macro a0 a1).bind fun r2 => some r2
noncomputable def pf_macro_Undef : PF := PF.of (E2 (dL 5 d_Macro) dS) (fun a => macro_Undef a.1 a.2) (dL 5 d_Macro)
set_option maxRecDepth 100000 in
set_option maxHeartbeats 4000000 in
theorem macro_Undef_ok : PureOk Try.prog 21 pf_macro_Undef := by
  refine xF mixed [] [(51, true, S_slices_Clone_s_api_Macro_api_Macro), (54, true, S_slices_DeleteFunc_s_api_Macro_api_Macro)] trivial ⟨slices_Clone_s_api_Macro_api_Macro_k, slices_DeleteFunc_s_api_Macro_api_Macro_k, trivial⟩ Try.func21 ?_
  rintro ⟨a0, a1⟩ out H
  have G := True.intro
  have Y := xZ Try.results21 <| xZ d_Call.eq_1 <| xZ d_Token.eq_1 <| xZ d_Macro.eq_1 <| xZ g_slices_Clone_s_api_Macro_api_Macro.eq_1 <| g_slices_DeleteFunc_s_api_Macro_api_Macro.eq_1
  simp only [macro_Undef] at H
  refine xS ?_
  refine xr ?_
  obtain ⟨r1, hr1, H⟩ := osplit H
  have F := Y
  obtain ⟨r2, hr2, H⟩ := osplit H
  have F := F
  refine xQ ?_
  refine xs 1 ?_
  refine xc ⟨[], []⟩ (tabG 0 (slices_Clone_s_api_Macro_api_Macro_c a0 r1 hr1)) ?_
  refine xs 1 ?_
  refine xc ⟨[2, 1], []⟩ (tabG 1 (slices_DeleteFunc_s_api_Macro_api_Macro_c a0 a1 r2 hr2)) ?_
  refine xs 1 ?_
  refine xl ?_
  replace H := Option.some.inj H
  refine xS ?_
  subst H
  refine xNf 2 5 (List.map d_Macro r2) [] ?_
  exact xN
theorem macro_Undef_c (a0 : List Macro) (a1 : List UInt8) (r : (List Macro)) (H : macro_Undef a0 a1 = some r) : PC pf_macro_Undef [(dL 5 d_Macro) a0, dS a1] ((dL 5 d_Macro) r) := PF.c (a := (a0, a1)) H
noncomputable def preref4_Undef_j2 (x1 : Int) (x2 : Int) : (List Macro) → Option ((Int × Int × (List Macro)) ⊕ (List Macro))
  | x4 => some (.inl (x1, IntKind.i64.wrap (x2 + 1), x4))
noncomputable def preref4_Undef_b1 (a0 : List Macro) (a1 : List UInt8) : (Int × Int × (List Macro)) → Option ((Int × Int × (List Macro)) ⊕ (List Macro))
  | (x1, x2, x3) => if (ltI x2 x1) = true then if (0 : Int) ≤ x2 ∧ x2.toNat < a0.length then if (!eqS ((a0.getD x2.toNat default).Name) a1) = true then if (x3.length + [(a0.getD x2.toNat default)].length) * 80 ≤ 140737488355328 then preref4_Undef_j2 x1 x2 (x3 ++ [(a0.getD x2.toNat default)]) else none else preref4_Undef_j2 x1 x2 x3 else none else inrO (some x3)
noncomputable def preref4_Undef (a0 : List Macro) (a1 : List UInt8) : Option (List Macro) :=
  loopO (preref4_Undef_b1 a0 a1) ((a0.length : Int), 0, ([] : List Macro))
noncomputable def pf_preref4_Undef : PF := PF.of (E2 (dL 5 d_Macro) dS) (fun a => preref4_Undef a.1 a.2) (dL 5 d_Macro)
set_option maxRecDepth 100000 in
set_option maxHeartbeats 4000000 in
theorem preref4_Undef_ok : PureOk Try.prog 22 pf_preref4_Undef := by
  refine xF mixed [] [] trivial trivial Try.func22 ?_
  rintro ⟨a0, a1⟩ out H
  have G := True.intro
  have Y := xZ y_9 <| xZ y_29 <| xZ y_32 <| xZ Try.results22 <| xZ d_Call.eq_1 <| xZ d_Token.eq_1 <| d_Macro.eq_1
  simp only [preref4_Undef] at H
  refine xS ?_
  refine xr ?_
  refine xr ?_
  refine xr ?_
  refine w_loop (preref4_Undef_b1 a0 a1) (fun s => [(1, .c (.d (.v (str a1)))), (5, .c (.os 1 5 0 s.2.2.length)), (8, .c (.d (.sl 5 (List.map d_Macro a0)))), (9, .c (.d (.v (.int .i64 s.1)))), (10, .c (.d (.v (.int .i64 s.2.1))))]) (fun s => [[.arr 5 (List.map d_Macro s.2.2)]]) [] H (xK ⟨[0], []⟩) ?_
  rintro n1 ⟨x1, x2, x3⟩ o1 H hF1
  rw [preref4_Undef_b1] at H
  refine xS ?_
  refine xr ?_
  rcases bsplit H with ⟨hp1, H⟩ | ⟨hp1, H⟩
  · obtain ⟨F, G, hq1⟩ := xH Y G hp1
    refine xT0 ?_
    refine w_skip ?_
    refine then_normal ?_
    refine w_cut (preref4_Undef_j2 x1 x2) (fun s => [(1, .c (.d (.v (str a1)))), (5, .c (.os 1 5 0 s.length)), (8, .c (.d (.sl 5 (List.map d_Macro a0)))), (9, .c (.d (.v (.int .i64 x1)))), (10, .c (.d (.v (.int .i64 x2))))]) (fun s => [[.arr 5 (List.map d_Macro s)]]) [] o1 ?_ ?_
    · refine xS ?_
      obtain ⟨hg1, H⟩ := gsplit H
      have F := xZ Y (map_getD d_Macro a0 x2.toNat default default (by omega))
      refine xR ?_
      refine xr ?_
      rcases bsplit H with ⟨hp2, H⟩ | ⟨hp2, H⟩
      · obtain ⟨F, G, hq2⟩ := xH Y G hp2
        refine xT ?_
        obtain ⟨hg2, H⟩ := gsplit H
        have F := xZ Y (all_map one_Macro [(a0.getD x2.toNat default)])
        refine xR ?_
        exact cut_at H (xK ⟨[3], []⟩)
      · obtain ⟨F, G, hq2⟩ := xH Y G hp2
        refine xE ?_
        exact cut_at H (xK ⟨[1], []⟩)
    · rintro x4 H
      rw [preref4_Undef_j2] at H
      refine xr ?_
      exact round_at (inl_fin H hF1) (xK ⟨[1], []⟩)
  · obtain ⟨F, G, hq1⟩ := xH Y G hp1
    replace H := inrO_fin H hF1
    refine xE ?_
    replace H := Option.some.inj H
    refine xr ?_
    subst H
    refine xNf 1 5 (List.map d_Macro x3) [] ?_
    exact xN
theorem preref4_Undef_c (a0 : List Macro) (a1 : List UInt8) (r : (List Macro)) (H : preref4_Undef a0 a1 = some r) : PC pf_preref4_Undef [(dL 5 d_Macro) a0, dS a1] ((dL 5 d_Macro) r) := PF.c (a := (a0, a1)) H
end Go.Proofs.Ytkhcecpbbmfcaaa
