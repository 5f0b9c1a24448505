/- Functions of Go's library that hand on what they are given, by hand. -/
import Derived.Test.YtkhcecpbbmfcaaaZah
set_option linter.unusedVariables false
set_option linter.unusedSimpArgs false
namespace Go.Proofs.Ytkhcecpbbmfcaaa
open Go.RowKit
theorem genOk_ex {P : Program} {f sz : Nat} {l : List D} {out : GOut} (h : ∀ v : Value, ((l = [] ∧ ∃ o, v = .slice o 0 0) ∨ ∃ a n cap, v = .slice (some a) n cap) → GenOk P f ⟨[.c (.ex v (.sl sz l))], [], [], out⟩) :
    GenOk P f ⟨[.c (.d (.sl sz l))], [], [], out⟩ := by
  intro e vs hw hc ha
  match vs, ha with
  | [v], ⟨h1, _⟩ =>
    refine h v ?_ e [v] hw hc ⟨⟨rfl, h1⟩, trivial⟩
    rcases R1.slInv h1 with ⟨h2, o, h3⟩ | ⟨_, b, o, cap, h3, _⟩
    · exact .inl ⟨h2, o, h3⟩
    · exact .inr ⟨_, _, _, h3⟩
noncomputable def slices_Clone_s_api_Macro_api_Macro (a0 : List Macro) : Option Unit := if a0.length * 80 ≤ 140737488355328 then some () else none
def g_slices_Clone_s_api_Macro_api_Macro (a0 : List Macro) (r : Unit) : GI :=
  ⟨[.c (.d (.sl 5 (List.map d_Macro a0)))], [], [], .ret (.c (.os 1 5 0 (a0.length))) [[.arr 5 (List.map d_Macro a0)]] []⟩
def S_slices_Clone_s_api_Macro_api_Macro : GI → Prop := fun g => ∃ (a0 : List Macro) (r : Unit), slices_Clone_s_api_Macro_api_Macro a0 = some r ∧ g = g_slices_Clone_s_api_Macro_api_Macro a0 r
theorem slices_Clone_s_api_Macro_api_Macro_c (a0 : List Macro) (r : Unit) (H : slices_Clone_s_api_Macro_api_Macro a0 = some r) : S_slices_Clone_s_api_Macro_api_Macro (g_slices_Clone_s_api_Macro_api_Macro a0 r) := ⟨a0, r, H, rfl⟩
set_option maxRecDepth 100000 in
set_option maxHeartbeats 4000000 in
theorem clone_nil : GenOk Try.prog 51 ⟨[.c (.ex (.slice none 0 0) (.sl 5 []))], [], [], .ret (.c (.os 1 5 0 0)) [[.arr 5 []]] []⟩ := by
  refine xGn mixed [] [] [] trivial trivial trivial Try.func51 _ ?_
  have G := True.intro
  have Y := xZ y_29 <| xZ y_32 <| xZ Try.results51 <| d_Macro.eq_1
  dsimp only
  refine xS ?_
  refine xr ?_
  refine xr ?_
  refine xt ?_
  refine xr ?_
  refine xOr ?_
  refine qDf [] ?_
  exact xO ⟨[0], []⟩
set_option maxRecDepth 100000 in
set_option maxHeartbeats 4000000 in
theorem clone_some (a0 : List Macro) (x : Addr) (n c : Nat) (H : a0.length * 80 ≤ 140737488355328) : GenOk Try.prog 51 ⟨[.c (.ex (.slice (some x) n c) (.sl 5 (List.map d_Macro a0)))], [], [], .ret (.c (.os 1 5 0 a0.length)) [[.arr 5 (List.map d_Macro a0)]] []⟩ := by
  refine xGn mixed [] [] [] trivial trivial trivial Try.func51 _ ?_
  have G := True.intro
  have Y := xZ y_29 <| xZ y_32 <| xZ Try.results51 <| d_Macro.eq_1
  have F := xZ Y H
  have A := all_map one_Macro a0
  dsimp only
  refine xS ?_
  refine xr ?_
  refine xr ?_
  refine xe ?_
  refine xR ?_
  refine xOr ?_
  refine qDf [] ?_
  exact xO ⟨[1], []⟩
theorem slices_Clone_s_api_Macro_api_Macro_ok : ∀ g, S_slices_Clone_s_api_Macro_api_Macro g → GenOk Try.prog 51 g := by
  rintro _ ⟨a0, r, H, rfl⟩
  unfold slices_Clone_s_api_Macro_api_Macro at H
  split at H
  case isFalse => cases H
  rename_i H0
  refine genOk_ex fun v hv => ?_
  rcases hv with ⟨h0, o, rfl⟩ | ⟨a, n, c, rfl⟩
  · cases o with
    | none =>
      obtain rfl : a0 = [] := by simpa using h0
      exact clone_nil
    | some a => exact clone_some a0 a 0 0 H0
  · exact clone_some a0 a n c H0
theorem slices_Clone_s_api_Macro_api_Macro_k : Callable Try.prog 51 ∧ (∀ g, S_slices_Clone_s_api_Macro_api_Macro g → GenOk Try.prog 51 g) ∧ (true = true → ∀ g, S_slices_Clone_s_api_Macro_api_Macro g → ∃ val bs ts, g.out = .ret val bs ts) :=
  ⟨call_51, slices_Clone_s_api_Macro_api_Macro_ok, fun _ => by rintro _ ⟨_, _, _, rfl⟩; exact ⟨_, _, _, rfl⟩⟩
end Go.Proofs.Ytkhcecpbbmfcaaa
