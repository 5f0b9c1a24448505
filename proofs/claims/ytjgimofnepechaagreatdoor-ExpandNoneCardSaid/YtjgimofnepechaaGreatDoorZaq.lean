/- slices.Clone of an own stack. -/
import Derived.Test.YtjgimofnepechaaGreatDoorZap
set_option linter.unusedVariables false
set_option linter.unusedSimpArgs false
set_option maxHeartbeats 4000000
set_option maxRecDepth 100000
namespace Go.Proofs.YtjgimofnepechaaGreatDoor
open Go.RowKit
theorem genOk_os0 {P : Program} {f n sz : Nat} {bs : List (List C)} {out : GOut} (h : ∀ v : Value, (v = .slice none 0 0 ∨ ∃ a c, v = .slice (some a) 0 c) → GenOk P f ⟨[.c (.ex v (.sl sz []))], bs, [], out⟩) : GenOk P f ⟨[.c (.os n sz 0 0)], bs, [], out⟩ := by
 intro e vs hw hc ha
 match vs, ha with
 | [v], ⟨h1, _⟩ =>
  rcases h1 with ⟨_, o, rfl⟩ | ⟨b, cap, k1, k2, rfl, k4⟩
  ·refine h _ ?_ e [_] hw hc ⟨⟨rfl, .slnil _ _⟩, trivial⟩
   cases o with
   | none => exact .inl rfl
   | some a => exact .inr ⟨a, 0, rfl⟩
  ·exact h _ (.inr ⟨_, _, rfl⟩) e [_] hw hc ⟨⟨rfl, RD.sl _ [] [] _ _ _ .anil (by simp) (by simp) (by simp)⟩, trivial⟩
theorem cl61_nil (a1 : List Token) : GenOk Tryz.prog 61 ⟨[.c (.ex (.slice none 0 0) (.sl 11 []))], [[.arr 11 (List.map d_Token a1)]], [], .ret (.c (.os 2 11 0 0)) [[.arr 11 (List.map d_Token a1)], [.arr 11 []]] []⟩ := by
 refine xGn mixed [] [] [] trivial trivial trivial Tryz.func61 _ ?_
 have G := True.intro
 have Y := xZ y_79 <| xZ y_39 <| xZ Tryz.results61 <| d_Token.eq_1
 dsimp only
 refine xS ?_
 refine xr ?_
 refine xr ?_
 refine xt ?_
 refine xr ?_
 refine xOr ?_
 refine qDf [] ?_
 exact xO ⟨[1, 0], []⟩
theorem cl61_zero (a1 : List Token) (x : Addr) (c : Nat) : GenOk Tryz.prog 61 ⟨[.c (.ex (.slice (some x) 0 c) (.sl 11 []))], [[.arr 11 (List.map d_Token a1)]], [], .ret (.c (.os 2 11 0 0)) [[.arr 11 (List.map d_Token a1)], [.arr 11 []]] []⟩ := by
 refine xGn mixed [] [] [] trivial trivial trivial Tryz.func61 _ ?_
 have G := True.intro
 have Y := xZ y_79 <| xZ y_39 <| xZ Tryz.results61 <| d_Token.eq_1
 dsimp only
 refine xS ?_
 refine xr ?_
 refine xr ?_
 refine xe ?_
 refine xr ?_
 refine xOr ?_
 refine qDf [] ?_
 exact xO ⟨[1, 2], []⟩
theorem cl61_pos (a1 : List Token) (a0 : Nat) (h0 : 0 < a0) (H1 : a0 ≤ a1.length) (H : a0 * 120 ≤ 140737488355328) : GenOk Tryz.prog 61 ⟨[.c (.os 1 11 0 a0)], [[.arr 11 (List.map d_Token a1)]], [], .ret (.c (.os 2 11 0 (List.take a0 a1).length)) [[.arr 11 (List.map d_Token a1)], [.arr 11 (List.map d_Token (List.take a0 a1))]] []⟩ := by
 refine xGn mixed [] [] [] trivial trivial trivial Tryz.func61 _ ?_
 have G := True.intro
 have Y := xZ y_79 <| xZ y_39 <| xZ Tryz.results61 <| d_Token.eq_1
 have F := xZ (xZ (xZ (xZ Y H) H1) h0) (Nat.min_eq_left H1)
 have A := all_map one_Token (List.take a0 a1)
 have H2 : (List.take a0 a1).length * 120 ≤ 140737488355328 := by rw [List.length_take]; omega
 have H3 : (List.take a0 a1).length ≤ 9223372036854775807 := by omega
 dsimp only
 refine xS ?_
 refine xr ?_
 refine xr ?_
 refine xe ?_
 refine xR ?_
 refine xOr ?_
 refine qDf [] ?_
 exact xO ⟨[1, 2], []⟩
noncomputable def JT (a0 : Nat) (a1 : List Token) : Option Unit := if a0 ≤ a1.length ∧ a0 * 120 ≤ 140737488355328 then some () else none
def Km (a0 : Nat) (a1 : List Token) (r : Unit) : GI :=
 ⟨[.c (.os 1 11 0 a0)], [[.arr 11 (List.map d_Token a1)]], [], .ret (.c (.os 2 11 0 ((List.take a0 a1).length))) [[.arr 11 (List.map d_Token a1)], [.arr 11 (List.map d_Token (List.take a0 a1))]] []⟩
def Jl : GI → Prop := fun g => ∃ (a0 : Nat) (a1 : List Token) (r : Unit), JT a0 a1 = some r ∧ g = Km a0 a1 r
theorem JaR (a0 : Nat) (a1 : List Token) (r : Unit) (H : JT a0 a1 = some r) : Jl (Km a0 a1 r) := ⟨a0, a1, r, H, rfl⟩
theorem Jaw : ∀ g, Jl g → GenOk Tryz.prog 61 g := by
 rintro _ ⟨a0, a1, r, H, rfl⟩
 unfold JT at H
 split at H
 case isFalse => cases H
 rename_i H0
 rcases Nat.eq_zero_or_pos a0 with rfl | h0
 ·refine genOk_os0 fun v hv => ?_
  rcases hv with rfl | ⟨a, c, rfl⟩
  ·exact cl61_nil a1
  ·exact cl61_zero a1 a c
 ·exact cl61_pos a1 a0 h0 H0.1 H0.2
theorem JK : Callable Tryz.prog 61 ∧ (∀ g, Jl g → GenOk Tryz.prog 61 g) ∧ (true = true → ∀ g, Jl g → ∃ val bs ts, g.out = .ret val bs ts) :=
 ⟨call_61, Jaw, fun _ => by rintro _ ⟨_, _, _, _, rfl⟩; exact ⟨_, _, _, rfl⟩⟩
end Go.Proofs.YtjgimofnepechaaGreatDoor
