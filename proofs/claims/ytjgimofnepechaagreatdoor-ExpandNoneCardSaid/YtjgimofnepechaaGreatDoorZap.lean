/- Functions of Go's library that hand on what they are given: Itoa, Clone. -/
import Derived.Test.YtjgimofnepechaaGreatDoorZak
import Derived.Test.YtjgimofnepechaaGreatDoorZal
set_option linter.unusedVariables false
set_option linter.unusedSimpArgs false
set_option maxHeartbeats 4000000
set_option maxRecDepth 100000
namespace Go.Proofs.YtjgimofnepechaaGreatDoor
open Go.Shelf Go.RowKit
theorem GW.at {w : World} {S : Nat → Nat → Prop} (h : GW w S) {b : Nat} {p : Array Value → Prop} (hb : (b, p) ∈ gblocks) : ∃ cs ty, w.heap[b]? = some (.cells cs ty (0, 0)) ∧ p cs := by
 obtain ⟨cs, ty, h1, h2, _⟩ := h _ hb
 exact ⟨cs, ty, h1, h2⟩
theorem gw_tab {w : World} {S : Nat → Nat → Prop} (h : GW w S) : Lib.TabIs Tryz.prog w "internal/strconv.uint64pow10" .u64 Lib.pow10Tab := by
 obtain ⟨cs, ty, h1, h2⟩ := h.at (b := 0) (List.mem_cons_self ..)
 have hg : Tryz.prog.globalNamed "internal/strconv.uint64pow10" = some 0 := by kernel_rfl
 unfold Lib.TabIs World.var?
 rw [hg]
 subst h2
 simp only [Option.bind_some, h1]
 rfl
noncomputable def Z6 (a0 : Int) : Option (List UInt8) := if -9223372036854775808 ≤ a0 ∧ a0 ≤ 9223372036854775807 then some (Lib.itoa a0) else none
noncomputable def JaF : PF := PF.of (E1 dI) (fun a => Z6 a) dS
theorem JeI : PureOk Tryz.prog 45 JaF := by
 intro w S args vs hG hargs hS hp
 obtain ⟨n, r, hle, H⟩ := hp
 have hargs := les1_Rn hle hargs
 rw [show JaF.val args = dS r from PF.of_vall IEnc.inj hle H]
 have H : Z6 n = some r := H
 unfold Z6 at H
 split at H
 ·rename_i hn
  cases H
  have hargs : Rn w S [dI n] vs := hargs
  match vs, hargs with
  | [v0], .acons _ _ _ _ k0 _ =>
   obtain rfl := R1.vInv k0
   refine (Any.strconv_Itoa laysM171 n hn.1 hn.2 w (gw_tab hG)).mono ?_
   rintro en w' ⟨rfl, k, os, rfl⟩
   refine ⟨_, rfl, ?_, .v _⟩
   exact ⟨rfl, rfl, rfl, by rw [Go.Sort.size_grow]; exact Nat.le_add_right _ _, fun i hi => Go.Sort.heap_grow_old _ _ hi⟩
 ·cases H
theorem Je2 (a0 : Int) (r : List UInt8) (H : Z6 a0 = some r) : PC JaF [dI a0] (dS r) := PF.c (a := a0) H
theorem genOk_ex {P : Program} {f sz : Nat} {l : List D} {out : GOut} (h : ∀ v : Value, ((l = [] ∧ ∃ o, v = .slice o 0 0) ∨ ∃ a n cap, v = .slice (some a) n cap) → GenOk P f ⟨[.c (.ex v (.sl sz l))], [], [], out⟩) :
  GenOk P f ⟨[.c (.d (.sl sz l))], [], [], out⟩ := by
 intro e vs hw hc ha
 match vs, ha with
 | [v], ⟨h1, _⟩ =>
  refine h v ?_ e [v] hw hc ⟨⟨rfl, h1⟩, trivial⟩
  rcases R1.slInv h1 with ⟨h2, o, h3⟩ | ⟨_, b, o, cap, h3, _⟩
  ·exact .inl ⟨h2, o, h3⟩
  ·exact .inr ⟨_, _, _, h3⟩
noncomputable def Jh (a0 : List Token) : Option Unit := if a0.length * 120 ≤ 140737488355328 then some () else none
def JP (a0 : List Token) (r : Unit) : GI :=
 ⟨[.c (.d (.sl 11 (List.map d_Token a0)))], [], [], .ret (.c (.os 1 11 0 a0.length)) [[.arr 11 (List.map d_Token a0)]] []⟩
def Je : GI → Prop := fun g => ∃ (a0 : List Token) (r : Unit), Jh a0 = some r ∧ g = JP a0 r
theorem JM (a0 : List Token) (r : Unit) (H : Jh a0 = some r) : Je (JP a0 r) := ⟨a0, r, H, rfl⟩
theorem cl75_nil : GenOk Tryz.prog 75 ⟨[.c (.ex (.slice none 0 0) (.sl 11 []))], [], [], .ret (.c (.os 1 11 0 0)) [[.arr 11 []]] []⟩ := by
 refine xGn mixed [] [] [] trivial trivial trivial Tryz.func75 _ ?_
 have G := True.intro
 have Y := xZ y_25 <| xZ y_39 <| xZ Tryz.results75 <| d_Token.eq_1
 dsimp only
 refine xS ?_
 refine xr ?_
 refine xr ?_
 refine xt ?_
 refine xr ?_
 refine xOr ?_
 refine qDf [] ?_
 exact xO ⟨[0], []⟩
theorem cl75_some (a0 : List Token) (x : Addr) (n c : Nat) (H : a0.length * 120 ≤ 140737488355328) : GenOk Tryz.prog 75 ⟨[.c (.ex (.slice (some x) n c) (.sl 11 (List.map d_Token a0)))], [], [], .ret (.c (.os 1 11 0 a0.length)) [[.arr 11 (List.map d_Token a0)]] []⟩ := by
 refine xGn mixed [] [] [] trivial trivial trivial Tryz.func75 _ ?_
 have G := True.intro
 have Y := xZ y_25 <| xZ y_39 <| xZ Tryz.results75 <| d_Token.eq_1
 have F := xZ Y H
 have A := all_map one_Token a0
 dsimp only
 refine xS ?_
 refine xr ?_
 refine xr ?_
 refine xe ?_
 refine xR ?_
 refine xOr ?_
 refine qDf [] ?_
 exact xO ⟨[1], []⟩
theorem JaS : ∀ g, Je g → GenOk Tryz.prog 75 g := by
 rintro _ ⟨a0, r, H, rfl⟩
 unfold Jh at H
 split at H
 case isFalse => cases H
 rename_i H0
 refine genOk_ex fun v hv => ?_
 rcases hv with ⟨h0, o, rfl⟩ | ⟨a, n, c, rfl⟩
 ·cases o with
  | none =>
   obtain rfl : a0 = [] := by simpa using h0
   exact cl75_nil
  | some a => exact cl75_some a0 a 0 0 H0
 ·exact cl75_some a0 a n c H0
theorem Jb : Callable Tryz.prog 75 ∧ (∀ g, Je g → GenOk Tryz.prog 75 g) ∧ (true = true → ∀ g, Je g → ∃ val bs ts, g.out = .ret val bs ts) :=
 ⟨call_75, JaS, fun _ => by rintro _ ⟨_, _, _, rfl⟩; exact ⟨_, _, _, rfl⟩⟩
noncomputable def KF (a0 : List (List UInt8)) : Option Unit := if a0.length * 16 ≤ 140737488355328 then some () else none
def Vp (a0 : List (List UInt8)) (r : Unit) : GI :=
 ⟨[.c (.d (.sl 1 (List.map dS a0)))], [], [], .ret (.c (.sl 1 (List.map dS a0) 1)) [] [9]⟩
def JO : GI → Prop := fun g => ∃ (a0 : List (List UInt8)) (r : Unit), KF a0 = some r ∧ g = Vp a0 r
theorem Jb6 (a0 : List (List UInt8)) (r : Unit) (H : KF a0 = some r) : JO (Vp a0 r) := ⟨a0, r, H, rfl⟩
theorem cl60_nil : GenOk Tryz.prog 60 ⟨[.c (.ex (.slice none 0 0) (.sl 1 []))], [], [], .ret (.c (.sl 1 [] 1)) [] [9]⟩ := by
 refine xGn mixed [] [] [] trivial trivial trivial Tryz.func60 _ ?_
 have G := True.intro
 have Y := xZ y_24 <| xZ y_9 <| xZ Tryz.results60 <| dS.eq_1
 dsimp only
 refine xS ?_
 refine xr ?_
 refine xr ?_
 refine xt ?_
 refine xr ?_
 refine xOr ?_
 refine qDf [] ?_
 exact xO ⟨[], [0]⟩
theorem cl60_some (a0 : List (List UInt8)) (x : Addr) (n c : Nat) (H : a0.length * 16 ≤ 140737488355328) : GenOk Tryz.prog 60 ⟨[.c (.ex (.slice (some x) n c) (.sl 1 (List.map dS a0)))], [], [], .ret (.c (.sl 1 (List.map dS a0) 1)) [] [9]⟩ := by
 refine xGn mixed [] [] [] trivial trivial trivial Tryz.func60 _ ?_
 have G := True.intro
 have Y := xZ y_24 <| xZ y_9 <| xZ Tryz.results60 <| dS.eq_1
 have F := xZ Y H
 have A := all_map one_dS a0
 dsimp only
 refine xS ?_
 refine xr ?_
 refine xr ?_
 refine xe ?_
 refine xR ?_
 refine xOr ?_
 refine qDf [] ?_
 exact xO ⟨[], [1]⟩
theorem JbX : ∀ g, JO g → GenOk Tryz.prog 60 g := by
 rintro _ ⟨a0, r, H, rfl⟩
 unfold KF at H
 split at H
 case isFalse => cases H
 rename_i H0
 refine genOk_ex fun v hv => ?_
 rcases hv with ⟨h0, o, rfl⟩ | ⟨a, n, c, rfl⟩
 ·cases o with
  | none =>
   obtain rfl : a0 = [] := by simpa using h0
   exact cl60_nil
  | some a => exact cl60_some a0 a 0 0 H0
 ·exact cl60_some a0 a n c H0
theorem Kk : Callable Tryz.prog 60 ∧ (∀ g, JO g → GenOk Tryz.prog 60 g) ∧ (true = true → ∀ g, JO g → ∃ val bs ts, g.out = .ret val bs ts) :=
 ⟨call_60, JbX, fun _ => by rintro _ ⟨_, _, _, rfl⟩; exact ⟨_, _, _, rfl⟩⟩
noncomputable def J8 (a0 : List Call) : Option Unit := if a0.length * 32 ≤ 140737488355328 then some () else none
def KV (a0 : List Call) (r : Unit) : GI :=
 ⟨[.c (.d (.sl 3 (List.map d_Call a0)))], [], [], .ret (.c (.sl 3 (List.map d_Call a0) 1)) [] [49]⟩
def Js : GI → Prop := fun g => ∃ (a0 : List Call) (r : Unit), J8 a0 = some r ∧ g = KV a0 r
theorem Jbn (a0 : List Call) (r : Unit) (H : J8 a0 = some r) : Js (KV a0 r) := ⟨a0, r, H, rfl⟩
theorem cl67_nil : GenOk Tryz.prog 67 ⟨[.c (.ex (.slice none 0 0) (.sl 3 []))], [], [], .ret (.c (.sl 3 [] 1)) [] [49]⟩ := by
 refine xGn mixed [] [] [] trivial trivial trivial Tryz.func67 _ ?_
 have G := True.intro
 have Y := xZ y_37 <| xZ y_49 <| xZ Tryz.results67 <| d_Call.eq_1
 dsimp only
 refine xS ?_
 refine xr ?_
 refine xr ?_
 refine xt ?_
 refine xr ?_
 refine xOr ?_
 refine qDf [] ?_
 exact xO ⟨[], [0]⟩
theorem cl67_some (a0 : List Call) (x : Addr) (n c : Nat) (H : a0.length * 32 ≤ 140737488355328) : GenOk Tryz.prog 67 ⟨[.c (.ex (.slice (some x) n c) (.sl 3 (List.map d_Call a0)))], [], [], .ret (.c (.sl 3 (List.map d_Call a0) 1)) [] [49]⟩ := by
 refine xGn mixed [] [] [] trivial trivial trivial Tryz.func67 _ ?_
 have G := True.intro
 have Y := xZ y_37 <| xZ y_49 <| xZ Tryz.results67 <| d_Call.eq_1
 have F := xZ Y H
 have A := all_map one_Call a0
 dsimp only
 refine xS ?_
 refine xr ?_
 refine xr ?_
 refine xe ?_
 refine xR ?_
 refine xOr ?_
 refine qDf [] ?_
 exact xO ⟨[], [1]⟩
theorem Ja7 : ∀ g, Js g → GenOk Tryz.prog 67 g := by
 rintro _ ⟨a0, r, H, rfl⟩
 unfold J8 at H
 split at H
 case isFalse => cases H
 rename_i H0
 refine genOk_ex fun v hv => ?_
 rcases hv with ⟨h0, o, rfl⟩ | ⟨a, n, c, rfl⟩
 ·cases o with
  | none =>
   obtain rfl : a0 = [] := by simpa using h0
   exact cl67_nil
  | some a => exact cl67_some a0 a 0 0 H0
 ·exact cl67_some a0 a n c H0
theorem JW : Callable Tryz.prog 67 ∧ (∀ g, Js g → GenOk Tryz.prog 67 g) ∧ (true = true → ∀ g, Js g → ∃ val bs ts, g.out = .ret val bs ts) :=
 ⟨call_67, Ja7, fun _ => by rintro _ ⟨_, _, _, rfl⟩; exact ⟨_, _, _, rfl⟩⟩
end Go.Proofs.YtjgimofnepechaaGreatDoor
