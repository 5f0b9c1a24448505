/- A string's maker of Go's library: what its check and its end make of the heap, by the library's contracts. -/
import Derived.Test.YtjgimofnepechaaGreatDoorZaf
import Derived.Test.YtjgimofnepechaaGreatDoorZah
import Derived.Shelf.Strings.Builder1
set_option linter.unusedVariables false
set_option linter.unusedSimpArgs false
set_option maxHeartbeats 4000000
set_option maxRecDepth 100000
namespace Go.Proofs.YtjgimofnepechaaGreatDoor
open Go.Shelf Go.RowKit
def rnM : Go.Shelf.Ren := ⟨fun n => if n = 240 then 106 else if n = 276 then 119 else if n = 169 then 89 else 0, fun n => if n = 0 then 0 else if n = 3 then 3 else if n = 4 then 4 else if n = 5 then 5 else if n = 9 then 9 else if n = 20 then 20 else if n = 37 then 139 else if n = 70 then 138 else if n = 72 then 141 else if n = 127 then 162 else if n = 164 then 175 else 0, fun n => n⟩
theorem lays240 : Lays.n240 Tryz.prog rnM where
 mixed := mixed
 f240 := by kernel_rfl
 f276 := by kernel_rfl
 t0 := Tryz.underlying0
 a0 := Tryz.isAgg0
 z0 := Tryz.sizeOf0
 v0 := Tryz.zeroValue0
 t4 := Tryz.underlying4
 a4 := Tryz.isAgg4
 z4 := Tryz.sizeOf4
 v4 := Tryz.zeroValue4
 t9 := Tryz.underlying9
 a9 := Tryz.isAgg9
 z9 := Tryz.sizeOf9
 v9 := Tryz.zeroValue9
 t20 := Tryz.underlying20
 a20 := Tryz.isAgg20
 z20 := Tryz.sizeOf20
 v20 := Tryz.zeroValue20
 t70 := Tryz.underlying138
 a70 := Tryz.isAgg138
 z70 := Tryz.sizeOf138
 v70 := Tryz.zeroValue138
 t72 := Tryz.underlying141
 a72 := Tryz.isAgg141
 z72 := Tryz.sizeOf141
 v72 := Tryz.zeroValue141
 t164 := Tryz.underlying175
 a164 := Tryz.isAgg175
 z164 := Tryz.sizeOf175
 v164 := Tryz.zeroValue175
theorem lays169 : Lays.n169 Tryz.prog rnM where
 mixed := mixed
 f169 := by kernel_rfl
 t0 := Tryz.underlying0
 a0 := Tryz.isAgg0
 z0 := Tryz.sizeOf0
 v0 := Tryz.zeroValue0
 t3 := Tryz.underlying3
 a3 := Tryz.isAgg3
 z3 := Tryz.sizeOf3
 v3 := Tryz.zeroValue3
 t9 := Tryz.underlying9
 a9 := Tryz.isAgg9
 z9 := Tryz.sizeOf9
 v9 := Tryz.zeroValue9
 t37 := Tryz.underlying139
 a37 := Tryz.isAgg139
 z37 := Tryz.sizeOf139
 v37 := Tryz.zeroValue139
 t70 := Tryz.underlying138
 a70 := Tryz.isAgg138
 z70 := Tryz.sizeOf138
 v70 := Tryz.zeroValue138
 t72 := Tryz.underlying141
 a72 := Tryz.isAgg141
 z72 := Tryz.sizeOf141
 v72 := Tryz.zeroValue141
 t127 := Tryz.underlying162
 a127 := Tryz.isAgg162
 z127 := Tryz.sizeOf162
 v127 := Tryz.zeroValue162
theorem makerX : Builder.Extra Tryz.prog rnM where
 sizeBuilder := by kernel_rfl
 liesBuilder := by kernel_rfl
 t5 := Tryz.underlying5
 a5 := Tryz.isAgg5
 z5 := Tryz.sizeOf5
 v5 := Tryz.zeroValue5
 infoByte := by kernel_rfl
 cellsByte := by kernel_rfl
 sizeByte := by kernel_rfl
 neB5 := by decide
theorem copyCheck_used (b : Nat) (w : World) (h0 : w.cell? ⟨b, 0, none⟩ = some (.pointer (some ⟨b, 0, none⟩))) :
  Calls Tryz.prog 106 #[.pointer (some ⟨b, 0, none⟩)] w fun e w' => e = .returned (.tuple #[]) ∧ w' = w := Any.Builder_copyCheck_used lays240 makerX.toX72 b w h0
theorem copyCheck_fresh (b : Nat) (w : World) (h0 : w.cell? ⟨b, 0, none⟩ = some (.pointer none)) (hsh : w.shape? b = some (BTY, 2)) (hfz : w.frozen? ⟨b, 0, none⟩ = false) :
  Calls Tryz.prog 106 #[.pointer (some ⟨b, 0, none⟩)] w fun e w' => e = .returned (.tuple #[]) ∧ w' = w.setCell ⟨b, 0, none⟩ (.pointer (some ⟨b, 0, none⟩)) := Any.Builder_copyCheck_fresh lays240 makerX.toX72 b w h0 hsh hfz
noncomputable def XO (a0 : Bool) (a1 : List UInt8) : Option Unit := some ()
def Xd (a0 : Bool) (a1 : List UInt8) (r : Unit) : GI :=
 ⟨[.c (.pt 1 0)], [[.op a0 1 0, .os 2 1 0 a1.length], [.bar a1]], [], .ret (.tu []) [[.op true 1 0, .os 2 1 0 a1.length], [.bar a1]] []⟩
def KY : GI → Prop := fun g => ∃ (a0 : Bool) (a1 : List UInt8) (r : Unit), XO a0 a1 = some r ∧ g = Xd a0 a1 r
theorem JcE (a0 : Bool) (a1 : List UInt8) (r : Unit) (H : XO a0 a1 = some r) : KY (Xd a0 a1 r) := ⟨a0, a1, r, H, rfl⟩
theorem JcF : Callable Tryz.prog 106 ∧ (∀ g, KY g → GenOk Tryz.prog 106 g) ∧ (true = true → ∀ g, KY g → ∃ val bs ts, g.out = .ret val bs ts) :=
 ⟨call_106, fun g => by rintro ⟨a0, a1, r, H, rfl⟩; exact copyCheck_gen copyCheck_used copyCheck_fresh a0 a1, fun _ => by rintro _ ⟨_, _, _, _, rfl⟩; exact ⟨_, _, _, rfl⟩⟩
theorem maker_string (l : List UInt8) (h0 : l ≠ []) (b g cap : Nat) (pv : Value) (cur : Array Value) (fz : Nat × Nat) (w : World) (hbk : w.heap[b]? = some (.cells #[pv, .slice (some ⟨g, 0, none⟩) l.length cap] BTY (0, 0))) (hg : w.heap[g]? = some (.cells cur UTY fz))
  (hnc : l.length ≤ cap) (hcs : cap = cur.size) (hcm : cur.size ≤ maxLen) (htake : cur.toList.take l.length = bytesV l) :
  Calls Tryz.prog 89 #[.pointer (some ⟨b, 0, none⟩)] w fun e w' => e = .returned (str l) ∧ w' = w.drew.freeze ⟨g, 0, none⟩ l.length := by
 subst hcs
 have hl0 : l.length ≠ 0 := by simpa using h0
 have c1 : w.drew.cell? ⟨b, 1, none⟩ = some (.slice (some ⟨g, 0, none⟩) l.length cur.size) := by
  have : w.drew.heap[b]? = some (.cells #[pv, .slice (some ⟨g, 0, none⟩) l.length cur.size] BTY (0, 0)) := hbk
  simp [World.cell?, this]
 have hSD : (Builtin.unsafeSliceData_ #[(rnM.t 37)] (rnM.t 127) #[.slice (some ⟨g, 0, none⟩) l.length cur.size]).run Tryz.prog w.drew = .ok (.pointer (some ⟨g, 0, none⟩)) w.drew :=
  Lib.run_unsafeSliceData_row _ _ _ _ _ _ (by omega)
 have hUS : (Builtin.unsafeString_ #[(rnM.t 127), (rnM.t 3)] (rnM.t 9) #[.pointer (some ⟨g, 0, none⟩), .int .i64 l.length]).run Tryz.prog w.drew = .ok (.string ⟨l.toArray⟩) (w.drew.freeze ⟨g, 0, none⟩ l.length) := by
  refine Lib.run_unsafeString_row w.drew (rnM.t 127) (rnM.t 3) (rnM.t 9) (rnM.t 5) lays169.t127 makerX.cellsByte g cur.size (by have hg' : w.drew.heap[g]? = some (.cells cur UTY fz) := hg; simp [World.shape?, hg']; rfl) l h0 (by omega) (by unfold maxLen at hcm; omega) ?_
  intro j x hx
  have hj : j < l.length := (List.getElem?_eq_some_iff.1 hx).1
  have e1 : (bytesV l)[j]? = some (.int .u8 (x.toNat : Int)) := by simp [bytesV, hx]
  rw [← htake, List.getElem?_take, if_pos hj] at e1
  have hg' : w.drew.heap[g]? = some (.cells cur UTY fz) := hg
  have e2 : cur[j]? = some (.int .u8 (x.toNat : Int)) := by simpa using e1
  have e3 : w.drew.cell? ⟨g, j, none⟩ = some (.int .u8 (x.toNat : Int)) := by simp [World.cell?, hg', e2]
  simp only [Addr.add, Nat.zero_add]
  split
  ·rename_i hj0; simpa [hj0] using e3
  ·exact e3
 have mixed := lays169.mixed
 have t72 := lays169.t72; have a72 := lays169.a72; have z72 := lays169.z72; have v72 := lays169.v72; have u72 := run_underlying lays169.t72
 have t70 := lays169.t70; have a70 := lays169.a70; have z70 := lays169.z70; have v70 := lays169.v70; have u70 := run_underlying lays169.t70
 have t37 := lays169.t37; have a37 := lays169.a37; have z37 := lays169.z37; have v37 := lays169.v37; have u37 := run_underlying lays169.t37
 have t127 := lays169.t127; have a127 := lays169.a127; have z127 := lays169.z127; have v127 := lays169.v127; have u127 := run_underlying lays169.t127
 have t3 := lays169.t3; have a3 := lays169.a3; have z3 := lays169.z3; have v3 := lays169.v3; have u3 := run_underlying lays169.t3
 have t9 := lays169.t9; have a9 := lays169.a9; have z9 := lays169.z9; have v9 := lays169.v9; have u9 := run_underlying lays169.t9
 have t5 := makerX.t5; have a5 := makerX.a5; have z5 := makerX.z5; have v5 := makerX.v5; have u5 := run_underlying makerX.t5
 go_enter lays169.f169, Body.n169_ntmps rnM
 go_wp2
 go_region_o
 all_goals (go_wp2; go_ret; exact ⟨rfl, rfl⟩)
noncomputable def Xb (a0 : Bool) (a1 : List UInt8) : Option Unit := if a1.isEmpty = true then none else some ()
def X5 (a0 : Bool) (a1 : List UInt8) (r : Unit) : GI :=
 ⟨[.c (.pt 1 0)], [[.op a0 1 0, .os 2 1 0 a1.length], [.bar a1]], [], .ret (.c (.d (.v (str a1)))) [[.op a0 1 0, .os 2 1 0 a1.length], [.bar a1]] []⟩
def Vx : GI → Prop := fun g => ∃ (a0 : Bool) (a1 : List UInt8) (r : Unit), Xb a0 a1 = some r ∧ g = X5 a0 a1 r
theorem Jc6 (a0 : Bool) (a1 : List UInt8) (r : Unit) (H : Xb a0 a1 = some r) : Vx (X5 a0 a1 r) := ⟨a0, a1, r, H, rfl⟩
theorem Jc0 : Callable Tryz.prog 89 ∧ (∀ g, Vx g → GenOk Tryz.prog 89 g) ∧ (true = true → ∀ g, Vx g → ∃ val bs ts, g.out = .ret val bs ts) :=
 ⟨call_89, fun g => by
  rintro ⟨a0, a1, r, H, rfl⟩
  have h0 : a1 ≠ [] := by
   rintro rfl
   simp [Xb] at H
  exact string_gen h0 (fun b g cap pv cur fz w h1 h2 h3 h4 h5 h6 => maker_string a1 h0 b g cap pv cur fz w h1 h2 h3 h4 h5 h6) a0, fun _ => by rintro _ ⟨_, _, _, _, rfl⟩; exact ⟨_, _, _, rfl⟩⟩
end Go.Proofs.YtjgimofnepechaaGreatDoor
