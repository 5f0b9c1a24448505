/- A string's maker of Go's library: what its check and its end make of the heap, by the library's contracts. -/
import Derived.Test.YtkhcecpbbmfcaaaZad
import Derived.Test.YtkhcecpbbmfcaaaZae
import Derived.Shelf.Strings.Builder1
set_option linter.unusedVariables false
set_option linter.unusedSimpArgs false
namespace Go.Proofs.Ytkhcecpbbmfcaaa
open Go.Shelf Go.RowKit
def rnM : Go.Shelf.Ren := ⟨fun n => if n = 240 then 66 else if n = 276 then 88 else if n = 169 then 39 else 0, fun n => if n = 0 then 0 else if n = 3 then 3 else if n = 4 then 4 else if n = 5 then 5 else if n = 9 then 9 else if n = 20 then 20 else if n = 37 then 57 else if n = 70 then 56 else if n = 72 then 59 else if n = 127 then 109 else if n = 164 then 115 else 0, fun n => n⟩
theorem lays240 : Lays.n240 Try.prog rnM where
  mixed := mixed
  f240 := by kernel_rfl
  f276 := by kernel_rfl
  t0 := Try.underlying0
  a0 := Try.isAgg0
  z0 := Try.sizeOf0
  v0 := Try.zeroValue0
  t4 := Try.underlying4
  a4 := Try.isAgg4
  z4 := Try.sizeOf4
  v4 := Try.zeroValue4
  t9 := Try.underlying9
  a9 := Try.isAgg9
  z9 := Try.sizeOf9
  v9 := Try.zeroValue9
  t20 := Try.underlying20
  a20 := Try.isAgg20
  z20 := Try.sizeOf20
  v20 := Try.zeroValue20
  t70 := Try.underlying56
  a70 := Try.isAgg56
  z70 := Try.sizeOf56
  v70 := Try.zeroValue56
  t72 := Try.underlying59
  a72 := Try.isAgg59
  z72 := Try.sizeOf59
  v72 := Try.zeroValue59
  t164 := Try.underlying115
  a164 := Try.isAgg115
  z164 := Try.sizeOf115
  v164 := Try.zeroValue115
theorem lays169 : Lays.n169 Try.prog rnM where
  mixed := mixed
  f169 := by kernel_rfl
  t0 := Try.underlying0
  a0 := Try.isAgg0
  z0 := Try.sizeOf0
  v0 := Try.zeroValue0
  t3 := Try.underlying3
  a3 := Try.isAgg3
  z3 := Try.sizeOf3
  v3 := Try.zeroValue3
  t9 := Try.underlying9
  a9 := Try.isAgg9
  z9 := Try.sizeOf9
  v9 := Try.zeroValue9
  t37 := Try.underlying57
  a37 := Try.isAgg57
  z37 := Try.sizeOf57
  v37 := Try.zeroValue57
  t70 := Try.underlying56
  a70 := Try.isAgg56
  z70 := Try.sizeOf56
  v70 := Try.zeroValue56
  t72 := Try.underlying59
  a72 := Try.isAgg59
  z72 := Try.sizeOf59
  v72 := Try.zeroValue59
  t127 := Try.underlying109
  a127 := Try.isAgg109
  z127 := Try.sizeOf109
  v127 := Try.zeroValue109
theorem makerX : Builder.Extra Try.prog rnM where
  sizeBuilder := by kernel_rfl
  liesBuilder := by kernel_rfl
  t5 := Try.underlying5
  a5 := Try.isAgg5
  z5 := Try.sizeOf5
  v5 := Try.zeroValue5
  infoByte := by kernel_rfl
  cellsByte := by kernel_rfl
  sizeByte := by kernel_rfl
  neB5 := by decide
theorem copyCheck_used (b : Nat) (w : World) (h0 : w.cell? ⟨b, 0, none⟩ = some (.pointer (some ⟨b, 0, none⟩))) :
    Calls Try.prog 66 #[.pointer (some ⟨b, 0, none⟩)] w fun e w' => e = .returned (.tuple #[]) ∧ w' = w := Any.Builder_copyCheck_used lays240 makerX.toX72 b w h0
theorem copyCheck_fresh (b : Nat) (w : World) (h0 : w.cell? ⟨b, 0, none⟩ = some (.pointer none)) (hsh : w.shape? b = some (BTY, 2)) (hfz : w.frozen? ⟨b, 0, none⟩ = false) :
    Calls Try.prog 66 #[.pointer (some ⟨b, 0, none⟩)] w fun e w' => e = .returned (.tuple #[]) ∧ w' = w.setCell ⟨b, 0, none⟩ (.pointer (some ⟨b, 0, none⟩)) := Any.Builder_copyCheck_fresh lays240 makerX.toX72 b w h0 hsh hfz
noncomputable def strings_Builder_copyCheck (a0 : Bool) (a1 : List UInt8) : Option Unit := some ()
def g_strings_Builder_copyCheck (a0 : Bool) (a1 : List UInt8) (r : Unit) : GI :=
  ⟨[.c (.pt 1 0)], [[.op a0 1 0, .os 2 1 0 a1.length], [.bar a1]], [], .ret (.tu []) [[.op true 1 0, .os 2 1 0 a1.length], [.bar a1]] []⟩
def S_strings_Builder_copyCheck : GI → Prop := fun g => ∃ (a0 : Bool) (a1 : List UInt8) (r : Unit), strings_Builder_copyCheck a0 a1 = some r ∧ g = g_strings_Builder_copyCheck a0 a1 r
theorem strings_Builder_copyCheck_c (a0 : Bool) (a1 : List UInt8) (r : Unit) (H : strings_Builder_copyCheck a0 a1 = some r) : S_strings_Builder_copyCheck (g_strings_Builder_copyCheck a0 a1 r) := ⟨a0, a1, r, H, rfl⟩
theorem strings_Builder_copyCheck_k : Callable Try.prog 66 ∧ (∀ g, S_strings_Builder_copyCheck g → GenOk Try.prog 66 g) ∧ (true = true → ∀ g, S_strings_Builder_copyCheck g → ∃ val bs ts, g.out = .ret val bs ts) :=
  ⟨call_66, fun g => by rintro ⟨a0, a1, r, H, rfl⟩; exact copyCheck_gen copyCheck_used copyCheck_fresh a0 a1, fun _ => by rintro _ ⟨_, _, _, _, rfl⟩; exact ⟨_, _, _, rfl⟩⟩
set_option maxHeartbeats 1000000 in
set_option maxRecDepth 100000 in
theorem maker_string (l : List UInt8) (h0 : l ≠ []) (b g cap : Nat) (pv : Value) (cur : Array Value) (fz : Nat × Nat) (w : World) (hbk : w.heap[b]? = some (.cells #[pv, .slice (some ⟨g, 0, none⟩) l.length cap] BTY (0, 0))) (hg : w.heap[g]? = some (.cells cur UTY fz))
    (hnc : l.length ≤ cap) (hcs : cap = cur.size) (hcm : cur.size ≤ maxLen) (htake : cur.toList.take l.length = bytesV l) :
    Calls Try.prog 39 #[.pointer (some ⟨b, 0, none⟩)] w fun e w' => e = .returned (str l) ∧ w' = w.drew.freeze ⟨g, 0, none⟩ l.length := by
  subst hcs
  have hl0 : l.length ≠ 0 := by simpa using h0
  have c1 : w.drew.cell? ⟨b, 1, none⟩ = some (.slice (some ⟨g, 0, none⟩) l.length cur.size) := by
    have : w.drew.heap[b]? = some (.cells #[pv, .slice (some ⟨g, 0, none⟩) l.length cur.size] BTY (0, 0)) := hbk
    simp [World.cell?, this]
  have hSD : (Builtin.unsafeSliceData_ #[(rnM.t 37)] (rnM.t 127) #[.slice (some ⟨g, 0, none⟩) l.length cur.size]).run Try.prog w.drew = .ok (.pointer (some ⟨g, 0, none⟩)) w.drew :=
    Lib.run_unsafeSliceData_row _ _ _ _ _ _ (by omega)
  have hUS : (Builtin.unsafeString_ #[(rnM.t 127), (rnM.t 3)] (rnM.t 9) #[.pointer (some ⟨g, 0, none⟩), .int .i64 l.length]).run Try.prog w.drew = .ok (.string ⟨l.toArray⟩) (w.drew.freeze ⟨g, 0, none⟩ l.length) := by
    refine Lib.run_unsafeString_row w.drew (rnM.t 127) (rnM.t 3) (rnM.t 9) (rnM.t 5) lays169.t127 makerX.cellsByte g cur.size (by have hg' : w.drew.heap[g]? = some (.cells cur UTY fz) := hg; simp [World.shape?, hg']; rfl) l h0 (by omega) (by unfold maxLen at hcm; omega) ?_
    intro j x hx
    have hj : j < l.length := (List.getElem?_eq_some_iff.1 hx).1
    have e1 : (bytesV l)[j]? = some (.int .u8 (x.toNat : Int)) := by simp [bytesV, hx]
    rw [← htake, List.getElem?_take, if_pos hj] at e1
    have hg' : w.drew.heap[g]? = some (.cells cur UTY fz) := hg
    have e2 : cur[j]? = some (.int .u8 (x.toNat : Int)) := by simpa using e1
    have e3 : w.drew.cell? ⟨g, j, none⟩ = some (.int .u8 (x.toNat : Int)) := by simp [World.cell?, hg', e2]
    simp only [Addr.add, Nat.zero_add]
    split
    · rename_i hj0; simpa [hj0] using e3
    · exact e3
  have mixed := lays169.mixed
  have t72 := lays169.t72; have a72 := lays169.a72; have z72 := lays169.z72; have v72 := lays169.v72; have u72 := run_underlying lays169.t72
  have t70 := lays169.t70; have a70 := lays169.a70; have z70 := lays169.z70; have v70 := lays169.v70; have u70 := run_underlying lays169.t70
  have t37 := lays169.t37; have a37 := lays169.a37; have z37 := lays169.z37; have v37 := lays169.v37; have u37 := run_underlying lays169.t37
  have t127 := lays169.t127; have a127 := lays169.a127; have z127 := lays169.z127; have v127 := lays169.v127; have u127 := run_underlying lays169.t127
  have t3 := lays169.t3; have a3 := lays169.a3; have z3 := lays169.z3; have v3 := lays169.v3; have u3 := run_underlying lays169.t3
  have t9 := lays169.t9; have a9 := lays169.a9; have z9 := lays169.z9; have v9 := lays169.v9; have u9 := run_underlying lays169.t9
  have t5 := makerX.t5; have a5 := makerX.a5; have z5 := makerX.z5; have v5 := makerX.v5; have u5 := run_underlying makerX.t5
  go_enter lays169.f169, Body.n169_ntmps rnM
  go_wp2
  go_region_o
  all_goals (go_wp2; go_ret; exact ⟨rfl, rfl⟩)
noncomputable def strings_Builder_String (a0 : Bool) (a1 : List UInt8) : Option Unit := if a1.isEmpty = true then none else some ()
def g_strings_Builder_String (a0 : Bool) (a1 : List UInt8) (r : Unit) : GI :=
  ⟨[.c (.pt 1 0)], [[.op a0 1 0, .os 2 1 0 a1.length], [.bar a1]], [], .ret (.c (.d (.v (str a1)))) [[.op a0 1 0, .os 2 1 0 a1.length], [.bar a1]] []⟩
def S_strings_Builder_String : GI → Prop := fun g => ∃ (a0 : Bool) (a1 : List UInt8) (r : Unit), strings_Builder_String a0 a1 = some r ∧ g = g_strings_Builder_String a0 a1 r
theorem strings_Builder_String_c (a0 : Bool) (a1 : List UInt8) (r : Unit) (H : strings_Builder_String a0 a1 = some r) : S_strings_Builder_String (g_strings_Builder_String a0 a1 r) := ⟨a0, a1, r, H, rfl⟩
theorem strings_Builder_String_k : Callable Try.prog 39 ∧ (∀ g, S_strings_Builder_String g → GenOk Try.prog 39 g) ∧ (true = true → ∀ g, S_strings_Builder_String g → ∃ val bs ts, g.out = .ret val bs ts) :=
  ⟨call_39, fun g => by
    rintro ⟨a0, a1, r, H, rfl⟩
    have h0 : a1 ≠ [] := by
      rintro rfl
      simp [strings_Builder_String] at H
    exact string_gen h0 (fun b g cap pv cur fz w h1 h2 h3 h4 h5 h6 => maker_string a1 h0 b g cap pv cur fz w h1 h2 h3 h4 h5 h6) a0, fun _ => by rintro _ ⟨_, _, _, _, rfl⟩; exact ⟨_, _, _, rfl⟩⟩
end Go.Proofs.Ytkhcecpbbmfcaaa
