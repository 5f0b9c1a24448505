/- Tokens of a text: small ones, and what each is. Plain. -/
import Derived.Test.YtghmojcecefgjaaDoorZoal
import Derived.Test.YtghmojcecefgjaaDoorZoam
import Derived.Test.YtghmojcecefgjaaDoorCards
import Derived.Test.YtghmojcecefgjaaDoorTie
import Derived.ProofKit
import Derived.OpenShut
import Derived.LaidMore
import Derived.Lay
import Derived.SevenTiedAt
import Derived.Stop.Joined
import Derived.MakeChecks
import Derived.Lib.LaidTab
set_option linter.unusedVariables false
set_option linter.unusedSimpArgs false
namespace Go.Proofs.YtghmojcecefgjaaDoor
open Go.RowKit
theorem lxF_small : ∀ (n : Nat) (l : List UInt8) (i st : Nat) (f : Bool), (lxF n l i st f).1.length ≤ l.length ∧ ∀ t ∈ (lxF n l i st f).1, t.txt.length ≤ l.length
  | 0, l, i, st, f => by simp [lxF]
  | n + 1, l, i, st, f => by
    unfold lxF
    split
    · simp
    split
    · simp
    split
    · simp
    · rename_i kind m hp
      have hm := piece_le hp
      have hd : (l.drop (skip l).1).length ≤ l.length := by simp
      obtain ⟨h1, h2⟩ := lxF_small n ((l.drop (skip l).1).drop m) (i + (skip l).1 + m) (nextP st ((l.drop (skip l).1).take m) (f || (skip l).2.1)) false
      rw [List.length_drop] at h1 h2
      refine ⟨?_, fun t ht => ?_⟩
      · simp only [List.length_cons]; omega
      · rcases List.mem_cons.1 ht with rfl | ht
        · simp only [List.length_take]; omega
        · have := h2 t ht; omega
theorem lxF_first (n : Nat) (l : List UInt8) (i st : Nat) (t : Raw) (r : List Raw) (h : (lxF n l i st true).1 = t :: r) : t.fst = true := by
  cases n with
  | zero => simp [lxF] at h
  | succ n =>
    unfold lxF at h
    split at h
    · simp at h
    split at h
    · simp at h
    split at h
    · simp at h
    · simp only [List.cons.injEq] at h
      rw [← h.1]; rfl
theorem toksV_small (file : Int) (text : List UInt8) : (toksV file text).1.length ≤ 3000 ∧ (∀ t ∈ (toksV file text).1, t.Text.length ≤ 3000 ∧ t.Hide = [] ∧ t.Calls = []) ∧ ∀ t r, (toksV file text).1 = t :: r → t.First = true := by
  unfold toksV
  split
  · simp
  · rename_i h
    have hl := spText_length text
    obtain ⟨h1, h2⟩ := lxF_small ((spText text).length + 1) (spText text) 0 0 true
    have h3 := lxF_first ((spText text).length + 1) (spText text) 0 0
    unfold raws
    generalize lxF ((spText text).length + 1) (spText text) 0 0 true = z at *
    obtain ⟨ts, o⟩ := z
    cases o with
    | none =>
      refine ⟨by simp only [List.length_map]; simp only at h1; omega, fun t ht => ?_, fun t r e => ?_⟩
      · obtain ⟨a, ha, rfl⟩ := List.mem_map.1 ht
        exact ⟨by have := h2 a ha; show a.txt.length ≤ 3000; omega, rfl, rfl⟩
      · cases ts with
        | nil => simp at e
        | cons a s =>
          simp only [List.map_cons, List.cons.injEq] at e
          rw [← e.1]
          exact h3 a s rfl
    | some p => simp
end Go.Proofs.YtghmojcecefgjaaDoor
namespace Go.Proofs.YtghmojcecefgjaaDoor
open Go.ChangeShapes Go.WideShapes Go.ChangeAt Go.RowKit
theorem own : ownKnob Tryd.prog.godebug = none := by kernel_rfl
theorem Grows.below {w w' : World} (h : Grows w w') : Below w.heap.size w w' := ⟨h.os, h.tape, h.output, h.size, h.block⟩
theorem post_of_grows {H : Type} {enc : TypeId × Value → H} {P : Program} {f : Func} {s : ChangeSpec} {fresh handsOn again : Bool} {W W' : World} {args : Array Value} {v : Value} {ds gs : List (DataW H)} {before pa pv : List MemPlace}
    (hW : DataW.Whole enc P f.params.toList s.vars false W args.toList ds gs before)
    (hres : ∀ (b : Nat) (sp : Nat → Bool) (hd : Bool), DataW.TrodAll enc P W' b sp hd f.resultTypes.toList (v.resultList f.resultTypes.size) (s.fn H (ds ++ gs)).results [])
    (hargs : ∀ sp : Nat → Bool, (∀ p ∈ before, sp p.block = true) → DataW.TrodAll enc P W' 0 sp true f.params.toList args.toList (s.fn H (ds ++ gs)).args pa)
    (hvars : ∀ sp : Nat → Bool, (∀ p ∈ before, sp p.block = true) → DataW.TrodVars enc P W' sp s.vars (s.fn H (ds ++ gs)).vars pv)
    (hps : before = pa ++ pv) (hg : Grows W W')
    (hok : ∀ (j : Nat) (t : TypeId) (r : Value), f.resultTypes[j]? = some t → (v.resultList f.resultTypes.size)[j]? = some r → Value.okWide P W' .any 0 t r) :
    s.post enc P f false fresh handsOn again W args v W' := by
  have hlt := hW.lt
  refine ⟨ds, gs, before, [], pa, pv, hW, hres _ _ _, hargs _ (fun p hp => by simpa using hlt p hp), hvars _ (fun p hp => by simpa using hlt p hp), World.keptBut_mono (fun p hp => ⟨hp, ?_⟩) (hg.below.frame (· ∈ before)), fun _ => ?_⟩
  · rw [hps, List.mem_append] at hp
    exact Or.inr hp
  · obtain ⟨_, _, _, _, _, hz, hn⟩ := hW
    refine ⟨hok, _, _, ([] ++ pa) ++ pv, ⟨[] ++ pa, pv, trodAll_append (hargs _ (fun _ _ => rfl)) (hres _ _ _), hvars _ (fun _ _ => rfl), rfl, ?_, ?_⟩, ?_⟩
    · intro b off hp
      have hm : MemPlace.cell b off ∈ before := by rw [hps]; simpa using hp
      have h1 := hz b off hm
      rw [hg.below.frozen (hlt _ hm)]
      exact h1
    · intro ha; cases ha
    · intro p hp _
      rw [hps]
      simpa using hp
def lst : List (String × DataW Unit) := [("math/bits.deBruijn32tab", Rows.laid_math_bits_deBruijn32tab), ("math/bits.deBruijn64tab", Rows.laid_math_bits_deBruijn64tab), ("internal/strconv.uint64pow10", Rows.laid_internal_strconv_uint64pow10), ("strconv.ErrRange", Rows.laid_strconv_ErrRange), ("strconv.ErrSyntax", Rows.laid_strconv_ErrSyntax)]
theorem laid_place {P : Program} {w : World} : ∀ {l : List (String × DataW Unit)} {ps : List MemPlace}, DataW.LaidVars P w l ps → ∀ n d, (n, d) ∈ l →
    ∃ g t cs fuel p, P.globalNamed n = some g ∧ (P.globals[g]?).map (·.type) = some t ∧ w.var? P n = some cs ∧ DataW.trod (fun _ => ()) P w 0 (fun _ => true) false fuel t cs.toList = some (d, p) ∧ ∀ x ∈ MemPlace.row ⟨g, 0, none⟩ cs.size, x ∈ ps
  | [], _, _, _, _, hm => by cases hm
  | (n', d') :: r, ps, h, n, d, hm => by
    obtain ⟨g, t, cs, fuel, p, q, h1, h2, h3, h4, h5, rfl⟩ := h
    rcases List.mem_cons.1 hm with e | e
    · cases e
      exact ⟨g, t, cs, fuel, p, h1, h2, h3, h4, fun x hx => by simp [hx]⟩
    · obtain ⟨g', t', cs', fuel', p', k1, k2, k3, k4, k5⟩ := laid_place h5 n d e
      exact ⟨g', t', cs', fuel', p', k1, k2, k3, k4, fun x hx => by simp [k5 x hx]⟩
theorem laid_block {w : World} (h : laidMet Tryd.prog lst w) (n : String) (d : DataW Unit) (hm : (n, d) ∈ lst) (g : Nat) (t : TypeId) (hg : Tryd.prog.globalNamed n = some g) (ht : (Tryd.prog.globals[g]?).map (·.type) = some t) :
    ∃ cs fuel p, DataW.trod (fun _ => ()) Tryd.prog w 0 (fun _ => true) false fuel t cs.toList = some (d, p) ∧ (0 < cs.size → ∃ ty, w.heap[g]? = some (.cells cs ty (0, 0))) := by
  obtain ⟨ps, hv, _, hc⟩ := h
  obtain ⟨g', t', cs, fuel, p, k1, k2, k3, k4, k5⟩ := laid_place hv n d hm
  obtain rfl := Option.some.inj (hg.symm.trans k1)
  obtain rfl := Option.some.inj (ht.symm.trans k2)
  refine ⟨cs, fuel, p, k4, fun h0 => ?_⟩
  obtain ⟨⟨c, ty, e1⟩, _⟩ := hc g 0 (k5 _ (List.mem_map.2 ⟨0, List.mem_range.2 h0, rfl⟩))
  unfold World.var? at k3
  rw [hg] at k3
  simp only [Option.bind_some, e1, Option.some.injEq] at k3
  subst k3
  exact ⟨ty, e1⟩
theorem gw_of_laid {w : World} (h : laidMetH Tryd.prog lst w) : GW w (fun _ _ => False) := by
  rw [MakeChecks.laidMetH_plain _ _ _ (by kernel_rfl)] at h
  have ifc : ∀ (n : String) (nm : String) (d : DataW Unit) (g : Nat), (n, DataW.iface nm d) ∈ lst → Tryd.prog.globalNamed n = some g → (Tryd.prog.globals[g]?).map (·.type) = some 65 →
      ∃ cs ty, w.heap[g]? = some (.cells cs ty (0, 0)) ∧ (∃ v, cs[0]? = some v ∧ (v = .nilIface ∨ ∃ t p, v = .iface t p)) ∧ 0 < cs.size ∧ ∀ o, o < cs.size → ¬ False := by
    intro n nm d g hm hg ht
    obtain ⟨cs, fuel, p, k1, k2⟩ := laid_block h n _ hm g 65 hg ht
    obtain ⟨_, u, v, e1, _, _⟩ := iface_of_trod Tryd.underlying65 k1
    have hs : cs.size = 1 := by rw [← Array.length_toList, e1]; rfl
    obtain ⟨ty, e2⟩ := k2 (by omega)
    refine ⟨cs, ty, e2, ⟨.iface u v, ?_, Or.inr ⟨u, v, rfl⟩⟩, by omega, fun _ _ h => h⟩
    rw [← Array.getElem?_toList, e1]; rfl
  intro q hq
  have hq : q ∈ gblocks := hq
  unfold gblocks at hq
  rcases List.mem_cons.1 hq with rfl | hq
  · exact ifc "strconv.ErrSyntax" _ _ 0 (List.mem_cons_of_mem _ (List.mem_cons_of_mem _ (List.mem_cons_of_mem _ (List.mem_cons_of_mem _ (List.mem_cons_self ..))))) (by kernel_rfl) (by kernel_rfl)
  rcases List.mem_cons.1 hq with rfl | hq
  · exact ifc "strconv.ErrRange" _ _ 1 (List.mem_cons_of_mem _ (List.mem_cons_of_mem _ (List.mem_cons_of_mem _ (List.mem_cons_self ..)))) (by kernel_rfl) (by kernel_rfl)
  rcases List.mem_cons.1 hq with rfl | hq
  · obtain ⟨cs, fuel, p, k1, k2⟩ := laid_block h "internal/strconv.uint64pow10" _ (List.mem_cons_of_mem _ (List.mem_cons_of_mem _ (List.mem_cons_self ..))) 2 108 (by kernel_rfl) (by kernel_rfl)
    have e1 := Lib.cells_of_tab (k := .u64) (zs := Lib.pow10Tab) Tryd.underlying108 Tryd.underlying86 (by kernel_rfl) (by kernel_rfl) k1
    have e2 : cs = ⟨Lib.pow10Tab.map fun z => Value.int .u64 z⟩ := by rw [← e1]
    have hs : cs.size = 20 := by rw [e2]; rfl
    obtain ⟨ty, e3⟩ := k2 (by omega)
    refine ⟨cs, ty, e3, ?_, by omega, fun _ _ h => h⟩
    show cs = _
    rw [e2]; rfl
  · cases hq
end Go.Proofs.YtghmojcecefgjaaDoor
