/- From a function of data to a tied card: what the listed variables hold. -/
import Derived.Test.YtfkhlbhjhdpkoaaGreatDoorZcau
import Derived.Test.YtfkhlbhjhdpkoaaGreatDoorCards
import Derived.Test.YtfkhlbhjhdpkoaaGreatDoorTie
import Derived.Shelf.Vars
import Derived.SizedLaws
import Derived.ProofKit
import Derived.OpenShut
import Derived.LaidMore
import Derived.Lay
import Derived.SevenTiedAt
import Derived.Stop.Joined
import Derived.MakeChecks
import Derived.Lib.LaidTab
import Derived.Deep.Slices
set_option linter.unusedVariables false
set_option linter.unusedSimpArgs false
set_option maxRecDepth 100000
namespace Go.Proofs.YtfkhlbhjhdpkoaaGreatDoor
open Go.ChangeShapes Go.WideShapes Go.ChangeAt Go.RowKit
theorem own : ownKnob Tryz.prog.godebug = none := by kernel_rfl
theorem Grows.below {w w' : World} (h : Grows w w') : Below w.heap.size w w' := ⟨h.os, h.tape, h.output, h.size, h.block⟩
theorem post_of_grows {H : Type} {enc : TypeId × Value → H} {P : Program} {f : Func} {s : ChangeSpec} {fresh handsOn again : Bool} {W W' : World} {args : Array Value} {v : Value} {ds gs : List (DataW H)} {before pa pv : List MemPlace}
  (hW : DataW.Whole enc P f.params.toList s.vars false W args.toList ds gs before)
  (hres : ∀ (b : Nat) (sp : Nat → Bool) (hd : Bool), DataW.TrodAll enc P W' b sp hd f.resultTypes.toList (v.resultList f.resultTypes.size) (s.fn H (ds ++ gs)).results [])
  (hargs : ∀ sp : Nat → Bool, (∀ p ∈ before, sp p.block = true) → DataW.TrodAll enc P W' 0 sp true f.params.toList args.toList (s.fn H (ds ++ gs)).args pa)
  (hvars : ∀ sp : Nat → Bool, (∀ p ∈ before, sp p.block = true) → DataW.TrodVars enc P W' sp s.vars (s.fn H (ds ++ gs)).vars pv)
  (hps : before = pa ++ pv) (hg : Grows W W')
  (hok : ∀ (j : Nat) (t : TypeId) (r : Value), f.resultTypes[j]? = some t → (v.resultList f.resultTypes.size)[j]? = some r → Value.okWide P W' .any 0 t r) :
  s.post enc P f false fresh handsOn again W args v W' := by
 have hlt := hW.lt
 refine ⟨ds, gs, before, [], pa, pv, hW, hres _ _ _, hargs _ (fun p hp => by simpa using hlt p hp), hvars _ (fun p hp => by simpa using hlt p hp), World.keptBut_mono (fun p hp => ⟨hp, ?_⟩) (hg.below.frame (· ∈ before)), fun _ => ?_⟩
 ·rw [hps, List.mem_append] at hp
  exact Or.inr hp
 obtain ⟨_, _, _, _, _, hz, hn⟩ := hW
 refine ⟨hok, _, _, ([] ++ pa) ++ pv, ⟨[] ++ pa, pv, trodAll_append (hargs _ (fun _ _ => rfl)) (hres _ _ _), hvars _ (fun _ _ => rfl), rfl, ?_, ?_⟩, ?_⟩
 ·intro b off hp
  have hm : MemPlace.cell b off ∈ before := by rw [hps]; simpa using hp
  have h1 := hz b off hm
  rw [hg.below.frozen (hlt _ hm)]
  exact h1
 ·intro ha; cases ha
 intro p hp _
 rw [hps]
 simpa using hp
def lst : List (String × DataW Unit) := [("math/bits.deBruijn32tab", Rows.laid_math_bits_deBruijn32tab), ("math/bits.deBruijn64tab", Rows.laid_math_bits_deBruijn64tab), ("internal/strconv.uint64pow10", Rows.laid_internal_strconv_uint64pow10), ("unicode/utf8.acceptRanges", Rows.laid_unicode_utf8_acceptRanges), ("strconv.ErrRange", Rows.laid_strconv_ErrRange), ("strconv.ErrSyntax", Rows.laid_strconv_ErrSyntax), ("unicode/utf8.first", Rows.laid_unicode_utf8_first)]
theorem laid_place {P : Program} {w : World} : ∀ {l : List (String × DataW Unit)} {ps : List MemPlace}, DataW.LaidVars P w l ps → ∀ n d, (n, d) ∈ l →
  ∃ g t cs fuel p, P.globalNamed n = some g ∧ (P.globals[g]?).map (·.type) = some t ∧ w.var? P n = some cs ∧ DataW.trod (fun _ => ()) P w 0 (fun _ => true) false fuel t cs.toList = some (d, p) ∧ ∀ x ∈ MemPlace.row ⟨g, 0, none⟩ cs.size, x ∈ ps
 | [], _, _, _, _, hm => by cases hm
 | (n', d') :: r, ps, h, n, d, hm => by
  obtain ⟨g, t, cs, fuel, p, q, h1, h2, h3, h4, h5, rfl⟩ := h
  rcases List.mem_cons.1 hm with e | e
  ·cases e
   exact ⟨g, t, cs, fuel, p, h1, h2, h3, h4, fun x hx => by simp [hx]⟩
  obtain ⟨g', t', cs', fuel', p', k1, k2, k3, k4, k5⟩ := laid_place h5 n d e
  exact ⟨g', t', cs', fuel', p', k1, k2, k3, k4, fun x hx => by simp [k5 x hx]⟩
theorem laid_block {w : World} (h : laidMet Tryz.prog lst w) (n : String) (d : DataW Unit) (hm : (n, d) ∈ lst) (g : Nat) (t : TypeId) (hg : Tryz.prog.globalNamed n = some g) (ht : (Tryz.prog.globals[g]?).map (·.type) = some t) :
  ∃ cs fuel p, DataW.trod (fun _ => ()) Tryz.prog w 0 (fun _ => true) false fuel t cs.toList = some (d, p) ∧ (0 < cs.size → ∃ ty, w.heap[g]? = some (.cells cs ty (0, 0))) := by
 obtain ⟨ps, hv, _, hc⟩ := h
 obtain ⟨g', t', cs, fuel, p, k1, k2, k3, k4, k5⟩ := laid_place hv n d hm
 obtain rfl := Option.some.inj (hg.symm.trans k1)
 obtain rfl := Option.some.inj (ht.symm.trans k2)
 refine ⟨cs, fuel, p, k4, fun h0 => ?_⟩
 obtain ⟨⟨c, ty, e1⟩, _⟩ := hc g 0 (k5 _ (List.mem_map.2 ⟨0, List.mem_range.2 h0, rfl⟩))
 unfold World.var? at k3
 rw [hg] at k3
 simp only [Option.bind_some, e1, Option.some.injEq] at k3
 subst k3
 exact ⟨ty, e1⟩
theorem ret_shaped {H : Type} {enc : TypeId × Value → H} {a : Assume} {C : Checked} {os : Os} {f : FuncId} {fn : Func} {s : ChangeSpec} {conds : List PathCond} {apart fresh handsOn again : Bool} {X : World → Array Value → Prop}
  (hX : ∀ (w w' : World) (args : Array Value), w.heap = w'.heap → X w args → X w' args)
  (own : ownKnob C.prog.godebug = none) (started : os.Started) (noInit : C.prog.inits.idxOf? f = none) (hfn : C.prog.funcs[f]? = some fn)
  (witness : ∃ (w : World) (tape : Tape) (i : Input), w.os = os ∧ (w.forCall tape i).Shaped C.prog ∧ i.vars = [] ∧ Input.okWide C.prog (w.forCall tape i) .any w.heap.size f i ∧
   ((s.pre enc C.prog fn conds apart (w.forCall tape i).memory i.args ∧ X (w.forCall tape i).memory i.args) ∧ sizedMet enc C.prog fn (OpenSpec.ofChange s) apart (w.forCall tape i).memory i.args) ∧ a.holds C.prog (lone (Frame.enter C.prog f i.args .normal) [] (w.forCall tape i)))
  (contract : ∀ (W : World) (base : Nat) (args : Array Value) (ds gs : List (DataW H)) (before : List MemPlace),
   (∀ (j : Nat) t v, fn.params[j]? = some t → args[j]? = some v → Value.okWide C.prog W .any base t v) →
   DataW.Whole enc C.prog fn.params.toList s.vars apart W args.toList ds gs before →
   (DataW.weightsEach C.prog (fn.params.toList ++ s.plain.varTypes C.prog) (ds ++ gs)).all (· ≤ reachBytes) = true → X W args → W.ShapedOpen C.prog →
   Calls C.prog f args W fun e W' => ∃ v, e = .returned v ∧ s.post enc C.prog fn apart fresh handsOn again W args v W') :
  ReturnsInHanded a C os f .any (fun w args => (s.pre enc C.prog fn conds apart w args ∧ X w args) ∧ sizedMet enc C.prog fn (OpenSpec.ofChange s) apart w args) (s.post enc C.prog fn apart fresh handsOn again) := by
 refine returnsInHanded_of_calls own started noInit witness ?_
 intro w tape i _ hsh _ hok hpre _
 obtain ⟨_, _, _, fn', hfn', _, _, _, _, hval⟩ := hok
 have e : fn' = fn := Option.some.inj (hfn'.symm.trans hfn)
 subst e
 obtain ⟨⟨⟨ds, gs, before, hw, hc⟩, hx⟩, hz⟩ := hpre
 have hw' := DataW.Whole.of_heap (w' := w.forCall tape i) (by rfl) hw
 refine (contract (w.forCall tape i) w.heap.size i.args ds gs before hval hw' (hz.weights hw) (hX _ _ _ (by rfl) hx) hsh).mono fun e W' ⟨v, he, hp⟩ => ?_
 subst he
 exact ChangeSpec.post_blind hp
theorem gw_of_laid {w : World} (h : laidMetH Tryz.prog lst w) (hsh : w.ShapedOpen Tryz.prog) : GW w (fun _ _ => False) := by
 rw [MakeChecks.laidMetH_plain _ _ _ (by kernel_rfl)] at h
 have ifc : ∀ (n nm : String) (d : DataW Unit) (g : Nat), (n, DataW.iface nm d) ∈ lst → Tryz.prog.globalNamed n = some g → (Tryz.prog.globals[g]?).map (·.type) = some 210 →
   ∃ cs ty, w.heap[g]? = some (.cells cs ty (0, 0)) ∧ (∃ v, cs[0]? = some v ∧ (v = .nilIface ∨ ∃ t p, v = .iface t p)) ∧ 0 < cs.size ∧ ∀ o, o < cs.size → ¬ False := by
  intro n nm d g hm hg ht
  obtain ⟨cs, fuel, p, k1, k2⟩ := laid_block h n _ hm g 210 hg ht
  obtain ⟨_, u, v, e1, _, _⟩ := iface_of_trod Tryz.underlying210 k1
  have hs : cs.size = 1 := by rw [← Array.length_toList, e1]; rfl
  obtain ⟨ty, e2⟩ := k2 (by omega)
  refine ⟨cs, ty, e2, ⟨.iface u v, ?_, Or.inr ⟨u, v, rfl⟩⟩, by omega, fun _ _ h => h⟩
  rw [← Array.getElem?_toList, e1]; rfl
 intro q hq
 have hq : q ∈ gblocks := hq
 unfold gblocks at hq
 rcases List.mem_cons.1 hq with rfl | hq
 ·obtain ⟨cs, fuel, p, k1, k2⟩ := laid_block h "internal/strconv.uint64pow10" _ (List.mem_cons_of_mem _ (List.mem_cons_of_mem _ (List.mem_cons_self ..))) 0 145 (by kernel_rfl) (by kernel_rfl)
  have e1 := Lib.cells_of_tab (k := .u64) (zs := Lib.pow10Tab) Tryz.underlying145 Tryz.underlying116 (by kernel_rfl) (by kernel_rfl) k1
  have e2 : cs = ⟨Lib.pow10Tab.map fun z => Value.int .u64 z⟩ := by rw [← e1]
  have hs : cs.size = 20 := by rw [e2]; rfl
  obtain ⟨ty, e3⟩ := k2 (by omega)
  refine ⟨cs, ty, e3, ?_, by omega, fun _ _ h => h⟩
  show cs = _
  rw [e2]; rfl
 rcases List.mem_cons.1 hq with rfl | hq
 ·exact ifc "strconv.ErrSyntax" _ _ 6 (List.mem_cons_of_mem _ (List.mem_cons_of_mem _ (List.mem_cons_of_mem _ (List.mem_cons_of_mem _ (List.mem_cons_of_mem _ (List.mem_cons_self ..)))))) (by kernel_rfl) (by kernel_rfl)
 rcases List.mem_cons.1 hq with rfl | hq
 ·exact ifc "strconv.ErrRange" _ _ 7 (List.mem_cons_of_mem _ (List.mem_cons_of_mem _ (List.mem_cons_of_mem _ (List.mem_cons_of_mem _ (List.mem_cons_self ..))))) (by kernel_rfl) (by kernel_rfl)
 rcases List.mem_cons.1 hq with rfl | hq
 ·obtain ⟨cs, hh, hs, _⟩ := hsh.1 5 #[.int .i64 0] 3 (of_decide_eq_true (by kernel_rfl)) (by kernel_rfl)
  obtain ⟨m, hm⟩ := Go.Proofs.cell_of_shapedOpen_int (g := 5) (t := 3) (zero := #[.int .i64 0]) (k := .i64) hsh (of_decide_eq_true (by kernel_rfl)) (by kernel_rfl) rfl (by kernel_rfl) (by kernel_rfl) Tryz.underlying3
  simp only [World.cell?, hh] at hm
  exact ⟨cs, 3, hh, ⟨m, hm⟩, by rw [hs]; decide, fun _ _ h => h⟩
 cases hq
end Go.Proofs.YtfkhlbhjhdpkoaaGreatDoor
namespace Go.Proofs.YtfkhlbhjhdpkoaaGreatDoor
open Go.ChangeShapes Go.WideShapes Go.ChangeAt Go.RowKit
structure Opn (t : TypeId) {α : Type} (e : α → D) (b : α → Nat) (ok : α → Prop) : Prop where
 go : ∀ (H : Type) (enc : TypeId × Value → H) (W : World) (hd : Bool) (n : Nat) (cs : List Value) (x : DataW H × List MemPlace),
  DataW.trod enc Tryz.prog W 0 (fun _ => true) hd n t cs = some x → ∃ a, Rn W (fun _ _ => False) (e a).cells cs ∧ b a ≤ Rows.uptoBulk x.1 ∧ ok a
def bkS (l : List UInt8) : Nat := l.length + 1
def bk1 {α : Type} (_ : α) : Nat := 1
def bkL {α : Type} (b : α → Nat) (l : List α) : Nat := (l.map b).sum + 1
def okI (n : Int) : Prop := -9223372036854775808 ≤ n ∧ n ≤ 9223372036854775807
def okT {α : Type} (_ : α) : Prop := True
def okL {α : Type} (ok : α → Prop) (l : List α) : Prop := ∀ a ∈ l, ok a
theorem Opn.str {t : TypeId} (ht : Tryz.prog.underlying t = some .string) : Opn t dS bkS okT := ⟨fun H enc W hd n cs x h => by
 obtain ⟨s, rfl, rfl, _⟩ := DataW.trod_string ht h
 refine ⟨bl s, ?_, ?_, trivial⟩
 ·show Rn _ _ [.v (Proofs.YtfkhlbhjhdpkoaaGreatDoor.str (bl s))] _
  rw [str_bl]
  exact .acons _ _ _ _ (.v _) .anil
 exact Nat.le_refl _⟩
theorem Opn.int {t : TypeId} (ht : Tryz.prog.underlying t = some (.int .i64)) : Opn t dI bk1 okI := ⟨fun H enc W hd n cs x h => by
 obtain ⟨m, rfl, rfl, hw⟩ := DataW.trod_int ht h
 refine ⟨m, ?_, Nat.le_refl _, ?_⟩
 ·exact .acons _ _ _ _ (.v _) .anil
 simpa [okI, Lit.wf, IntKind.min, IntKind.max, IntKind.signed, IntKind.bits] using hw⟩
theorem Opn.bool {t : TypeId} (ht : Tryz.prog.underlying t = some .bool) : Opn t dB bk1 okT := ⟨fun H enc W hd n cs x h => by
 obtain ⟨m, rfl, rfl⟩ := DataW.trod_bool ht h
 exact ⟨m, .acons _ _ _ _ (.v _) .anil, Nat.le_refl _, trivial⟩⟩
theorem addr_plain {w : World} {a : Addr} {x : Value} (j : Nat) (h : w.cell? (a.add j) = some x) : (j = 0 → a.spot = none) ∧ w.cell? ⟨a.block, a.off + j, none⟩ = some x := by
 have hspot : (a.add j).spot = none := by
  cases hsp : (a.add j).spot with
  | none => rfl
  | some s =>
   simp only [World.cell?] at h
   split at h
   ·simp [hsp] at h
   cases h
 unfold Addr.add at hspot h
 by_cases h0 : j = 0
 ·subst h0
  rw [if_pos rfl] at h hspot
  refine ⟨fun _ => hspot, ?_⟩
  cases a
  simp_all
 rw [if_neg h0] at h
 exact ⟨fun h => absurd h h0, h⟩
theorem bulkAll_append {H : Type} : ∀ (l m : List (DataW H)), Rows.uptoBulkAll (l ++ m) = Rows.uptoBulkAll l + Rows.uptoBulkAll m
 | [], m => by simp [Rows.uptoBulkAll]
 | d :: l, m => by simp only [List.cons_append, Rows.uptoBulkAll, bulkAll_append l m]; omega
theorem Opn.slice {t el : TypeId} {α : Type} {e : α → D} {b : α → Nat} {ok : α → Prop} {sz : Nat} (ht : Tryz.prog.underlying t = some (.slice el)) (hz : Tryz.prog.cellsOf el = sz) (h0 : 0 < sz)
  (he : Opn el e b ok) (hc : ∀ a, (e a).cells.length = sz) : Opn t (dL sz e) (bkL b) (okL ok) := ⟨fun H enc W hd n cs x h => by
 rcases DataW.trod_slice ht h with ⟨rfl, rfl⟩ | ⟨a, len, cap, elems, rest, m, _, rfl, rfl, _, hlc, _, hlen, hel, hsp, _⟩
 ·exact ⟨[], .acons _ _ _ _ (.slnil sz none) .anil, Nat.le_refl _, fun _ h => by cases h⟩
 rw [hz] at hel hsp
 obtain ⟨hrl, hr⟩ := hsp rfl
 by_cases hc0 : cap = 0
 ·have hl0 : len = 0 := by omega
  subst hl0; subst hc0
  refine ⟨[], .acons _ _ _ _ (.slnil sz (some a)) .anil, ?_, fun _ h => by cases h⟩
  simp [bkL, Rows.uptoBulk]
 have hspot : a.spot = none := by
  have : ∃ (q : List Value → Option (DataW H × List MemPlace)) (y : DataW H × List MemPlace), (W.cells? 0 (a.add (0 * sz)) sz).bind q = some y := by
   by_cases hl : 0 < len
   ·have := hel 0 hl
    rw [List.getElem?_eq_getElem (by omega)] at this
    exact ⟨_, _, this⟩
   have := hr 0 (by omega)
   rw [List.getElem?_eq_getElem (by omega), show len + 0 = 0 by omega] at this
   exact ⟨_, _, this⟩
  obtain ⟨q, y, hy⟩ := this
  obtain ⟨cs', h1, _⟩ := Option.bind_eq_some_iff.1 hy
  obtain ⟨_, h2, h3⟩ := World.cells?_some h1
  have h4 := h3 0 h0
  rw [List.getElem?_eq_getElem (by omega), Nat.zero_mul, Deep.add_add] at h4
  exact (addr_plain _ h4).1 rfl
 have key : ∀ k, k ≤ len → ∃ (l : List α) (vs : List Value), l.length = k ∧ vs.length = k * sz ∧ Rn W (fun _ _ => False) ((l.map e).flatMap D.cells) vs ∧
   (∀ j y, vs[j]? = some y → W.cell? ⟨a.block, a.off + j, none⟩ = some y) ∧ (l.map b).sum ≤ Rows.uptoBulkAll ((elems.take k).map (·.1)) ∧ ∀ z ∈ l, ok z := by
  intro k
  induction k with
  | zero => exact fun _ => ⟨[], [], rfl, by simp, .anil, fun j y hj => by simp at hj, by simp [Rows.uptoBulkAll], fun _ h => by cases h⟩
  | succ k ih =>
   intro hk
   obtain ⟨l, vs, l1, l2, l3, l4, l5, l6⟩ := ih (by omega)
   have hk' : k < elems.length := by omega
   have h1 := hel k (by omega)
   rw [List.getElem?_eq_getElem hk'] at h1
   obtain ⟨cs', h1, h2⟩ := Option.bind_eq_some_iff.1 h1
   obtain ⟨_, h3, h4⟩ := World.cells?_some h1
   obtain ⟨z, r1, r2, r3⟩ := he.go H enc W hd m cs' _ h2
   refine ⟨l ++ [z], vs ++ cs', by simp [l1], by rw [List.length_append, l2, h3, Nat.add_mul]; omega, ?_, fun j y hj => ?_, ?_, ?_⟩
   ·rw [List.map_append, List.flatMap_append]
    refine l3.append ?_
    simpa using r1
   ·by_cases hjv : j < vs.length
    ·rw [List.getElem?_append_left hjv] at hj
     exact l4 j y hj
    rw [List.getElem?_append_right (by omega)] at hj
    have hj' : j - vs.length < sz := by
     rcases Nat.lt_or_ge (j - vs.length) sz with h | h
     ·exact h
     rw [List.getElem?_eq_none (by omega)] at hj; cases hj
    have := h4 _ hj'
    rw [hj, Deep.add_add] at this
    have := (addr_plain _ this).2
    rwa [show k * sz + (j - vs.length) = j by omega] at this
   ·rw [List.take_add_one, List.getElem?_eq_getElem hk', List.map_append, List.map_append, bulkAll_append, List.sum_append]
    have : Rows.uptoBulkAll ((some elems[k]).toList.map (·.1)) = Rows.uptoBulk elems[k].1 := by simp [Rows.uptoBulkAll]
    rw [this]
    simp only [List.map_cons, List.map_nil, List.sum_cons, List.sum_nil]
    omega
   intro w hw
   rcases List.mem_append.1 hw with hw | hw
   ·exact l6 w hw
   rw [List.mem_singleton] at hw
   exact hw ▸ r3
 obtain ⟨l, vs, l1, l2, l3, l4, l5, l6⟩ := key len (Nat.le_refl _)
 refine ⟨l, ?_, ?_, l6⟩
 ·have := RD.sl (w := W) (S := fun _ _ => False) sz (l.map e) vs a.block a.off cap l3 (fun i y hi => ⟨l4 i y hi, fun h => h⟩) (fun d hd' => by
   obtain ⟨z, _, rfl⟩ := List.mem_map.1 hd'
   exact hc z) (by rw [List.length_map]; omega)
  rw [List.length_map, l1] at this
  have ha : a = ⟨a.block, a.off, none⟩ := by cases a; simp at hspot; subst hspot; rfl
  rw [← ha] at this
  exact .acons _ _ _ _ this .anil
 rw [List.take_of_length_le (by omega)] at l5
 simp only [bkL, Rows.uptoBulk]
 omega⟩
theorem Opn.top {t : TypeId} {α : Type} {e : α → D} {b : α → Nat} {ok : α → Prop} (he : Opn t e b ok) {H : Type} {enc : TypeId × Value → H} {W : World} {v : Value} {d : DataW H} {p : List MemPlace}
  (hv : v.cells = #[v]) (h1 : (fun a => (e a).cells) = fun a => [e a]) (h : DataW.Trod enc Tryz.prog W 0 (fun _ => true) true t v d p) : ∃ a, R1 W (fun _ _ => False) (e a) v ∧ b a ≤ Rows.uptoBulk d ∧ ok a := by
 obtain ⟨n, hn⟩ := h
 rw [hv] at hn
 obtain ⟨a, r1, r2, r3⟩ := he.go H enc W true n _ _ hn
 rw [show (e a).cells = [e a] from congrFun h1 a] at r1
 refine ⟨a, ?_, r2, r3⟩
 cases r1 with | acons _ _ _ _ h1 h2 => exact h1
theorem slice_cells {W : World} {base : Nat} {t el : TypeId} {v : Value} (ht : Tryz.prog.underlying t = some (.slice el)) (hv : Value.okWide Tryz.prog W .any base t v) : v.cells = #[v] := by
 obtain ⟨a, len, cap, rfl⟩ := okWide_slice ht hv
 rfl
theorem stays {H : Type} {enc : TypeId × Value → H} {W W' : World} {t : TypeId} {v : Value} {d : DataW H} {ps : List MemPlace} {sp : Nat → Bool} (hl : laidOutB Tryz.prog = true) (hr : Tryz.prog.readableRec t = true) (hrow : t < Tryz.prog.types.size)
  (h : DataW.Trod enc Tryz.prog W 0 (fun _ => true) true t v d ps) (hg : Grows W W') (hlt : ∀ x ∈ ps, x.block < W.heap.size) (hs : ∀ x ∈ ps, sp x.block = true) :
  DataW.Trod enc Tryz.prog W' 0 sp true t v d ps :=
 WideElems.Trod_stays hl hr hrow h (fun x hx => hg.below.same (hlt x hx)) hs
theorem slice_len {H : Type} {enc : TypeId × Value → H} {W : World} {t el : TypeId} {v : Value} {d : DataW H} {p : List MemPlace} {S : Nat → Nat → Prop} {sz : Nat} {l : List D} (ht : Tryz.prog.underlying t = some (.slice el)) (hv : v.cells = #[v])
  (h : DataW.Trod enc Tryz.prog W 0 (fun _ => true) true t v d p) (hr : R1 W S (.sl sz l) v) : l.length ≤ 9223372036854775807 := by
 obtain ⟨n, hn⟩ := h
 rw [hv] at hn
 rcases DataW.trod_slice ht hn with ⟨h1, _⟩ | ⟨a, len, cap, elems, rest, m, _, h1, _, _, h2, h3, _⟩
 ·obtain rfl : v = .slice none 0 0 := by simpa using h1
  cases hr with | slnil => simp
 obtain rfl : v = .slice (some a) len cap := by simpa using h1
 have h3 : cap ≤ 2 ^ 63 - 1 := h3
 cases hr with
 | slnil => simp
 | sl => omega
end Go.Proofs.YtfkhlbhjhdpkoaaGreatDoor
