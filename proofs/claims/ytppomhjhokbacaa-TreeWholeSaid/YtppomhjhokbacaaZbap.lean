/- count's map: regions walked by hand. -/
import Derived.Test.YtppomhjhokbacaaZbal
import Derived.Test.YtppomhjhokbacaaZbam
import Derived.Test.YtppomhjhokbacaaZban
set_option linter.unusedVariables false
set_option linter.unusedSimpArgs false
namespace Go.Proofs.Ytppomhjhokbacaa
open Go.RowKit Go.Maps
theorem keyI : Keyed Try.prog 3 := int_keyed Try.underlying3
def KMI (L : MI) : OP := OM Try.prog 3 L.length (dMI L)
def iGetD (L : MI) (s : Int) : Int := (iGet L s).getD 0
theorem keyI_of {z : Int} (h : 0 ≤ z ∧ z ≤ 9223372036854775807) : keyOf Try.prog 3 (.int .i64 z) = some (.int .i64 z) := by
  have h1 : (Lit.int .i64 z).wf = true := by simp [Lit.wf, IntKind.min, IntKind.max, IntKind.signed, IntKind.bits]; omega
  simp [keyOf, Try.underlying3, mapKey, h1]
theorem rv_look1 {P : Program} {a : Act} {w : World} {o : Oper} {t k e : TypeId} {x y : Operand} {b n : Nat} {D : DataW Unit} {kl : Lit} {z : Value} {zd : DataW Unit} {zp : List MemPlace} (h : o.op = .lookup t x y false) (K : Keyed P k) (ht : P.underlying t = some (.map k e)) (hz : (zeroValue e).run P w = .ok z w) (hzd : anyE z = some (zd, zp))
    (hown : w.ownsMap P k anyE b n D) (hx : a.eval x = .map (some b)) (hkey : keyOf P k (a.eval y) = some kl) : ∃ v ps, (execOp a.eval o).run P w = .ok (.value v) w ∧ anyE v = some (D.atKey kl zd, ps) := by
  obtain ⟨v, ps, hrun, hv⟩ := hown.lookup K ht hz hzd hkey
  exact ⟨v, ps, by simp [execOp, h, hx, hrun], hv⟩
theorem rv_add1 {P : Program} {a : Act} {w : World} {o : Oper} {x : Operand} {n : Int} {t t' : TypeId} (h : o.op = .binOp .add t x (.const (.int .i64 1)) t') (hx : a.eval x = .int .i64 n) : (execOp a.eval o).run P w = .ok (.value (.int .i64 (IntKind.i64.wrap (n + 1)))) w := by
  have := abin_run P .add t x (.const (.int .i64 1)) (.int .i64 n) (.int .i64 1) w (by simp [abin])
  simp only [execOp, h, hx]
  rw [Sem.run_bind]
  have e : a.eval (.const (.int .i64 1)) = .int .i64 1 := rfl
  rw [e, this]
  simp [abin]
theorem rv_lookI {a : Act} {w : World} {o : Oper} {x y : Operand} {b : Nat} {L : MI} {z : Int} (h : o.op = .lookup 33 x y false) (hown : w.ownsMap Try.prog 3 anyE b L.length (dMI L)) (hx : a.eval x = .map (some b)) (hy : a.eval y = .int .i64 z) (hz : 0 ≤ z ∧ z ≤ 9223372036854775807) :
    (execOp a.eval o).run Try.prog w = .ok (.value (.int .i64 (iGetD L z))) w := by
  obtain ⟨v, ps, y1, y2⟩ := rv_look1 h keyI Try.underlying33 (Try.zeroValue3 _) (zd := .lit (.int .i64 0)) (zp := []) rfl hown hx (kl := .int .i64 z) (by rw [hy]; exact keyI_of hz)
  rw [y1]
  have hv : v = .int .i64 (iGetD L z) := by
    rw [dMI_at] at y2
    rw [iGetD]
    cases hb : iGet L z with
    | none => rw [hb] at y2; exact anyE_int y2
    | some b => rw [hb] at y2; exact anyE_int y2
  rw [hv]
theorem obI {Γ : Ctx} {h : Hp} {e : Env} (hw : WInv Γ h e) {n : Nat} {L : MI} (hn : h.H n = some [.ob (KMI L)]) {v : Value} (h0 : RA e (.c (.mo n)) v) : ∃ b o, e.ρ n = some b ∧ v = .map (some b) ∧ e.w.heap[b]? = some o ∧ e.w.ownsMap Try.prog 3 anyE b L.length (dMI L) ∧ objSz o = 1 := by
  obtain ⟨b, k1, k2⟩ := h0
  obtain ⟨b', o, q1, q2, q3, q4, q5⟩ := hw.obView hn
  rw [k1] at q1; cases q1
  exact ⟨b, o, k1, k2, q2, ownsO_iff.2 ⟨o, q2, q3⟩, ownsO_sz q3⟩
theorem hM_count (L : MI) (z : Int) (hg : 0 ≤ z ∧ z ≤ 9223372036854775807 ∧ L.length < 9223372036854775807) {t : Tab} {σ : Nat → AV} {h : Hp} {Q : APost} {n m : Nat} {c0 c2 : C} {ops : Array Oper}
    (x : Q .normal (fgt [9, 10, 11, 12, 13] σ) { h with H := upd h.H n (some [.ob (KMI ((z, IntKind.i64.wrap (iGetD L z + 1)) :: L))]) })
    (h1 : σ 1 = .c (.mo n) := by (simp -implicitDefEqProofs only [goR, ↓upd_at, goS, ↓reduceIte, reduceCtorEq, seval, Y]; try rfl)) (h2 : σ 2 = .c (.pt m 0) := by (simp -implicitDefEqProofs only [goR, ↓upd_at, goS, ↓reduceIte, reduceCtorEq, seval, Y]; try rfl))
    (hn : h.H n = some [.ob (KMI L)] := by (simp -implicitDefEqProofs only [goR, ↓upd_at, goS, ↓reduceIte, reduceCtorEq, seval, Y]; try rfl)) (hm : h.H m = some [c0, .d (.v (.int .i64 z)), c2] := by (simp -implicitDefEqProofs only [goR, ↓upd_at, goS, ↓reduceIte, reduceCtorEq, seval, Y]; try rfl))
    (hc : c0.isD = true := by rfl) (hP : t.P = Try.prog := by rfl) (hl0 : t.lk.contains 999999 = false := by rfl) (hlk : t.lk.contains 1000025 = true := by rfl) (hops : ops.toList.map shO = [(.move (.tmp 1), some 9, none), (.fieldAddr 27 (.tmp 2) 1, some 10, none), (.load 3 (.tmp 10), some 11, none), (.lookup 33 (.tmp 9) (.tmp 11) false, some 12, none), (.binOp .add 3 (.tmp 12) (.const (.int .i64 1)) 3, some 13, none), (.mapUpdate 33 (.tmp 9) (.tmp 11) (.tmp 13), none, none)] := by rfl) : aC t (.region 2 ops false) σ h Q := by
  refine ⟨σ, h, Wk.refl _ _ _, .inr ⟨_, _, ⟨hl0, fun Γ a e hΓ hnt hs hw => ?_⟩, x⟩⟩
  have hN : Γ.nt = 25 := hnt 25 hlk
  rw [hP]
  have hsz : a.tmps.size = 25 := hs.1.trans hN
  have r1 := hs.2.2 1 (by omega)
  rw [h1] at r1
  obtain ⟨b, ob, k1, k2, k3, k4, k5⟩ := obI hw hn r1
  have k2 : a.eval (.tmp 1) = .map (some b) := k2
  have r2 := hs.2.2 2 (by omega)
  rw [h2] at r2
  obtain ⟨p, p1, p2⟩ := r2
  have p2 : a.eval (.tmp 2) = .pointer (some ⟨p, 0, none⟩) := p2
  obtain ⟨p', cs, ty, p3, p4, p5, _⟩ := hw.boxAt p1 _ hm (by cases c0 <;> first | rfl | cases hc)
  rw [p1] at p3; cases p3
  have p6 := p5.plain (by cases c0 <;> first | rfl | cases hc)
  have hcell : e.w.cell? ⟨p, 0 + tOff Try.prog 27 1, none⟩ = some (.int .i64 z) := by
    rw [tOff_27_1]
    rcases cs with ⟨l⟩
    simp only at p6
    rcases l with _ | ⟨v0, l⟩
    · simp [RCs] at p6
    rcases l with _ | ⟨v1, l⟩
    · simp [RCs] at p6
    simp only [RCs] at p6
    have p7 : v1 = .int .i64 z := R1.vInv p6.2.1
    subst p7
    simp [World.cell?, p4]
  refine wp_region_list ?_
  generalize ops.toList = l at hops ⊢
  change wpList _ _ _ l (putAll a []) _
  obtain ⟨o, l, rfl, e1, e2, e3, hops⟩ := lineS hops
  refine line_step e3 e2 (rv_move e1 ((ev_put hsz rfl).trans k2)) ?_
  obtain ⟨o, l, rfl, e1, e2, e3, hops⟩ := lineS hops
  refine line_step e3 e2 (rv_field e1 tStruct_27_1 ((ev_put hsz rfl).trans p2)) ?_
  obtain ⟨o, l, rfl, e1, e2, e3, hops⟩ := lineS hops
  refine line_step e3 e2 (rv_load e1 tKnown_3 tAgg_3 (ev_put hsz rfl) hcell) ?_
  obtain ⟨o, l, rfl, e1, e2, e3, hops⟩ := lineS hops
  refine line_step e3 e2 (rv_lookI e1 k4 (ev_put hsz rfl) (ev_put hsz rfl) ⟨hg.1, hg.2.1⟩) ?_
  obtain ⟨o, l, rfl, e1, e2, e3, hops⟩ := lineS hops
  refine line_step e3 e2 (rv_add1 e1 (ev_put hsz rfl)) ?_
  obtain ⟨o, l, rfl, e1, e2, e3, hops⟩ := lineS hops
  change wpList _ _ _ _ (putAll a [(13, .int .i64 (IntKind.i64.wrap (iGetD L z + 1))), (12, .int .i64 (iGetD L z)), (11, .int .i64 z), (10, .pointer (some ⟨p, 0 + tOff Try.prog 27 1, none⟩)), (9, .map (some b))]) _
  have E : ∀ i, (putAll a [(13, .int .i64 (IntKind.i64.wrap (iGetD L z + 1))), (12, .int .i64 (iGetD L z)), (11, .int .i64 z), (10, .pointer (some ⟨p, 0 + tOff Try.prog 27 1, none⟩)), (9, .map (some b))]).eval (.tmp i) = (lkv [(13, .int .i64 (IntKind.i64.wrap (iGetD L z + 1))), (12, .int .i64 (iGetD L z)), (11, .int .i64 z), (10, .pointer (some ⟨p, 0 + tOff Try.prog 27 1, none⟩)), (9, .map (some b))] i).getD (a.eval (.tmp i)) := fun i => ev_put hsz rfl
  obtain ⟨w', q1, q2, q3⟩ := rv_upd (w := e.w) e1 keyI Try.underlying33 (n := L.length) (by unfold maxLen; exact hg.2.2) k4 (E 9) (kl := .int .i64 z) (by rw [show (putAll a [(13, .int .i64 (IntKind.i64.wrap (iGetD L z + 1))), (12, .int .i64 (iGetD L z)), (11, .int .i64 z), (10, .pointer (some ⟨p, 0 + tOff Try.prog 27 1, none⟩)), (9, .map (some b))]).eval (.tmp 11) = .int .i64 z from (E 11)]; exact keyI_of ⟨hg.1, hg.2.1⟩) (d := .lit (.int .i64 (IntKind.i64.wrap (iGetD L z + 1)))) (ps := []) (by rw [show (putAll a [(13, .int .i64 (IntKind.i64.wrap (iGetD L z + 1))), (12, .int .i64 (iGetD L z)), (11, .int .i64 z), (10, .pointer (some ⟨p, 0 + tOff Try.prog 27 1, none⟩)), (9, .map (some b))]).eval (.tmp 13) = _ from (E 13)]; rfl)
  refine line_skip e3 e2 q1 ?_
  obtain rfl := List.map_eq_nil_iff.1 hops
  obtain ⟨o', b1, b2⟩ := ownsO_iff.1 q2
  obtain ⟨w1, l1⟩ := hw.obSet (KMI ((z, IntKind.i64.wrap (iGetD L z + 1)) :: L)) hn k1 k3 b1 b2 (by rw [k5, ownsO_sz b2]; exact Nat.le_refl _) q3.os q3.tape q3.output q3.size (fun j hj hjb => q3.block j hj (by simpa using hjb))
  exact ⟨rfl, _, rfl, slots_fgt hs l1 _ [9, 10, 11, 12, 13] (fun i hi => by simp at hi ⊢; omega) (by rw [hN]; rfl), w1⟩
theorem hM_make {t : Tab} {σ : Nat → AV} {h : Hp} {Q : APost} {ops : Array Oper}
    (x : Q .normal (upd (upd (fgt [27, 6] σ) 27 (.c (.mo h.nx))) 6 (.c (.mo h.nx))) (h.box [.ob (KMI [])]))
    (hP : t.P = Try.prog := by rfl) (hl0 : t.lk.contains 999999 = false := by rfl) (hlk : t.lk.contains 1000086 = true := by rfl) (hops : ops.toList.map shO = [(.makeMap 33 none, some 27, none), (.assign (.tmp 27), some 6, none)] := by rfl) : aC t (.region 7 ops false) σ h Q := by
  refine ⟨σ, h, Wk.refl _ _ _, .inr ⟨_, _, ⟨hl0, fun Γ a e hΓ hnt hs hw => ?_⟩, x⟩⟩
  have hN : Γ.nt = 86 := hnt 86 hlk
  rw [hP]
  have hsz : a.tmps.size = 86 := hs.1.trans hN
  refine wp_region_list ?_
  generalize ops.toList = l at hops ⊢
  change wpList _ _ _ l (putAll a []) _
  obtain ⟨o, l, rfl, e1, e2, e3, hops⟩ := lineS hops
  refine line_step e3 e2 (rv_make e1) ?_
  obtain ⟨o, l, rfl, e1, e2, e3, hops⟩ := lineS hops
  refine line_step e3 e2 (rv_assign e1 (ev_put hsz rfl)) ?_
  obtain rfl := List.map_eq_nil_iff.1 hops
  obtain ⟨e', z1, z2, z3, z4⟩ := hw.obNew (o := .map #[] 0) (Φ := KMI []) (by
    obtain ⟨o, b1, b2⟩ := ownsO_iff.1 (World.ownsMap_made (H := Unit) e.w Try.prog 3 anyE)
    rw [heap_alloc_new] at b1; cases b1
    exact b2)
  refine ⟨rfl, e', z1, slots_out (slots_out (slots_fgt hs z3 _ [27, 6] (fun i hi => by simp at hi ⊢; omega) (by rw [hN]; rfl)) (by rw [hN]; decide) ?_) (by rw [hN]; decide) ?_, z2⟩
  · rw [ev_put hsz rfl]; exact ⟨_, z4, rfl⟩
  · rw [ev_put hsz rfl]; exact ⟨_, z4, rfl⟩
def boolV : Value → Option Bool
  | .bool b => some b
  | _ => none
theorem yld {ops : Array Oper} {a : Act} {j s : Nat} (hj : (ops[j]?).bind (·.dst) = some s) {v : Value} (hv : a.eval (.tmp s) = v) : yielded ops a.tmps j = boolV v := by
  subst hv
  unfold yielded
  rw [hj]
  simp only [Option.bind_some, Act.eval, Array.getD_eq_getD_getElem?]
  cases h : a.tmps[s]? with
  | none => rfl
  | some v => cases v <;> rfl
theorem dst_at {ops : Array Oper} {S : List (Op × Option Tmp × Option (Nat × Bool))} (h : ops.toList.map shO = S) {j d : Nat} (hS : (S[j]?).bind (·.2.1) = some d) : (ops[j]?).bind (·.dst) = some d := by
  subst h
  rw [List.getElem?_map, Array.getElem?_toList] at hS
  cases h : ops[j]? with
  | none => rw [h] at hS; cases hS
  | some o => rw [h] at hS; exact hS
section
variable {P : Program} {a : Act} {w : World} {o : Oper}
theorem line_gstep {ops : Array Oper} {Q : Exit → Act → World → Prop} {rest : List Oper} {M : List (Nat × Value)} {d j s : Nat} {want : Bool} {v : Value} {w' : World} (hg : o.guard = some (j, want)) (hj : (ops[j]?).bind (·.dst) = some s) (hv : (putAll a M).eval (.tmp s) = .bool want) (hd : o.dst = some d) (hrun : (execOp (putAll a M).eval o).run P w = .ok (.value v) w')
    (h : wpList P ops Q rest (putAll a ((d, v) :: M)) w') : wpList P ops Q (o :: rest) (putAll a M) w :=
  wpList_step fun _ hK => by
    have : Region.wanted o (yielded ops (putAll a M).tmps) = true := by rw [Region.wanted, hg]; simp [yld hj hv, boolV]
    rw [if_pos this]
    exact wp_of_run hrun (hK _ _ (by rw [hd]; exact h))
theorem line_gskip {ops : Array Oper} {Q : Exit → Act → World → Prop} {rest : List Oper} {M : List (Nat × Value)} {d j s : Nat} {want : Bool} {v : Value} (hg : o.guard = some (j, want)) (hj : (ops[j]?).bind (·.dst) = some s) (hv : (putAll a M).eval (.tmp s) = v) (hne : v ≠ .bool want) (hd : o.dst = some d)
    (h : wpList P ops Q rest (putAll a ((d, undef) :: M)) w) : wpList P ops Q (o :: rest) (putAll a M) w :=
  wpList_step fun _ hK => by
    have : ¬ Region.wanted o (yielded ops (putAll a M).tmps) = true := by
      rw [Region.wanted, hg]; simp only [yld hj hv]
      cases v <;> simp_all [boolV]
    rw [if_neg this]
    exact hK _ _ (by rw [hd]; exact h)
theorem rv_gtr1 {x : Operand} {n : Int} {t t' : TypeId} (h : o.op = .binOp .gtr t x (.const (.int .i64 1)) t') (hx : a.eval x = .int .i64 n) : (execOp a.eval o).run P w = .ok (.value (.bool (decide (1 < n)))) w := by
  have := abin_run P .gtr t x (.const (.int .i64 1)) (.int .i64 n) (.int .i64 1) w (by simp [abin])
  simp only [execOp, h, hx]
  rw [Sem.run_bind]
  have e : a.eval (.const (.int .i64 1)) = .int .i64 1 := rfl
  rw [e, this]
  simp [abin, ltI]
theorem rv_neq1 {x : Operand} {n : Int} {t t' : TypeId} (h : o.op = .binOp .neq t x (.const (.int .i64 1)) t') (hx : a.eval x = .int .i64 n) : (execOp a.eval o).run P w = .ok (.value (.bool (!decide (n = 1)))) w := by
  have := abin_run P .neq t x (.const (.int .i64 1)) (.int .i64 n) (.int .i64 1) w (by simp [abin])
  simp only [execOp, h, hx]
  rw [Sem.run_bind]
  have e : a.eval (.const (.int .i64 1)) = .int .i64 1 := rfl
  rw [e, this]
  simp [abin, eqI]
theorem rv_pick {c x y : Operand} {b : Bool} {v : Value} (h : o.op = .pick c x y) (hc : a.eval c = .bool b) (hv : a.eval (if b then x else y) = v) : (execOp a.eval o).run P w = .ok (.value v) w := by
  cases b <;> simp_all [execOp, asBool]
end
def mBad (L : MI) (i : Int) (want : Bool) : Bool := decide (1 < iGetD L i) || (want && !decide (iGetD L i = 1))
theorem hM_bad (L : MI) (i : Int) (want : Bool) (hg : 0 ≤ i ∧ i ≤ 9223372036854775807) {t : Tab} {σ : Nat → AV} {h : Hp} {Q : APost} {n : Nat} {ops : Array Oper}
    (x : Q .normal (upd (fgt [62, 63, 64, 65, 66, 67, 68, 69, 70, 71, 72, 73, 74] σ) 74 (.c (.d (.v (.bool (mBad L i want)))))) h)
    (h6 : σ 6 = .c (.mo n) := by (simp -implicitDefEqProofs only [goR, ↓upd_at, goS, ↓reduceIte, reduceCtorEq, seval, Y]; try rfl)) (h7 : σ 7 = .c (.d (.v (.int .i64 i))) := by (simp -implicitDefEqProofs only [goR, ↓upd_at, goS, ↓reduceIte, reduceCtorEq, seval, Y]; try rfl)) (h9 : σ 9 = .c (.d (.v (.bool want))) := by (simp -implicitDefEqProofs only [goR, ↓upd_at, goS, ↓reduceIte, reduceCtorEq, seval, Y]; try rfl))
    (hn : h.H n = some [.ob (KMI L)] := by (simp -implicitDefEqProofs only [goR, ↓upd_at, goS, ↓reduceIte, reduceCtorEq, seval, Y]; try rfl))
    (hP : t.P = Try.prog := by rfl) (hl0 : t.lk.contains 999999 = false := by rfl) (hlk : t.lk.contains 1000086 = true := by rfl) (hops : ops.toList.map shO = [(.move (.tmp 6), some 62, none), (.move (.tmp 7), some 63, none), (.lookup 33 (.tmp 62) (.tmp 63) false, some 64, none), (.binOp .gtr 3 (.tmp 64) (.const (.int .i64 1)) 3, some 65, none), (.move (.tmp 65), some 66, none), (.move (.tmp 9), some 67, some (4, false)), (.move (.tmp 67), some 68, some (4, false)), (.move (.tmp 6), some 69, some (6, true)), (.move (.tmp 7), some 70, some (6, true)), (.lookup 33 (.tmp 69) (.tmp 70) false, some 71, some (6, true)), (.binOp .neq 3 (.tmp 71) (.const (.int .i64 1)) 3, some 72, some (6, true)), (.pick (.tmp 68) (.tmp 72) (.const (.bool false)), some 73, some (4, false)), (.pick (.tmp 66) (.const (.bool true)) (.tmp 73), some 74, none)] := by rfl) : aC t (.region 13 ops false) σ h Q := by
  refine ⟨σ, h, Wk.refl _ _ _, .inr ⟨_, _, ⟨hl0, fun Γ a e hΓ hnt hs hw => ?_⟩, x⟩⟩
  have hN : Γ.nt = 86 := hnt 86 hlk
  rw [hP]
  have hsz : a.tmps.size = 86 := hs.1.trans hN
  have r6 := hs.2.2 6 (by omega)
  rw [h6] at r6
  obtain ⟨b, ob, k1, k2, k3, k4, k5⟩ := obI hw hn r6
  have k2 : a.eval (.tmp 6) = .map (some b) := k2
  have r7 := hs.2.2 7 (by omega)
  rw [h7] at r7
  have r7 : a.eval (.tmp 7) = .int .i64 i := R1.vInv r7
  have r9 := hs.2.2 9 (by omega)
  rw [h9] at r9
  have r9 : a.eval (.tmp 9) = .bool want := R1.vInv r9
  have J4 : (ops[4]?).bind (·.dst) = some 66 := dst_at hops rfl
  have J6 : (ops[6]?).bind (·.dst) = some 68 := dst_at hops rfl
  refine wp_region_list ?_
  generalize ops.toList = l at hops ⊢
  change wpList _ _ _ l (putAll a []) _
  obtain ⟨o, l, rfl, e1, e2, e3, hops⟩ := lineS hops
  refine line_step e3 e2 (rv_move e1 ((ev_put hsz rfl).trans k2)) ?_
  obtain ⟨o, l, rfl, e1, e2, e3, hops⟩ := lineS hops
  refine line_step e3 e2 (rv_move e1 ((ev_put hsz rfl).trans r7)) ?_
  obtain ⟨o, l, rfl, e1, e2, e3, hops⟩ := lineS hops
  refine line_step e3 e2 (rv_lookI e1 k4 (ev_put hsz rfl) (ev_put hsz rfl) hg) ?_
  obtain ⟨o, l, rfl, e1, e2, e3, hops⟩ := lineS hops
  refine line_step e3 e2 (rv_gtr1 e1 (ev_put hsz rfl)) ?_
  obtain ⟨o, l, rfl, e1, e2, e3, hops⟩ := lineS hops
  refine line_step e3 e2 (rv_move e1 (ev_put hsz rfl)) ?_
  rw [mBad]
  generalize hp : decide (1 < iGetD L i) = p
  cases p
  · cases want
    · skip
      obtain ⟨o, l, rfl, e1, e2, e3, hops⟩ := lineS hops
      refine line_gstep e3 J4 ((ev_put hsz rfl).trans rfl) e2 (rv_move e1 ((ev_put hsz rfl).trans r9)) ?_
      obtain ⟨o, l, rfl, e1, e2, e3, hops⟩ := lineS hops
      refine line_gstep e3 J4 ((ev_put hsz rfl).trans rfl) e2 (rv_move e1 (ev_put hsz rfl)) ?_
      obtain ⟨o, l, rfl, e1, e2, e3, hops⟩ := lineS hops
      refine line_gskip (v := .bool false) e3 J6 ((ev_put hsz rfl).trans rfl) (by simp) e2 ?_
      obtain ⟨o, l, rfl, e1, e2, e3, hops⟩ := lineS hops
      refine line_gskip (v := .bool false) e3 J6 ((ev_put hsz rfl).trans rfl) (by simp) e2 ?_
      obtain ⟨o, l, rfl, e1, e2, e3, hops⟩ := lineS hops
      refine line_gskip (v := .bool false) e3 J6 ((ev_put hsz rfl).trans rfl) (by simp) e2 ?_
      obtain ⟨o, l, rfl, e1, e2, e3, hops⟩ := lineS hops
      refine line_gskip (v := .bool false) e3 J6 ((ev_put hsz rfl).trans rfl) (by simp) e2 ?_
      obtain ⟨o, l, rfl, e1, e2, e3, hops⟩ := lineS hops
      refine line_gstep e3 J4 ((ev_put hsz rfl).trans rfl) e2 (rv_pick e1 (b := false) ((ev_put hsz rfl).trans rfl) rfl) ?_
      obtain ⟨o, l, rfl, e1, e2, e3, hops⟩ := lineS hops
      refine line_step e3 e2 (rv_pick e1 (b := false) ((ev_put hsz rfl).trans rfl) (ev_put hsz rfl)) ?_
      obtain rfl := List.map_eq_nil_iff.1 hops
      refine ⟨rfl, e, rfl, slots_out (slots_fgt hs (Env.le.refl _) _ [62, 63, 64, 65, 66, 67, 68, 69, 70, 71, 72, 73, 74] (fun i hi => by simp at hi ⊢; omega) (by rw [hN]; rfl)) (by omega) ?_, hw⟩
      rw [ev_put hsz rfl]
      simp only [hp, Bool.false_or, Bool.false_and]; exact .v _
    · skip
      obtain ⟨o, l, rfl, e1, e2, e3, hops⟩ := lineS hops
      refine line_gstep e3 J4 ((ev_put hsz rfl).trans rfl) e2 (rv_move e1 ((ev_put hsz rfl).trans r9)) ?_
      obtain ⟨o, l, rfl, e1, e2, e3, hops⟩ := lineS hops
      refine line_gstep e3 J4 ((ev_put hsz rfl).trans rfl) e2 (rv_move e1 (ev_put hsz rfl)) ?_
      obtain ⟨o, l, rfl, e1, e2, e3, hops⟩ := lineS hops
      refine line_gstep e3 J6 ((ev_put hsz rfl).trans rfl) e2 (rv_move e1 ((ev_put hsz rfl).trans k2)) ?_
      obtain ⟨o, l, rfl, e1, e2, e3, hops⟩ := lineS hops
      refine line_gstep e3 J6 ((ev_put hsz rfl).trans rfl) e2 (rv_move e1 ((ev_put hsz rfl).trans r7)) ?_
      obtain ⟨o, l, rfl, e1, e2, e3, hops⟩ := lineS hops
      refine line_gstep e3 J6 ((ev_put hsz rfl).trans rfl) e2 (rv_lookI e1 k4 (ev_put hsz rfl) (ev_put hsz rfl) hg) ?_
      obtain ⟨o, l, rfl, e1, e2, e3, hops⟩ := lineS hops
      refine line_gstep e3 J6 ((ev_put hsz rfl).trans rfl) e2 (rv_neq1 e1 (ev_put hsz rfl)) ?_
      obtain ⟨o, l, rfl, e1, e2, e3, hops⟩ := lineS hops
      refine line_gstep e3 J4 ((ev_put hsz rfl).trans rfl) e2 (rv_pick e1 (b := true) ((ev_put hsz rfl).trans rfl) (ev_put hsz rfl)) ?_
      obtain ⟨o, l, rfl, e1, e2, e3, hops⟩ := lineS hops
      refine line_step e3 e2 (rv_pick e1 (b := false) ((ev_put hsz rfl).trans rfl) (ev_put hsz rfl)) ?_
      obtain rfl := List.map_eq_nil_iff.1 hops
      refine ⟨rfl, e, rfl, slots_out (slots_fgt hs (Env.le.refl _) _ [62, 63, 64, 65, 66, 67, 68, 69, 70, 71, 72, 73, 74] (fun i hi => by simp at hi ⊢; omega) (by rw [hN]; rfl)) (by omega) ?_, hw⟩
      rw [ev_put hsz rfl]
      simp only [hp, Bool.false_or, Bool.true_and]; exact .v _
  · skip
    obtain ⟨o, l, rfl, e1, e2, e3, hops⟩ := lineS hops
    refine line_gskip (v := .bool true) e3 J4 ((ev_put hsz rfl).trans rfl) (by simp) e2 ?_
    obtain ⟨o, l, rfl, e1, e2, e3, hops⟩ := lineS hops
    refine line_gskip (v := .bool true) e3 J4 ((ev_put hsz rfl).trans rfl) (by simp) e2 ?_
    obtain ⟨o, l, rfl, e1, e2, e3, hops⟩ := lineS hops
    refine line_gskip (v := undef) e3 J6 ((ev_put hsz rfl).trans rfl) (by simp [undef]) e2 ?_
    obtain ⟨o, l, rfl, e1, e2, e3, hops⟩ := lineS hops
    refine line_gskip (v := undef) e3 J6 ((ev_put hsz rfl).trans rfl) (by simp [undef]) e2 ?_
    obtain ⟨o, l, rfl, e1, e2, e3, hops⟩ := lineS hops
    refine line_gskip (v := undef) e3 J6 ((ev_put hsz rfl).trans rfl) (by simp [undef]) e2 ?_
    obtain ⟨o, l, rfl, e1, e2, e3, hops⟩ := lineS hops
    refine line_gskip (v := undef) e3 J6 ((ev_put hsz rfl).trans rfl) (by simp [undef]) e2 ?_
    obtain ⟨o, l, rfl, e1, e2, e3, hops⟩ := lineS hops
    refine line_gskip (v := .bool true) e3 J4 ((ev_put hsz rfl).trans rfl) (by simp) e2 ?_
    obtain ⟨o, l, rfl, e1, e2, e3, hops⟩ := lineS hops
    refine line_step e3 e2 (rv_pick e1 (b := true) ((ev_put hsz rfl).trans rfl) rfl) ?_
    obtain rfl := List.map_eq_nil_iff.1 hops
    refine ⟨rfl, e, rfl, slots_out (slots_fgt hs (Env.le.refl _) _ [62, 63, 64, 65, 66, 67, 68, 69, 70, 71, 72, 73, 74] (fun i hi => by simp at hi ⊢; omega) (by rw [hN]; rfl)) (by omega) ?_, hw⟩
    rw [ev_put hsz rfl]
    simp only [hp, Bool.true_or]; exact .v _
end Go.Proofs.Ytppomhjhokbacaa
