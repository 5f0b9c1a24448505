/- The range over count's map, walked by hand. -/
import Derived.Test.YtppomhjhokbacaaZbap
import Derived.Maps.Range
set_option linter.unusedVariables false
set_option linter.unusedSimpArgs false
namespace Go.Proofs.Ytppomhjhokbacaa
open Go.RowKit Go.Maps
def keysLt (L : MI) (n : Nat) : Bool := L.all fun p => decide (p.1 < n)
theorem iGet_mem {s : Int} : ∀ {L : MI}, (iGet L s).isSome = true → ∃ v, (s, v) ∈ L
  | (k, v) :: r, h => by
    by_cases e : s = k
    · subst e; exact ⟨v, List.mem_cons_self⟩
    · rw [iGet, if_neg e] at h
      obtain ⟨v', h'⟩ := iGet_mem h
      exact ⟨v', List.mem_cons_of_mem _ h'⟩
theorem mem_iGet {s v : Int} : ∀ {L : MI}, (s, v) ∈ L → (iGet L s).isSome = true
  | (k, w) :: r, h => by
    by_cases e : s = k
    · subst e; rw [iGet, if_pos rfl]; rfl
    · rw [iGet, if_neg e]
      rcases List.mem_cons.1 h with h | h
      · cases h; exact absurd rfl e
      · exact mem_iGet h
theorem fgt_fgt (l : List Nat) (σ : Nat → AV) : fgt l (fgt l σ) = fgt l σ := by
  funext i
  by_cases h : i ∈ l
  · rw [fgt_in _ _ _ h, fgt_in _ _ _ h]
  · rw [fgt_ds _ _ _ h]
theorem keyI_inv {v : Value} {kl : Lit} (h : keyOf Try.prog 3 v = some kl) : ∃ z, v = .int .i64 z ∧ kl = .int .i64 z := by
  simp [keyOf, Try.underlying3] at h
  cases v <;> simp [mapKey, Try.underlying3] at h
  obtain ⟨⟨rfl, _⟩, rfl⟩ := h
  exact ⟨_, rfl, rfl⟩
section
variable {P : Program} {a : Act} {w : World} {o : Oper}
theorem rv_geq {x y : Operand} {n m : Int} {t t' : TypeId} (h : o.op = .binOp .geq t x y t') (hx : a.eval x = .int .i64 n) (hy : a.eval y = .int .i64 m) : (execOp a.eval o).run P w = .ok (.value (.bool (decide (m ≤ n)))) w := by
  have := abin_run P .geq t x y (.int .i64 n) (.int .i64 m) w (by simp [abin])
  simp only [execOp, h, hx, hy]
  rw [Sem.run_bind]
  rw [this]
  simp [abin, leI]
theorem rv_range {t : TypeId} {x : Operand} {v v' : Value} {w' : World} (h : o.op = .range t x) (hx : a.eval x = v') (hr : (Instr.range t v').run P w = .ok v w') : (execOp a.eval o).run P w = .ok (.value v) w' := by
  simp [execOp, h, hx, hr]
theorem rv_next {x : Operand} {q : Bool} {v v' : Value} {w' : World} (h : o.op = .next x q) (hx : a.eval x = v') (hr : (Instr.next v' q o.type).run P w = .ok v w') : (execOp a.eval o).run P w = .ok (.value v) w' := by
  simp [execOp, h, hx, hr]
theorem rv_entry {x : Operand} {v v' : Value} {w' : World} (h : o.op = .entry x) (hx : a.eval x = v') (hr : (Instr.entry v').run P w = .ok v w') : (execOp a.eval o).run P w = .ok (.value v) w' := by
  simp [execOp, h, hx, hr]
end
abbrev LS : List Nat := [76, 77, 78, 79, 80, 81, 10, 82, 83, 84, 85, 2]
set_option maxHeartbeats 800000 in
theorem hS (L : MI) (xs : List D) {t : Tab} {σ : Nat → AV} {h : Hp} {Q : APost} {n : Nat} {o16 o17 o18 o19 o20 : Array Oper}
    (xT : keysLt L xs.length = true → Q .normal (fgt LS σ) h) (xF : keysLt L xs.length = false → Q .ret (upd (fgt LS σ) 2 (.c (.d (.v (.bool false))))) h)
    (h6 : σ 6 = .c (.mo n)) (h3 : σ 3 = .c (.d (.sl 11 xs))) (hn : h.H n = some [.ob (KMI L)])
    (hP : t.P = Try.prog) (hl0 : t.lk.contains 999999 = false) (hlk : t.lk.contains 1000086 = true)
    (hops16 : o16.toList.map shO = [(.move (.tmp 6), some 76, none), (.range 33 (.tmp 76), some 77, none)])
    (hops17 : o17.toList.map shO = [(.next (.tmp 77) false, some 78, none), (.extract (.tmp 78) 0, some 79, none)])
    (hops18 : o18.toList.map shO = [(.entry (.tmp 77), some 80, none), (.extract (.tmp 80) 0, some 81, none), (.assign (.tmp 81), some 10, none)])
    (hops19 : o19.toList.map shO = [(.move (.tmp 10), some 82, none), (.move (.tmp 3), some 83, none), (.call { callee := .builtin .len, args := #[.tmp 83], argTypes := #[23] }, some 84, none), (.binOp .geq 3 (.tmp 82) (.tmp 84) 3, some 85, none)])
    (hops20 : o20.toList.map shO = [(.assign (.const (.bool false)), some 2, none)]) :
    SemC t (.seq (.region 16 o16 false) (.block 2 (.loop (.seq (.region 17 o17 false) (.seq (.cond (.tmp 79) .skip (.exit 2)) (.block 3 (.seq (.region 18 o18 false) (.seq (.region 19 o19 false) (.cond (.tmp 85) (.seq (.region 20 o20 false) .ret) .skip))))))))) σ h Q := by
  refine ⟨hl0, fun Γ pure a e _ hΓ _ _ _ _ hc hs hw => ?_⟩
  have hN : Γ.nt = 86 := codeOk_nt (id := 0) (.inl rfl) hc hlk
  rw [← hΓ, hP]
  have hsz : a.tmps.size = 86 := hs.1.trans hN
  have r6 := hs.2.2 6 (by omega)
  rw [h6] at r6
  obtain ⟨b, ob, k1, k2, k3, k4, k5⟩ := obI hw hn r6
  have k2 : a.eval (.tmp 6) = .map (some b) := k2
  have r3 := hs.2.2 3 (by omega)
  rw [h3] at r3
  have r3 : ∃ q c, a.eval (.tmp 3) = .slice q xs.length c := by
    have r3 : R1 e.w e.S (.sl 11 xs) (a.eval (.tmp 3)) := r3
    rcases r3.slInv with ⟨rfl, o, r4⟩ | ⟨vs, b, of, cap, r4, _⟩
    · exact ⟨_, _, r4⟩
    · exact ⟨_, _, r4⟩
  obtain ⟨q, c, r3⟩ := r3
  obtain ⟨w1, g1, g2, g3, g4⟩ := k4.range keyI Try.underlying33
  have blt : b < e.w.heap.size := k4.lt
  have gr1 : Grows e.w w1 := ⟨g3.os, g3.tape, g3.output, g3.size, fun k hk => g3.block k hk (by simp)⟩
  -- the end of it
  have fin : ∀ (σ' : Nat → AV) (a' : Act) (w' : World), Grows e.w w' → SlotsOk Γ.nt Γ.ds (fgt LS σ) a' e → ∃ e', e'.w = w' ∧ SlotsOk Γ.nt Γ.ds (fgt LS σ) a' e' ∧ WInv Γ h e' := fun σ' a' w' hg hs' => by
    obtain ⟨w2, l2⟩ := hw.grows (S' := fun b o => e.S b o ∨ (e.w.heap.size ≤ b ∧ b < w'.heap.size)) hg (fun b o hb => ⟨fun h => h.resolve_right (by omega), .inl⟩) (fun b o hb => hb.elim (fun hb => Nat.lt_of_lt_of_le (hw.sdom b o hb) hg.size) (fun hb => hb.2))
    have := slots_fgt hs' l2 [] LS (by simp) (by rw [hN]; rfl)
    rw [fgt_fgt] at this
    exact ⟨_, rfl, this, w2⟩
  refine wp_seq ?_
  refine wp_region_list ?_
  generalize o16.toList = l at hops16 ⊢
  change wpList _ _ _ l (putAll a []) _
  obtain ⟨o, l, rfl, e1, e2, e3, hops⟩ := lineS hops16
  refine line_step e3 e2 (rv_move e1 ((ev_put hsz rfl).trans k2)) ?_
  obtain ⟨o, l, rfl, e1, e2, e3, hops⟩ := lineS hops
  refine line_step e3 e2 (rv_range e1 (ev_put hsz rfl) g1) ?_
  obtain rfl := List.map_eq_nil_iff.1 hops
  refine wp_block ?_
  refine wp_loop (fun a' w' => a'.tmps.size = 86 ∧ SlotsOk Γ.nt Γ.ds (fgt LS σ) a' e ∧ Grows e.w w' ∧ a'.eval (.tmp 77) = .pointer (some ⟨e.w.heap.size, 0, none⟩) ∧ a'.eval (.tmp 3) = .slice q xs.length c ∧
    ∃ left cnt, w'.ranges Try.prog 3 anyE b e.w.heap.size L.length (dMI L) left cnt ∧ (∀ x, left x = true → has (dMI L) x = true) ∧ ∀ z : Int, has (dMI L) (.int .i64 z) = true → left (.int .i64 z) = true ∨ z < xs.length) (fun _ w' => w'.rangeLeft b e.w.heap.size)
    ⟨(putAll_size _ _).trans hsz, slots_fgt hs (Env.le.refl _) _ LS (fun i hi => by simp at hi ⊢; omega) (by rw [hN]; rfl), gr1, (ev_put hsz rfl), (ev_put hsz rfl).trans r3, _, _, g2, fun _ h => h, fun z h => .inl h⟩ ?_
  rintro a1 w' ⟨i1, i2, i3, i4, i5, left, cnt, i6, i7, i8⟩
  refine wp_seq ?_
  refine wp_region_list ?_
  generalize o17.toList = l at hops17 ⊢
  change wpList _ _ _ l (putAll a1 []) _
  obtain ⟨o, l, rfl, e1, e2, e3, hops⟩ := lineS hops17
  have SE : ∀ M : List (Nat × Value), (∀ i, i ∈ M.map Prod.fst → i ∈ LS) → SlotsOk Γ.nt Γ.ds (fgt LS σ) (putAll a1 M) e := fun M hM => by
    have := slots_fgt i2 (Env.le.refl _) M LS hM (by rw [hN]; rfl)
    rw [fgt_fgt] at this
    exact this
  rcases i6.next keyI o.type with ⟨_, j2, j3⟩ | ⟨key, v, kl, y, w2, cnt', j1, j2, j3, j4, j5, j6, j7, j8, j9, j10⟩
  · refine line_step e3 e2 (rv_next e1 ((ev_put i1 rfl).trans i4) j3) ?_
    obtain ⟨o, l, rfl, e1, e2, e3, hops⟩ := lineS hops
    refine line_step e3 e2 (rv_extract e1 (ev_put i1 rfl) rfl) ?_
    obtain rfl := List.map_eq_nil_iff.1 hops
    refine wp_seq (wp_cond_false (ev_put i1 rfl) (wp_exit ?_))
    obtain ⟨e', f1, f2, f3⟩ := fin σ _ _ i3 (SE [(79, .bool false), (78, .tuple #[.bool false])] (fun i hi => by simp at hi ⊢; omega))
    refine ⟨_, _, e', xT ?_, f1, f2, f3⟩
    refine List.all_eq_true.2 fun p hp => ?_
    have := i8 p.1 (by rw [dMI_has]; exact mem_iGet (v := p.2) hp)
    rw [j2] at this
    simpa using this
  · obtain ⟨z, rfl, rfl⟩ := keyI_inv j1
    have gr2 : Grows e.w w2 := ⟨j8.os.trans i3.os, j8.tape.trans i3.tape, j8.output.trans i3.output, Nat.le_trans i3.size j8.size, fun k hk => (j8.block k (Nat.lt_of_lt_of_le hk i3.size) (by simp; omega)).trans (i3.block k hk)⟩
    refine line_step e3 e2 (rv_next e1 ((ev_put i1 rfl).trans i4) j5) ?_
    obtain ⟨o, l, rfl, e1, e2, e3, hops⟩ := lineS hops
    refine line_step e3 e2 (rv_extract e1 (ev_put i1 rfl) rfl) ?_
    obtain rfl := List.map_eq_nil_iff.1 hops
    refine wp_seq (wp_cond_true (ev_put i1 rfl) (wp_skip ?_))
    refine wp_block (wp_seq (wp_region_list ?_))
    generalize o18.toList = l at hops18 ⊢
    obtain ⟨o, l, rfl, e1, e2, e3, hops⟩ := lineS hops18
    refine line_step e3 e2 (rv_entry e1 ((ev_put i1 rfl).trans i4) j10) ?_
    obtain ⟨o, l, rfl, e1, e2, e3, hops⟩ := lineS hops
    refine line_step e3 e2 (rv_extract e1 (ev_put i1 rfl) rfl) ?_
    obtain ⟨o, l, rfl, e1, e2, e3, hops⟩ := lineS hops
    refine line_step e3 e2 (rv_assign e1 (ev_put i1 rfl)) ?_
    obtain rfl := List.map_eq_nil_iff.1 hops
    refine wp_seq (wp_region_list ?_)
    generalize o19.toList = l at hops19 ⊢
    obtain ⟨o, l, rfl, e1, e2, e3, hops⟩ := lineS hops19
    refine line_step e3 e2 (rv_move e1 (ev_put i1 rfl)) ?_
    obtain ⟨o, l, rfl, e1, e2, e3, hops⟩ := lineS hops
    refine line_step e3 e2 (rv_move e1 ((ev_put i1 rfl).trans i5)) ?_
    obtain ⟨o, l, rfl, e1, e2, e3, hops⟩ := lineS hops
    refine line_step e3 e2 (rv_len e1 tSlice_23 (ev_put i1 rfl)) ?_
    obtain ⟨o, l, rfl, e1, e2, e3, hops⟩ := lineS hops
    refine line_step e3 e2 (rv_geq e1 (ev_put i1 rfl) (ev_put i1 rfl)) ?_
    obtain rfl := List.map_eq_nil_iff.1 hops
    by_cases hz : (xs.length : Int) ≤ z
    · rw [decide_eq_true hz]
      refine wp_cond_true (ev_put i1 rfl) (wp_seq (wp_region_list ?_))
      generalize o20.toList = l at hops20 ⊢
      obtain ⟨o, l, rfl, e1, e2, e3, hops⟩ := lineS hops20
      refine line_step e3 e2 (rv_assign e1 rfl) ?_
      obtain rfl := List.map_eq_nil_iff.1 hops
      refine wp_ret ?_
      obtain ⟨e', f1, f2, f3⟩ := fin σ _ _ gr2 (SE [(2, .bool false), (85, .bool true), (84, .int .i64 xs.length), (83, .slice q xs.length c), (82, .int .i64 z), (10, .int .i64 z), (81, .int .i64 z), (80, .tuple #[.int .i64 z, v]), (79, .bool true), (78, .tuple #[.bool true, .int .i64 z, v])] (fun i hi => by simp at hi ⊢; omega))
      refine ⟨_, _, e', xF ?_, f1, slots_out f2 (by omega) ?_, f3⟩
      · have h1 := i7 _ j2
        rw [dMI_has] at h1
        obtain ⟨v', h1⟩ := iGet_mem h1
        cases hk : keysLt L xs.length
        · rfl
        · have := List.all_eq_true.1 hk _ h1
          simp at this
          omega
      · rw [ev_put i1 rfl]; exact .v _
    · rw [decide_eq_false hz]
      refine wp_cond_false (ev_put i1 rfl) (wp_skip ?_)
      refine ⟨⟨(putAll_size _ _).trans i1, SE [(85, .bool false), (84, .int .i64 xs.length), (83, .slice q xs.length c), (82, .int .i64 z), (10, .int .i64 z), (81, .int .i64 z), (80, .tuple #[.int .i64 z, v]), (79, .bool true), (78, .tuple #[.bool true, .int .i64 z, v])] (fun i hi => by simp at hi ⊢; omega), gr2, (ev_put i1 rfl).trans i4, (ev_put i1 rfl).trans i5, _, _, j6, fun x hx => i7 x (by simp at hx; exact hx.1), fun z' hz' => ?_⟩, ?_⟩
      · rcases i8 z' hz' with h1 | h1
        · by_cases e : z' = z
          · subst e; right; omega
          · left
            simp only [h1, Bool.true_and, Bool.not_eq_true']
            cases hk : (Lit.int .i64 z').sameKey (.int .i64 z)
            · rfl
            · exact absurd (by have := WideAt.sameKey_eq hk; cases this; rfl) e
        · exact .inr h1
      · rw [j6.left_eq, i6.left_eq]; exact j7
theorem hS_T (L : MI) (l : List Token) (hp : keysLt L l.length = true) {t : Tab} {σ : Nat → AV} {h : Hp} {Q : APost} {n : Nat} {o16 o17 o18 o19 o20 : Array Oper}
    (x : Q .normal (fgt LS σ) h)
    (h6 : σ 6 = .c (.mo n) := by (simp -implicitDefEqProofs only [goR, ↓upd_at, goS, ↓reduceIte, reduceCtorEq, seval, Y]; try rfl)) (h3 : σ 3 = .c (.d (.sl 11 (List.map d_Token l))) := by (simp -implicitDefEqProofs only [goR, ↓upd_at, goS, ↓reduceIte, reduceCtorEq, seval, Y]; try rfl)) (hn : h.H n = some [.ob (KMI L)] := by (simp -implicitDefEqProofs only [goR, ↓upd_at, goS, ↓reduceIte, reduceCtorEq, seval, Y]; try rfl))
    (hP : t.P = Try.prog := by rfl) (hl0 : t.lk.contains 999999 = false := by rfl) (hlk : t.lk.contains 1000086 = true := by rfl)
    (hops16 : o16.toList.map shO = [(.move (.tmp 6), some 76, none), (.range 33 (.tmp 76), some 77, none)] := by rfl)
    (hops17 : o17.toList.map shO = [(.next (.tmp 77) false, some 78, none), (.extract (.tmp 78) 0, some 79, none)] := by rfl)
    (hops18 : o18.toList.map shO = [(.entry (.tmp 77), some 80, none), (.extract (.tmp 80) 0, some 81, none), (.assign (.tmp 81), some 10, none)] := by rfl)
    (hops19 : o19.toList.map shO = [(.move (.tmp 10), some 82, none), (.move (.tmp 3), some 83, none), (.call { callee := .builtin .len, args := #[.tmp 83], argTypes := #[23] }, some 84, none), (.binOp .geq 3 (.tmp 82) (.tmp 84) 3, some 85, none)] := by rfl)
    (hops20 : o20.toList.map shO = [(.assign (.const (.bool false)), some 2, none)] := by rfl) :
    aC t (.seq (.region 16 o16 false) (.block 2 (.loop (.seq (.region 17 o17 false) (.seq (.cond (.tmp 79) .skip (.exit 2)) (.block 3 (.seq (.region 18 o18 false) (.seq (.region 19 o19 false) (.cond (.tmp 85) (.seq (.region 20 o20 false) .ret) .skip))))))))) σ h Q :=
  .inr (hS L (List.map d_Token l) (fun _ => x) (fun hf => by rw [List.length_map, hp] at hf; cases hf) h6 h3 hn hP hl0 hlk hops16 hops17 hops18 hops19 hops20)
theorem hS_F (L : MI) (l : List Token) (hp : keysLt L l.length = false) {t : Tab} {σ : Nat → AV} {h : Hp} {Q : APost} {n : Nat} {o16 o17 o18 o19 o20 : Array Oper}
    (x : Q .ret (upd (fgt LS σ) 2 (.c (.d (.v (.bool false))))) h)
    (h6 : σ 6 = .c (.mo n) := by (simp -implicitDefEqProofs only [goR, ↓upd_at, goS, ↓reduceIte, reduceCtorEq, seval, Y]; try rfl)) (h3 : σ 3 = .c (.d (.sl 11 (List.map d_Token l))) := by (simp -implicitDefEqProofs only [goR, ↓upd_at, goS, ↓reduceIte, reduceCtorEq, seval, Y]; try rfl)) (hn : h.H n = some [.ob (KMI L)] := by (simp -implicitDefEqProofs only [goR, ↓upd_at, goS, ↓reduceIte, reduceCtorEq, seval, Y]; try rfl))
    (hP : t.P = Try.prog := by rfl) (hl0 : t.lk.contains 999999 = false := by rfl) (hlk : t.lk.contains 1000086 = true := by rfl)
    (hops16 : o16.toList.map shO = [(.move (.tmp 6), some 76, none), (.range 33 (.tmp 76), some 77, none)] := by rfl)
    (hops17 : o17.toList.map shO = [(.next (.tmp 77) false, some 78, none), (.extract (.tmp 78) 0, some 79, none)] := by rfl)
    (hops18 : o18.toList.map shO = [(.entry (.tmp 77), some 80, none), (.extract (.tmp 80) 0, some 81, none), (.assign (.tmp 81), some 10, none)] := by rfl)
    (hops19 : o19.toList.map shO = [(.move (.tmp 10), some 82, none), (.move (.tmp 3), some 83, none), (.call { callee := .builtin .len, args := #[.tmp 83], argTypes := #[23] }, some 84, none), (.binOp .geq 3 (.tmp 82) (.tmp 84) 3, some 85, none)] := by rfl)
    (hops20 : o20.toList.map shO = [(.assign (.const (.bool false)), some 2, none)] := by rfl) :
    aC t (.seq (.region 16 o16 false) (.block 2 (.loop (.seq (.region 17 o17 false) (.seq (.cond (.tmp 79) .skip (.exit 2)) (.block 3 (.seq (.region 18 o18 false) (.seq (.region 19 o19 false) (.cond (.tmp 85) (.seq (.region 20 o20 false) .ret) .skip))))))))) σ h Q :=
  .inr (hS L (List.map d_Token l) (fun hf => by rw [List.length_map, hp] at hf; cases hf) (fun _ => x) h6 h3 hn hP hl0 hlk hops16 hops17 hops18 hops19 hops20)
end Go.Proofs.Ytppomhjhokbacaa
