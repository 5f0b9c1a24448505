/- Any order, from the text's. -/
import Derived.Test.YtgkacglpjmndbaaMl
namespace Go.Proofs.Ytgkacglpjmndbaa
open Go.RowKit

def waitsOn (ops : Array Oper) (j k : Nat) : Bool := match ops[j]? with | some o => o.after.toList.any fun e => Region.binds .any e && e.on == k | none => true

/-- j cannot come up ahead of k: it waits for it, or for one that waits for it, .. -/
def waits (ops : Array Oper) : Nat → Nat → Nat → Bool
  | 0, _, _ => false
  | f + 1, j, k => waitsOn ops j k || (match ops[j]? with | some o => o.after.toList.any fun e => Region.binds .any e && decide (e.on < j) && waits ops f e.on k | none => true)

def freeAt (pure : Nat → Bool) (ops : Array Oper) (listed : Array Bool) (k : Nat) : Bool :=
  match ops[k]? with
  | none => false
  | some ok => (List.range ops.size).all fun j => j == k || listed.getD j true || waitsOn ops j k ||
      (match ops[j]? with
       | some oj => ok.apart ops oj && (compat (cls pure ok.op) (cls pure oj.op) || waits ops 4 j k)
       | none => true)

def lexFrom2 (pure : Nat → Bool) (ops : Array Oper) : Nat → Nat → Array Bool → Bool
  | 0, _, listed => (Region.ready .any ops listed).isEmpty
  | f + 1, k, listed => (Region.ready .any ops listed).contains k && freeAt pure ops listed k && lexFrom2 pure ops f (k + 1) (listed.setIfInBounds k true)

def lexOk (pure : Nat → Bool) (ops : Array Oper) : Bool := lexFrom2 pure ops ops.size 0 (Array.replicate ops.size false)

/-- All that a listed one waits for is listed. -/
def DC (ops : Array Oper) (listed : Array Bool) : Prop := ∀ m o, ops[m]? = some o → listed.getD m false = true → ∀ e ∈ o.after, Region.binds .any e = true → listed.getD e.on false = true

theorem DC.set {ops : Array Oper} {listed : Array Bool} (h : DC ops listed) {j : Nat} (hj : j ∈ Region.ready .any ops listed) : DC ops (listed.setIfInBounds j true) := by
  intro m o ho hm e he hb
  by_cases hmj : j = m
  · subst hmj
    obtain ⟨_, o', ho', hall⟩ := mem_ready.1 hj
    rw [ho] at ho'; cases ho'
    exact getD_set_true (hall e he hb)
  · rw [getD_set_ne false hmj] at hm
    exact getD_set_true (h m o ho hm e he hb)

theorem getD_tf {listed : Array Bool} {k : Nat} (h : listed.getD k true = false) : listed.getD k false = false := by
  rcases Nat.lt_or_ge k listed.size with h' | h'
  · simp [h'] at h ⊢; exact h
  · simp [Array.getElem?_eq_none h'] at h

theorem waits_listed {ops : Array Oper} {listed : Array Bool} (hdc : DC ops listed) {k : Nat} : ∀ (f j : Nat) (o : Oper), ops[j]? = some o → (∀ e ∈ o.after, Region.binds .any e = true → listed.getD e.on false = true) →
    (∀ m, listed.getD m false = true → (ops[m]?).isSome) → waits ops f j k = true → listed.getD k false = true
  | 0, _, _, _, _, _, h => by simp [waits] at h
  | f + 1, j, o, ho, hall, hin, h => by
    simp only [waits, waitsOn, ho, Bool.or_eq_true, List.any_eq_true, Bool.and_eq_true, beq_iff_eq, decide_eq_true_eq] at h
    rcases h with ⟨e, he, hb, rfl⟩ | ⟨e, he, ⟨hb, _⟩, hw⟩
    · exact hall e (by simpa using he) hb
    · have hl := hall e (by simpa using he) hb
      obtain ⟨o', ho'⟩ := Option.isSome_iff_exists.1 (hin _ hl)
      exact waits_listed hdc f e.on o' ho' (fun e' he' hb' => hdc e.on o' ho' hl e' he' hb') hin hw

section
variable {t : Tab} {ops : Array Oper} {pure : Nat → Bool}

def aOpAt (t : Tab) (ops : Array Oper) (i : Nat) (K : (Nat → AV) → Hp → Prop) (σ : Nat → AV) (h : Hp) : Prop :=
  match ops[i]? with
  | none => K σ h
  | some o => aOp t ops o K σ h

def aAny (t : Tab) (ops : Array Oper) (K : (Nat → AV) → Hp → Prop) : Nat → Array Bool → (Nat → AV) → Hp → Prop
  | 0, listed, σ, h => Region.ready .any ops listed = [] ∧ K σ h
  | f + 1, listed, σ, h => (Region.ready .any ops listed = [] → K σ h) ∧ ∀ i ∈ Region.ready .any ops listed, aOpAt t ops i (aAny t ops K f (listed.setIfInBounds i true)) σ h

theorem free_ready {listed : Array Bool} {i j : Nat} {oi oj : Oper} (hi : ops[i]? = some oi) (hj : ops[j]? = some oj) (hji : j ≠ i) (hdc : DC ops listed) (hin : ∀ m, listed.getD m false = true → (ops[m]?).isSome)
    (hf : freeAt pure ops listed i = true) (hiun : listed.getD i true = false) (hr : j ∈ Region.ready .any ops listed) : oi.apart ops oj = true ∧ compat (cls pure oi.op) (cls pure oj.op) = true := by
  obtain ⟨hjun, oj', hoj', hall⟩ := mem_ready.1 hr
  rw [hj] at hoj'; cases hoj'
  have hjlt : j < ops.size := (Array.getElem?_eq_some_iff.1 hj).1
  simp only [freeAt, hi, List.all_eq_true, List.mem_range] at hf
  have h1 := hf j hjlt
  simp only [hj, hjun, Bool.or_eq_true, beq_iff_eq, hji, Bool.false_eq_true, or_false, false_or, Bool.and_eq_true] at h1
  have hnot : listed.getD i false = false := getD_tf hiun
  rcases h1 with h1 | ⟨h1, h2 | h2⟩
  · simp only [waitsOn, hj, List.any_eq_true, Bool.and_eq_true, beq_iff_eq] at h1
    obtain ⟨e, he, hb, rfl⟩ := h1
    have := hall e (by simpa using he) hb
    rw [hnot] at this; cases this
  · exact ⟨h1, h2⟩
  · have := waits_listed hdc 4 j oj hj hall hin h2
    rw [hnot] at this; cases this

theorem freeAt_set {listed : Array Bool} {i j : Nat} (h : freeAt pure ops listed i = true) (hji : j ≠ i) : freeAt pure ops (listed.setIfInBounds j true) i = true := by
  unfold freeAt at *
  split
  · simp_all
  · rename_i ok hk
    simp only [hk, List.all_eq_true, List.mem_range] at h ⊢
    intro m hm
    have := h m hm
    by_cases hmj : j = m
    · subst hmj
      have hs : (listed.setIfInBounds j true).getD j true = true := by simp [Array.getElem?_setIfInBounds]; split <;> simp_all
      simp [hs]
    · rw [getD_set_ne true hmj]; exact this

theorem in_set {listed : Array Bool} {j : Nat} (hin : ∀ m, listed.getD m false = true → (ops[m]?).isSome) (hj : (ops[j]?).isSome) : ∀ m, (listed.setIfInBounds j true).getD m false = true → (ops[m]?).isSome := by
  intro m hm
  by_cases hmj : j = m
  · subst hmj; exact hj
  · rw [getD_set_ne false hmj] at hm; exact hin m hm

theorem aAny_first {K : (Nat → AV) → Hp → Prop} (hpure : ∀ n, pure n = true → (t.Φ n).isSome) {i : Nat} {oi : Oper} (hi : ops[i]? = some oi) :
    ∀ (fuel : Nat) (listed : Array Bool) (σ : Nat → AV) (h : Hp), h.Fr → DC ops listed → (∀ m, listed.getD m false = true → (ops[m]?).isSome) → freeAt pure ops listed i = true → i ∈ Region.ready .any ops listed →
      aOp t ops oi (aAny t ops K fuel (listed.setIfInBounds i true)) σ h → aAny t ops K (fuel + 1) listed σ h := by
  intro fuel
  induction fuel with
  | zero =>
    intro listed σ h hfr hdc hin hf hr H
    refine ⟨fun h' => (by rw [h'] at hr; cases hr), fun j hj => ?_⟩
    by_cases hji : j = i
    · subst hji; simp only [aOpAt, hi]; exact H
    · have h2 := ready_mono hj hji
      have h3 : Region.ready .any ops (listed.setIfInBounds i true) = [] := (aGuard_cases H).elim (·.2.1) (·.1)
      rw [h3] at h2
      cases h2
  | succ fuel ih =>
    intro listed σ h hfr hdc hin hf hr H
    refine ⟨fun h' => (by rw [h'] at hr; cases hr), fun j hj => ?_⟩
    by_cases hji : j = i
    · subst hji; simp only [aOpAt, hi]; exact H
    · obtain ⟨hjun, oj, hoj, hall⟩ := mem_ready.1 hj
      have hiun := (mem_ready.1 hr).1
      obtain ⟨hap, hc⟩ := free_ready hi hoj hji hdc hin hf hiun hj
      have h1 : aOp t ops oi (aOp t ops oj (aAny t ops K fuel ((listed.setIfInBounds i true).setIfInBounds j true))) σ h := aOp_mono (fun σ' h' hx => by
        have := hx.2 j (ready_mono hj hji)
        simp only [aOpAt, hoj] at this
        exact this) H
      have h2 := aOp_fresh hfr (aOp_comm hpure hap hc hfr h1)
      simp only [aOpAt, hoj]
      refine aOp_mono (fun σ' h' hx => ih (listed.setIfInBounds j true) σ' h' hx.1 (hdc.set hj) (in_set hin (by rw [hoj]; rfl)) (freeAt_set hf hji) (ready_mono hr (Ne.symm hji)) ?_) h2
      rw [Array.setIfInBounds_comm _ _ hji]
      exact hx.2

theorem aAny_lex {K : (Nat → AV) → Hp → Prop} (hpure : ∀ n, pure n = true → (t.Φ n).isSome) : ∀ (l : List Oper) (k : Nat) (listed : Array Bool) (σ : Nat → AV) (h : Hp), h.Fr → DC ops listed → (∀ m, listed.getD m false = true → (ops[m]?).isSome) →
    (∀ j, l[j]? = ops[k + j]?) → lexFrom2 pure ops l.length k listed = true → aOps t ops K l σ h → aAny t ops K l.length listed σ h
  | [], _, _, _, _, _, _, _, _, hB, hh => ⟨by simpa [lexFrom2] using hB, hh⟩
  | o :: l, k, listed, σ, h, hfr, hdc, hin, hl, hB, hh => by
    have h0 : ops[k]? = some o := by simpa using (hl 0).symm
    simp only [List.length_cons, lexFrom2, Bool.and_eq_true] at hB
    obtain ⟨⟨hr, hf⟩, hB'⟩ := hB
    have hr' : k ∈ Region.ready .any ops listed := by simpa using hr
    refine aAny_first hpure h0 l.length listed σ h hfr hdc hin hf hr' ?_
    refine aOp_mono (fun σ' h' hx => ?_) (aOp_fresh hfr hh)
    exact aAny_lex hpure l (k + 1) _ σ' h' hx.1 (hdc.set hr') (in_set hin (by rw [h0]; rfl)) (fun j => by have := hl (j + 1); simpa [Nat.add_assoc, Nat.add_comm 1 j] using this) hB' hx.2

theorem aAny_sound {Γ : Ctx} (ht : TabOk t) (hP : t.P = Γ.P) {K : (Nat → AV) → Hp → Prop} {Q : Exit → Act → World → Prop} (hall : (ops.toList.all (opIn Γ.nt ops)) = true)
    (hQ : ∀ σ h a e, K σ h → SlotsOk Γ.nt σ a e → WInv Γ h e → Q .normal a e.w) : ∀ (fuel : Nat) (listed : Array Bool) (σ : Nat → AV) (h : Hp) (a : Act) (e : Env),
      aAny t ops K fuel listed σ h → SlotsOk Γ.nt σ a e → WInv Γ h e → wpAny Γ.P .any ops Q fuel listed a e.w
  | 0, _, σ, h, a, e, hh, hs, hw => ⟨hh.1, hQ σ h a e hh.2 hs hw⟩
  | fuel + 1, listed, σ, h, a, e, hh, hs, hw => by
    refine ⟨fun h0 => hQ σ h a e (hh.1 h0) hs hw, fun i hi => ?_⟩
    have ih := aAny_sound ht hP hall hQ fuel (listed.setIfInBounds i true)
    have h1 := hh.2 i hi
    obtain ⟨_, o, ho, _⟩ := mem_ready.1 hi
    simp only [aOpAt, ho] at h1
    simp only [wpOp, ho]
    have hin : opIn Γ.nt ops o = true := by
      rw [List.all_eq_true] at hall
      exact hall o (by simpa using Array.mem_of_getElem? ho)
    rcases aGuard_sound hin hs h1 with ⟨hwant, hpre, hK⟩ | ⟨hwant, hK⟩
    · rw [if_pos hwant]
      refine .inl ?_
      have hvr : VR Γ o σ h (aop t.P t.Φ t.Ψ o.op σ h).val (aop t.P t.Φ t.Ψ o.op σ h).h := by
        have := aop_vr (Γ := Γ) (Φ := t.Φ) (Ψ := t.Ψ) (σ := σ) (h := h) (by rw [← hP]; exact ht.pf) (by rw [← hP]; exact ht.mf) o (by rw [← hP]; exact hpre)
        rw [← hP] at this
        exact this
      exact hvr a e (opIn_opnd hin hs) hw _ _ fun v e' hw' hle hv => ih _ _ _ _ hK ((hs.mono hle).put o.dst hv) hw'
    · rw [if_neg (by rw [hwant]; simp)]
      exact ih _ _ _ _ hK (hs.put o.dst (RA.undef e)) hw

theorem WInv.fr {Γ : Ctx} {h : Hp} {e : Env} (hw : WInv Γ h e) : h.Fr := fun n hn => (hw.fresh n hn).1

theorem WInv.drewn {Γ : Ctx} {h : Hp} {e : Env} (hw : WInv Γ h e) : WInv Γ h { e with w := e.w.drew } ∧ e.le { e with w := e.w.drew } := hw.quiet (Grows.drew _)

/-- A region, whatever its order. -/
theorem region_sound {Γ : Ctx} (ht : TabOk t) (hP : t.P = Γ.P) (hm : Γ.P.follows .mixedOrders = true) (hpure : ∀ n, pure n = true → (t.Φ n).isSome) {K : (Nat → AV) → Hp → Prop} {Q : Exit → Act → World → Prop} {id : Nat} {draw : Bool}
    (hall : (ops.toList.all (opIn Γ.nt ops)) = true) (hd : draw = true → lexOk pure ops = true)
    (hQ : ∀ σ h a e, K σ h → SlotsOk Γ.nt σ a e → WInv Γ h e → Q .normal a e.w) {σ : Nat → AV} {h : Hp} {a : Act} {e : Env} (hh : aOps t ops K ops.toList σ h) (hs : SlotsOk Γ.nt σ a e) (hw : WInv Γ h e) :
    (Code.region id ops draw).wp Γ.P Q a e.w := by
  cases draw with
  | false => exact wp_region_list (aOps_sound ht hP hQ ops.toList hall σ h a e hh hs hw)
  | true =>
    have hlex := hd rfl
    obtain ⟨w1, l1⟩ := hw.drewn
    refine wp_region_any hm ?_
    have h0 : ∀ m, (Array.replicate ops.size false).getD m false = false := fun m => by
      simp only [Array.getD_eq_getD_getElem?, Array.getElem?_replicate]
      split <;> rfl
    have h1 := aAny_lex (t := t) (ops := ops) (K := K) hpure ops.toList 0 (Array.replicate ops.size false) σ h hw.fr (fun m o _ hm => by rw [h0] at hm; cases hm) (fun m hm => by rw [h0] at hm; cases hm) (by simp) (by simpa [lexOk] using hlex) hh
    have h2 := aAny_sound ht hP hall hQ ops.toList.length _ σ h a _ h1 (hs.mono l1) w1
    simpa using h2

end

def codeDraws (pure : Nat → Bool) : Code → List (Nat × Bool)
  | .region id ops true => [(id, lexOk pure ops)]
  | .seq a b => codeDraws pure a ++ codeDraws pure b
  | .cond _ a b => codeDraws pure a ++ codeDraws pure b
  | .block _ b => codeDraws pure b
  | .loop b => codeDraws pure b
  | .scope b => codeDraws pure b
  | _ => []
end Go.Proofs.Ytgkacglpjmndbaa
