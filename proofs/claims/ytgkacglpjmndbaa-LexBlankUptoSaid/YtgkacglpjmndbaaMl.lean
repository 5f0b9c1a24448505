/- Regions in whatever order: one walk in the text's order serves every order. -/
import Derived.Test.YtgkacglpjmndbaaMk
namespace Go.Proofs.Ytgkacglpjmndbaa
open Go.RowKit

theorem aFill_congr {P : Program} {σ σ' : Nat → AV} {t : TypeId} : ∀ (l : List (Nat × Operand)) (row : List C), (∀ p ∈ l, evA σ p.2 = evA σ' p.2) → aFill P σ t row l = aFill P σ' t row l
  | [], _, _ => rfl
  | (i, x) :: l, row, h => by
    have h0 := h (i, x) (by simp)
    simp only at h0
    simp only [aFill, h0]
    rw [aFill_congr l _ (fun p hp => h p (by simp [hp]))]

theorem bnd_congr {σ σ' : Nat → AV} {d : Int} {x : Option Operand} (h : ∀ y, x = some y → evA σ y = evA σ' y) : bnd σ d x = bnd σ' d x := by
  cases x with
  | none => rfl
  | some y => simp only [bnd, h y rfl]

theorem aop_congr {P : Program} {Φ : Nat → Option PF} {Ψ : Nat → Option MF} {op : Op} {σ σ' : Nat → AV} (hx : ∀ x ∈ op.operands, evA σ x = evA σ' x) (h : Hp) : aop P Φ Ψ op σ h = aop P Φ Ψ op σ' h := by
  cases op <;> simp only [aop]
  case move x => rw [hx x (by simp [Op.operands])]
  case assign x => rw [hx x (by simp [Op.operands])]
  case pick c x y => simp only [aPick]; rw [hx c (by simp [Op.operands]), hx x (by simp [Op.operands]), hx y (by simp [Op.operands])]
  case binOp op t x y u => simp only [aBin]; rw [hx x (by simp [Op.operands]), hx y (by simp [Op.operands])]
  case unOp op t x => simp only [aUn]; rw [hx x (by simp [Op.operands])]
  case convert s d x => simp only [aConvert]; rw [hx x (by simp [Op.operands])]
  case box t x => simp only [aBox]; rw [hx x (by simp [Op.operands])]
  case build t ps =>
    simp only [aBuild]
    rw [aFill_congr ps.toList _ (fun p hp => hx p.2 (by simp only [Op.operands, List.mem_toArray, List.mem_map]; exact ⟨p, hp, rfl⟩))]
  case buildSlice t n ps =>
    have h1 : ∀ p ∈ ps.toList, evA σ p.2 = evA σ' p.2 := fun p hp => hx p.2 (by simp only [Op.operands, List.mem_toArray, List.mem_map]; exact ⟨p, hp, rfl⟩)
    simp only [aBuildSlice]
    have h2 : (ps.toList.map fun p => sizeD (tCS P (tElem P t)) (evA σ p.2).toD) = ps.toList.map fun p => sizeD (tCS P (tElem P t)) (evA σ' p.2).toD := List.map_congr_left fun p hp => by rw [h1 p hp]
    have h3 : (ps.toList.all fun p => (evA σ p.2).isD && (evA σ p.2).rowOk && ((evA σ p.2).toD.cells.length == tSize P (tElem P t))) = ps.toList.all fun p => (evA σ' p.2).isD && (evA σ' p.2).rowOk && ((evA σ' p.2).toD.cells.length == tSize P (tElem P t)) := by
      rw [Bool.eq_iff_iff, List.all_eq_true, List.all_eq_true]
      exact ⟨fun h p hp => by rw [← h1 p hp]; exact h p hp, fun h p hp => by rw [h1 p hp]; exact h p hp⟩
    rw [h2, h3]
  case load t x => simp only [aLoad]; rw [hx x (by simp [Op.operands])]
  case store t x y => simp only [aStore]; rw [hx x (by simp [Op.operands]), hx y (by simp [Op.operands])]
  case nilCheck x => simp only [aNilCheck]; rw [hx x (by simp [Op.operands])]
  case slice t x lo hi mx =>
    cases mx with
    | some _ => rfl
    | none =>
      have h1 : ∀ d, bnd σ d lo = bnd σ' d lo := fun d => bnd_congr fun y hy => hx y (by subst hy; simp [Op.operands])
      have h2 : ∀ d, bnd σ d hi = bnd σ' d hi := fun d => bnd_congr fun y hy => hx y (by subst hy; simp [Op.operands])
      simp only [aSlice, h1, h2]
      rw [hx x (by simp [Op.operands])]
  case fieldAddr t x f => simp only [aFieldAddr]; rw [hx x (by simp [Op.operands])]
  case field t x f => simp only [aField]; rw [hx x (by simp [Op.operands])]
  case indexAddr t x i => simp only [aIndexAddr]; rw [hx x (by simp [Op.operands]), hx i (by simp [Op.operands])]
  case index t x i => simp only [aIndex]; rw [hx x (by simp [Op.operands]), hx i (by simp [Op.operands])]
  case extract x i => simp only [aExtract]; rw [hx x (by simp [Op.operands])]
  case call c =>
    obtain ⟨callee, args, ts⟩ := c
    have ha : ∀ x ∈ args.toList, evA σ x = evA σ' x := fun x hxa => hx x (by simp only [Op.operands, Call.operands, Array.mem_append]; right; simpa using hxa)
    cases callee with
    | invoke _ _ => rfl
    | value f =>
      have hf := hx f (by simp [Op.operands, Call.operands])
      have h1 : ∀ l : List Operand, (∀ x ∈ l, evA σ x = evA σ' x) → (l.map fun x => (evA σ x).toD) = l.map fun x => (evA σ' x).toD := fun l hl => List.map_congr_left fun x hxl => by rw [hl x hxl]
      have h2 : ∀ l : List Operand, (∀ x ∈ l, evA σ x = evA σ' x) → (l.all fun x => (evA σ x).isD) = l.all fun x => (evA σ' x).isD := fun l hl => by
        rw [Bool.eq_iff_iff, List.all_eq_true, List.all_eq_true]
        exact ⟨fun h p hp => by rw [← hl p hp]; exact h p hp, fun h p hp => by rw [hl p hp]; exact h p hp⟩
      simp only [aCall, hf]
      cases hl : args.toList with
      | nil =>
        split
        · split
          · rfl
          · cases Ψ ‹FuncId› <;> rfl
        · rfl
      | cons x rest =>
        rw [hl] at ha
        rw [h1 (x :: rest) ha, h2 (x :: rest) ha]
        split
        · rename_i n fs cs _
          split
          · rfl
          · cases Ψ n with
            | none => rfl
            | some mf => simp only [ha x (by simp), h1 rest (fun y hy => ha y (by simp [hy])), h2 rest (fun y hy => ha y (by simp [hy]))]
        · rfl
    | builtin b =>
      simp only [aCallB]
      split
      · rename_i x t h1 h2
        simp only [aLen]; rw [ha x (by simp [h1])]
      · rename_i s x t u h1 h2
        simp only [aAppend]; rw [ha s (by simp [h1]), ha x (by simp [h1])]
      · rename_i x y h1
        simp only [aMinMax]; rw [ha x (by simp [h1]), ha y (by simp [h1])]
      · rename_i x y h1
        simp only [aMinMax]; rw [ha x (by simp [h1]), ha y (by simp [h1])]
      · rfl

theorem evA_put {σ : Nat → AV} {dst : Option Tmp} {v : AV} {x : Operand} (h : ∀ d, dst = some d → x ≠ .tmp d) : evA (putA σ dst v) x = evA σ x := by
  cases dst with
  | none => rfl
  | some d =>
    cases x with
    | tmp t =>
      have hne : t ≠ d := fun e => h d rfl (by rw [e])
      simp [evA, putA, upd, hne]
    | const v => rfl
    | global g => rfl
    | func f => rfl

theorem putA_comm {σ : Nat → AV} {x y : Option Tmp} {u v : AV} (h : ∀ d, x = some d → y ≠ some d) : putA (putA σ x u) y v = putA (putA σ y v) x u := by
  cases x with
  | none => rfl
  | some d =>
    cases y with
    | none => rfl
    | some c =>
      have hne : d ≠ c := fun e => h d rfl (by rw [e])
      funext i
      simp only [putA, upd]
      by_cases h1 : i = d <;> by_cases h2 : i = c <;> simp_all

section
variable {t : Tab} {ops : Array Oper} {pure : Nat → Bool} {md : Region.Mode}

theorem aop_put {o : Oper} {σ : Nat → AV} {dst : Option Tmp} {v : AV} {h : Hp} (hd : ∀ d, dst = some d → d ∉ o.looksAt ops) : aop t.P t.Φ t.Ψ o.op (putA σ dst v) h = aop t.P t.Φ t.Ψ o.op σ h :=
  aop_congr (fun x hx => evA_put fun d hdd hxd => hd d hdd (by
    subst hxd
    exact List.mem_append_left _ (List.mem_filterMap.2 ⟨.tmp d, by simpa using hx, rfl⟩))) h

theorem aGuard_put {o : Oper} {σ : Nat → AV} {dst : Option Tmp} {v : AV} {r s : Prop} (hd : ∀ d, dst = some d → d ∉ o.looksAt ops) : aGuard ops (putA σ dst v) o.guard r s = aGuard ops σ o.guard r s := by
  unfold aGuard
  split
  · rfl
  · rename_i j want hg
    split
    · rfl
    · rename_i d hgs
      have hne : ∀ c, dst = some c → d ≠ c := fun c hc he => by
        subst he
        refine hd d hc ?_
        unfold Oper.looksAt
        rw [hg]
        refine List.mem_append_right _ ?_
        have : (ops[j]?).bind (·.dst) = some d := hgs
        simp [this]
      have : putA σ dst v d = σ d := by
        cases dst with
        | none => rfl
        | some c => simp [putA, upd, hne c rfl]
      rw [this]

theorem bool_split : ∀ p w : Bool, p = w ∨ p = !w := by decide

/-- A guard splits in two, or not; either way something follows. -/
theorem aGuard_cases {σ : Nat → AV} {g : Option (Nat × Bool)} {r s : Prop} (h : aGuard ops σ g r s) : r ∨ s := by
  unfold aGuard at h
  split at h
  · exact .inl h
  · split at h
    · exact h.elim
    · split at h
      · exact (bool_split _ _).elim (fun x => .inl (h.1 x)) (fun x => .inr (h.2 x))
      · exact .inr h
      · exact h.elim

/-- Where one guard's outcome is known, so it is of what hangs on it. -/
theorem aGuard_swap {σ : Nat → AV} {g g' : Option (Nat × Bool)} {a b c d : Prop} (h : aGuard ops σ g (aGuard ops σ g' a b) (aGuard ops σ g' c d)) :
    aGuard ops σ g' (aGuard ops σ g a c) (aGuard ops σ g b d) := by
  unfold aGuard at *
  (repeat' split at h) <;> (repeat' split) <;> simp_all

theorem aGuard_and {σ : Nat → AV} {g : Option (Nat × Bool)} {p r s : Prop} (h : aGuard ops σ g (p ∧ r) (p ∧ s)) : p ∧ aGuard ops σ g r s := by
  refine ⟨(aGuard_cases h).elim (·.1) (·.1), aGuard_mono (·.2) (·.2) h⟩

theorem aop_load_same {P : Program} {Φ : Nat → Option PF} {Ψ : Nat → Option MF} {op : Op} (h1 : cls pure op = 1) (σ : Nat → AV) {h h' : Hp} (hh : h'.H = h.H) : aop P Φ Ψ op σ h' = { aop P Φ Ψ op σ h with h := h' } := by
  obtain ⟨t, x, rfl⟩ := cls1_load h1
  simp only [aop, aLoad, hh]
  split
  · split
    · rename_i hr; simp only [aLoadRow]
    · rename_i hr; simp only [AR.bad]
  · simp only [aLoadRow]
  · unfold aLoadArr; split <;> first | rfl | simp only [aLoadRow] | simp only [AR.bad]
  · simp only [AR.bad]

/-- Two operations that have nothing to do with each other. -/
theorem aOp_comm (hpure : ∀ n, pure n = true → (t.Φ n).isSome) {oi oj : Oper} (hap : oi.apart ops oj = true) (hc : compat (cls pure oi.op) (cls pure oj.op) = true) {K : (Nat → AV) → Hp → Prop} {σ : Nat → AV} {h : Hp} (hfr : h.Fr)
    (hh : aOp t ops oi (aOp t ops oj K) σ h) : aOp t ops oj (aOp t ops oi K) σ h := by
  obtain ⟨h1, h2, h3⟩ := Oper.apart_spec hap
  unfold aOp at *
  simp only [aGuard_put (o := oj) h1, aop_put (t := t) (o := oj) h1] at hh
  simp only [aGuard_put (o := oi) h3, aop_put (t := t) (o := oi) h3]
  -- what one makes of the heap is nothing to the other
  have hj : (aop t.P t.Φ t.Ψ oj.op σ (aop t.P t.Φ t.Ψ oi.op σ h).h).pre = (aop t.P t.Φ t.Ψ oj.op σ h).pre ∧
      (aop t.P t.Φ t.Ψ oj.op σ (aop t.P t.Φ t.Ψ oi.op σ h).h).val = (aop t.P t.Φ t.Ψ oj.op σ h).val ∧
      ((aop t.P t.Φ t.Ψ oi.op σ h).pre → (aop t.P t.Φ t.Ψ oi.op σ (aop t.P t.Φ t.Ψ oj.op σ h).h).pre ∧
      (aop t.P t.Φ t.Ψ oi.op σ (aop t.P t.Φ t.Ψ oj.op σ h).h).val = (aop t.P t.Φ t.Ψ oi.op σ h).val) ∧
      (aop t.P t.Φ t.Ψ oj.op σ (aop t.P t.Φ t.Ψ oi.op σ h).h).h = (aop t.P t.Φ t.Ψ oi.op σ (aop t.P t.Φ t.Ψ oj.op σ h).h).h := by
    simp only [compat, Bool.or_eq_true, beq_iff_eq, Bool.and_eq_true] at hc
    rcases hc with ((hc | hc) | ⟨hci, hcj⟩) | ⟨hci, hcj⟩
    · have a1 := aop_cls0 (P := t.P) (Φ := t.Φ) (Ψ := t.Ψ) hpure hc σ h (aop t.P t.Φ t.Ψ oj.op σ h).h
      have a2 := aop_cls0 (P := t.P) (Φ := t.Φ) (Ψ := t.Ψ) hpure hc σ (aop t.P t.Φ t.Ψ oj.op σ h).h h
      rw [a1.2.2]
      exact ⟨rfl, rfl, fun hp => ⟨a1.1 ▸ hp, a1.2.1.symm⟩, a2.2.2.symm⟩
    · have a1 := aop_cls0 (P := t.P) (Φ := t.Φ) (Ψ := t.Ψ) hpure hc σ h (aop t.P t.Φ t.Ψ oi.op σ h).h
      have a2 := aop_cls0 (P := t.P) (Φ := t.Φ) (Ψ := t.Ψ) hpure hc σ (aop t.P t.Φ t.Ψ oi.op σ h).h h
      rw [a1.2.2]
      exact ⟨a1.1.symm, a1.2.1.symm, fun hp => ⟨hp, rfl⟩, a2.2.2⟩
    · have a1 := aop_cls1 (P := t.P) (Φ := t.Φ) (Ψ := t.Ψ) hci σ h
      have a2 := aop_cls1 (P := t.P) (Φ := t.Φ) (Ψ := t.Ψ) hci σ (aop t.P t.Φ t.Ψ oj.op σ h).h
      rw [a1, a2]
      refine ⟨rfl, rfl, fun hp => aop_load hci σ h _ (fun n row hn => ?_) hp, rfl⟩
      rcases hcj with (hcj | hcj) | hcj
      · rw [aop_cls1 hcj]; exact hn
      · rw [aop_cls3 hcj]; exact hn
      · obtain ⟨row', hr⟩ := aop_cls4 (P := t.P) (Φ := t.Φ) (Ψ := t.Ψ) hcj σ h
        rw [hr]
        have hne : n ≠ h.nx := fun he => by have := hfr n (by omega); rw [this] at hn; cases hn
        simp [Hp.box, upd, hne, hn]
    · have b1 := aop_cls3 (P := t.P) (Φ := t.Φ) (Ψ := t.Ψ) hci σ h
      have b2 := aop_cls1 (P := t.P) (Φ := t.Φ) (Ψ := t.Ψ) hcj σ h
      have b3 := aop_cls1 (P := t.P) (Φ := t.Φ) (Ψ := t.Ψ) hcj σ (aop t.P t.Φ t.Ψ oi.op σ h).h
      rw [b2, b3]
      have e := aop_load_same (P := t.P) (Φ := t.Φ) (Ψ := t.Ψ) hcj σ (h := h) (h' := (aop t.P t.Φ t.Ψ oi.op σ h).h) b1
      rw [e]
      exact ⟨rfl, rfl, fun hp => ⟨hp, rfl⟩, rfl⟩
  obtain ⟨j1, j2, j3, j5⟩ := hj
  simp only [j1, j2] at hh
  have hh' := aGuard_swap (aGuard_mono (r' := aGuard ops σ oj.guard
      ((aop t.P t.Φ t.Ψ oi.op σ h).pre ∧ (aop t.P t.Φ t.Ψ oj.op σ h).pre ∧ K (putA (putA σ oi.dst (aop t.P t.Φ t.Ψ oi.op σ h).val) oj.dst (aop t.P t.Φ t.Ψ oj.op σ h).val) (aop t.P t.Φ t.Ψ oj.op σ (aop t.P t.Φ t.Ψ oi.op σ h).h).h)
      ((aop t.P t.Φ t.Ψ oi.op σ h).pre ∧ K (putA (putA σ oi.dst (aop t.P t.Φ t.Ψ oi.op σ h).val) oj.dst undefA) (aop t.P t.Φ t.Ψ oi.op σ h).h))
    (fun x => aGuard_mono (fun y => ⟨x.1, y⟩) (fun y => ⟨x.1, y⟩) x.2) (fun x => x) hh)
  refine aGuard_mono (fun x => ?_) (fun x => ?_) hh'
  · have hp : (aop t.P t.Φ t.Ψ oj.op σ h).pre := (aGuard_cases x).elim (·.2.1) (·.1)
    refine ⟨hp, aGuard_mono (fun y => ⟨(j3 y.1).1, ?_⟩) (fun y => ?_) x⟩
    · rw [← j5, (j3 y.1).2, ← putA_comm h2]; exact y.2.2
    · rw [← putA_comm h2]; exact y.2
  · refine aGuard_mono (fun y => ⟨y.1, ?_⟩) (fun y => ?_) x
    · rw [← putA_comm h2]; exact y.2
    · rw [← putA_comm h2]; exact y

theorem aOp_fresh {o : Oper} {K : (Nat → AV) → Hp → Prop} {σ : Nat → AV} {h : Hp} (hf : h.Fr) (hh : aOp t ops o K σ h) : aOp t ops o (fun σ' h' => h'.Fr ∧ K σ' h') σ h :=
  aGuard_mono (fun x => ⟨x.1, aop_fresh hf, x.2⟩) (fun x => ⟨hf, x⟩) hh

end
end Go.Proofs.Ytgkacglpjmndbaa
