/- The parser's maps: regions walked by hand. Written by mkkc.py. -/
import Derived.Test.YtppomhjhokbacaaZbal
import Derived.Test.YtppomhjhokbacaaZbam
set_option linter.unusedVariables false
set_option linter.unusedSimpArgs false
namespace Go.Proofs.Ytppomhjhokbacaa
open Go.RowKit Go.Maps
theorem keyK : Keyed Try.prog 9 := string_keyed Try.underlying9
theorem keyK_of {s : List UInt8} (h : s.length ≤ 9223372036854775807) : keyOf Try.prog 9 (str s) = some (.string s) := by
  have h' : s.length ≤ maxLen := by unfold maxLen; exact h
  simp [keyOf, str, Try.underlying9, mapKey, ByteArray.size, h']
theorem tOffK : tOff Try.prog 51 3 = 3 := by kernel_rfl
theorem infoK : ∃ i : TypeInfo, Try.prog.info? 48 = some i ∧ True ∧ i.size = 1 ∧ i.bytes ≤ 8 ∧ ∃ z, i.zero = some z ∧ z.cells.size = 1 := by
  obtain ⟨z, _, h2, h3⟩ := run_zeroValue (P := Try.prog) (t := 48) (by kernel_rfl) default
  have h4 : tZ Try.prog 48 = [.map none] := by kernel_rfl
  have h5 : tBytes Try.prog 48 = 8 := by kernel_rfl
  have h6 := tSize_48
  cases hi : Try.prog.info? 48 with
  | none => rw [hi] at h3; cases h3
  | some i =>
    simp only [tSize, hi, Option.map_some, Option.getD_some] at h6
    simp only [tBytes, hi, Option.map_some, Option.getD_some] at h5
    rw [hi] at h3
    refine ⟨i, rfl, trivial, h6, by omega, z, h3, ?_⟩
    rw [← Array.length_toList, h2, h4]; rfl
theorem sizeK (n : Nat) : n * tSize Try.prog 48 = n := by rw [tSize_48, Nat.mul_one]
theorem rowK {c0 c1 c2 : C} {Φ : KP} (h : (c0.noK && c1.noK && c2.noK) = true) (i : Nat) (Ψ : KP) (hi : i ≠ 3) : [c0, c1, c2, .kc Φ][i]? ≠ some (.kc Ψ) := by
  simp only [Bool.and_eq_true] at h
  rcases i with _|_|_|_|_ <;> simp_all [C.noK]
  all_goals (intro he; simp_all [C.noK])
theorem kc_view {Γ : Ctx} {h : Hp} {e : Env} (hw : WInv Γ h e) {n : Nat} {c0 c1 c2 : C} {K : List KD} (hn : h.H n = some [c0, c1, c2, .kc (KSK K)]) {v : Value} (h0 : RA e (.c (.pt n 0)) v) :
    ∃ b cs ty g cap gs ms, e.ρ n = some b ∧ v = .pointer (some ⟨b, 0, none⟩) ∧ e.w.heap[b]? = some (.cells cs ty (0, 0)) ∧ cs[3]? = some (.slice (some ⟨g, 0, none⟩) K.length cap) ∧ KSp Try.prog 9 48 (K.map cvK) e.w (e.μ n) g cap gs ms ∧
      e.w.cell? ⟨b, 0 + tOff Try.prog 51 3, none⟩ = some (.slice (some ⟨g, 0, none⟩) K.length cap) := by
  obtain ⟨b, cs, ty, v', k1, k2, k3, g, cap, gs, ms, rfl, k4⟩ := hw.ext.kc n _ 3 _ hn rfl
  obtain ⟨b', q1, q2⟩ := h0
  rw [k1] at q1
  cases q1
  refine ⟨b, cs, ty, g, cap, gs, ms, k1, q2, k2, by simpa using k3, k4, ?_⟩
  rw [tOffK]
  simp [World.cell?, k2, k3]
theorem KSp.mem {P : Program} {k el : TypeId} {L : List ME} {w : World} {μ : Nat → Prop} {b cap : Nat} {cs : Array Value} {ms : List Nat} (h : KSp P k el L w μ b cap cs ms) {m : Nat} (hm : m ∈ ms) : μ m := by
  obtain ⟨h1, h2, h3, h4, h5, h6, h7, h8, h9, h10⟩ := h
  obtain ⟨i, hi⟩ := List.mem_iff_getElem?.1 hm
  have hl := (List.getElem?_eq_some_iff.1 hi).1
  exact (h10 i m L[i] hi (List.getElem?_eq_getElem (by omega))).1
theorem KSp.mapsMu {P : Program} {k el : TypeId} {L : List ME} {w : World} {μ : Nat → Prop} {b cap : Nat} {cs : Array Value} {ms : List Nat} (h : KSp P k el L w μ b cap cs ms) : μ b ∧ w.heap[b]? = some (.cells cs el (0, 0)) ∧ L.length ≤ cap ∧ cap ≤ maxLen ∧ cs.size = cap ∧ ms.length = L.length := ⟨h.2.1, h.1, h.2.2.1, h.2.2.2.1, h.2.2.2.2.1, h.2.2.2.2.2.1⟩
theorem set_self {cs : Array Value} {j : Nat} {v : Value} (h : cs[j]? = some v) : cs.toList = cs.toList.set j v := by
  have h' : cs.toList[j]? = some v := by simpa using h
  obtain ⟨hl, he⟩ := List.getElem?_eq_some_iff.1 h'
  rw [← he, List.set_getElem_self]
theorem ME_cv (K : List KD) (i : Nat) (h : i < K.length) : (K.map cvK)[i]? = some (cvK (K.getD i [])) := by
  rw [List.getElem?_map, List.getElem?_eq_getElem h, List.getD_eq_getElem?_getD, List.getElem?_eq_getElem h]
  rfl
theorem mu_ok {Γ : Ctx} {h : Hp} {e : Env} (hw : WInv Γ h e) {n : Nat} (hnn : h.H n ≠ none) {w' : World} {m : Nat} (hm : e.μ n m) (hs : e.w.heap.size ≤ w'.heap.size) (hob : w'.heap[m]? = e.w.heap[m]?) :
    (e.μ n m ∨ e.w.heap.size ≤ m ∨ Unowned Γ h e m) ∧ m < w'.heap.size ∧ (∀ o, w'.heap[m]? = some o → muObj o = true) ∧ (m < e.w.heap.size → ∀ o x, w'.cell? ⟨m, o, none⟩ = some x → e.S m o) := by
  have q := hw.ext.mu n m hnn hm
  exact ⟨.inl hm, Nat.lt_of_lt_of_le q.lt hs, fun o ho => q.ob o (hob ▸ ho), fun _ o x hx => q.s o x (by rw [← hx]; exact (World.cell?_of_block hob).symm)⟩
theorem mu_map {Γ : Ctx} {h : Hp} {e : Env} {n m k : Nat} {w' : World} {D : DataW Unit} (hm : e.μ n m ∨ e.w.heap.size ≤ m ∨ Unowned Γ h e m) (ho : w'.ownsMap Try.prog 9 anyE m k D) :
    (e.μ n m ∨ e.w.heap.size ≤ m ∨ Unowned Γ h e m) ∧ m < w'.heap.size ∧ (∀ o, w'.heap[m]? = some o → muObj o = true) ∧ (m < e.w.heap.size → ∀ o x, w'.cell? ⟨m, o, none⟩ = some x → e.S m o) := by
  have hlt := ho.lt
  obtain ⟨es, clock, hb, _⟩ := ho
  exact ⟨hm, hlt, fun o h => by rw [hb] at h; cases h; rfl, fun _ o x hx => by simp [World.cell?, hb] at hx⟩
theorem hK_make (K : List KD) (s : List UInt8) (v : Bool) (hg : 0 < K.length ∧ s.length ≤ 9223372036854775807 ∧ (kTop K).length < 9223372036854775807) {t : Tab} {σ : Nat → AV} {h : Hp} {Q : APost} {n : Nat} {c0 c1 c2 : C} {ops : Array Oper}
    (x : Q .normal (fgt [6, 7, 8, 9, 10, 11, 12, 13, 14, 15, 16, 17, 18, 19] σ) { h with H := upd h.H n (some [c0, c1, c2, .kc (KSK (kPut K s v))]) }) (h0 : σ 0 = .c (.pt n 0) := by (simp -implicitDefEqProofs only [goR, ↓upd_at, goS, ↓reduceIte, reduceCtorEq, seval, Y]; try rfl)) (hn : h.H n = some [c0, c1, c2, .kc (KSK K)] := by (simp -implicitDefEqProofs only [goR, ↓upd_at, goS, ↓reduceIte, reduceCtorEq, seval, Y]; try rfl)) (h1 : σ 1 = .c (.d (.v (str s))) := by (simp -implicitDefEqProofs only [goR, ↓upd_at, goS, ↓reduceIte, reduceCtorEq, seval, Y]; try rfl)) (h2 : σ 2 = .c (.d (.v (.bool v))) := by (simp -implicitDefEqProofs only [goR, ↓upd_at, goS, ↓reduceIte, reduceCtorEq, seval, Y]; try rfl))
    (hk : (c0.noK && c1.noK && c2.noK) = true := by rfl) (hrp : rowP [c0, c1, c2, .kc (KSK K)] = true := by rfl) (hP : t.P = Try.prog := by rfl) (hl0 : t.lk.contains 999999 = false := by rfl) (hlk : t.lk.contains 1000020 = true := by rfl) (hops : ops.toList.map shO = [(.move (.tmp 0), some 6, none), (.nilCheck (.tmp 6), some 7, none), (.fieldAddr 51 (.tmp 7) 3, some 8, none), (.load 49 (.tmp 8), some 9, none), (.move (.tmp 0), some 10, none), (.nilCheck (.tmp 10), some 11, none), (.fieldAddr 51 (.tmp 11) 3, some 12, none), (.load 49 (.tmp 12), some 13, none), (.call { callee := .builtin .len, args := #[.tmp 13], argTypes := #[49] }, some 14, none), (.binOp .sub 3 (.tmp 14) (.const (.int .i64 1)) 3, some 15, none), (.indexAddr 49 (.tmp 9) (.tmp 15), some 16, none), (.load 48 (.tmp 16), some 17, none), (.move (.tmp 1), some 18, none), (.move (.tmp 2), some 19, none)] ++ [(.mapUpdate 48 (.tmp 17) (.tmp 18) (.tmp 19), none, none)] := by rfl) (hch : chkR ops 14 = true := by kernel_rfl) : aC t (.region 0 ops true) σ h Q := by
  refine ⟨σ, h, Wk.refl _ _ _, .inr ⟨_, _, ⟨hl0, fun Γ a e hΓ hnt hs hw => ?_⟩, x⟩⟩
  have hN : Γ.nt = 20 := hnt 20 hlk
  rw [hP]
  have hsz : a.tmps.size = 20 := hs.1.trans hN
  have r0 := hs.2.2 0 (by omega)
  rw [h0] at r0
  obtain ⟨p, cs, ty, g, cap, gs, ms, k1, k2, k3, k4, k5, k6⟩ := kc_view hw hn r0
  have k2 : a.eval (.tmp 0) = .pointer (some ⟨p, 0, none⟩) := k2
  obtain ⟨u1, u2, u3, u4, u5, u6⟩ := k5.mapsMu
  simp only [List.length_map] at u3 u6
  have hnn : h.H n ≠ none := by rw [hn]; simp
  have r1 := hs.2.2 1 (by omega)
  rw [h1] at r1
  have r1 : a.eval (.tmp 1) = str s := R1.vInv r1
  have r2 := hs.2.2 2 (by omega)
  rw [h2] at r2
  have r2 : a.eval (.tmp 2) = .bool v := R1.vInv r2
  obtain ⟨g1, g2, g3⟩ := hg
  have e1 : ((K.length : Int) - 1).toNat = K.length - 1 := by omega
  obtain ⟨m, m1, m2, m3, m4, m5⟩ := k5.at (ME_cv K (K.length - 1) (by omega))
  have hcell : e.w.drew.cell? ⟨g, ((K.length : Int) - 1).toNat * tSize Try.prog 48, none⟩ = some (.map (some m)) := by rw [e1, sizeK]; exact m3
  have E : ∀ i, (putAll a [(6, .pointer (some ⟨p, 0, none⟩)), (7, .pointer (some ⟨p, 0, none⟩)), (8, .pointer (some ⟨p, 0 + tOff Try.prog 51 3, none⟩)), (9, .slice (some ⟨g, 0, none⟩) K.length cap), (10, .pointer (some ⟨p, 0, none⟩)), (11, .pointer (some ⟨p, 0, none⟩)), (12, .pointer (some ⟨p, 0 + tOff Try.prog 51 3, none⟩)), (13, .slice (some ⟨g, 0, none⟩) K.length cap), (14, .int .i64 (K.length : Int)), (15, .int .i64 ((K.length : Int) - 1)), (16, .pointer (some ⟨g, ((K.length : Int) - 1).toNat * tSize Try.prog 48, none⟩)), (17, .map (some m)), (18, str s), (19, .bool v)]).eval (.tmp i) = (lkv [(6, .pointer (some ⟨p, 0, none⟩)), (7, .pointer (some ⟨p, 0, none⟩)), (8, .pointer (some ⟨p, 0 + tOff Try.prog 51 3, none⟩)), (9, .slice (some ⟨g, 0, none⟩) K.length cap), (10, .pointer (some ⟨p, 0, none⟩)), (11, .pointer (some ⟨p, 0, none⟩)), (12, .pointer (some ⟨p, 0 + tOff Try.prog 51 3, none⟩)), (13, .slice (some ⟨g, 0, none⟩) K.length cap), (14, .int .i64 (K.length : Int)), (15, .int .i64 ((K.length : Int) - 1)), (16, .pointer (some ⟨g, ((K.length : Int) - 1).toNat * tSize Try.prog 48, none⟩)), (17, .map (some m)), (18, str s), (19, .bool v)] i).getD (a.eval (.tmp i)) := fun i => ev_put hsz rfl
  refine reg_readsS _ _ [(6, .pointer (some ⟨p, 0, none⟩)), (7, .pointer (some ⟨p, 0, none⟩)), (8, .pointer (some ⟨p, 0 + tOff Try.prog 51 3, none⟩)), (9, .slice (some ⟨g, 0, none⟩) K.length cap), (10, .pointer (some ⟨p, 0, none⟩)), (11, .pointer (some ⟨p, 0, none⟩)), (12, .pointer (some ⟨p, 0 + tOff Try.prog 51 3, none⟩)), (13, .slice (some ⟨g, 0, none⟩) K.length cap), (14, .int .i64 (K.length : Int)), (15, .int .i64 ((K.length : Int) - 1)), (16, .pointer (some ⟨g, ((K.length : Int) - 1).toNat * tSize Try.prog 48, none⟩)), (17, .map (some m)), (18, str s), (19, .bool v)] 20 hsz mixed hops rfl (by simp) rfl hch ⟨fun o e => rv_move e ((E 0).trans k2), fun o e => rv_nil e (E 6), fun o e => rv_field e tStruct_51_3 (E 7), fun o e => rv_load e tKnown_49 tAgg_49 (E 8) k6, fun o e => rv_move e ((E 0).trans k2), fun o e => rv_nil e (E 10), fun o e => rv_field e tStruct_51_3 (E 11), fun o e => rv_load e tKnown_49 tAgg_49 (E 12) k6, fun o e => rv_len e tSlice_49 (E 13), fun o e => rv_sub1 e (E 14) (by omega), fun o e => rv_index e Try.underlying49 tKnown_48 (E 9) (E 15) (by omega) (by omega), fun o e => rv_load e tKnown_48 tAgg_48 (E 16) hcell, fun o e => rv_move e ((E 1).trans r1), fun o e => rv_move e ((E 2).trans r2), trivial⟩ (fun o e0 => ?_)
  obtain ⟨w', q1, q2, q3⟩ := rv_upd (w := e.w.drew) e0 keyK Try.underlying48 (n := (cvK (kTop K)).length) (by rw [cvK, List.length_map]; unfold maxLen; omega) m5.drew (E 17) (kl := .string s) (by rw [show (putAll a [(6, .pointer (some ⟨p, 0, none⟩)), (7, .pointer (some ⟨p, 0, none⟩)), (8, .pointer (some ⟨p, 0 + tOff Try.prog 51 3, none⟩)), (9, .slice (some ⟨g, 0, none⟩) K.length cap), (10, .pointer (some ⟨p, 0, none⟩)), (11, .pointer (some ⟨p, 0, none⟩)), (12, .pointer (some ⟨p, 0 + tOff Try.prog 51 3, none⟩)), (13, .slice (some ⟨g, 0, none⟩) K.length cap), (14, .int .i64 (K.length : Int)), (15, .int .i64 ((K.length : Int) - 1)), (16, .pointer (some ⟨g, ((K.length : Int) - 1).toNat * tSize Try.prog 48, none⟩)), (17, .map (some m)), (18, str s), (19, .bool v)]).eval (.tmp 18) = str s from (E 18)]; exact keyK_of g2) (d := .lit (.bool v)) (ps := []) (by rw [show (putAll a [(6, .pointer (some ⟨p, 0, none⟩)), (7, .pointer (some ⟨p, 0, none⟩)), (8, .pointer (some ⟨p, 0 + tOff Try.prog 51 3, none⟩)), (9, .slice (some ⟨g, 0, none⟩) K.length cap), (10, .pointer (some ⟨p, 0, none⟩)), (11, .pointer (some ⟨p, 0, none⟩)), (12, .pointer (some ⟨p, 0 + tOff Try.prog 51 3, none⟩)), (13, .slice (some ⟨g, 0, none⟩) K.length cap), (14, .int .i64 (K.length : Int)), (15, .int .i64 ((K.length : Int) - 1)), (16, .pointer (some ⟨g, ((K.length : Int) - 1).toNat * tSize Try.prog 48, none⟩)), (17, .map (some m)), (18, str s), (19, .bool v)]).eval (.tmp 19) = .bool v from (E 19)]; rfl)
  refine ⟨w', q1, ?_⟩
  have qb : ∀ j, j < e.w.heap.size → j ≠ m → w'.heap[j]? = e.w.heap[j]? := fun j hj hjm => q3.block j hj (by simpa using hjm)
  have qs : e.w.heap.size ≤ w'.heap.size := q3.size
  have hbm : p ≠ m := fun he => (hw.ext.mu n m hnn m4).box n hnn (by rw [k1, he])
  have hplt := (Array.getElem?_eq_some_iff.1 k3).1
  obtain ⟨w1, l1⟩ := hw.kcSet (KSK (kPut K s v)) (e.μ n) hn hrp k1 k3 ((qb p hplt hbm).trans k3) (set_self k4) (by simp) (rowK hk) q3.os q3.tape q3.output qs
    (fun k hk hk1 hk2 => qb k hk fun he => hk2 (he ▸ m4))
    (fun k hk => by
      by_cases hkm : k = m
      · subst hkm; exact mu_map (.inl m4) q2
      · exact mu_ok hw hnn hk qs (qb k (hw.ext.mu n k hnn hk).lt hkm))
    ⟨g, cap, gs, ms, by simp [kPut], by
      have := k5.put (i := K.length - 1) (m := m) (l' := (s, .bool v) :: cvK (kTop K)) (w' := w') (ME_cv K (K.length - 1) (by omega)) m1 qb q2
      rw [kPut, List.map_set]
      exact this⟩
  exact ⟨rfl, _, rfl, slots_fgt hs l1 [(6, .pointer (some ⟨p, 0, none⟩)), (7, .pointer (some ⟨p, 0, none⟩)), (8, .pointer (some ⟨p, 0 + tOff Try.prog 51 3, none⟩)), (9, .slice (some ⟨g, 0, none⟩) K.length cap), (10, .pointer (some ⟨p, 0, none⟩)), (11, .pointer (some ⟨p, 0, none⟩)), (12, .pointer (some ⟨p, 0 + tOff Try.prog 51 3, none⟩)), (13, .slice (some ⟨g, 0, none⟩) K.length cap), (14, .int .i64 (K.length : Int)), (15, .int .i64 ((K.length : Int) - 1)), (16, .pointer (some ⟨g, ((K.length : Int) - 1).toNat * tSize Try.prog 48, none⟩)), (17, .map (some m)), (18, str s), (19, .bool v)] [6, 7, 8, 9, 10, 11, 12, 13, 14, 15, 16, 17, 18, 19] (fun i hi => hi) (by rw [hN]; rfl), w1⟩
theorem hK_popB (K : List KD) (hg : 0 < K.length) {t : Tab} {σ : Nat → AV} {h : Hp} {Q : APost} {n : Nat} {c0 c1 c2 : C} {ops : Array Oper}
    (x : Q .normal (fgt [41, 42, 43, 44, 45, 46, 47, 48, 49, 50, 51, 52, 53, 54] σ) { h with H := upd h.H n (some [c0, c1, c2, .kc (KSK (List.dropLast K))]) }) (h0 : σ 0 = .c (.pt n 0) := by (simp -implicitDefEqProofs only [goR, ↓upd_at, goS, ↓reduceIte, reduceCtorEq, seval, Y]; try rfl)) (hn : h.H n = some [c0, c1, c2, .kc (KSK K)] := by (simp -implicitDefEqProofs only [goR, ↓upd_at, goS, ↓reduceIte, reduceCtorEq, seval, Y]; try rfl))
    (hk : (c0.noK && c1.noK && c2.noK) = true := by rfl) (hrp : rowP [c0, c1, c2, .kc (KSK K)] = true := by rfl) (hP : t.P = Try.prog := by rfl) (hl0 : t.lk.contains 999999 = false := by rfl) (hlk : t.lk.contains 1000056 = true := by rfl) (hops : ops.toList.map shO = [(.move (.tmp 0), some 41, none), (.move (.tmp 0), some 42, none), (.nilCheck (.tmp 42), some 43, none), (.fieldAddr 51 (.tmp 43) 3, some 44, none), (.load 49 (.tmp 44), some 45, none), (.move (.tmp 0), some 46, none), (.nilCheck (.tmp 46), some 47, none), (.fieldAddr 51 (.tmp 47) 3, some 48, none), (.load 49 (.tmp 48), some 49, none), (.call { callee := .builtin .len, args := #[.tmp 49], argTypes := #[49] }, some 50, none), (.binOp .sub 3 (.tmp 50) (.const (.int .i64 1)) 3, some 51, none), (.slice 49 (.tmp 45) none (some (.tmp 51)) none, some 52, none), (.nilCheck (.tmp 41), some 53, none), (.fieldAddr 51 (.tmp 53) 3, some 54, none)] ++ [(.store 49 (.tmp 54) (.tmp 52), none, none)] := by rfl) (hch : chkR ops 14 = true := by kernel_rfl) : aC t (.region 9 ops true) σ h Q := by
  refine ⟨σ, h, Wk.refl _ _ _, .inr ⟨_, _, ⟨hl0, fun Γ a e hΓ hnt hs hw => ?_⟩, x⟩⟩
  have hN : Γ.nt = 56 := hnt 56 hlk
  rw [hP]
  have hsz : a.tmps.size = 56 := hs.1.trans hN
  have r0 := hs.2.2 0 (by omega)
  rw [h0] at r0
  obtain ⟨p, cs, ty, g, cap, gs, ms, k1, k2, k3, k4, k5, k6⟩ := kc_view hw hn r0
  have k2 : a.eval (.tmp 0) = .pointer (some ⟨p, 0, none⟩) := k2
  obtain ⟨u1, u2, u3, u4, u5, u6⟩ := k5.mapsMu
  simp only [List.length_map] at u3 u6
  have hnn : h.H n ≠ none := by rw [hn]; simp
  have e1 : ((K.length : Int) - 1).toNat = K.length - 1 := by omega
  have E : ∀ i, (putAll a [(41, .pointer (some ⟨p, 0, none⟩)), (42, .pointer (some ⟨p, 0, none⟩)), (43, .pointer (some ⟨p, 0, none⟩)), (44, .pointer (some ⟨p, 0 + tOff Try.prog 51 3, none⟩)), (45, .slice (some ⟨g, 0, none⟩) K.length cap), (46, .pointer (some ⟨p, 0, none⟩)), (47, .pointer (some ⟨p, 0, none⟩)), (48, .pointer (some ⟨p, 0 + tOff Try.prog 51 3, none⟩)), (49, .slice (some ⟨g, 0, none⟩) K.length cap), (50, .int .i64 (K.length : Int)), (51, .int .i64 ((K.length : Int) - 1)), (52, .slice (some ⟨g, 0, none⟩) ((K.length : Int) - 1).toNat cap), (53, .pointer (some ⟨p, 0, none⟩)), (54, .pointer (some ⟨p, 0 + tOff Try.prog 51 3, none⟩))]).eval (.tmp i) = (lkv [(41, .pointer (some ⟨p, 0, none⟩)), (42, .pointer (some ⟨p, 0, none⟩)), (43, .pointer (some ⟨p, 0, none⟩)), (44, .pointer (some ⟨p, 0 + tOff Try.prog 51 3, none⟩)), (45, .slice (some ⟨g, 0, none⟩) K.length cap), (46, .pointer (some ⟨p, 0, none⟩)), (47, .pointer (some ⟨p, 0, none⟩)), (48, .pointer (some ⟨p, 0 + tOff Try.prog 51 3, none⟩)), (49, .slice (some ⟨g, 0, none⟩) K.length cap), (50, .int .i64 (K.length : Int)), (51, .int .i64 ((K.length : Int) - 1)), (52, .slice (some ⟨g, 0, none⟩) ((K.length : Int) - 1).toNat cap), (53, .pointer (some ⟨p, 0, none⟩)), (54, .pointer (some ⟨p, 0 + tOff Try.prog 51 3, none⟩))] i).getD (a.eval (.tmp i)) := fun i => ev_put hsz rfl
  refine reg_readsS _ _ [(41, .pointer (some ⟨p, 0, none⟩)), (42, .pointer (some ⟨p, 0, none⟩)), (43, .pointer (some ⟨p, 0, none⟩)), (44, .pointer (some ⟨p, 0 + tOff Try.prog 51 3, none⟩)), (45, .slice (some ⟨g, 0, none⟩) K.length cap), (46, .pointer (some ⟨p, 0, none⟩)), (47, .pointer (some ⟨p, 0, none⟩)), (48, .pointer (some ⟨p, 0 + tOff Try.prog 51 3, none⟩)), (49, .slice (some ⟨g, 0, none⟩) K.length cap), (50, .int .i64 (K.length : Int)), (51, .int .i64 ((K.length : Int) - 1)), (52, .slice (some ⟨g, 0, none⟩) ((K.length : Int) - 1).toNat cap), (53, .pointer (some ⟨p, 0, none⟩)), (54, .pointer (some ⟨p, 0 + tOff Try.prog 51 3, none⟩))] 56 hsz mixed hops rfl (by simp) rfl hch ⟨fun o e => rv_move e ((E 0).trans k2), fun o e => rv_move e ((E 0).trans k2), fun o e => rv_nil e (E 42), fun o e => rv_field e tStruct_51_3 (E 43), fun o e => rv_load e tKnown_49 tAgg_49 (E 44) k6, fun o e => rv_move e ((E 0).trans k2), fun o e => rv_nil e (E 46), fun o e => rv_field e tStruct_51_3 (E 47), fun o e => rv_load e tKnown_49 tAgg_49 (E 48) k6, fun o e => rv_len e tSlice_49 (E 49), fun o e => rv_sub1 e (E 50) (by omega), fun o e => rv_slice e Try.underlying49 (E 45) (E 51) (by omega) (by omega) tKnown_48 (by omega), fun o e => rv_nil e (E 41), fun o e => rv_field e tStruct_51_3 (E 53), trivial⟩ (fun o e0 => ?_)
  have hv : (putAll a [(41, .pointer (some ⟨p, 0, none⟩)), (42, .pointer (some ⟨p, 0, none⟩)), (43, .pointer (some ⟨p, 0, none⟩)), (44, .pointer (some ⟨p, 0 + tOff Try.prog 51 3, none⟩)), (45, .slice (some ⟨g, 0, none⟩) K.length cap), (46, .pointer (some ⟨p, 0, none⟩)), (47, .pointer (some ⟨p, 0, none⟩)), (48, .pointer (some ⟨p, 0 + tOff Try.prog 51 3, none⟩)), (49, .slice (some ⟨g, 0, none⟩) K.length cap), (50, .int .i64 (K.length : Int)), (51, .int .i64 ((K.length : Int) - 1)), (52, .slice (some ⟨g, 0, none⟩) ((K.length : Int) - 1).toNat cap), (53, .pointer (some ⟨p, 0, none⟩)), (54, .pointer (some ⟨p, 0 + tOff Try.prog 51 3, none⟩))]).eval (.tmp 52) = .slice (some ⟨g, 0, none⟩) ((K.length : Int) - 1).toNat cap := (E 52)
  obtain ⟨cs', q1, q2⟩ := rv_store (w := e.w.drew) (i := 0 + tOff Try.prog 51 3) (cs := cs) (ty := ty) (b := p) e0 tKnown_49 tSize_49 (E 54) k3 (by rw [tOffK]; exact (Array.getElem?_eq_some_iff.1 k4).1) (by rw [hv]; rfl) (by rw [hv]; rfl)
  rw [hv, tOffK] at q2
  refine ⟨_, q1, ?_⟩
  obtain ⟨o1, o2, o3, o4, o5⟩ := Only.setRow e.w.drew p cs'
  have hpm : ∀ k, e.μ n k → k ≠ p := fun k hk he => (hw.ext.mu n k hnn hk).box n hnn (by rw [k1, he])
  obtain ⟨w1, l1⟩ := hw.kcSet (KSK (List.dropLast K)) (e.μ n) hn hrp k1 k3 (setRow_heap _ _ _ _ _ _ k3) q2 (by simp) (rowK hk) (w' := e.w.drew.setRow p cs') o1 o2 o3 (Nat.le_of_eq o4.symm)
    (fun k _ hk1 _ => o5 k hk1) (fun k hk => mu_ok hw hnn hk (Nat.le_of_eq o4.symm) (o5 k (hpm k hk)))
    ((KSK (List.dropLast K)).fr e.w _ _ _ _ ⟨g, cap, gs, ms.take (K.length - 1), by simp [e1], by
      obtain ⟨l, hl⟩ : ∃ l, K = List.dropLast K ++ [l] := ⟨_, (List.dropLast_concat_getLast (show K ≠ [] by intro he; rw [he] at hg; simp at hg)).symm⟩
      have h9 := k5
      rw [hl, List.map_append] at h9
      have := h9.pop
      simpa using this⟩ (fun k hk => o5 k (hpm k hk)) (fun _ h => h))
  exact ⟨rfl, _, rfl, slots_fgt hs l1 [(41, .pointer (some ⟨p, 0, none⟩)), (42, .pointer (some ⟨p, 0, none⟩)), (43, .pointer (some ⟨p, 0, none⟩)), (44, .pointer (some ⟨p, 0 + tOff Try.prog 51 3, none⟩)), (45, .slice (some ⟨g, 0, none⟩) K.length cap), (46, .pointer (some ⟨p, 0, none⟩)), (47, .pointer (some ⟨p, 0, none⟩)), (48, .pointer (some ⟨p, 0 + tOff Try.prog 51 3, none⟩)), (49, .slice (some ⟨g, 0, none⟩) K.length cap), (50, .int .i64 (K.length : Int)), (51, .int .i64 ((K.length : Int) - 1)), (52, .slice (some ⟨g, 0, none⟩) ((K.length : Int) - 1).toNat cap), (53, .pointer (some ⟨p, 0, none⟩)), (54, .pointer (some ⟨p, 0 + tOff Try.prog 51 3, none⟩))] [41, 42, 43, 44, 45, 46, 47, 48, 49, 50, 51, 52, 53, 54] (fun i hi => hi) (by rw [hN]; rfl), w1⟩
theorem hK_popO (K : List KD) (hg : 0 < K.length) {t : Tab} {σ : Nat → AV} {h : Hp} {Q : APost} {n : Nat} {c0 c1 c2 : C} {ops : Array Oper}
    (x : Q .normal (fgt [78, 79, 80, 81, 82, 83, 84, 85, 86, 87, 88, 89, 90, 91] σ) { h with H := upd h.H n (some [c0, c1, c2, .kc (KSK (List.dropLast K))]) }) (h0 : σ 0 = .c (.pt n 0) := by (simp -implicitDefEqProofs only [goR, ↓upd_at, goS, ↓reduceIte, reduceCtorEq, seval, Y]; try rfl)) (hn : h.H n = some [c0, c1, c2, .kc (KSK K)] := by (simp -implicitDefEqProofs only [goR, ↓upd_at, goS, ↓reduceIte, reduceCtorEq, seval, Y]; try rfl))
    (hk : (c0.noK && c1.noK && c2.noK) = true := by rfl) (hrp : rowP [c0, c1, c2, .kc (KSK K)] = true := by rfl) (hP : t.P = Try.prog := by rfl) (hl0 : t.lk.contains 999999 = false := by rfl) (hlk : t.lk.contains 1000093 = true := by rfl) (hops : ops.toList.map shO = [(.move (.tmp 0), some 78, none), (.move (.tmp 0), some 79, none), (.nilCheck (.tmp 79), some 80, none), (.fieldAddr 51 (.tmp 80) 3, some 81, none), (.load 49 (.tmp 81), some 82, none), (.move (.tmp 0), some 83, none), (.nilCheck (.tmp 83), some 84, none), (.fieldAddr 51 (.tmp 84) 3, some 85, none), (.load 49 (.tmp 85), some 86, none), (.call { callee := .builtin .len, args := #[.tmp 86], argTypes := #[49] }, some 87, none), (.binOp .sub 3 (.tmp 87) (.const (.int .i64 1)) 3, some 88, none), (.slice 49 (.tmp 82) none (some (.tmp 88)) none, some 89, none), (.nilCheck (.tmp 78), some 90, none), (.fieldAddr 51 (.tmp 90) 3, some 91, none)] ++ [(.store 49 (.tmp 91) (.tmp 89), none, none)] := by rfl) (hch : chkR ops 14 = true := by kernel_rfl) : aC t (.region 16 ops true) σ h Q := by
  refine ⟨σ, h, Wk.refl _ _ _, .inr ⟨_, _, ⟨hl0, fun Γ a e hΓ hnt hs hw => ?_⟩, x⟩⟩
  have hN : Γ.nt = 93 := hnt 93 hlk
  rw [hP]
  have hsz : a.tmps.size = 93 := hs.1.trans hN
  have r0 := hs.2.2 0 (by omega)
  rw [h0] at r0
  obtain ⟨p, cs, ty, g, cap, gs, ms, k1, k2, k3, k4, k5, k6⟩ := kc_view hw hn r0
  have k2 : a.eval (.tmp 0) = .pointer (some ⟨p, 0, none⟩) := k2
  obtain ⟨u1, u2, u3, u4, u5, u6⟩ := k5.mapsMu
  simp only [List.length_map] at u3 u6
  have hnn : h.H n ≠ none := by rw [hn]; simp
  have e1 : ((K.length : Int) - 1).toNat = K.length - 1 := by omega
  have E : ∀ i, (putAll a [(78, .pointer (some ⟨p, 0, none⟩)), (79, .pointer (some ⟨p, 0, none⟩)), (80, .pointer (some ⟨p, 0, none⟩)), (81, .pointer (some ⟨p, 0 + tOff Try.prog 51 3, none⟩)), (82, .slice (some ⟨g, 0, none⟩) K.length cap), (83, .pointer (some ⟨p, 0, none⟩)), (84, .pointer (some ⟨p, 0, none⟩)), (85, .pointer (some ⟨p, 0 + tOff Try.prog 51 3, none⟩)), (86, .slice (some ⟨g, 0, none⟩) K.length cap), (87, .int .i64 (K.length : Int)), (88, .int .i64 ((K.length : Int) - 1)), (89, .slice (some ⟨g, 0, none⟩) ((K.length : Int) - 1).toNat cap), (90, .pointer (some ⟨p, 0, none⟩)), (91, .pointer (some ⟨p, 0 + tOff Try.prog 51 3, none⟩))]).eval (.tmp i) = (lkv [(78, .pointer (some ⟨p, 0, none⟩)), (79, .pointer (some ⟨p, 0, none⟩)), (80, .pointer (some ⟨p, 0, none⟩)), (81, .pointer (some ⟨p, 0 + tOff Try.prog 51 3, none⟩)), (82, .slice (some ⟨g, 0, none⟩) K.length cap), (83, .pointer (some ⟨p, 0, none⟩)), (84, .pointer (some ⟨p, 0, none⟩)), (85, .pointer (some ⟨p, 0 + tOff Try.prog 51 3, none⟩)), (86, .slice (some ⟨g, 0, none⟩) K.length cap), (87, .int .i64 (K.length : Int)), (88, .int .i64 ((K.length : Int) - 1)), (89, .slice (some ⟨g, 0, none⟩) ((K.length : Int) - 1).toNat cap), (90, .pointer (some ⟨p, 0, none⟩)), (91, .pointer (some ⟨p, 0 + tOff Try.prog 51 3, none⟩))] i).getD (a.eval (.tmp i)) := fun i => ev_put hsz rfl
  refine reg_readsS _ _ [(78, .pointer (some ⟨p, 0, none⟩)), (79, .pointer (some ⟨p, 0, none⟩)), (80, .pointer (some ⟨p, 0, none⟩)), (81, .pointer (some ⟨p, 0 + tOff Try.prog 51 3, none⟩)), (82, .slice (some ⟨g, 0, none⟩) K.length cap), (83, .pointer (some ⟨p, 0, none⟩)), (84, .pointer (some ⟨p, 0, none⟩)), (85, .pointer (some ⟨p, 0 + tOff Try.prog 51 3, none⟩)), (86, .slice (some ⟨g, 0, none⟩) K.length cap), (87, .int .i64 (K.length : Int)), (88, .int .i64 ((K.length : Int) - 1)), (89, .slice (some ⟨g, 0, none⟩) ((K.length : Int) - 1).toNat cap), (90, .pointer (some ⟨p, 0, none⟩)), (91, .pointer (some ⟨p, 0 + tOff Try.prog 51 3, none⟩))] 93 hsz mixed hops rfl (by simp) rfl hch ⟨fun o e => rv_move e ((E 0).trans k2), fun o e => rv_move e ((E 0).trans k2), fun o e => rv_nil e (E 79), fun o e => rv_field e tStruct_51_3 (E 80), fun o e => rv_load e tKnown_49 tAgg_49 (E 81) k6, fun o e => rv_move e ((E 0).trans k2), fun o e => rv_nil e (E 83), fun o e => rv_field e tStruct_51_3 (E 84), fun o e => rv_load e tKnown_49 tAgg_49 (E 85) k6, fun o e => rv_len e tSlice_49 (E 86), fun o e => rv_sub1 e (E 87) (by omega), fun o e => rv_slice e Try.underlying49 (E 82) (E 88) (by omega) (by omega) tKnown_48 (by omega), fun o e => rv_nil e (E 78), fun o e => rv_field e tStruct_51_3 (E 90), trivial⟩ (fun o e0 => ?_)
  have hv : (putAll a [(78, .pointer (some ⟨p, 0, none⟩)), (79, .pointer (some ⟨p, 0, none⟩)), (80, .pointer (some ⟨p, 0, none⟩)), (81, .pointer (some ⟨p, 0 + tOff Try.prog 51 3, none⟩)), (82, .slice (some ⟨g, 0, none⟩) K.length cap), (83, .pointer (some ⟨p, 0, none⟩)), (84, .pointer (some ⟨p, 0, none⟩)), (85, .pointer (some ⟨p, 0 + tOff Try.prog 51 3, none⟩)), (86, .slice (some ⟨g, 0, none⟩) K.length cap), (87, .int .i64 (K.length : Int)), (88, .int .i64 ((K.length : Int) - 1)), (89, .slice (some ⟨g, 0, none⟩) ((K.length : Int) - 1).toNat cap), (90, .pointer (some ⟨p, 0, none⟩)), (91, .pointer (some ⟨p, 0 + tOff Try.prog 51 3, none⟩))]).eval (.tmp 89) = .slice (some ⟨g, 0, none⟩) ((K.length : Int) - 1).toNat cap := (E 89)
  obtain ⟨cs', q1, q2⟩ := rv_store (w := e.w.drew) (i := 0 + tOff Try.prog 51 3) (cs := cs) (ty := ty) (b := p) e0 tKnown_49 tSize_49 (E 91) k3 (by rw [tOffK]; exact (Array.getElem?_eq_some_iff.1 k4).1) (by rw [hv]; rfl) (by rw [hv]; rfl)
  rw [hv, tOffK] at q2
  refine ⟨_, q1, ?_⟩
  obtain ⟨o1, o2, o3, o4, o5⟩ := Only.setRow e.w.drew p cs'
  have hpm : ∀ k, e.μ n k → k ≠ p := fun k hk he => (hw.ext.mu n k hnn hk).box n hnn (by rw [k1, he])
  obtain ⟨w1, l1⟩ := hw.kcSet (KSK (List.dropLast K)) (e.μ n) hn hrp k1 k3 (setRow_heap _ _ _ _ _ _ k3) q2 (by simp) (rowK hk) (w' := e.w.drew.setRow p cs') o1 o2 o3 (Nat.le_of_eq o4.symm)
    (fun k _ hk1 _ => o5 k hk1) (fun k hk => mu_ok hw hnn hk (Nat.le_of_eq o4.symm) (o5 k (hpm k hk)))
    ((KSK (List.dropLast K)).fr e.w _ _ _ _ ⟨g, cap, gs, ms.take (K.length - 1), by simp [e1], by
      obtain ⟨l, hl⟩ : ∃ l, K = List.dropLast K ++ [l] := ⟨_, (List.dropLast_concat_getLast (show K ≠ [] by intro he; rw [he] at hg; simp at hg)).symm⟩
      have h9 := k5
      rw [hl, List.map_append] at h9
      have := h9.pop
      simpa using this⟩ (fun k hk => o5 k (hpm k hk)) (fun _ h => h))
  exact ⟨rfl, _, rfl, slots_fgt hs l1 [(78, .pointer (some ⟨p, 0, none⟩)), (79, .pointer (some ⟨p, 0, none⟩)), (80, .pointer (some ⟨p, 0, none⟩)), (81, .pointer (some ⟨p, 0 + tOff Try.prog 51 3, none⟩)), (82, .slice (some ⟨g, 0, none⟩) K.length cap), (83, .pointer (some ⟨p, 0, none⟩)), (84, .pointer (some ⟨p, 0, none⟩)), (85, .pointer (some ⟨p, 0 + tOff Try.prog 51 3, none⟩)), (86, .slice (some ⟨g, 0, none⟩) K.length cap), (87, .int .i64 (K.length : Int)), (88, .int .i64 ((K.length : Int) - 1)), (89, .slice (some ⟨g, 0, none⟩) ((K.length : Int) - 1).toNat cap), (90, .pointer (some ⟨p, 0, none⟩)), (91, .pointer (some ⟨p, 0 + tOff Try.prog 51 3, none⟩))] [78, 79, 80, 81, 82, 83, 84, 85, 86, 87, 88, 89, 90, 91] (fun i hi => hi) (by rw [hN]; rfl), w1⟩
theorem hK_len (K : List KD) {t : Tab} {σ : Nat → AV} {h : Hp} {Q : APost} {n : Nat} {c0 c1 c2 : C} {ops : Array Oper}
    (x : Q .normal (upd (fgt [15, 16, 17, 18, 19, 20, 4] σ) 4 (.c (.d (.v (.int .i64 ((K.length : Int) - 1)))))) h) (h0 : σ 0 = .c (.pt n 0) := by (simp -implicitDefEqProofs only [goR, ↓upd_at, goS, ↓reduceIte, reduceCtorEq, seval, Y]; try rfl)) (hn : h.H n = some [c0, c1, c2, .kc (KSK K)] := by (simp -implicitDefEqProofs only [goR, ↓upd_at, goS, ↓reduceIte, reduceCtorEq, seval, Y]; try rfl)) (hP : t.P = Try.prog := by rfl) (hl0 : t.lk.contains 999999 = false := by rfl) (hlk : t.lk.contains 1000039 = true := by rfl) (hops : ops.toList.map shO = [(.move (.tmp 0), some 15, none), (.nilCheck (.tmp 15), some 16, none), (.fieldAddr 51 (.tmp 16) 3, some 17, none), (.load 49 (.tmp 17), some 18, none), (.call { callee := .builtin .len, args := #[.tmp 18], argTypes := #[49] }, some 19, none), (.binOp .sub 3 (.tmp 19) (.const (.int .i64 1)) 3, some 20, none), (.assign (.tmp 20), some 4, none)] := by rfl) : aC t (.region 8 ops false) σ h Q := by
  refine ⟨σ, h, Wk.refl _ _ _, .inr ⟨_, _, ⟨hl0, fun Γ a e hΓ hnt hs hw => ?_⟩, x⟩⟩
  have hN : Γ.nt = 39 := hnt 39 hlk
  rw [hP]
  have hsz : a.tmps.size = 39 := hs.1.trans hN
  have r0 := hs.2.2 0 (by omega)
  rw [h0] at r0
  obtain ⟨p, cs, ty, g, cap, gs, ms, k1, k2, k3, k4, k5, k6⟩ := kc_view hw hn r0
  have k2 : a.eval (.tmp 0) = .pointer (some ⟨p, 0, none⟩) := k2
  obtain ⟨u1, u2, u3, u4, u5, u6⟩ := k5.mapsMu
  simp only [List.length_map] at u3 u6
  have hnn : h.H n ≠ none := by rw [hn]; simp
  refine wp_region_list ?_
  generalize ops.toList = l at hops ⊢
  change wpList _ _ _ l (putAll a []) _
  obtain ⟨o, l, rfl, e1, e2, e3, hops⟩ := lineS hops
  refine line_step e3 e2 (rv_move e1 ((ev_put hsz rfl).trans k2)) ?_
  obtain ⟨o, l, rfl, e1, e2, e3, hops⟩ := lineS hops
  refine line_step e3 e2 (rv_nil e1 (ev_put hsz rfl)) ?_
  obtain ⟨o, l, rfl, e1, e2, e3, hops⟩ := lineS hops
  refine line_step e3 e2 (rv_field e1 tStruct_51_3 (ev_put hsz rfl)) ?_
  obtain ⟨o, l, rfl, e1, e2, e3, hops⟩ := lineS hops
  refine line_step e3 e2 (rv_load e1 tKnown_49 tAgg_49 (ev_put hsz rfl) k6) ?_
  obtain ⟨o, l, rfl, e1, e2, e3, hops⟩ := lineS hops
  refine line_step e3 e2 (rv_len e1 tSlice_49 (ev_put hsz rfl)) ?_
  obtain ⟨o, l, rfl, e1, e2, e3, hops⟩ := lineS hops
  refine line_step e3 e2 (rv_sub1 e1 (ev_put hsz rfl) (by omega)) ?_
  obtain ⟨o, l, rfl, e1, e2, e3, hops⟩ := lineS hops
  refine line_step e3 e2 (rv_assign e1 (ev_put hsz rfl)) ?_
  obtain rfl := List.map_eq_nil_iff.1 hops
  refine ⟨rfl, e, rfl, slots_out (slots_fgt hs (Env.le.refl _) _ [15, 16, 17, 18, 19, 20, 4] (fun i hi => by simp at hi ⊢; omega) (by rw [hN]; rfl)) (by omega) ?_, hw⟩
  rw [ev_put hsz rfl]
  exact .v _
theorem hK_look (K : List KD) (s : List UInt8) (i : Int) (hg : 0 ≤ i ∧ i.toNat < K.length ∧ s.length ≤ 9223372036854775807) {t : Tab} {σ : Nat → AV} {h : Hp} {Q : APost} {n : Nat} {c0 c1 c2 : C} {ops : Array Oper}
    (x : Q .normal (upd (upd (fgt [26, 27, 28, 29, 30, 31, 32, 33, 34, 25, 35, 36, 5, 6] σ) 5 (.c (.d (.v (.bool (kVal K i s)))))) 6 (.c (.d (.v (.bool (kHas K i s)))))) h) (h0 : σ 0 = .c (.pt n 0) := by (simp -implicitDefEqProofs only [goR, ↓upd_at, goS, ↓reduceIte, reduceCtorEq, seval, Y]; try rfl)) (hn : h.H n = some [c0, c1, c2, .kc (KSK K)] := by (simp -implicitDefEqProofs only [goR, ↓upd_at, goS, ↓reduceIte, reduceCtorEq, seval, Y]; try rfl)) (h1 : σ 4 = .c (.d (.v (.int .i64 i))) := by (simp -implicitDefEqProofs only [goR, ↓upd_at, goS, ↓reduceIte, reduceCtorEq, seval, Y]; try rfl)) (h2 : σ 3 = .c (.d (.v (str s))) := by (simp -implicitDefEqProofs only [goR, ↓upd_at, goS, ↓reduceIte, reduceCtorEq, seval, Y]; try rfl)) (hP : t.P = Try.prog := by rfl) (hl0 : t.lk.contains 999999 = false := by rfl) (hlk : t.lk.contains 1000039 = true := by rfl) (hops : ops.toList.map shO = [(.move (.tmp 0), some 26, none), (.nilCheck (.tmp 26), some 27, none), (.fieldAddr 51 (.tmp 27) 3, some 28, none), (.load 49 (.tmp 28), some 29, none), (.move (.tmp 4), some 30, none), (.indexAddr 49 (.tmp 29) (.tmp 30), some 31, none), (.load 48 (.tmp 31), some 32, none), (.move (.tmp 3), some 33, none), (.lookup 48 (.tmp 32) (.tmp 33) true, some 34, none), (.move (.tmp 34), some 25, none), (.extract (.tmp 25) 0, some 35, none), (.extract (.tmp 25) 1, some 36, none), (.assign (.tmp 35), some 5, none), (.assign (.tmp 36), some 6, none)] := by rfl) : aC t (.region 11 ops false) σ h Q := by
  refine ⟨σ, h, Wk.refl _ _ _, .inr ⟨_, _, ⟨hl0, fun Γ a e hΓ hnt hs hw => ?_⟩, x⟩⟩
  have hN : Γ.nt = 39 := hnt 39 hlk
  rw [hP]
  have hsz : a.tmps.size = 39 := hs.1.trans hN
  have r0 := hs.2.2 0 (by omega)
  rw [h0] at r0
  obtain ⟨p, cs, ty, g, cap, gs, ms, k1, k2, k3, k4, k5, k6⟩ := kc_view hw hn r0
  have k2 : a.eval (.tmp 0) = .pointer (some ⟨p, 0, none⟩) := k2
  obtain ⟨u1, u2, u3, u4, u5, u6⟩ := k5.mapsMu
  simp only [List.length_map] at u3 u6
  have hnn : h.H n ≠ none := by rw [hn]; simp
  have r1 := hs.2.2 4 (by omega)
  rw [h1] at r1
  have r1 : a.eval (.tmp 4) = .int .i64 i := R1.vInv r1
  have r2 := hs.2.2 3 (by omega)
  rw [h2] at r2
  have r2 : a.eval (.tmp 3) = str s := R1.vInv r2
  obtain ⟨g1, g2, g3⟩ := hg
  obtain ⟨m, m1, m2, m3, m4, m5⟩ := k5.at (ME_cv K i.toNat g2)
  have hcell : e.w.cell? ⟨g, i.toNat * tSize Try.prog 48, none⟩ = some (.map (some m)) := by rw [sizeK]; exact m3
  refine wp_region_list ?_
  generalize ops.toList = l at hops ⊢
  change wpList _ _ _ l (putAll a []) _
  obtain ⟨o, l, rfl, e1, e2, e3, hops⟩ := lineS hops
  refine line_step e3 e2 (rv_move e1 ((ev_put hsz rfl).trans k2)) ?_
  obtain ⟨o, l, rfl, e1, e2, e3, hops⟩ := lineS hops
  refine line_step e3 e2 (rv_nil e1 (ev_put hsz rfl)) ?_
  obtain ⟨o, l, rfl, e1, e2, e3, hops⟩ := lineS hops
  refine line_step e3 e2 (rv_field e1 tStruct_51_3 (ev_put hsz rfl)) ?_
  obtain ⟨o, l, rfl, e1, e2, e3, hops⟩ := lineS hops
  refine line_step e3 e2 (rv_load e1 tKnown_49 tAgg_49 (ev_put hsz rfl) k6) ?_
  obtain ⟨o, l, rfl, e1, e2, e3, hops⟩ := lineS hops
  refine line_step e3 e2 (rv_move e1 ((ev_put hsz rfl).trans r1)) ?_
  obtain ⟨o, l, rfl, e1, e2, e3, hops⟩ := lineS hops
  refine line_step e3 e2 (rv_index e1 Try.underlying49 tKnown_48 (ev_put hsz rfl) (ev_put hsz rfl) (by omega) (by omega)) ?_
  obtain ⟨o, l, rfl, e1, e2, e3, hops⟩ := lineS hops
  refine line_step e3 e2 (rv_load e1 tKnown_48 tAgg_48 (ev_put hsz rfl) hcell) ?_
  obtain ⟨o, l, rfl, e1, e2, e3, hops⟩ := lineS hops
  refine line_step e3 e2 (rv_move e1 ((ev_put hsz rfl).trans r2)) ?_
  obtain ⟨o, l, rfl, e1, e2, e3, hops⟩ := lineS hops
  change wpList _ _ _ _ (putAll a [(33, str s), (32, .map (some m)), (31, .pointer (some ⟨g, i.toNat * tSize Try.prog 48, none⟩)), (30, .int .i64 i), (29, .slice (some ⟨g, 0, none⟩) K.length cap), (28, .pointer (some ⟨p, 0 + tOff Try.prog 51 3, none⟩)), (27, .pointer (some ⟨p, 0, none⟩)), (26, .pointer (some ⟨p, 0, none⟩))]) _
  obtain ⟨v, ps, y1, y2⟩ := rv_look (a := putAll a [(33, str s), (32, .map (some m)), (31, .pointer (some ⟨g, i.toNat * tSize Try.prog 48, none⟩)), (30, .int .i64 i), (29, .slice (some ⟨g, 0, none⟩) K.length cap), (28, .pointer (some ⟨p, 0 + tOff Try.prog 51 3, none⟩)), (27, .pointer (some ⟨p, 0, none⟩)), (26, .pointer (some ⟨p, 0, none⟩))]) (w := e.w) e1 keyK Try.underlying48 (Try.zeroValue4 _) (zd := .lit (.bool false)) (zp := []) rfl m5 (ev_put hsz rfl) (kl := .string s) (by rw [show (putAll a [(33, str s), (32, .map (some m)), (31, .pointer (some ⟨g, i.toNat * tSize Try.prog 48, none⟩)), (30, .int .i64 i), (29, .slice (some ⟨g, 0, none⟩) K.length cap), (28, .pointer (some ⟨p, 0 + tOff Try.prog 51 3, none⟩)), (27, .pointer (some ⟨p, 0, none⟩)), (26, .pointer (some ⟨p, 0, none⟩))]).eval (.tmp 33) = str s from ev_put hsz rfl]; exact keyK_of g3)
  have hv : v = .bool (kVal K i s) := by
    rw [dM_at, cvK_get] at y2
    rw [kVal]
    cases hb : bGet (K.getD i.toNat []) s with
    | none => rw [hb] at y2; exact anyE_bool y2
    | some b => rw [hb] at y2; exact anyE_bool y2
  have hh : has (dM (cvK (K.getD i.toNat []))) (.string s) = kHas K i s := by
    rw [dM_has, cvK_get, kHas]
    cases bGet (K.getD i.toNat []) s <;> rfl
  rw [hv, hh] at y1
  refine line_step e3 e2 y1 ?_
  obtain ⟨o, l, rfl, e1, e2, e3, hops⟩ := lineS hops
  refine line_step e3 e2 (rv_move e1 (ev_put hsz rfl)) ?_
  obtain ⟨o, l, rfl, e1, e2, e3, hops⟩ := lineS hops
  refine line_step e3 e2 (rv_extract e1 (ev_put hsz rfl) rfl) ?_
  obtain ⟨o, l, rfl, e1, e2, e3, hops⟩ := lineS hops
  refine line_step e3 e2 (rv_extract e1 (ev_put hsz rfl) rfl) ?_
  obtain ⟨o, l, rfl, e1, e2, e3, hops⟩ := lineS hops
  refine line_step e3 e2 (rv_assign e1 (ev_put hsz rfl)) ?_
  obtain ⟨o, l, rfl, e1, e2, e3, hops⟩ := lineS hops
  refine line_step e3 e2 (rv_assign e1 (ev_put hsz rfl)) ?_
  obtain rfl := List.map_eq_nil_iff.1 hops
  refine ⟨rfl, e, rfl, slots_out (slots_out (slots_fgt hs (Env.le.refl _) _ [26, 27, 28, 29, 30, 31, 32, 33, 34, 25, 35, 36, 5, 6] (fun i hi => by simp at hi ⊢; omega) (by rw [hN]; rfl)) (by omega) ?_) (by omega) ?_, hw⟩
  · rw [ev_put hsz rfl]; exact .v _
  · rw [ev_put hsz rfl]; exact .v _
set_option maxHeartbeats 1000000 in
theorem hK_pushB (K : List KD) (hg : K.length < 17592186044416) {t : Tab} {σ : Nat → AV} {h : Hp} {Q : APost} {n : Nat} {c0 c1 c2 : C} {ops : Array Oper}
    (x : Q .normal (fgt [9, 10, 11, 12, 13, 14, 15, 16, 17, 18] σ) { h with H := upd h.H n (some [c0, c1, c2, .kc (KSK (K ++ [[]]))]) }) (h0 : σ 0 = .c (.pt n 0) := by (simp -implicitDefEqProofs only [goR, ↓upd_at, goS, ↓reduceIte, reduceCtorEq, seval, Y]; try rfl)) (hn : h.H n = some [c0, c1, c2, .kc (KSK K)] := by (simp -implicitDefEqProofs only [goR, ↓upd_at, goS, ↓reduceIte, reduceCtorEq, seval, Y]; try rfl))
    (hk : (c0.noK && c1.noK && c2.noK) = true := by rfl) (hrp : rowP [c0, c1, c2, .kc (KSK K)] = true := by rfl) (hP : t.P = Try.prog := by rfl) (hl0 : t.lk.contains 999999 = false := by rfl) (hlk : t.lk.contains 1000056 = true := by rfl) (hops : ops.toList.map shO = [(.move (.tmp 0), some 9, none), (.move (.tmp 0), some 10, none), (.nilCheck (.tmp 10), some 11, none), (.fieldAddr 51 (.tmp 11) 3, some 12, none), (.load 49 (.tmp 12), some 13, none), (.makeMap 48 none, some 14, none), (.buildSlice 49 1 #[(0, .tmp 14)], some 15, none), (.call { callee := .builtin .append, args := #[.tmp 13, .tmp 15], argTypes := #[49, 49] }, some 16, none), (.nilCheck (.tmp 9), some 17, none), (.fieldAddr 51 (.tmp 17) 3, some 18, none), (.store 49 (.tmp 18) (.tmp 16), none, none)] := by rfl) : aC t (.region 4 ops false) σ h Q := by
  refine ⟨σ, h, Wk.refl _ _ _, .inr ⟨_, _, ⟨hl0, fun Γ a e hΓ hnt hs hw => ?_⟩, x⟩⟩
  have hN : Γ.nt = 56 := hnt 56 hlk
  rw [hP]
  have hsz : a.tmps.size = 56 := hs.1.trans hN
  have r0 := hs.2.2 0 (by omega)
  rw [h0] at r0
  obtain ⟨p, cs, ty, g, cap, gs, ms, k1, k2, k3, k4, k5, k6⟩ := kc_view hw hn r0
  have k2 : a.eval (.tmp 0) = .pointer (some ⟨p, 0, none⟩) := k2
  obtain ⟨u1, u2, u3, u4, u5, u6⟩ := k5.mapsMu
  simp only [List.length_map] at u3 u6
  have hnn : h.H n ≠ none := by rw [hn]; simp
  have hplt := (Array.getElem?_eq_some_iff.1 k3).1
  have hglt := (Array.getElem?_eq_some_iff.1 u2).1
  have hpm : ∀ k, e.μ n k → k ≠ p := fun k hk he => (hw.ext.mu n k hnn hk).box n hnn (by rw [k1, he])
  have hmm : ∀ k, e.μ n k → k < e.w.heap.size := fun k hk => (hw.ext.mu n k hnn hk).lt
  refine wp_region_list ?_
  generalize ops.toList = l at hops ⊢
  change wpList _ _ _ l (putAll a []) _
  obtain ⟨o, l, rfl, e1, e2, e3, hops⟩ := lineS hops
  refine line_step e3 e2 (rv_move e1 ((ev_put hsz rfl).trans k2)) ?_
  obtain ⟨o, l, rfl, e1, e2, e3, hops⟩ := lineS hops
  refine line_step e3 e2 (rv_move e1 ((ev_put hsz rfl).trans k2)) ?_
  obtain ⟨o, l, rfl, e1, e2, e3, hops⟩ := lineS hops
  refine line_step e3 e2 (rv_nil e1 (ev_put hsz rfl)) ?_
  obtain ⟨o, l, rfl, e1, e2, e3, hops⟩ := lineS hops
  refine line_step e3 e2 (rv_field e1 tStruct_51_3 (ev_put hsz rfl)) ?_
  obtain ⟨o, l, rfl, e1, e2, e3, hops⟩ := lineS hops
  refine line_step e3 e2 (rv_load e1 tKnown_49 tAgg_49 (ev_put hsz rfl) k6) ?_
  obtain ⟨o, l, rfl, e1, e2, e3, hops⟩ := lineS hops
  refine line_step e3 e2 (rv_make e1) ?_
  obtain ⟨o, l, rfl, e1, e2, e3, hops⟩ := lineS hops
  refine line_step e3 e2 (rv_lit1 e1 Try.underlying49 (Try.sizeOf48 _) (Try.zeroValue48 _) (ev_put hsz rfl) rfl) ?_
  -- what there is by now
  have a4 : (e.w.alloc (.map #[] 0)).heap.size = e.w.heap.size + 1 := Array.size_push ..
  have a5 : ((e.w.alloc (.map #[] 0)).alloc (.cells #[.map (some e.w.heap.size)] 48)).heap.size = e.w.heap.size + 2 := (Array.size_push ..).trans (by rw [a4])
  have a1 : ∀ j, j < e.w.heap.size → ((e.w.alloc (.map #[] 0)).alloc (.cells #[.map (some e.w.heap.size)] 48)).heap[j]? = e.w.heap[j]? := fun j hj => (heap_alloc_old (e.w.alloc (.map #[] 0)) _ (by rw [a4]; omega)).trans (heap_alloc_old e.w _ hj)
  have a2 : ((e.w.alloc (.map #[] 0)).alloc (.cells #[.map (some e.w.heap.size)] 48)).heap[e.w.heap.size]? = some (.map #[] 0) := (heap_alloc_old (e.w.alloc (.map #[] 0)) _ (by rw [a4]; omega)).trans (heap_alloc_new e.w _)
  have a3 : ((e.w.alloc (.map #[] 0)).alloc (.cells #[.map (some e.w.heap.size)] 48)).heap[(e.w.alloc (.map #[] 0)).heap.size]? = some (.cells #[.map (some e.w.heap.size)] 48) := heap_alloc_new (e.w.alloc (.map #[] 0)) _
  obtain ⟨o, l, rfl, e1, e2, e3, hops⟩ := lineS hops
  obtain ⟨i, hi, hz, hi1, hi2, z, hzi, hzc⟩ : ∃ i : TypeInfo, Try.prog.info? 48 = some i ∧ True ∧ i.size = 1 ∧ i.bytes ≤ 8 ∧ ∃ z, i.zero = some z ∧ z.cells.size = 1 := infoK
  obtain ⟨g', cap', cur', w3, y1, y2, y3, y4, y5, y6, y7, y8, y9, y10, y11, y12, y13, y14, y15, y16⟩ := rv_append1 (a := putAll a [(15, .slice (some ⟨(e.w.alloc (.map #[] 0)).heap.size, 0, none⟩) 1 1), (14, .map (some e.w.heap.size)), (13, .slice (some ⟨g, 0, none⟩) K.length cap), (12, .pointer (some ⟨p, 0 + tOff Try.prog 51 3, none⟩)), (11, .pointer (some ⟨p, 0, none⟩)), (10, .pointer (some ⟨p, 0, none⟩)), (9, .pointer (some ⟨p, 0, none⟩))]) (w := (e.w.alloc (.map #[] 0)).alloc (.cells #[.map (some e.w.heap.size)] 48)) (v := .map (some e.w.heap.size)) (q := (e.w.alloc (.map #[] 0)).heap.size) (c := 1) (cap := cap) (n := K.length) (g := g) e1 Try.underlying49 hi hzi hi1 hi2 hzc
    (ev_put hsz rfl) (ev_put hsz rfl) ((a1 g hglt).trans u2) u5 u3 u4 (by simp only [World.cell?, a3]; rfl) rfl hg
  rw [a5] at y2 y9 y10
  change wpList _ _ _ _ (putAll a [(15, .slice (some ⟨(e.w.alloc (.map #[] 0)).heap.size, 0, none⟩) 1 1), (14, .map (some e.w.heap.size)), (13, .slice (some ⟨g, 0, none⟩) K.length cap), (12, .pointer (some ⟨p, 0 + tOff Try.prog 51 3, none⟩)), (11, .pointer (some ⟨p, 0, none⟩)), (10, .pointer (some ⟨p, 0, none⟩)), (9, .pointer (some ⟨p, 0, none⟩))]) _
  refine line_step e3 e2 y1 ?_
  obtain ⟨o, l, rfl, e1, e2, e3, hops⟩ := lineS hops
  refine line_step e3 e2 (rv_nil e1 (ev_put hsz rfl)) ?_
  obtain ⟨o, l, rfl, e1, e2, e3, hops⟩ := lineS hops
  refine line_step e3 e2 (rv_field e1 tStruct_51_3 (ev_put hsz rfl)) ?_
  obtain ⟨o, l, rfl, e1, e2, e3, hops⟩ := lineS hops
  have y8' : ∀ j, j < e.w.heap.size → j ≠ g → w3.heap[j]? = e.w.heap[j]? := fun j hj hjg => (y8 j (by rw [a5]; omega) hjg).trans (a1 j hj)
  have hpg : p ≠ g := fun he => hpm g u1 he.symm
  have k3' : w3.heap[p]? = some (.cells cs ty (0, 0)) := (y8' p hplt hpg).trans k3
  have hcl : 3 < cs.size := (Array.getElem?_eq_some_iff.1 k4).1
  obtain ⟨cs', q1, q2⟩ := rv_store (a := putAll a [(18, .pointer (some ⟨p, 0 + tOff Try.prog 51 3, none⟩)), (17, .pointer (some ⟨p, 0, none⟩)), (16, .slice (some ⟨g', 0, none⟩) (K.length + 1) cap'), (15, .slice (some ⟨(e.w.alloc (.map #[] 0)).heap.size, 0, none⟩) 1 1), (14, .map (some e.w.heap.size)), (13, .slice (some ⟨g, 0, none⟩) K.length cap), (12, .pointer (some ⟨p, 0 + tOff Try.prog 51 3, none⟩)), (11, .pointer (some ⟨p, 0, none⟩)), (10, .pointer (some ⟨p, 0, none⟩)), (9, .pointer (some ⟨p, 0, none⟩))]) (w := w3) (i := 0 + tOff Try.prog 51 3) (cs := cs) (ty := ty) (b := p) (P := Try.prog) (x := .tmp 18) (y := .tmp 16) e1 tKnown_49 tSize_49 (ev_put hsz rfl) k3' (by rw [tOffK]; exact hcl) (by rw [ev_put hsz rfl]; rfl) (by rw [ev_put hsz rfl]; rfl)
  rw [ev_put hsz rfl, tOffK] at q2
  have q2 : cs'.toList = cs.toList.set 3 (.slice (some ⟨g', 0, none⟩) (K.length + 1) cap') := q2
  change wpList _ _ _ _ (putAll a [(18, .pointer (some ⟨p, 0 + tOff Try.prog 51 3, none⟩)), (17, .pointer (some ⟨p, 0, none⟩)), (16, .slice (some ⟨g', 0, none⟩) (K.length + 1) cap'), (15, .slice (some ⟨(e.w.alloc (.map #[] 0)).heap.size, 0, none⟩) 1 1), (14, .map (some e.w.heap.size)), (13, .slice (some ⟨g, 0, none⟩) K.length cap), (12, .pointer (some ⟨p, 0 + tOff Try.prog 51 3, none⟩)), (11, .pointer (some ⟨p, 0, none⟩)), (10, .pointer (some ⟨p, 0, none⟩)), (9, .pointer (some ⟨p, 0, none⟩))]) _
  refine line_skip e3 e2 q1 ?_
  obtain rfl := List.map_eq_nil_iff.1 hops
  obtain ⟨o1, o2, o3, o4, o5⟩ := Only.setRow w3 p cs'
  have hg'p : g' ≠ p := by
    rcases y2 with rfl | rfl
    · exact fun he => hpm _ u1 he
    · omega
  have hmg : ∀ k, k ∈ ms → e.μ n k := fun k hk => k5.mem hk
  have hgms : g ∉ ms := k5.2.2.2.2.2.2.2.2.1
  have hm4 : (w3.setRow p cs').heap[e.w.heap.size]? = some (.map #[] 0) := by
    rw [o5 _ (by omega), y8 _ (by rw [a5]; omega) (by omega), a2]
  have hown : (w3.setRow p cs').ownsMap Try.prog 9 anyE e.w.heap.size 0 (.map []) := ownsMap_same (World.ownsMap_made (H := Unit) e.w Try.prog 9 anyE) (hm4.trans (heap_alloc_new e.w _).symm)
  have hrow4 : (w3.setRow p cs').heap[g']? = some (.cells cur' 48 (0, 0)) := (o5 _ hg'p).trans y3
  have hold : ∀ j, j < e.w.heap.size → j ≠ p → j ≠ g → (w3.setRow p cs').heap[j]? = e.w.heap[j]? := fun j hj hjp hjg => (o5 j hjp).trans (y8' j hj hjg)
  have hsz4 : e.w.heap.size ≤ (w3.setRow p cs').heap.size := by rw [o4]; omega
  obtain ⟨w1, l1⟩ := hw.kcSet (KSK (K ++ [[]])) (fun x => e.μ n x ∨ x = e.w.heap.size ∨ x = g') hn hrp k1 k3 (setRow_heap _ _ _ _ _ _ k3') q2 (by simp) (rowK hk) (o1.trans y12) (o2.trans y13) (o3.trans y14) hsz4
    (fun k hk hk1 hk2 => hold k hk hk1 (fun he => hk2 (he ▸ u1)))
    (fun k hk => by
      have gnew : ∀ k, k = g' → e.μ n k ∨ e.w.heap.size ≤ k ∨ Unowned Γ h e k := fun k he => by
        rcases y2 with y2 | y2
        · exact .inl (by rw [he, y2]; exact u1)
        · exact .inr (.inl (by omega))
      have gobj : (∀ o, (w3.setRow p cs').heap[g']? = some o → muObj o = true) := fun o ho => by rw [hrow4] at ho; cases ho; rfl
      by_cases hkg : k = g'
      · refine ⟨gnew k hkg, by rw [hkg, o4]; exact y11, by rw [hkg]; exact gobj, fun hlt o x hx => ?_⟩
        rcases y2 with y2 | y2
        · -- the same row: its cells are the box's
          have hmu := hw.ext.mu n g hnn u1
          rw [hkg] at hx ⊢
          have hsz0 : cur'.size = gs.size := by
            have := y15 y2
            omega
          simp only [World.cell?, hrow4] at hx
          have ho : o < gs.size := by
            have := (Array.getElem?_eq_some_iff.1 (by simpa using hx)).1
            omega
          rw [y2]
          exact hmu.s o gs[o] (by simp only [World.cell?, u2]; exact Array.getElem?_eq_getElem ho)
        · omega
      · rcases hk with hk | hk | hk
        · by_cases hkg2 : k = g
          · -- the old row, where the new one is another
            subst hkg2
            have y2' := y2.resolve_left (fun he => hkg he.symm)
            exact mu_ok hw hnn hk hsz4 ((o5 k (hpm k hk)).trans ((y16 (fun he => hkg he.symm)).trans (a1 k (hmm k hk))))
          · exact mu_ok hw hnn hk hsz4 (hold k (hmm k hk) (hpm k hk) hkg2)
        · subst hk
          exact mu_map (.inr (.inl (Nat.le_refl _))) hown
        · exact absurd hk hkg)
    ⟨g', cap', cur', ms ++ [e.w.heap.size], by simp, by
      have := k5.push (w' := w3.setRow p cs') (m := e.w.heap.size) (b' := g') (cap' := cap') (cs' := cur') hown (fun hm => by have := hmm _ (hmg _ hm); omega) (by rcases y2 with y2 | y2 <;> omega)
        (by
          rcases y2 with y2 | y2
          · rw [y2]; exact hgms
          · exact fun hm => by have := hmm _ (hmg _ hm); omega) hrow4 (by simpa using y5) y6 y4 (by simpa using y7)
        (fun j hj => hold j (hmm j (hmg j hj)) (hpm j (hmg j hj)) (fun he => hgms (he ▸ hj)))
      rw [List.map_append]
      exact this⟩
  exact ⟨rfl, _, rfl, slots_fgt hs l1 _ [9, 10, 11, 12, 13, 14, 15, 16, 17, 18] (fun i hi => by simp at hi ⊢; omega) (by rw [hN]; rfl), w1⟩
set_option maxHeartbeats 1000000 in
theorem hK_pushO (K : List KD) (hg : K.length < 17592186044416) {t : Tab} {σ : Nat → AV} {h : Hp} {Q : APost} {n : Nat} {c0 c1 c2 : C} {ops : Array Oper}
    (x : Q .normal (fgt [35, 36, 37, 38, 39, 40, 41, 42, 43, 44] σ) { h with H := upd h.H n (some [c0, c1, c2, .kc (KSK (K ++ [[]]))]) }) (h0 : σ 0 = .c (.pt n 0) := by (simp -implicitDefEqProofs only [goR, ↓upd_at, goS, ↓reduceIte, reduceCtorEq, seval, Y]; try rfl)) (hn : h.H n = some [c0, c1, c2, .kc (KSK K)] := by (simp -implicitDefEqProofs only [goR, ↓upd_at, goS, ↓reduceIte, reduceCtorEq, seval, Y]; try rfl))
    (hk : (c0.noK && c1.noK && c2.noK) = true := by rfl) (hrp : rowP [c0, c1, c2, .kc (KSK K)] = true := by rfl) (hP : t.P = Try.prog := by rfl) (hl0 : t.lk.contains 999999 = false := by rfl) (hlk : t.lk.contains 1000093 = true := by rfl) (hops : ops.toList.map shO = [(.move (.tmp 0), some 35, none), (.move (.tmp 0), some 36, none), (.nilCheck (.tmp 36), some 37, none), (.fieldAddr 51 (.tmp 37) 3, some 38, none), (.load 49 (.tmp 38), some 39, none), (.makeMap 48 none, some 40, none), (.buildSlice 49 1 #[(0, .tmp 40)], some 41, none), (.call { callee := .builtin .append, args := #[.tmp 39, .tmp 41], argTypes := #[49, 49] }, some 42, none), (.nilCheck (.tmp 35), some 43, none), (.fieldAddr 51 (.tmp 43) 3, some 44, none), (.store 49 (.tmp 44) (.tmp 42), none, none)] := by rfl) : aC t (.region 8 ops false) σ h Q := by
  refine ⟨σ, h, Wk.refl _ _ _, .inr ⟨_, _, ⟨hl0, fun Γ a e hΓ hnt hs hw => ?_⟩, x⟩⟩
  have hN : Γ.nt = 93 := hnt 93 hlk
  rw [hP]
  have hsz : a.tmps.size = 93 := hs.1.trans hN
  have r0 := hs.2.2 0 (by omega)
  rw [h0] at r0
  obtain ⟨p, cs, ty, g, cap, gs, ms, k1, k2, k3, k4, k5, k6⟩ := kc_view hw hn r0
  have k2 : a.eval (.tmp 0) = .pointer (some ⟨p, 0, none⟩) := k2
  obtain ⟨u1, u2, u3, u4, u5, u6⟩ := k5.mapsMu
  simp only [List.length_map] at u3 u6
  have hnn : h.H n ≠ none := by rw [hn]; simp
  have hplt := (Array.getElem?_eq_some_iff.1 k3).1
  have hglt := (Array.getElem?_eq_some_iff.1 u2).1
  have hpm : ∀ k, e.μ n k → k ≠ p := fun k hk he => (hw.ext.mu n k hnn hk).box n hnn (by rw [k1, he])
  have hmm : ∀ k, e.μ n k → k < e.w.heap.size := fun k hk => (hw.ext.mu n k hnn hk).lt
  refine wp_region_list ?_
  generalize ops.toList = l at hops ⊢
  change wpList _ _ _ l (putAll a []) _
  obtain ⟨o, l, rfl, e1, e2, e3, hops⟩ := lineS hops
  refine line_step e3 e2 (rv_move e1 ((ev_put hsz rfl).trans k2)) ?_
  obtain ⟨o, l, rfl, e1, e2, e3, hops⟩ := lineS hops
  refine line_step e3 e2 (rv_move e1 ((ev_put hsz rfl).trans k2)) ?_
  obtain ⟨o, l, rfl, e1, e2, e3, hops⟩ := lineS hops
  refine line_step e3 e2 (rv_nil e1 (ev_put hsz rfl)) ?_
  obtain ⟨o, l, rfl, e1, e2, e3, hops⟩ := lineS hops
  refine line_step e3 e2 (rv_field e1 tStruct_51_3 (ev_put hsz rfl)) ?_
  obtain ⟨o, l, rfl, e1, e2, e3, hops⟩ := lineS hops
  refine line_step e3 e2 (rv_load e1 tKnown_49 tAgg_49 (ev_put hsz rfl) k6) ?_
  obtain ⟨o, l, rfl, e1, e2, e3, hops⟩ := lineS hops
  refine line_step e3 e2 (rv_make e1) ?_
  obtain ⟨o, l, rfl, e1, e2, e3, hops⟩ := lineS hops
  refine line_step e3 e2 (rv_lit1 e1 Try.underlying49 (Try.sizeOf48 _) (Try.zeroValue48 _) (ev_put hsz rfl) rfl) ?_
  -- what there is by now
  have a4 : (e.w.alloc (.map #[] 0)).heap.size = e.w.heap.size + 1 := Array.size_push ..
  have a5 : ((e.w.alloc (.map #[] 0)).alloc (.cells #[.map (some e.w.heap.size)] 48)).heap.size = e.w.heap.size + 2 := (Array.size_push ..).trans (by rw [a4])
  have a1 : ∀ j, j < e.w.heap.size → ((e.w.alloc (.map #[] 0)).alloc (.cells #[.map (some e.w.heap.size)] 48)).heap[j]? = e.w.heap[j]? := fun j hj => (heap_alloc_old (e.w.alloc (.map #[] 0)) _ (by rw [a4]; omega)).trans (heap_alloc_old e.w _ hj)
  have a2 : ((e.w.alloc (.map #[] 0)).alloc (.cells #[.map (some e.w.heap.size)] 48)).heap[e.w.heap.size]? = some (.map #[] 0) := (heap_alloc_old (e.w.alloc (.map #[] 0)) _ (by rw [a4]; omega)).trans (heap_alloc_new e.w _)
  have a3 : ((e.w.alloc (.map #[] 0)).alloc (.cells #[.map (some e.w.heap.size)] 48)).heap[(e.w.alloc (.map #[] 0)).heap.size]? = some (.cells #[.map (some e.w.heap.size)] 48) := heap_alloc_new (e.w.alloc (.map #[] 0)) _
  obtain ⟨o, l, rfl, e1, e2, e3, hops⟩ := lineS hops
  obtain ⟨i, hi, hz, hi1, hi2, z, hzi, hzc⟩ : ∃ i : TypeInfo, Try.prog.info? 48 = some i ∧ True ∧ i.size = 1 ∧ i.bytes ≤ 8 ∧ ∃ z, i.zero = some z ∧ z.cells.size = 1 := infoK
  obtain ⟨g', cap', cur', w3, y1, y2, y3, y4, y5, y6, y7, y8, y9, y10, y11, y12, y13, y14, y15, y16⟩ := rv_append1 (a := putAll a [(41, .slice (some ⟨(e.w.alloc (.map #[] 0)).heap.size, 0, none⟩) 1 1), (40, .map (some e.w.heap.size)), (39, .slice (some ⟨g, 0, none⟩) K.length cap), (38, .pointer (some ⟨p, 0 + tOff Try.prog 51 3, none⟩)), (37, .pointer (some ⟨p, 0, none⟩)), (36, .pointer (some ⟨p, 0, none⟩)), (35, .pointer (some ⟨p, 0, none⟩))]) (w := (e.w.alloc (.map #[] 0)).alloc (.cells #[.map (some e.w.heap.size)] 48)) (v := .map (some e.w.heap.size)) (q := (e.w.alloc (.map #[] 0)).heap.size) (c := 1) (cap := cap) (n := K.length) (g := g) e1 Try.underlying49 hi hzi hi1 hi2 hzc
    (ev_put hsz rfl) (ev_put hsz rfl) ((a1 g hglt).trans u2) u5 u3 u4 (by simp only [World.cell?, a3]; rfl) rfl hg
  rw [a5] at y2 y9 y10
  change wpList _ _ _ _ (putAll a [(41, .slice (some ⟨(e.w.alloc (.map #[] 0)).heap.size, 0, none⟩) 1 1), (40, .map (some e.w.heap.size)), (39, .slice (some ⟨g, 0, none⟩) K.length cap), (38, .pointer (some ⟨p, 0 + tOff Try.prog 51 3, none⟩)), (37, .pointer (some ⟨p, 0, none⟩)), (36, .pointer (some ⟨p, 0, none⟩)), (35, .pointer (some ⟨p, 0, none⟩))]) _
  refine line_step e3 e2 y1 ?_
  obtain ⟨o, l, rfl, e1, e2, e3, hops⟩ := lineS hops
  refine line_step e3 e2 (rv_nil e1 (ev_put hsz rfl)) ?_
  obtain ⟨o, l, rfl, e1, e2, e3, hops⟩ := lineS hops
  refine line_step e3 e2 (rv_field e1 tStruct_51_3 (ev_put hsz rfl)) ?_
  obtain ⟨o, l, rfl, e1, e2, e3, hops⟩ := lineS hops
  have y8' : ∀ j, j < e.w.heap.size → j ≠ g → w3.heap[j]? = e.w.heap[j]? := fun j hj hjg => (y8 j (by rw [a5]; omega) hjg).trans (a1 j hj)
  have hpg : p ≠ g := fun he => hpm g u1 he.symm
  have k3' : w3.heap[p]? = some (.cells cs ty (0, 0)) := (y8' p hplt hpg).trans k3
  have hcl : 3 < cs.size := (Array.getElem?_eq_some_iff.1 k4).1
  obtain ⟨cs', q1, q2⟩ := rv_store (a := putAll a [(44, .pointer (some ⟨p, 0 + tOff Try.prog 51 3, none⟩)), (43, .pointer (some ⟨p, 0, none⟩)), (42, .slice (some ⟨g', 0, none⟩) (K.length + 1) cap'), (41, .slice (some ⟨(e.w.alloc (.map #[] 0)).heap.size, 0, none⟩) 1 1), (40, .map (some e.w.heap.size)), (39, .slice (some ⟨g, 0, none⟩) K.length cap), (38, .pointer (some ⟨p, 0 + tOff Try.prog 51 3, none⟩)), (37, .pointer (some ⟨p, 0, none⟩)), (36, .pointer (some ⟨p, 0, none⟩)), (35, .pointer (some ⟨p, 0, none⟩))]) (w := w3) (i := 0 + tOff Try.prog 51 3) (cs := cs) (ty := ty) (b := p) (P := Try.prog) (x := .tmp 44) (y := .tmp 42) e1 tKnown_49 tSize_49 (ev_put hsz rfl) k3' (by rw [tOffK]; exact hcl) (by rw [ev_put hsz rfl]; rfl) (by rw [ev_put hsz rfl]; rfl)
  rw [ev_put hsz rfl, tOffK] at q2
  have q2 : cs'.toList = cs.toList.set 3 (.slice (some ⟨g', 0, none⟩) (K.length + 1) cap') := q2
  change wpList _ _ _ _ (putAll a [(44, .pointer (some ⟨p, 0 + tOff Try.prog 51 3, none⟩)), (43, .pointer (some ⟨p, 0, none⟩)), (42, .slice (some ⟨g', 0, none⟩) (K.length + 1) cap'), (41, .slice (some ⟨(e.w.alloc (.map #[] 0)).heap.size, 0, none⟩) 1 1), (40, .map (some e.w.heap.size)), (39, .slice (some ⟨g, 0, none⟩) K.length cap), (38, .pointer (some ⟨p, 0 + tOff Try.prog 51 3, none⟩)), (37, .pointer (some ⟨p, 0, none⟩)), (36, .pointer (some ⟨p, 0, none⟩)), (35, .pointer (some ⟨p, 0, none⟩))]) _
  refine line_skip e3 e2 q1 ?_
  obtain rfl := List.map_eq_nil_iff.1 hops
  obtain ⟨o1, o2, o3, o4, o5⟩ := Only.setRow w3 p cs'
  have hg'p : g' ≠ p := by
    rcases y2 with rfl | rfl
    · exact fun he => hpm _ u1 he
    · omega
  have hmg : ∀ k, k ∈ ms → e.μ n k := fun k hk => k5.mem hk
  have hgms : g ∉ ms := k5.2.2.2.2.2.2.2.2.1
  have hm4 : (w3.setRow p cs').heap[e.w.heap.size]? = some (.map #[] 0) := by
    rw [o5 _ (by omega), y8 _ (by rw [a5]; omega) (by omega), a2]
  have hown : (w3.setRow p cs').ownsMap Try.prog 9 anyE e.w.heap.size 0 (.map []) := ownsMap_same (World.ownsMap_made (H := Unit) e.w Try.prog 9 anyE) (hm4.trans (heap_alloc_new e.w _).symm)
  have hrow4 : (w3.setRow p cs').heap[g']? = some (.cells cur' 48 (0, 0)) := (o5 _ hg'p).trans y3
  have hold : ∀ j, j < e.w.heap.size → j ≠ p → j ≠ g → (w3.setRow p cs').heap[j]? = e.w.heap[j]? := fun j hj hjp hjg => (o5 j hjp).trans (y8' j hj hjg)
  have hsz4 : e.w.heap.size ≤ (w3.setRow p cs').heap.size := by rw [o4]; omega
  obtain ⟨w1, l1⟩ := hw.kcSet (KSK (K ++ [[]])) (fun x => e.μ n x ∨ x = e.w.heap.size ∨ x = g') hn hrp k1 k3 (setRow_heap _ _ _ _ _ _ k3') q2 (by simp) (rowK hk) (o1.trans y12) (o2.trans y13) (o3.trans y14) hsz4
    (fun k hk hk1 hk2 => hold k hk hk1 (fun he => hk2 (he ▸ u1)))
    (fun k hk => by
      have gnew : ∀ k, k = g' → e.μ n k ∨ e.w.heap.size ≤ k ∨ Unowned Γ h e k := fun k he => by
        rcases y2 with y2 | y2
        · exact .inl (by rw [he, y2]; exact u1)
        · exact .inr (.inl (by omega))
      have gobj : (∀ o, (w3.setRow p cs').heap[g']? = some o → muObj o = true) := fun o ho => by rw [hrow4] at ho; cases ho; rfl
      by_cases hkg : k = g'
      · refine ⟨gnew k hkg, by rw [hkg, o4]; exact y11, by rw [hkg]; exact gobj, fun hlt o x hx => ?_⟩
        rcases y2 with y2 | y2
        · -- the same row: its cells are the box's
          have hmu := hw.ext.mu n g hnn u1
          rw [hkg] at hx ⊢
          have hsz0 : cur'.size = gs.size := by
            have := y15 y2
            omega
          simp only [World.cell?, hrow4] at hx
          have ho : o < gs.size := by
            have := (Array.getElem?_eq_some_iff.1 (by simpa using hx)).1
            omega
          rw [y2]
          exact hmu.s o gs[o] (by simp only [World.cell?, u2]; exact Array.getElem?_eq_getElem ho)
        · omega
      · rcases hk with hk | hk | hk
        · by_cases hkg2 : k = g
          · -- the old row, where the new one is another
            subst hkg2
            have y2' := y2.resolve_left (fun he => hkg he.symm)
            exact mu_ok hw hnn hk hsz4 ((o5 k (hpm k hk)).trans ((y16 (fun he => hkg he.symm)).trans (a1 k (hmm k hk))))
          · exact mu_ok hw hnn hk hsz4 (hold k (hmm k hk) (hpm k hk) hkg2)
        · subst hk
          exact mu_map (.inr (.inl (Nat.le_refl _))) hown
        · exact absurd hk hkg)
    ⟨g', cap', cur', ms ++ [e.w.heap.size], by simp, by
      have := k5.push (w' := w3.setRow p cs') (m := e.w.heap.size) (b' := g') (cap' := cap') (cs' := cur') hown (fun hm => by have := hmm _ (hmg _ hm); omega) (by rcases y2 with y2 | y2 <;> omega)
        (by
          rcases y2 with y2 | y2
          · rw [y2]; exact hgms
          · exact fun hm => by have := hmm _ (hmg _ hm); omega) hrow4 (by simpa using y5) y6 y4 (by simpa using y7)
        (fun j hj => hold j (hmm j (hmg j hj)) (hpm j (hmg j hj)) (fun he => hgms (he ▸ hj)))
      rw [List.map_append]
      exact this⟩
  exact ⟨rfl, _, rfl, slots_fgt hs l1 _ [35, 36, 37, 38, 39, 40, 41, 42, 43, 44] (fun i hi => by simp at hi ⊢; omega) (by rw [hN]; rfl), w1⟩
set_option maxHeartbeats 1000000 in
theorem hK_new {t : Tab} {σ : Nat → AV} {h : Hp} {Q : APost} {y : D} {ops : Array Oper} (x : Q .normal (upd (upd (fgt [6, 7, 8, 9, 10, 4] σ) 10 (.c (.pt h.nx 0))) 4 (.c (.pt h.nx 0))) (h.box [.d y, .d (.v (.int .i64 0)), .d (.v (.int .i64 0)), .kc (KSK [[]])]))
    (h0 : σ 0 = .c (.d y) := by (simp -implicitDefEqProofs only [goR, ↓upd_at, goS, ↓reduceIte, reduceCtorEq, seval, Y]; try rfl)) (hy : ∀ (w : World) (S : Nat → Nat → Prop) (v : Value), R1 w S y v → v.cells = #[v] := by intro w S v hv; rcases hv.slInv with ⟨_, o, rfl⟩ | ⟨vs, b, of, cap, rfl, _⟩ <;> rfl)
    (hP : t.P = Try.prog := by rfl) (hl0 : t.lk.contains 999999 = false := by rfl) (hlk : t.lk.contains 1000030 = true := by rfl) (hops : ops.toList.map shO = [(.move (.tmp 0), some 6, none), (.makeMap 48 none, some 7, none), (.buildSlice 49 1 #[(0, .tmp 7)], some 8, none), (.build 51 #[(0, .tmp 6), (3, .tmp 8)], some 9, none), (.box 51 (.tmp 9), some 10, none), (.assign (.tmp 10), some 4, none)] := by rfl) : aC t (.region 2 ops false) σ h Q := by
  refine ⟨σ, h, Wk.refl _ _ _, .inr ⟨_, _, ⟨hl0, fun Γ a e hΓ hnt hs hw => ?_⟩, x⟩⟩
  have hN : Γ.nt = 30 := hnt 30 hlk
  rw [hP]
  have hsz : a.tmps.size = 30 := hs.1.trans hN
  have r0 := hs.2.2 0 (by omega)
  rw [h0] at r0
  have r0 : R1 e.w e.S y (a.eval (.tmp 0)) := r0
  have hc0 := hy _ _ _ r0
  refine wp_region_list ?_
  generalize ops.toList = l at hops ⊢
  change wpList _ _ _ l (putAll a []) _
  obtain ⟨o, l, rfl, e1, e2, e3, hops⟩ := lineS hops
  refine line_step e3 e2 (rv_move e1 (ev_put hsz rfl)) ?_
  obtain ⟨o, l, rfl, e1, e2, e3, hops⟩ := lineS hops
  refine line_step e3 e2 (rv_make e1) ?_
  obtain ⟨o, l, rfl, e1, e2, e3, hops⟩ := lineS hops
  refine line_step e3 e2 (rv_lit1 e1 Try.underlying49 (Try.sizeOf48 _) (Try.zeroValue48 _) (ev_put hsz rfl) rfl) ?_
  have a4 : (e.w.alloc (.map #[] 0)).heap.size = e.w.heap.size + 1 := Array.size_push ..
  have a5 : ((e.w.alloc (.map #[] 0)).alloc (.cells #[.map (some e.w.heap.size)] 48)).heap.size = e.w.heap.size + 2 := (Array.size_push ..).trans (by rw [a4])
  have a1 : ∀ j, j < e.w.heap.size → ((e.w.alloc (.map #[] 0)).alloc (.cells #[.map (some e.w.heap.size)] 48)).heap[j]? = e.w.heap[j]? := fun j hj => (heap_alloc_old (e.w.alloc (.map #[] 0)) _ (by rw [a4]; omega)).trans (heap_alloc_old e.w _ hj)
  have a2 : ((e.w.alloc (.map #[] 0)).alloc (.cells #[.map (some e.w.heap.size)] 48)).heap[e.w.heap.size]? = some (.map #[] 0) := (heap_alloc_old (e.w.alloc (.map #[] 0)) _ (by rw [a4]; omega)).trans (heap_alloc_new e.w _)
  have a3 : ((e.w.alloc (.map #[] 0)).alloc (.cells #[.map (some e.w.heap.size)] 48)).heap[(e.w.alloc (.map #[] 0)).heap.size]? = some (.cells #[.map (some e.w.heap.size)] 48) := heap_alloc_new (e.w.alloc (.map #[] 0)) _
  obtain ⟨o, l, rfl, e1, e2, e3, hops⟩ := lineS hops
  change wpList _ _ _ _ (putAll a [(8, .slice (some ⟨(e.w.alloc (.map #[] 0)).heap.size, 0, none⟩) 1 1), (7, .map (some e.w.heap.size)), (6, a.eval (.tmp 0))]) _
  have ea : (putAll a [(8, .slice (some ⟨(e.w.alloc (.map #[] 0)).heap.size, 0, none⟩) 1 1), (7, .map (some e.w.heap.size)), (6, a.eval (.tmp 0))]).eval (.tmp 6) = a.eval (.tmp 0) := ev_put hsz rfl
  have eb : (putAll a [(8, .slice (some ⟨(e.w.alloc (.map #[] 0)).heap.size, 0, none⟩) 1 1), (7, .map (some e.w.heap.size)), (6, a.eval (.tmp 0))]).eval (.tmp 8) = .slice (some ⟨(e.w.alloc (.map #[] 0)).heap.size, 0, none⟩) 1 1 := ev_put hsz rfl
  have hb : (execOp (putAll a [(8, .slice (some ⟨(e.w.alloc (.map #[] 0)).heap.size, 0, none⟩) 1 1), (7, .map (some e.w.heap.size)), (6, a.eval (.tmp 0))]).eval o).run Try.prog ((e.w.alloc (.map #[] 0)).alloc (.cells #[.map (some e.w.heap.size)] 48)) = .ok (.value (.agg #[(a.eval (.tmp 0)), .int .i64 0, .int .i64 0, .slice (some ⟨(e.w.alloc (.map #[] 0)).heap.size, 0, none⟩) 1 1])) ((e.w.alloc (.map #[] 0)).alloc (.cells #[.map (some e.w.heap.size)] 48)) := by
    have hz := Try.zeroValue51 ((e.w.alloc (.map #[] 0)).alloc (.cells #[.map (some e.w.heap.size)] 48))
    have hag : ∀ cs : Array Value, (Value.agg cs).cells = cs := fun _ => rfl
    have hsl : ∀ o n c, (Value.slice o n c).cells = #[Value.slice o n c] := fun _ _ _ => rfl
    simp only [execOp, e1, Instr.build, Sem.run_bind, hz, Result.andThen_ok, run_underlying Try.underlying51, List.mapM_toArray, Array.mapM_eq_mapM_toList, List.mapM_cons, List.mapM_nil, Try.sizeOf23, Try.sizeOf3, Try.sizeOf49, Sem.run_pure, List.map_toArray, List.map_cons, List.map_nil, ea, eb, hag]
    simp [Instr.fill, hc0, hsl]
  refine line_step e3 e2 hb ?_
  obtain ⟨o, l, rfl, e1, e2, e3, hops⟩ := lineS hops
  change wpList _ _ _ _ (putAll a [(9, .agg #[(a.eval (.tmp 0)), .int .i64 0, .int .i64 0, .slice (some ⟨(e.w.alloc (.map #[] 0)).heap.size, 0, none⟩) 1 1]), (8, .slice (some ⟨(e.w.alloc (.map #[] 0)).heap.size, 0, none⟩) 1 1), (7, .map (some e.w.heap.size)), (6, a.eval (.tmp 0))]) _
  have ec : (putAll a [(9, .agg #[(a.eval (.tmp 0)), .int .i64 0, .int .i64 0, .slice (some ⟨(e.w.alloc (.map #[] 0)).heap.size, 0, none⟩) 1 1]), (8, .slice (some ⟨(e.w.alloc (.map #[] 0)).heap.size, 0, none⟩) 1 1), (7, .map (some e.w.heap.size)), (6, a.eval (.tmp 0))]).eval (.tmp 9) = .agg #[(a.eval (.tmp 0)), .int .i64 0, .int .i64 0, .slice (some ⟨(e.w.alloc (.map #[] 0)).heap.size, 0, none⟩) 1 1] := ev_put hsz rfl
  refine line_step (v := .pointer (some ⟨((e.w.alloc (.map #[] 0)).alloc (.cells #[.map (some e.w.heap.size)] 48)).heap.size, 0, none⟩)) (w' := ((e.w.alloc (.map #[] 0)).alloc (.cells #[.map (some e.w.heap.size)] 48)).alloc (.cells #[(a.eval (.tmp 0)), .int .i64 0, .int .i64 0, .slice (some ⟨(e.w.alloc (.map #[] 0)).heap.size, 0, none⟩) 1 1] 51)) e3 e2 (by
    simp only [execOp, e1, ec, Instr.box, Sem.run_bind, Result.andThen_ok, newVar, newRow, run_newObj, Sem.run_pure]
    rfl) ?_
  obtain ⟨o, l, rfl, e1, e2, e3, hops⟩ := lineS hops
  refine line_step e3 e2 (rv_assign e1 (ev_put hsz rfl)) ?_
  obtain rfl := List.map_eq_nil_iff.1 hops
  -- the world's end
  have hgr : Grows e.w ((e.w.alloc (.map #[] 0)).alloc (.cells #[.map (some e.w.heap.size)] 48)) := (Grows.alloc e.w _).trans (Grows.alloc _ _)
  obtain ⟨w1, l1⟩ := hw.grows (S' := fun b o => e.S b o ∨ (e.w.heap.size ≤ b ∧ b < ((e.w.alloc (.map #[] 0)).alloc (.cells #[.map (some e.w.heap.size)] 48)).heap.size)) hgr (fun b o hb => ⟨fun h => h.resolve_right (by omega), .inl⟩) (fun b o hb => hb.elim (fun hb => Nat.lt_of_lt_of_le (hw.sdom b o hb) hgr.size) (fun hb => hb.2))
  obtain ⟨e3', z1, z2, z3, z4, z5, z6, z7⟩ := w1.newBoxX (cs := #[(a.eval (.tmp 0)), .int .i64 0, .int .i64 0, .slice (some ⟨(e.w.alloc (.map #[] 0)).heap.size, 0, none⟩) 1 1]) (ty := 51) (row := [.d y, .d (.v (.int .i64 0)), .d (.v (.int .i64 0)), .top]) (fun e' hle _ => by
    have q := RC.mono (l1.trans hle) (c := .d y) r0
    simp only [RCs]
    refine ⟨q, .v _, .v _, trivial, trivial⟩) (by simp [C.noK])
  simp only at z4 z5 z6 z7
  have hm1 : e3'.w.heap[e.w.heap.size]? = some (.map #[] 0) := by rw [z1]; exact (heap_alloc_old ((e.w.alloc (.map #[] 0)).alloc (.cells #[.map (some e.w.heap.size)] 48)) _ (by rw [a5]; omega)).trans a2
  have hm2 : e3'.w.heap[(e.w.alloc (.map #[] 0)).heap.size]? = some (.cells #[.map (some e.w.heap.size)] 48) := by rw [z1]; exact (heap_alloc_old ((e.w.alloc (.map #[] 0)).alloc (.cells #[.map (some e.w.heap.size)] 48)) _ (by rw [a5, a4]; omega)).trans a3
  have hbox : e3'.w.heap[((e.w.alloc (.map #[] 0)).alloc (.cells #[.map (some e.w.heap.size)] 48)).heap.size]? = some (.cells #[(a.eval (.tmp 0)), .int .i64 0, .int .i64 0, .slice (some ⟨(e.w.alloc (.map #[] 0)).heap.size, 0, none⟩) 1 1] 51) := by rw [z1]; exact heap_alloc_new ((e.w.alloc (.map #[] 0)).alloc (.cells #[.map (some e.w.heap.size)] 48)) _
  have hsz3 : e3'.w.heap.size = e.w.heap.size + 3 := by rw [z1]; exact (Array.size_push ..).trans (by rw [a5])
  have hnxH : h.H h.nx = none := (hw.fresh h.nx (Nat.le_refl _)).1
  have hnxT : h.T h.nx = none := (hw.fresh h.nx (Nat.le_refl _)).2.1
  have un : ∀ k, e.w.heap.size ≤ k → k < ((e.w.alloc (.map #[] 0)).alloc (.cells #[.map (some e.w.heap.size)] 48)).heap.size → Unowned Γ (h.box [.d y, .d (.v (.int .i64 0)), .d (.v (.int .i64 0)), .top]) e3' k := fun k hk hk2 => by
    have hk3 : k ≠ ((e.w.alloc (.map #[] 0)).alloc (.cells #[.map (some e.w.heap.size)] 48)).heap.size := by omega
    refine ⟨by rw [hsz3]; rw [a5] at hk2; omega, .inl (Nat.le_trans hw.hB hk), fun i hi hρ => ?_, fun i v hi hv hf hb => ?_, fun i hi hm => ?_⟩
    · rw [z4] at hρ
      by_cases hin : i = h.nx
      · subst hin; simp only [upd_same, Option.some.injEq] at hρ; exact hk3 hρ.symm
      · rw [upd_ne _ _ _ _ hin] at hρ
        obtain ⟨r, hr⟩ := Option.ne_none_iff_exists'.1 (show h.H i ≠ none by simpa [Hp.box, upd, hin] using hi)
        obtain ⟨ob, o1, _⟩ := hw.boxAny hρ r hr
        have := (Array.getElem?_eq_some_iff.1 o1).1
        omega
    · have hin : i ≠ h.nx := fun he => hi (by rw [he]; exact hnxT)
      rw [z5, upd_ne _ _ _ _ hin] at hv
      obtain ⟨ty, hty⟩ := Option.ne_none_iff_exists'.1 (show h.T i ≠ none from hi)
      obtain ⟨_, v', q1, q2⟩ := hw.tok i ty hty
      rw [hv] at q1; cases q1
      obtain ⟨sz, n, xs, _, q2, _⟩ := q2.resolve_left hf
      have := (q2.1.lt _ hb).2
      omega
    · rw [z6] at hm
      by_cases hin : i = h.nx
      · subst hin; exact (hw.fresh h.nx (Nat.le_refl _)).2.2.2.2 k hm
      · have := (hw.ext.mu i k (by simpa [Hp.box, upd, hin] using hi) hm).lt
        omega
  have hS3 : ∀ k o, e.w.heap.size ≤ k → k < ((e.w.alloc (.map #[] 0)).alloc (.cells #[.map (some e.w.heap.size)] 48)).heap.size → e3'.S k o := fun k o h1 h2 => (z7 k o).2 (.inl (.inr ⟨h1, h2⟩))
  have hown : e3'.w.ownsMap Try.prog 9 anyE e.w.heap.size 0 (.map []) := ownsMap_same (World.ownsMap_made (H := Unit) e.w Try.prog 9 anyE) (hm1.trans (heap_alloc_new e.w _).symm)
  obtain ⟨w2, l2⟩ := z2.kcSet (n := h.nx) (j := 3) (b := ((e.w.alloc (.map #[] 0)).alloc (.cells #[.map (some e.w.heap.size)] 48)).heap.size) (row := [.d y, .d (.v (.int .i64 0)), .d (.v (.int .i64 0)), .top]) (cs := #[(a.eval (.tmp 0)), .int .i64 0, .int .i64 0, .slice (some ⟨(e.w.alloc (.map #[] 0)).heap.size, 0, none⟩) 1 1]) (cs' := #[(a.eval (.tmp 0)), .int .i64 0, .int .i64 0, .slice (some ⟨(e.w.alloc (.map #[] 0)).heap.size, 0, none⟩) 1 1]) (v' := .slice (some ⟨(e.w.alloc (.map #[] 0)).heap.size, 0, none⟩) 1 1) (w' := e3'.w) (KSK [[]]) (fun k => k = e.w.heap.size ∨ k = (e.w.alloc (.map #[] 0)).heap.size)
    (by simp [Hp.box]) rfl (by rw [z4]; simp) hbox hbox rfl (by simp) (fun i Ψ hi => by rcases i with _|_|_|_|_ <;> simp) rfl rfl rfl (Nat.le_refl _) (fun k _ _ _ => rfl)
    (fun k hk => by
      have hk1 : e.w.heap.size ≤ k ∧ k < ((e.w.alloc (.map #[] 0)).alloc (.cells #[.map (some e.w.heap.size)] 48)).heap.size := by rcases hk with hk | hk <;> rw [hk, a5] <;> omega
      refine ⟨.inr (.inr (un k hk1.1 hk1.2)), by rw [hsz3]; rw [a5] at hk1; omega, fun o ho => ?_, fun _ o x _ => hS3 k o hk1.1 hk1.2⟩
      rcases hk with hk | hk
      · rw [hk, hm1] at ho; cases ho; rfl
      · rw [hk, hm2] at ho; cases ho; rfl)
    ⟨(e.w.alloc (.map #[] 0)).heap.size, 1, _, [e.w.heap.size], rfl, KSp.one hown (by rw [a4]; omega) hm2 rfl⟩
  have hH : { h.box [.d y, .d (.v (.int .i64 0)), .d (.v (.int .i64 0)), .top] with H := upd (h.box [.d y, .d (.v (.int .i64 0)), .d (.v (.int .i64 0)), .top]).H h.nx (some [.d y, .d (.v (.int .i64 0)), .d (.v (.int .i64 0)), .kc (KSK [[]])]) } = h.box [.d y, .d (.v (.int .i64 0)), .d (.v (.int .i64 0)), .kc (KSK [[]])] := by
    simp only [Hp.box]
    congr 1
    funext i
    by_cases hi : i = h.nx <;> simp [upd, hi]
  have w3 := w2
  rw [show ([.d y, .d (.v (.int .i64 0)), .d (.v (.int .i64 0)), .top] : List C).set 3 (.kc (KSK [[]])) = [.d y, .d (.v (.int .i64 0)), .d (.v (.int .i64 0)), .kc (KSK [[]])] from rfl, hH] at w3
  have hpt : ∀ E : Env, E.ρ = e3'.ρ → RC E (.pt h.nx 0) (.pointer (some ⟨((e.w.alloc (.map #[] 0)).alloc (.cells #[.map (some e.w.heap.size)] 48)).heap.size, 0, none⟩)) := fun E hE => ⟨_, by rw [hE, z4]; simp, rfl⟩
  refine ⟨rfl, _, ?z, slots_out (slots_out (slots_fgt hs ((l1.trans z3).trans l2) _ [6, 7, 8, 9, 10, 4] (fun i hi => by simp at hi ⊢; omega) (by rw [hN]; rfl)) (by rw [hN]; decide) ?_) (by rw [hN]; decide) ?_, w3⟩
  case z => exact z1
  · rw [ev_put hsz rfl]; exact hpt _ rfl
  · rw [ev_put hsz rfl]; exact hpt _ rfl
end Go.Proofs.Ytppomhjhokbacaa
