/- Structs by value, conversions, calls of functions of data. -/
import Derived.Test.YtgkacglpjmndbaaMh
namespace Go.Proofs.Ytgkacglpjmndbaa
open Go.RowKit

/-- A field of a struct. -/
def aField (P : Program) (σ : Nat → AV) (h : Hp) (t : TypeId) (x : Operand) (f : Nat) : AR :=
  match evA σ x with
  | .ag l => let r := aLoadRow P h (tFld P t f) l (tOff P t f); ⟨tStruct P t f = true ∧ r.pre, r.val, r.h⟩
  | .c (.d (.ag l)) => let r := aLoadRow P h (tFld P t f) (l.map C.d) (tOff P t f); ⟨tStruct P t f = true ∧ r.pre, r.val, r.h⟩
  | _ => .bad h

theorem part_row {P : Program} {h : Hp} {t : TypeId} {row : List C} {off : Nat} {e : Env} {vs : List Value}
    (hp : (aLoadRow P h t row off).pre) (hr : RCs e row vs) : ∃ v, (part t ⟨vs⟩ off).run P e.w = .ok v e.w ∧ RA e (aLoadRow P h t row off).val v := by
  obtain ⟨h1, h2, h3⟩ := hp
  have hi := run_isAgg P t e.w h1
  have hs := run_sizeOf P t e.w h1
  simp only [aLoadRow]
  cases hag : tAgg P t with
  | true =>
    rw [hag] at hi
    refine ⟨.agg ((vs.drop off).take (tSize P t)).toArray, ?_, _, rfl, (hr.drop off).take _⟩
    unfold part
    simp only [Sem.run_bind, hi, Result.andThen_ok, if_true, hs, Sem.run_pure]
    congr 2
    apply Array.ext'
    simp [List.take_drop]
  | false =>
    rw [hag] at hi
    have hof := h3 hag
    obtain ⟨v, hv, hv'⟩ := hr.get off (row.getD off default) (by simp [List.getD_eq_getElem?_getD, List.getElem?_eq_getElem hof])
    refine ⟨v, ?_, hv'⟩
    have hv2 : (⟨vs⟩ : Array Value)[off]? = some v := by simpa using hv
    unfold part
    simp only [Sem.run_bind, hi, Result.andThen_ok, Bool.false_eq_true, if_false, hv2, Sem.run_pure]

theorem run_field {P : Program} {t : TypeId} {f : Nat} (h : tStruct P t f = true) (vs : List Value) (w : World) :
    (Instr.field t (.agg ⟨vs⟩) f).run P w = (part (tFld P t f) ⟨vs⟩ (tOff P t f)).run P w := by
  unfold tStruct at h
  split at h
  · rename_i fs hu
    simp only [Bool.and_eq_true, Option.isSome_iff_exists, bne_iff_ne, ne_eq] at h
    obtain ⟨⟨⟨⟨fd, hf⟩, hz⟩, ⟨d, hd⟩⟩, ⟨i, hi⟩⟩ := h
    simp only [Instr.field, Sem.run_bind, run_underlying hu, Result.andThen_ok, hf, asAgg, Sem.run_pure, tFld, tOff, hu, Option.map_some, Option.getD_some]
  · simp at h

theorem vr_field {Γ : Ctx} {σ : Nat → AV} {h : Hp} (o : Oper) (t : TypeId) (x : Operand) (f : Nat) (ho : o.op = .field t x f) (hp : (aField Γ.P σ h t x f).pre) :
    VR Γ o σ h (aField Γ.P σ h t x f).val (aField Γ.P σ h t x f).h := by
  unfold aField at *
  split at hp
  · rename_i l hx
    obtain ⟨h1, h2⟩ := hp
    refine VR.of_run fun a e hop hw => ?_
    have h3 := hop x (by simp [ho, Op.operands])
    rw [hx] at h3
    obtain ⟨vs, h4, h5⟩ := h3
    obtain ⟨v, h6, h7⟩ := part_row h2 h5
    refine ⟨v, ?_, h7⟩
    simp only [execOp, ho, h4]
    rw [Sem.run_bind, run_field h1, h6]; rfl
  · rename_i l hx
    obtain ⟨h1, h2⟩ := hp
    refine VR.of_run fun a e hop hw => ?_
    have h3 := hop x (by simp [ho, Op.operands])
    rw [hx] at h3
    obtain ⟨vs, h4, h5⟩ := R1.agInv h3
    obtain ⟨v, h6, h7⟩ := part_row h2 (RCs.ofD h5)
    refine ⟨v, ?_, h7⟩
    simp only [execOp, ho, h4]
    rw [Sem.run_bind, run_field h1, h6]; rfl
  · exact hp.elim

/-- A struct, part by part. -/
def aFill (P : Program) (σ : Nat → AV) (t : TypeId) : List C → List (Nat × Operand) → Prop × List C
  | row, [] => (True, row)
  | row, (i, x) :: l =>
    let r := aFill P σ t (row.take (tOff P t i) ++ sizeRow (tCS P (tFld P t i)) (evA σ x).row ++ row.drop (tOff P t i + (evA σ x).row.length)) l
    ((evA σ x).rowOk = true ∧ tStruct P t i = true ∧ (evA σ x).row.length = tSize P (tFld P t i) ∧ tOff P t i + (evA σ x).row.length ≤ row.length ∧ r.1, r.2)

def tPlain (P : Program) (t : TypeId) : Bool := match P.underlying t with | some (.struct fs) => fs.toList.all fun f => (P.info? f.type).isSome && (P.underlying f.type).isSome | _ => false

def aBuild (P : Program) (σ : Nat → AV) (h : Hp) (t : TypeId) (parts : List (Nat × Operand)) : AR :=
  ⟨tPlain P t = true ∧ tZok P t = true ∧ (aFill P σ t (sizeRow (tCS P t) ((tZ P t).map ofV)) parts).1, .ag (aFill P σ t (sizeRow (tCS P t) ((tZ P t).map ofV)) parts).2, h⟩

theorem fill_at (place : Nat → Option (Nat × Nat)) (i off size : Nat) (v : Value) (rest : List (Nat × Value)) (cells : Array Value) (hp : place i = some (off, size)) (hs : v.cells.size = size) (hl : off + size ≤ cells.size) :
    ∃ cells', cells'.toList = cells.toList.take off ++ v.cells.toList ++ cells.toList.drop (off + v.cells.toList.length) ∧ Instr.fill place cells ((i, v) :: rest) = Instr.fill place cells' rest := by
  have hset := foldl_set v.cells.toList 0 off cells (by simp [hs]; omega)
  simp only [Nat.add_zero] at hset
  have hfold : (v.cells.zipIdx.foldl (fun cs (x : Value × Nat) => cs.setIfInBounds (off + x.2) x.1) cells) = ((v.cells.toList.zipIdx 0).foldl (fun (cs : Array Value) p => cs.setIfInBounds (off + p.2) p.1) cells) := by
    rw [← Array.foldl_toList, Array.toList_zipIdx]
  rw [← hfold] at hset
  refine ⟨v.cells.zipIdx.foldl (fun cs (x : Value × Nat) => cs.setIfInBounds (off + x.2) x.1) cells, hset, ?_⟩
  conv => lhs; unfold Instr.fill
  simp only [hp, hs, ne_eq, not_true_eq_false, decide_false, Bool.false_or, decide_eq_true_eq]
  rw [if_neg (by omega)]

theorem aFill_run {P : Program} {σ : Nat → AV} {t : TypeId} {e : Env} {a : Act} {fs : Array Field} (hu : P.underlying t = some (.struct fs)) {places : Array (Nat × Nat)}
    (hpl : ∀ i : Nat, places[i]? = (fs[i]?).map fun (f : Field) => (f.offset, tSize P f.type)) : ∀ (parts : List (Nat × Operand)) (row : List C) (cells : Array Value),
    (∀ p ∈ parts, RA e (evA σ p.2) (a.eval p.2)) → (aFill P σ t row parts).1 → RCs e row cells.toList →
    ∃ out, Instr.fill (places[·]?) cells (parts.map fun p => (p.1, a.eval p.2)) = some out ∧ RCs e (aFill P σ t row parts).2 out.toList
  | [], row, cells, _, _, h => ⟨cells, rfl, h⟩
  | (i, x) :: l, row, cells, hop, hp, hr => by
    obtain ⟨p1, p2, p3, p4, p5⟩ := hp
    have hx := (hop (i, x) (by simp)).row p1
    have hl1 := hx.length
    have hl2 := hr.length
    have hplace : places[i]? = some (tOff P t i, tSize P (tFld P t i)) := by
      unfold tStruct at p2
      rw [hu] at p2
      simp only [Bool.and_eq_true, Option.isSome_iff_exists] at p2
      obtain ⟨⟨⟨⟨fd, hf⟩, _⟩, _⟩, _⟩ := p2
      rw [hpl]
      simp [tOff, tFld, hu, hf]
    have hsz : (a.eval x).cells.size = tSize P (tFld P t i) := by rw [← p3, ← hl1]; simp
    obtain ⟨cells', h1, h2⟩ := fill_at (places[·]?) i (tOff P t i) (tSize P (tFld P t i)) (a.eval x) (l.map fun p => (p.1, a.eval p.2)) cells hplace hsz (by simp at hl1 hl2; omega)
    have hr' : RCs e (row.take (tOff P t i) ++ sizeRow (tCS P (tFld P t i)) (evA σ x).row ++ row.drop (tOff P t i + (evA σ x).row.length)) cells'.toList := by
      rw [h1, hl1]
      exact ((hr.take _).append (hx.sizeRow _)).append (hr.drop _)
    obtain ⟨out, h3, h4⟩ := aFill_run hu hpl l _ cells' (fun p hp => hop p (by simp [hp])) p5 hr'
    exact ⟨out, by rw [List.map_cons, h2]; exact h3, h4⟩

theorem mapM_places {P : Program} (w : World) : ∀ (l : List Field), (l.all fun f => (P.info? f.type).isSome && (P.underlying f.type).isSome) = true →
    (l.mapM fun f => do pure (f.offset, ← sizeOf f.type) : Sem (List (Nat × Nat))).run P w = .ok (l.map fun f => (f.offset, tSize P f.type)) w
  | [], _ => by simp
  | f :: l, h => by
    simp only [List.all_cons, Bool.and_eq_true] at h
    have hs := run_sizeOf P f.type w (by simp [tKnown, h.1])
    have ih := mapM_places (P := P) w l h.2
    rw [List.mapM_cons]
    simp only [Sem.run_bind, hs, Result.andThen_ok, Sem.run_pure, ih, List.map_cons]

theorem vr_build {Γ : Ctx} {σ : Nat → AV} {h : Hp} (o : Oper) (t : TypeId) (parts : Array (Nat × Operand)) (ho : o.op = .build t parts) (hp : (aBuild Γ.P σ h t parts.toList).pre) :
    VR Γ o σ h (aBuild Γ.P σ h t parts.toList).val (aBuild Γ.P σ h t parts.toList).h := by
  obtain ⟨p1, p2, p3⟩ := hp
  refine VR.of_run fun a e hop hw => ?_
  unfold tPlain at p1
  split at p1
  · rename_i fs hu
    obtain ⟨z, hz, hz2, _⟩ := run_zeroValue p2 e.w
    have hm := mapM_places e.w fs.toList p1
    obtain ⟨out, h1, h2⟩ := aFill_run (a := a) (e := e) hu (places := (fs.toList.map fun f => (f.offset, tSize Γ.P f.type)).toArray) (fun i => by simp) parts.toList (sizeRow (tCS Γ.P t) ((tZ Γ.P t).map ofV)) z.cells
      (fun p hp => hop p.2 (by simp only [ho, Op.operands, List.mem_toArray, List.mem_map]; exact ⟨p, hp, rfl⟩)) p3 (by rw [hz2]; exact RCs.sizeRow _ (RCs.ofV _ _))
    refine ⟨.agg out, ?_, out.toList, rfl, h2⟩
    have hmap : (parts.map fun (x : Nat × Operand) => (x.1, a.eval x.2)).toList = parts.toList.map fun p => (p.1, a.eval p.2) := by simp
    have hma : (fs.mapM fun f => do pure (f.offset, ← sizeOf f.type) : Sem (Array (Nat × Nat))).run Γ.P e.w = .ok (fs.toList.map fun f => (f.offset, tSize Γ.P f.type)).toArray e.w := by
      rw [Array.mapM_eq_mapM_toList, Sem.run_map, hm]; rfl
    simp only [execOp, ho, Instr.build, Sem.run_bind, hz, Result.andThen_ok, run_underlying hu, hma, hmap, h1, Sem.run_pure]
  · simp at p1

/-! Conversions. -/
def u8s (l : List UInt8) : List D := l.map fun b => .v (.int .u8 b.toNat)
def unU8 : D → UInt8
  | .v (.int _ n) => UInt8.ofNat n.toNat
  | _ => 0
theorem unU8s (l : List UInt8) : (u8s l).map unU8 = l := by
  induction l with
  | nil => rfl
  | cons b l ih => simp only [u8s, List.map_cons, unU8] at ih ⊢; rw [ih]; simp

def aConvert (P : Program) (σ : Nat → AV) (h : Hp) (src dst : TypeId) (x : Operand) : AR :=
  match evA σ x with
  | .c (.d (.v (.int _ n))) => match P.underlying src, P.underlying dst with
    | some (.int _), some (.int k) => ⟨True, .c (.d (.v (.int k (k.wrap n)))), h⟩
    | _, _ => .bad h
  | y => match slD y with
    | some (_, l) => ⟨tSlice P src = true ∧ P.underlying (tElem P src) = some (.int .u8) ∧ P.underlying dst = some .string ∧ ∃ bs, l = u8s bs, .c (.d (.v (str (l.map unU8)))), h⟩
    | none => .bad h

theorem Rn.u8 {w : World} {S : Nat → Nat → Prop} : ∀ {bs : List UInt8} {vs : List Value}, Rn w S ((u8s bs).flatMap D.cells) vs → vs = (bs.map fun b => (b.toNat : Int)).map (Value.int .u8)
  | [], _, h => by cases h; rfl
  | b :: bs, _, h => by
    simp only [u8s, List.map_cons, List.flatMap_cons, D.cells, List.singleton_append] at h
    cases h with
    | acons _ x _ vs h1 h2 =>
      have := R1.vInv h1
      subst this
      rw [Rn.u8 (bs := bs) h2]; rfl

theorem vr_convert {Γ : Ctx} {σ : Nat → AV} {h : Hp} (o : Oper) (src dst : TypeId) (x : Operand) (ho : o.op = .convert src dst x) (hp : (aConvert Γ.P σ h src dst x).pre) :
    VR Γ o σ h (aConvert Γ.P σ h src dst x).val (aConvert Γ.P σ h src dst x).h := by
  unfold aConvert at *
  split at hp
  · rename_i k n hx
    split at hp
    · rename_i k1 k2 h1 h2
      refine VR.of_run fun a e hop hw => ⟨_, ?_, .v _⟩
      have h3 := hop x (by simp [ho, Op.operands])
      rw [hx] at h3
      have h3 := R1.vInv h3
      simp [execOp, ho, h3, convert, run_underlying h1, run_underlying h2, Conv.intToInt]
    · exact hp.elim
  · rename_i y hy
    split at hp
    · rename_i sz l hs
      obtain ⟨p1, p2, p3, bs, rfl⟩ := hp
      refine VR.of_run fun a e hop hw => ⟨_, ?_, .v _⟩
      have h3 := (hop x (by simp [ho, Op.operands])).slD hs
      unfold tSlice at p1
      split at p1
      · rename_i el hu
        have he : tElem Γ.P src = el := by simp [tElem, hu]
        rw [he] at p2
        rw [unU8s]
        rcases h3.slInv with ⟨hl, o', hv⟩ | ⟨vs, b, of, cap, hv, r4, r5, r6, r7⟩
        · have hbs : bs = [] := by cases bs with | nil => rfl | cons _ _ => simp [u8s] at hl
          subst hbs
          have : (convert src dst (.slice o' 0 0)).run Γ.P e.w = .ok (.string ByteArray.empty) e.w := by
            cases o' with
            | none => exact run_convert_bytes_nil e.w src el hu p2 0 0 dst p3
            | some a' => rw [run_convert_bytes_string e.w src dst el _ 0 0 hu p2 p3]; simp [Conv.bytesToString, loadCells, loadCellsFrom]
          simp only [execOp, ho, hv]
          rw [Sem.run_bind, this]
          rfl
        · have hvs := Rn.u8 r4
          have hlen : (bs.map fun b => (b.toNat : Int)).length = (u8s bs).length := by simp [u8s]
          have := run_convert_bytes_arg e.w src el hu p2 b of (u8s bs).length cap (bs.map fun b => (b.toNat : Int)) hlen (fun i hi => by
            have hi' : i < bs.length := by simpa [u8s] using hi
            have := (r5 i (.int .u8 (bs[i].toNat : Int)) (by rw [hvs]; simp [hi'])).1
            rw [this]
            simp [hi']) dst p3
          simp only [execOp, ho, hv]
          rw [Sem.run_bind, this]
          have hs : strOfNums (bs.map fun b => (b.toNat : Int)) = ⟨bs.toArray⟩ := by
            simp [strOfNums, Function.comp_def]
          rw [hs]
          rfl
      · simp at p1
    · exact hp.elim

end Go.Proofs.Ytgkacglpjmndbaa
