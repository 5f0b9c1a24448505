/- The same functions, with a lexer that is quick to reckon. Written by fastl.py. -/
import Derived.Test.YtfkhlbhjhdpkoaaGreatDoorZrax
import Derived.Test.YtfkhlbhjhdpkoaaGreatDoorZrbf
set_option linter.unusedVariables false
set_option linter.unusedSimpArgs false
namespace Go.Proofs.YtfkhlbhjhdpkoaaGreatDoor
open Go.RowKit
noncomputable def fastLex (f : Int) (t : List UInt8) : Option ((List Token) × Fault) := if t.length ≤ 3000 then some (toksV f t) else JB f t
theorem fastLex_eq : JB = fastLex := by
 funext f t
 unfold fastLex
 split
 ·exact ltokens_eq f t (by omega)
 ·rfl
noncomputable def Jbm (L : (Int → List UInt8 → Option ((List Token) × Fault))) (q1 : Int → (List Source) → Int → Int → Int → (List Macro) → (List Int) → (List Int) → Int → (List Token) → Option (GR (Int × Int × Int × Int × (List Macro) × (List Int) × (List Int) × Int × (List Token)) (Int × (List Macro) × (List Int) × (List Int) × Int × (List Token)))) (q2 : (List Token) → (List Source) → Int → Int → Int → (List Macro) → (List Int) → (List Int) → Int → (List Token) → Option (GR (Int × Int × Int × Int × (List Macro) × (List Int) × (List Int) × Int × (List Token)) (Int × (List Macro) × (List Int) × (List Int) × Int × (List Token)))) (q3 : (List Token) → (List Source) → Int → Int → Int → (List Macro) → (List Int) → (List Int) → Int → (List Token) → Option (GR (Int × Int × Int × Int × (List Macro) × (List Int) × (List Int) × Int × (List Token)) (Int × (List Macro) × (List Int) × (List Int) × Int × (List Token)))) (a0 : Int) (a1 : List Source) (a2 : Int) (a3 : Int) (a4 : Int) (a5 : List Macro) (a6 : List Int) (a7 : List Int) (a8 : Int) (a9 : List Token) : Option (GR (Int × Int × Int × Int × (List Macro) × (List Int) × (List Int) × Int × (List Token)) (Int × (List Macro) × (List Int) × (List Int) × Int × (List Token))) :=
 if (a7.length + [a0].length) * 8 ≤ 140737488355328 then if (0 : Int) ≤ a0 ∧ a0.toNat < a1.length then (L a0 ((a1.getD a0.toNat default).Text)).bind fun r1 => grB (Z0 r1.2) (fun r2 => (Jbh r1.1).bind fun r3 => loopO (Xy q2 a1 a3 a4 r3) (0, (r3.length : Int), 0, a2, a5, a6, a7 ++ [a0], a8, ([] : List drive_group), ([] : List Token), a9)) (fun e1 => some (.er (r1.2.Err, r1.2.File, r1.2.At, a2, a5, a6, a7 ++ [a0], a8, a9))) else none else none
theorem Jc4 : Jbm JB = X0 := by
 rfl
noncomputable def Jf (L : (Int → List UInt8 → Option ((List Token) × Fault))) : Nat → (Int → (List Source) → Int → Int → Int → (List Macro) → (List Int) → (List Int) → Int → (List Token) → Option (GR (Int × Int × Int × Int × (List Macro) × (List Int) × (List Int) × Int × (List Token)) (Int × (List Macro) × (List Int) × (List Int) × Int × (List Token)))) × ((List Token) → (List Source) → Int → Int → Int → (List Macro) → (List Int) → (List Int) → Int → (List Token) → Option (GR (Int × Int × Int × Int × (List Macro) × (List Int) × (List Int) × Int × (List Token)) (Int × (List Macro) × (List Int) × (List Int) × Int × (List Token)))) × ((List Token) → (List Source) → Int → Int → Int → (List Macro) → (List Int) → (List Int) → Int → (List Token) → Option (GR (Int × Int × Int × Int × (List Macro) × (List Int) × (List Int) × Int × (List Token)) (Int × (List Macro) × (List Int) × (List Int) × Int × (List Token))))
 | 0 => (fun _ _ _ _ _ _ _ _ _ _ => none, fun _ _ _ _ _ _ _ _ _ _ => none, fun _ _ _ _ _ _ _ _ _ _ => none)
 | n + 1 => ((Jbm L) (((Jf L) n).1) (((Jf L) n).2.1) (((Jf L) n).2.2), XF (((Jf L) n).1) (((Jf L) n).2.1) (((Jf L) n).2.2), VL (((Jf L) n).1) (((Jf L) n).2.1) (((Jf L) n).2.2))
theorem Jaw : ∀ n, Jf JB n = Jc n
 | 0 => rfl
 | n + 1 => by
  rw [Jf, Jc, Jaw n]
  simp only [Jc4]
noncomputable def Jak (L : (Int → List UInt8 → Option ((List Token) × Fault))) : Int → (List Source) → Int → Int → Int → (List Macro) → (List Int) → (List Int) → Int → (List Token) → Option (GR (Int × Int × Int × Int × (List Macro) × (List Int) × (List Int) × Int × (List Token)) (Int × (List Macro) × (List Int) × (List Int) × Int × (List Token))) := ((Jf L) bigF).1
theorem Jds : Jak JB = Vv := by
 unfold Jak Vv
 simp only [Jaw]
noncomputable def KZ (L : (Int → List UInt8 → Option ((List Token) × Fault))) (a0 : List Source) (a1 : Int) (a2 : List Macro) (a3 : Limits) : Bool → Option ((List Token) × (List Int) × (List Macro) × Int × Int × Int)
 | x2 => if x2 = true then some (([] : List Token), ([] : List Int), ([] : List Macro), 3, (-1), 0) else (Jn a2).bind fun r2 => grB ((Jak L) a1 a0 a3.Fuel a3.Out a3.Deep a2 ([] : List Int) ([] : List Int) 0 []) (fun r3 => (JaX 0 (-1) 0).bind fun r4 => (JaR 0 (-1) 0 r3.2.2.2.2.2 r3.2.2.2.1 r3.2.1).bind fun r5 => some (r5.1, r5.2.1, r5.2.2, 0, (-1), 0)) (fun e1 => (ZL 0 0 0 e1.1 e1.2.1 e1.2.2.1).bind fun r6 => (ZG e1.1 e1.2.1 e1.2.2.1 ([] : List Token) ([] : List Int) ([] : List Macro)).bind fun r7 => some (r7.1, r7.2.1, r7.2.2, e1.1, e1.2.1, e1.2.2.1))
theorem JeQ : KZ JB = Ky := by
 unfold KZ Ky
 simp only [Jds]
noncomputable def JaG (L : (Int → List UInt8 → Option ((List Token) × Fault))) (a0 : List Source) (a1 : Int) (a2 : List Macro) (a3 : Limits) : Bool → Option ((List Token) × (List Int) × (List Macro) × Int × Int × Int)
 | x1 => if x1 = true then some (([] : List Token), ([] : List Int), ([] : List Macro), 6, (-1), 0) else if (ltI a3.Fuel 0) = true then (KZ L) a0 a1 a2 a3 true else if (ltI 4000 a3.Fuel) = true then (KZ L) a0 a1 a2 a3 true else if (ltI a3.Out 0) = true then (KZ L) a0 a1 a2 a3 true else if (ltI 1500 a3.Out) = true then (KZ L) a0 a1 a2 a3 true else if (ltI a3.Deep 0) = true then (KZ L) a0 a1 a2 a3 true else (KZ L) a0 a1 a2 a3 (ltI 6 a3.Deep)
theorem JeE : JaG JB = ZM := by
 unfold JaG ZM
 simp only [JeQ]
noncomputable def Jc2 (L : (Int → List UInt8 → Option ((List Token) × Fault))) (a0 : List Source) (a1 : Int) (a2 : List Macro) (a3 : Limits) : Option ((List Token) × (List Int) × (List Macro) × Int × Int × Int) :=
 (JaW a0).bind fun r1 => if (!eqI r1.Err 0) = true then some (([] : List Token), ([] : List Int), ([] : List Macro), r1.Err, r1.File, r1.At) else if (ltI a1 0) = true then (JaG L) a0 a1 a2 a3 true else (JaG L) a0 a1 a2 a3 (leI (a0.length : Int) a1)
theorem JfD : Jc2 JB = Jbn := by
 unfold Jc2 Jbn
 simp only [JeE]
noncomputable def Jbz (L : (Int → List UInt8 → Option ((List Token) × Fault))) (a0 : List Source) (a1 : Int) : Option ((List UInt8) × Int) :=
 (JaT).bind fun r1 => ((Jc2 L) a0 a1 ([] : List Macro) r1).bind fun r2 => (Jay r2.1).bind fun r3 => some (r3, r2.2.2.2.1)
theorem JdE : Jbz JB = Z3 := by
 unfold Jbz Z3
 simp only [JfD]
noncomputable def Jb3 (L : (Int → List UInt8 → Option ((List Token) × Fault)))  : Option Bool :=
 ((Jbz L) [(⟨[109], [35, 100, 101, 102, 105, 110, 101, 32, 65, 32, 66, 10, 35, 100, 101, 102, 105, 110, 101, 32, 66, 32, 65, 32, 120, 10, 65]⟩ : Source)] 0).bind fun r1 => if (eqI r1.2 0) = true then Xi (eqS r1.1 [65, 32, 120]) else Xi false
theorem JeW : Jb3 JB = V5 := by
 unfold Jb3 V5
 simp only [JdE]
noncomputable def ZW (L : (Int → List UInt8 → Option ((List Token) × Fault))) (a0 : Int) (a1 : Int) : ((List UInt8) × Int) → Option (((List UInt8) × Int) ⊕ Bool)
 | (x2, x3) => if (ltI x3 a0) = true then if x2.length + 8 ≤ 9223372036854775807 then (KC x3).bind fun r2 => if x2.length + 8 + r2.length ≤ 9223372036854775807 then if x2.length + 8 + r2.length + 1 ≤ 9223372036854775807 then if a0 ≠ 0 then (KC (Int.tmod (IntKind.i64.wrap (x3 + 1)) a0)).bind fun r3 => if x2.length + 8 + r2.length + 1 + r3.length ≤ 9223372036854775807 then if x2.length + 8 + r2.length + 1 + r3.length + 1 ≤ 9223372036854775807 then (KD x3).bind fun r4 => if x2.length + 8 + r2.length + 1 + r3.length + 1 + r4.length ≤ 9223372036854775807 then if x2.length + 8 + r2.length + 1 + r3.length + 1 + r4.length + 1 ≤ 9223372036854775807 then some (.inl (((((((x2 ++ [35, 100, 101, 102, 105, 110, 101, 32]) ++ r2) ++ [32]) ++ r3) ++ [32]) ++ r4) ++ [10], IntKind.i64.wrap (x3 + 1))) else none else none else none else none else none else none else none else none else inrO ((KC a1).bind fun r5 => if x2.length + r5.length ≤ 9223372036854775807 then ((Jbz L) [(⟨[109], x2 ++ r5⟩ : Source)] 0).bind fun r6 => (KC a1).bind fun r7 => loopO (Zr a0 a1 r6) (r7, 0) else none)
theorem Jdi : ZW JB = VT := by
 unfold ZW VT
 simp only [JdE]
noncomputable def Jb (L : (Int → List UInt8 → Option ((List Token) × Fault))) (a0 : Int) (a1 : Int) : Bool → Option Bool
 | x1 => if x1 = true then some true else loopO ((ZW L) a0 a1) ([], 0)
theorem Jdc : Jb JB = JM := by
 unfold Jb JM
 simp only [Jdi]
theorem Jeo : V5 = Jb3 fastLex := by rw [← fastLex_eq, JeW]
theorem JcO : JM = Jb fastLex := by rw [← fastLex_eq, Jdc]
end Go.Proofs.YtfkhlbhjhdpkoaaGreatDoor
