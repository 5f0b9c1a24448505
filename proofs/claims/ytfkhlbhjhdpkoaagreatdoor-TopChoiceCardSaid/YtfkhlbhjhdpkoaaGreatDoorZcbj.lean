/- The same functions, with a lexer that is quick to reckon. Written by fastl.py. -/
import Derived.Test.YtfkhlbhjhdpkoaaGreatDoorZcaz
import Derived.Test.YtfkhlbhjhdpkoaaGreatDoorZcbi
set_option linter.unusedVariables false
set_option linter.unusedSimpArgs false
namespace Go.Proofs.YtfkhlbhjhdpkoaaGreatDoor
open Go.RowKit
noncomputable def fastLex (f : Int) (t : List UInt8) : Option ((List Token) × Fault) := if t.length ≤ 3000 then some (toksV f t) else Jo f t
theorem fastLex_eq : Jo = fastLex := by
 funext f t
 unfold fastLex
 split
 ·exact ltokens_eq f t (by omega)
 rfl
noncomputable def JbP (L : Yr) (q1 : Int → (List Source) → Int → Int → Int → (List Macro) → (List Int) → (List Int) → Int → (List Token) → Option Yd) (q2 q3 : (List Token) → (List Source) → Int → Int → Int → (List Macro) → (List Int) → (List Int) → Int → (List Token) → Option Yd) (a0 : Int) (a1 : List Source) (a2 a3 a4 : Int) (a5 : List Macro) (a6 a7 : List Int) (a8 : Int) (a9 : List Token) : Option Yd :=
 if (a7.length + [a0].length) * 8 ≤ 140737488355328 then if (0 : Int) ≤ a0 ∧ a0.toNat < a1.length then (L a0 ((a1.getD a0.toNat default).Text)).bind fun r1 => grB (Z7 r1.2) (fun r2 => (JbN r1.1).bind fun r3 => loopO (XF q2 a1 a3 a4 r3) (0, (r3.length : Int), 0, a2, a5, a6, a7 ++ [a0], a8, ([] : List drive_group), ([] : List Token), a9)) (fun e1 => some (.er (r1.2.Err, r1.2.File, r1.2.At, a2, a5, a6, a7 ++ [a0], a8, a9))) else none else none
theorem Jdz : JbP Jo = X6 := by
 rfl
noncomputable def Jc (L : Yr) : Nat → Yc × Yb × Yb
 | 0 => (fun _ _ _ _ _ _ _ _ _ _ => none, fun _ _ _ _ _ _ _ _ _ _ => none, fun _ _ _ _ _ _ _ _ _ _ => none)
 | n + 1 => ((JbP L) (((Jc L) n).1) (((Jc L) n).2.1) (((Jc L) n).2.2), Xw (((Jc L) n).1) (((Jc L) n).2.1) (((Jc L) n).2.2), Vy (((Jc L) n).1) (((Jc L) n).2.1) (((Jc L) n).2.2))
theorem JaY : ∀ n, Jc Jo n = Jb n
 | 0 => rfl
 | n + 1 => by
  rw [Jc, Jb, JaY n]
  simp only [Jdz]
noncomputable def JaE (L : Yr) : Int → (List Source) → Int → Int → Int → (List Macro) → (List Int) → (List Int) → Int → (List Token) → Option Yd := ((Jc L) bigF).1
theorem Jd0 : JaE Jo = ZI := by
 unfold JaE ZI
 simp only [JaY]
noncomputable def KB (L : Yr) (a0 : List Source) (a1 : Int) (a2 : List Macro) (a3 : Limits) : Bool → Option Ym
 | x2 => if x2 = true then some (([] : List Token), ([] : List Int), ([] : List Macro), 3, (-1), 0) else (Jl a2).bind fun r2 => grB ((JaE L) a1 a0 a3.Fuel a3.Out a3.Deep a2 ([] : List Int) ([] : List Int) 0 []) (fun r3 => (Jbm 0 (-1) 0).bind fun r4 => (Jbs 0 (-1) 0 r3.2.2.2.2.2 r3.2.2.2.1 r3.2.1).bind fun r5 => some (r5.1, r5.2.1, r5.2.2, 0, (-1), 0)) (fun e1 => (ZS 0 0 0 e1.1 e1.2.1 e1.2.2.1).bind fun r6 => (ZT e1.1 e1.2.1 e1.2.2.1 ([] : List Token) ([] : List Int) ([] : List Macro)).bind fun r7 => some (r7.1, r7.2.1, r7.2.2, e1.1, e1.2.1, e1.2.2.1))
theorem Jfy : KB Jo = Kj := by
 unfold KB Kj
 simp only [Jd0]
noncomputable def Ja8 (L : Yr) (a0 : List Source) (a1 : Int) (a2 : List Macro) (a3 : Limits) : Bool → Option Ym
 | x1 => if x1 = true then some (([] : List Token), ([] : List Int), ([] : List Macro), 6, (-1), 0) else if (ltI a3.Fuel 0) = true then (KB L) a0 a1 a2 a3 true else if (ltI 4000 a3.Fuel) = true then (KB L) a0 a1 a2 a3 true else if (ltI a3.Out 0) = true then (KB L) a0 a1 a2 a3 true else if (ltI 1500 a3.Out) = true then (KB L) a0 a1 a2 a3 true else if (ltI a3.Deep 0) = true then (KB L) a0 a1 a2 a3 true else (KB L) a0 a1 a2 a3 (ltI 6 a3.Deep)
theorem Jfw : Ja8 Jo = ZX := by
 unfold Ja8 ZX
 simp only [Jfy]
noncomputable def JdC (L : Yr) (a0 : List Source) (a1 : Int) (a2 : List Macro) (a3 : Limits) : Option Ym :=
 (Jbw a0).bind fun r1 => if (!eqI r1.Err 0) = true then some (([] : List Token), ([] : List Int), ([] : List Macro), r1.Err, r1.File, r1.At) else if (ltI a1 0) = true then (Ja8 L) a0 a1 a2 a3 true else (Ja8 L) a0 a1 a2 a3 (leI (a0.length : Int) a1)
theorem Jf9 : JdC Jo = JcH := by
 unfold JdC JcH
 simp only [Jfw]
noncomputable def JbU (L : Yr) (a0 : List Source) (a1 : Int) : Option YN :=
 (Jbo).bind fun r1 => ((JdC L) a0 a1 ([] : List Macro) r1).bind fun r2 => (JaX r2.1).bind fun r3 => some (r3, r2.2.2.2.1)
theorem Jef : JbU Jo = Jab := by
 unfold JbU Jab
 simp only [Jf9]
noncomputable def Jck (L : Yr)  : Option Bool :=
 ((JbU L) [(⟨[109], [35, 100, 101, 102, 105, 110, 101, 32, 65, 32, 66, 10, 35, 100, 101, 102, 105, 110, 101, 32, 66, 32, 65, 32, 120, 10, 65]⟩ : Source)] 0).bind fun r1 => if (eqI r1.2 0) = true then V0 (eqS r1.1 [65, 32, 120]) else V0 false
theorem Jff : Jck Jo = VH := by
 unfold Jck VH
 simp only [Jef]
noncomputable def ZQ (L : Yr) (x1 : Int) (x4 : List UInt8) : YN → Option YD
 | (x9, x10) => if (ltI x10 x1) = true then (VA x10).bind fun r4 => if 14 + r4.length ≤ 9223372036854775807 then if 14 + r4.length + 2 ≤ 9223372036854775807 then if (eqI x10 0) = true then (VA x10).bind fun r6 => if 7 + r6.length ≤ 9223372036854775807 then if 7 + r6.length + 1 ≤ 9223372036854775807 then Kh x9 x10 (([35, 105, 102, 100, 101, 102, 32] ++ r6) ++ [10]) else none else none else Kh x9 x10 (([35, 101, 108, 105, 102, 32, 100, 101, 102, 105, 110, 101, 100, 40] ++ r4) ++ [41, 10]) else none else none else inrO (if x9.length + 18 ≤ 9223372036854775807 then ((JbU L) [(⟨[109], x9 ++ [35, 101, 108, 115, 101, 10, 110, 111, 110, 101, 10, 35, 101, 110, 100, 105, 102, 10]⟩ : Source)] 0).bind fun r7 => if (eqI r7.2 0) = true then Ke (eqS r7.1 x4) else Ke false else none)
theorem Jdq : ZQ Jo = Vo := by
 unfold ZQ Vo
 simp only [Jef]
noncomputable def ZP (L : Yr) (a0 : List Bool) (x1 : Int) : Yw → Option Yq
 | (x3, x4, x5, x6) => if (ltI x6 x5) = true then if (0 : Int) ≤ x6 ∧ x6.toNat < a0.length then if (a0.getD x6.toNat default) = true then if x3.length + 8 ≤ 9223372036854775807 then (VA x6).bind fun r2 => if x3.length + 8 + r2.length ≤ 9223372036854775807 then if x3.length + 8 + r2.length + 1 ≤ 9223372036854775807 then if (eqS x4 [110, 111, 110, 101]) = true then (Kl x6).bind fun r3 => if 1 + r3.length ≤ 9223372036854775807 then JB x5 x6 (((x3 ++ [35, 100, 101, 102, 105, 110, 101, 32]) ++ r2) ++ [10], [119] ++ r3) else none else JB x5 x6 (((x3 ++ [35, 100, 101, 102, 105, 110, 101, 32]) ++ r2) ++ [10], x4) else none else none else none else JB x5 x6 (x3, x4) else none else inrO (loopO ((ZQ L) x1 x4) (x3, 0))
theorem Jdy : ZP Jo = Vl := by
 unfold ZP Vl
 simp only [Jdq]
noncomputable def VZ (L : Yr) (a0 : List Bool) : (Int × Bool) → Option Bool
 | (x1, x2) => if x2 = true then some true else loopO ((ZP L) a0 x1) ([], [110, 111, 110, 101], (a0.length : Int), 0)
theorem JdH : VZ Jo = JQ := by
 unfold VZ JQ
 simp only [Jdy]
theorem JeU : VH = Jck fastLex := by rw [← fastLex_eq, Jff]
theorem Jdb : JQ = VZ fastLex := by rw [← fastLex_eq, JdH]
end Go.Proofs.YtfkhlbhjhdpkoaaGreatDoor
