/- The same functions, with a lexer that is quick to reckon. Written by fastl.py. -/
import Derived.Test.YtfkhlbhjhdpkoaaGreatDoorZcaz
import Derived.Test.YtfkhlbhjhdpkoaaGreatDoorZcbi
set_option linter.unusedVariables false
set_option linter.unusedSimpArgs false
namespace Go.Proofs.YtfkhlbhjhdpkoaaGreatDoor
open Go.RowKit
noncomputable def fastLex (f : Int) (t : List UInt8) : Option ((List Token) × Fault) := if t.length ≤ 3000 then some (toksV f t) else Jo f t
theorem fastLex_eq : Jo = fastLex := by
 funext f t
 unfold fastLex
 split
 ·exact ltokens_eq f t (by omega)
 rfl
noncomputable def JbN (L : Yr) (q1 : Int → (List Source) → Int → Int → Int → (List Macro) → (List Int) → (List Int) → Int → (List Token) → Option Yd) (q2 q3 : (List Token) → (List Source) → Int → Int → Int → (List Macro) → (List Int) → (List Int) → Int → (List Token) → Option Yd) (a0 : Int) (a1 : List Source) (a2 a3 a4 : Int) (a5 : List Macro) (a6 a7 : List Int) (a8 : Int) (a9 : List Token) : Option Yd :=
 if (a7.length + [a0].length) * 8 ≤ 140737488355328 then if (0 : Int) ≤ a0 ∧ a0.toNat < a1.length then (L a0 ((a1.getD a0.toNat default).Text)).bind fun r1 => grB (Jai r1.2) (fun r2 => (JbO r1.1).bind fun r3 => loopO (XI q2 a1 a3 a4 r3) (0, (r3.length : Int), 0, a2, a5, a6, a7 ++ [a0], a8, ([] : List drive_group), ([] : List Token), a9)) (fun e1 => some (.er (r1.2.Err, r1.2.File, r1.2.At, a2, a5, a6, a7 ++ [a0], a8, a9))) else none else none
theorem Jdt : JbN Jo = X7 := by
 rfl
noncomputable def Jc (L : Yr) : Nat → Yc × Yb × Yb
 | 0 => (fun _ _ _ _ _ _ _ _ _ _ => none, fun _ _ _ _ _ _ _ _ _ _ => none, fun _ _ _ _ _ _ _ _ _ _ => none)
 | n + 1 => ((JbN L) (((Jc L) n).1) (((Jc L) n).2.1) (((Jc L) n).2.2), Xx (((Jc L) n).1) (((Jc L) n).2.1) (((Jc L) n).2.2), VB (((Jc L) n).1) (((Jc L) n).2.1) (((Jc L) n).2.2))
theorem JaW : ∀ n, Jc Jo n = Jb n
 | 0 => rfl
 | n + 1 => by
  rw [Jc, Jb, JaW n]
  simp only [Jdt]
noncomputable def JaD (L : Yr) : Int → (List Source) → Int → Int → Int → (List Macro) → (List Int) → (List Int) → Int → (List Token) → Option Yd := ((Jc L) bigF).1
theorem Jd3 : JaD Jo = ZK := by
 unfold JaD ZK
 simp only [JaW]
noncomputable def Kt (L : Yr) (a0 : List Source) (a1 : Int) (a2 : List Macro) (a3 : Limits) : Bool → Option Ym
 | x2 => if x2 = true then some (([] : List Token), ([] : List Int), ([] : List Macro), 3, (-1), 0) else (Jl a2).bind fun r2 => grB ((JaD L) a1 a0 a3.Fuel a3.Out a3.Deep a2 ([] : List Int) ([] : List Int) 0 []) (fun r3 => (Jbn 0 (-1) 0).bind fun r4 => (Jbs 0 (-1) 0 r3.2.2.2.2.2 r3.2.2.2.1 r3.2.1).bind fun r5 => some (r5.1, r5.2.1, r5.2.2, 0, (-1), 0)) (fun e1 => (ZS 0 0 0 e1.1 e1.2.1 e1.2.2.1).bind fun r6 => (ZR e1.1 e1.2.1 e1.2.2.1 ([] : List Token) ([] : List Int) ([] : List Macro)).bind fun r7 => some (r7.1, r7.2.1, r7.2.2, e1.1, e1.2.1, e1.2.2.1))
theorem Jfm : Kt Jo = Kk := by
 unfold Kt Kk
 simp only [Jd3]
noncomputable def Jbh (L : Yr) (a0 : List Source) (a1 : Int) (a2 : List Macro) (a3 : Limits) : Bool → Option Ym
 | x1 => if x1 = true then some (([] : List Token), ([] : List Int), ([] : List Macro), 6, (-1), 0) else if (ltI a3.Fuel 0) = true then (Kt L) a0 a1 a2 a3 true else if (ltI 4000 a3.Fuel) = true then (Kt L) a0 a1 a2 a3 true else if (ltI a3.Out 0) = true then (Kt L) a0 a1 a2 a3 true else if (ltI 1500 a3.Out) = true then (Kt L) a0 a1 a2 a3 true else if (ltI a3.Deep 0) = true then (Kt L) a0 a1 a2 a3 true else (Kt L) a0 a1 a2 a3 (ltI 6 a3.Deep)
theorem Jfz : Jbh Jo = Z3 := by
 unfold Jbh Z3
 simp only [Jfm]
noncomputable def Jdq (L : Yr) (a0 : List Source) (a1 : Int) (a2 : List Macro) (a3 : Limits) : Option Ym :=
 (Jbq a0).bind fun r1 => if (!eqI r1.Err 0) = true then some (([] : List Token), ([] : List Int), ([] : List Macro), r1.Err, r1.File, r1.At) else if (ltI a1 0) = true then (Jbh L) a0 a1 a2 a3 true else (Jbh L) a0 a1 a2 a3 (leI (a0.length : Int) a1)
theorem Jf6 : Jdq Jo = JcC := by
 unfold Jdq JcC
 simp only [Jfz]
noncomputable def Jcc (L : Yr) (a0 : List Source) (a1 : Int) : Option YN :=
 (Jbp).bind fun r1 => ((Jdq L) a0 a1 ([] : List Macro) r1).bind fun r2 => (JaU r2.1).bind fun r3 => some (r3, r2.2.2.2.1)
theorem Jeg : Jcc Jo = Z7 := by
 unfold Jcc Z7
 simp only [Jf6]
noncomputable def Jcl (L : Yr)  : Option Bool :=
 ((Jcc L) [(⟨[109], [35, 100, 101, 102, 105, 110, 101, 32, 65, 32, 66, 10, 35, 100, 101, 102, 105, 110, 101, 32, 66, 32, 65, 32, 120, 10, 65]⟩ : Source)] 0).bind fun r1 => if (eqI r1.2 0) = true then Xg (eqS r1.1 [65, 32, 120]) else Xg false
theorem Jft : Jcl Jo = VM := by
 unfold Jcl VM
 simp only [Jeg]
noncomputable def ZT (L : Yr) (x1 : Int) (x4 : List UInt8) : YN → Option YD
 | (x9, x10) => if (ltI x10 x1) = true then (VA x10).bind fun r4 => if 14 + r4.length ≤ 9223372036854775807 then if 14 + r4.length + 2 ≤ 9223372036854775807 then if (eqI x10 0) = true then (VA x10).bind fun r6 => if 7 + r6.length ≤ 9223372036854775807 then if 7 + r6.length + 1 ≤ 9223372036854775807 then Kh x9 x10 (([35, 105, 102, 100, 101, 102, 32] ++ r6) ++ [10]) else none else none else Kh x9 x10 (([35, 101, 108, 105, 102, 32, 100, 101, 102, 105, 110, 101, 100, 40] ++ r4) ++ [41, 10]) else none else none else inrO (if x9.length + 18 ≤ 9223372036854775807 then ((Jcc L) [(⟨[109], x9 ++ [35, 101, 108, 115, 101, 10, 110, 111, 110, 101, 10, 35, 101, 110, 100, 105, 102, 10]⟩ : Source)] 0).bind fun r7 => if (eqI r7.2 0) = true then Kg (eqS r7.1 x4) else Kg false else none)
theorem JdD : ZT Jo = Vl := by
 unfold ZT Vl
 simp only [Jeg]
noncomputable def ZV (L : Yr) (a0 : List Bool) (x1 : Int) : Yw → Option Yq
 | (x3, x4, x5, x6) => if (ltI x6 x5) = true then if (0 : Int) ≤ x6 ∧ x6.toNat < a0.length then if (a0.getD x6.toNat default) = true then if x3.length + 8 ≤ 9223372036854775807 then (VA x6).bind fun r2 => if x3.length + 8 + r2.length ≤ 9223372036854775807 then if x3.length + 8 + r2.length + 1 ≤ 9223372036854775807 then if (eqS x4 [110, 111, 110, 101]) = true then (Kj x6).bind fun r3 => if 1 + r3.length ≤ 9223372036854775807 then JB x5 x6 (((x3 ++ [35, 100, 101, 102, 105, 110, 101, 32]) ++ r2) ++ [10], [119] ++ r3) else none else JB x5 x6 (((x3 ++ [35, 100, 101, 102, 105, 110, 101, 32]) ++ r2) ++ [10], x4) else none else none else none else JB x5 x6 (x3, x4) else none else inrO (loopO ((ZT L) x1 x4) (x3, 0))
theorem JdG : ZV Jo = Vh := by
 unfold ZV Vh
 simp only [JdD]
noncomputable def V3 (L : Yr) (a0 : List Bool) : (Int × Bool) → Option Bool
 | (x1, x2) => if x2 = true then some true else loopO ((ZV L) a0 x1) ([], [110, 111, 110, 101], (a0.length : Int), 0)
theorem JdF : V3 Jo = JQ := by
 unfold V3 JQ
 simp only [JdG]
theorem JeY : VM = Jcl fastLex := by rw [← fastLex_eq, Jft]
theorem Jc0 : JQ = V3 fastLex := by rw [← fastLex_eq, JdF]
end Go.Proofs.YtfkhlbhjhdpkoaaGreatDoor
