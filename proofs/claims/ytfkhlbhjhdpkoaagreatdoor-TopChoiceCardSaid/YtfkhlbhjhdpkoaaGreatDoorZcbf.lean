/- expand.All as a pure function. -/
import Derived.Test.YtfkhlbhjhdpkoaaGreatDoorZcaf
import Derived.Test.YtfkhlbhjhdpkoaaGreatDoorZcbd
set_option linter.unusedVariables false
set_option linter.unusedSimpArgs false
namespace Go.Proofs.YtfkhlbhjhdpkoaaGreatDoor
open Go.RowKit
noncomputable def Jd2 (a0 : List Source) (a1 : List Macro) (a2 : List Token) (a3 a4 : Int) : Option ((List Token) × Int × Fault) :=
 (Jd8 a0 a1 a2 a3 a4).map fun r => (r.1, r.2.1, (⟨r.2.2.1, r.2.2.2.1, r.2.2.2.2⟩ : Fault))
noncomputable def JcR : PF := PF.of (E5 (dL 2 d_Source) (dL 5 d_Macro) (dL 11 d_Token) dI dI) (fun a => Jd2 a.1 a.2.1 a.2.2.1 a.2.2.2.1 a.2.2.2.2) (T3 (dL 11 d_Token) dI d_Fault)
theorem Jf2 : PureOk Tryz.prog 78 JcR := by
 refine pure_of_genT (mk := fun r => .tu [(false, [.d (.sl 11 (List.map d_Token r.1))]), (false, [kI r.2.1]), (true, [kI r.2.2.Err, kI r.2.2.File, kI r.2.2.At])]) (fun a r H => ?_) (fun r => ⟨rfl, rfl⟩)
 obtain ⟨x, hx, rfl⟩ := Option.map_eq_some_iff.1 H
 exact JfV _ (cg5 hx)
theorem Jgb (a0 : List Source) (a1 : List Macro) (a2 : List Token) (a3 a4 : Int) (r : (List Token) × Int × Fault) (H : Jd2 a0 a1 a2 a3 a4 = some r) : PC JcR [dL 2 d_Source a0, dL 5 d_Macro a1, dL 11 d_Token a2, dI a3, dI a4] (T3 (dL 11 d_Token) dI d_Fault r) := PF.c (a := (a0, a1, a2, a3, a4)) H
end Go.Proofs.YtfkhlbhjhdpkoaaGreatDoor
