/- expand.All as a pure function. -/
import Derived.Test.YtfkhlbhjhdpkoaaGreatDoorZraf
import Derived.Test.YtfkhlbhjhdpkoaaGreatDoorZrbb
set_option linter.unusedVariables false
set_option linter.unusedSimpArgs false
namespace Go.Proofs.YtfkhlbhjhdpkoaaGreatDoor
open Go.RowKit
noncomputable def Jdz (a0 : List Source) (a1 : List Macro) (a2 : List Token) (a3 : Int) (a4 : Int) : Option ((List Token) × Int × Fault) :=
 (Jct a0 a1 a2 a3 a4).map fun r => (r.1, r.2.1, (⟨r.2.2.1, r.2.2.2.1, r.2.2.2.2⟩ : Fault))
noncomputable def Jcn : PF := PF.of (E5 (dL 2 d_Source) (dL 5 d_Macro) (dL 11 d_Token) dI dI) (fun a => Jdz a.1 a.2.1 a.2.2.1 a.2.2.2.1 a.2.2.2.2) (T3 (dL 11 d_Token) dI d_Fault)
theorem Jfr : PureOk Tryz.prog 78 Jcn := by
 refine pure_of_genT (mk := fun r => .tu [(false, [.d (.sl 11 (List.map d_Token r.1))]), (false, [.d (.v (.int .i64 r.2.1))]), (true, [.d (.v (.int .i64 r.2.2.Err)), .d (.v (.int .i64 r.2.2.File)), .d (.v (.int .i64 r.2.2.At))])]) (fun a r H => ?_) (fun r => ⟨rfl, rfl⟩)
 obtain ⟨x, hx, rfl⟩ := Option.map_eq_some_iff.1 H
 exact Jfs _ (JfE _ _ _ _ _ x hx)
theorem JfC (a0 : List Source) (a1 : List Macro) (a2 : List Token) (a3 : Int) (a4 : Int) (r : (List Token) × Int × Fault) (H : Jdz a0 a1 a2 a3 a4 = some r) : PC Jcn [dL 2 d_Source a0, dL 5 d_Macro a1, dL 11 d_Token a2, dI a3, dI a4] (T3 (dL 11 d_Token) dI d_Fault r) := PF.c (a := (a0, a1, a2, a3, a4)) H
end Go.Proofs.YtfkhlbhjhdpkoaaGreatDoor
