/- expand.All as a pure function. -/
import Derived.Test.YtfkhlbhjhdpkoaaGreatDoorZrae
import Derived.Test.YtfkhlbhjhdpkoaaGreatDoorZrbf
set_option linter.unusedVariables false
set_option linter.unusedSimpArgs false
namespace Go.Proofs.YtfkhlbhjhdpkoaaGreatDoor
open Go.RowKit
noncomputable def JcR(a0:List Source)(a1:List Macro)(a2:List Token)(a3 a4:Int):Option ((List Token)×Int×Fault) :=
 (JfE a0 a1 a2 a3 a4).map fun r=>(r.1,r.2.1,(⟨r.2.2.1,r.2.2.2.1,r.2.2.2.2⟩:Fault))
noncomputable def Jgz:PF:=PF.of (E5 (dL 2 Jf) (dL 5 Je) (dL 11 Ja) dI dI) (fun a=>JcR a.1 a.2.1 a.2.2.1 a.2.2.2.1 a.2.2.2.2) (T3 (dL 11 Ja) dI J9)
theorem Jsq:JF Tryz.prog 78 Jgz:=by
 refine Jt5 (mk:=fun r=>.tu [(false,[.d (.sl 11 (List.map Ja r.1))]),(false,[kI r.2.1]),(true,[kI r.2.2.Err,kI r.2.2.File,kI r.2.2.At])]) (fun a r H=>?_) (fun r=>⟨rfl,rfl⟩)
 obtain⟨x,hx,rfl⟩:=Option.map_eq_some_iff.1 H
 exact Jsp _ (cg5 hx)
theorem Jtr(a0:List Source)(a1:List Macro)(a2:List Token)(a3 a4:Int)(r:(List Token)×Int×Fault)(H:JcR a0 a1 a2 a3 a4=some r):PC Jgz [dL 2 Jf a0,dL 5 Je a1,dL 11 Ja a2,dI a3,dI a4] (T3 (dL 11 Ja) dI J9 r):=PF.c (a:=(a0,a1,a2,a3,a4)) H
end Go.Proofs.YtfkhlbhjhdpkoaaGreatDoor
