/- expand.All as a pure function. -/
import Derived.Test.YtfkhlbhjhdpkoaaGreatDoorZqae
import Derived.Test.YtfkhlbhjhdpkoaaGreatDoorZqbf
set_option linter.unusedVariables false
set_option linter.unusedSimpArgs false
namespace Go.Proofs.YtfkhlbhjhdpkoaaGreatDoor
open Go.RowKit
noncomputable def Jgb(a0:List Source)(a1:List Macro)(a2:List Token)(a3 a4:Int):Option ((List Token)×Int×Fault) :=
 (JhQ a0 a1 a2 a3 a4).map fun r=>(r.1,r.2.1,(⟨r.2.2.1,r.2.2.2.1,r.2.2.2.2⟩:Fault))
noncomputable def Jhz:PF:=PF.of (E5 (dL 2 Jg) (dL 5 Jf) (dL 11 Ja) dI dI) (fun a=>Jgb a.1 a.2.1 a.2.2.1 a.2.2.2.1 a.2.2.2.2) (T3 (dL 11 Ja) dI JU)
theorem Jt9:JB Tryz.prog 78 Jhz:=by
 refine Jvc (mk:=fun r=>.tu [(false,[.d (.sl 11 (List.map Ja r.1))]),(false,[kI r.2.1]),(true,[kI r.2.2.Err,kI r.2.2.File,kI r.2.2.At])]) (fun a r H=>?_) (fun r=>⟨rfl,rfl⟩)
 obtain⟨x,hx,rfl⟩:=Option.map_eq_some_iff.1 H
 exact JtU _ (cg5 hx)
theorem Jwt(a0:List Source)(a1:List Macro)(a2:List Token)(a3 a4:Int)(r:(List Token)×Int×Fault)(H:Jgb a0 a1 a2 a3 a4=some r):PC Jhz [dL 2 Jg a0,dL 5 Jf a1,dL 11 Ja a2,dI a3,dI a4] (T3 (dL 11 Ja) dI JU r):=PF.c (a:=(a0,a1,a2,a3,a4)) H
end Go.Proofs.YtfkhlbhjhdpkoaaGreatDoor
