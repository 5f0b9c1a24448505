/- Functions of data for functions of the program. Written by dec3.py. -/
import Derived.Test.YtfkhlbhjhdpkoaaDoorZtav
set_option linter.unusedVariables false
set_option linter.unusedSimpArgs false
set_option maxHeartbeats 4000000
set_option maxRecDepth 100000
namespace Go.Proofs.YtfkhlbhjhdpkoaaDoor
open Go.RowKit
noncomputable def Vs(a0:List Source)(a1:List Source):(Int×Int)→Option ((Int×Int) ⊕ Bool)
 | (x1,x2)=>if(ltI x2 x1)=true then if(0:Int)≤x2∧x2.toNat<a0.length then if(0:Int)≤x2∧x2.toNat<a1.length then if(!(eqS ((a0.getD x2.toNat default).Path) ((a1.getD x2.toNat default).Path) && (eqS ((a0.getD x2.toNat default).Text) ((a1.getD x2.toNat default).Text))))=true then inrO (some false) else some (.inl (x1,IntKind.i64.wrap (x2+1))) else none else none else inrO (some true)
noncomputable def Vb(a0:List Source)(a1:List Source):Option Bool :=
 if(!eqI (a0.length:Int) (a1.length:Int))=true then some false else Ji (Vs a0 a1) ((a0.length:Int),0)
noncomputable def Zc:PF:=PF.of (E2 (dL 2 Ja) (dL 2 Ja)) (fun a=>Vb a.1 a.2) dB
theorem Jc5:J7 Tryd.prog 19 Zc:=by
 refine xF mixed [] [] trivial trivial Tryd.func19 ?_
 rintro ⟨a0,a1⟩ out H
 have G:=True.intro
 have Y:=xZ y_23 <| xZ y_33 <| xZ Tryd.results19 <| Ja.eq_1
 simp only[Vb]at H
 refine xS ?_
 refine xr ?_
 refine xr ?_
 rcases Jc H with⟨hp1,H⟩|⟨hp1,H⟩
 ·obtain⟨F,G,hq1⟩:=xH Y G hp1
  refine xT ?_
  replace H:=Option.some.inj H
  refine xr ?_
  subst H
  exact xN
 ·obtain⟨F,G,hq1⟩:=xH Y G hp1
  refine xE ?_
  refine xr ?_
  refine Kc (Vs a0 a1) (fun s=>[(0,.c (.d (.sl 2 (List.map Ja a0)))),(1,.c (.d (.sl 2 (List.map Ja a1)))),(12,.c (.d (.v (.int .i64 s.1)))),(13,.c (.d (.v (.int .i64 s.2))))]) (fun s=>[]) [] H (xK ⟨[],[]⟩) ?_
  rintro n1 ⟨x1,x2⟩ o1 H hF1
  rw[Vs]at H
  refine xS ?_
  refine xr ?_
  rcases Jc H with⟨hp2,H⟩|⟨hp2,H⟩
  ·obtain⟨F,G,hq2⟩:=xH Y G hp2
   refine xT ?_
   refine xr ?_
   obtain⟨hg1,H⟩:=Jd H
   have F:=xZ Y (Jf Ja a0 x2.toNat default default (by omega))
   obtain⟨hg2,H⟩:=Jd H
   have F:=xZ F (Jf Ja a1 x2.toNat default default (by omega))
   refine xR ?_
   rcases Jc H with⟨hp3,H⟩|⟨hp3,H⟩
   ·obtain⟨F,G,hq3⟩:=xH Y G hp3
    refine xT ?_
    replace H:=Jj H hF1
    replace H:=Option.some.inj H
    refine xr ?_
    subst H
    exact xN
   ·obtain⟨F,G,hq3⟩:=xH Y G hp3
    refine xE ?_
    refine xr ?_
    exact JE (JL H hF1) (xK ⟨[],[]⟩)
  ·obtain⟨F,G,hq2⟩:=xH Y G hp2
   replace H:=Jj H hF1
   refine xE ?_
   replace H:=Option.some.inj H
   refine xr ?_
   subst H
   exact xN
theorem Jdu(a0:List Source)(a1:List Source)(r:Bool)(H:Vb a0 a1=some r):PC Zc [(dL 2 Ja) a0,(dL 2 Ja) a1] (dB r):=PF.c (a:=(a0,a1)) H
end Go.Proofs.YtfkhlbhjhdpkoaaDoor
