/- Functions of data for functions of the program. Written by dec3.py. -/
import Derived.Test.YtfkhlbhjhdpkoaaDoorZmat
set_option linter.unusedVariables false
set_option linter.unusedSimpArgs false
set_option maxHeartbeats 4000000
set_option maxRecDepth 100000
namespace Go.Proofs.YtfkhlbhjhdpkoaaDoor
open Go.RowKit
noncomputable def JY:Bool→Option Bool
 | x1=>some x1
noncomputable def Xi  : Option Bool :=
 (ZD [(⟨[97,47,98,46,104],[120,121,122]⟩:Source),(⟨[109,97,105,110,46,99],[105,110,116]⟩:Source)] [(⟨0,1,2,[81]⟩:Edit)]).bind fun r1=>if(eqI r1.2 0)=true then if(eqI (r1.1.length:Int) 2)=true then if 0<r1.1.length then if(eqS ((r1.1.getD 0 default).Text) [120,81,122])=true then(K6 [(⟨[97,47,98,46,104],[120,121,122]⟩:Source),(⟨[109,97,105,110,46,99],[105,110,116]⟩:Source)] [109,97,105,110,46,99]).bind fun r2=>if(eqI r2 1)=true then(KG [97,47,98,46,104] [46,46,47,109,97,105,110,46,99]).bind fun r3=>if(eqS r3 [109,97,105,110,46,99])=true then(Vh [(⟨[97,47,98,46,104],[120,121,122]⟩:Source),(⟨[109,97,105,110,46,99],[105,110,116]⟩:Source)] 0 [98,46,104] true).bind fun r4=>if(eqI r4 0)=true then(K7 [97]).bind fun r5=>if r5=true then(XW [(⟨[97,47,98,46,104],[120,121,122]⟩:Source),(⟨[109,97,105,110,46,99],[105,110,116]⟩:Source)]).bind fun r6=>JY (eqI r6.Err 0) else JY false else JY false else JY false else JY false else JY false else none else JY false else JY false
noncomputable def X9:PF:=PF.of E0 (fun _=>Xi) dB
theorem Jcr:Kb Tryd.prog 20 X9:=by
 refine xF mixed [(17,Zl),(11,Xc),(15,VJ),(13,V6),(7,Vt),(9,XC)] [] ⟨⟨Ji4,Jdb⟩,⟨Jdg,Z6⟩,⟨Jdt,Zz⟩,⟨JgK,Jal⟩,⟨JcH,Xz⟩,⟨JhB,JaN⟩,trivial⟩ trivial Tryd.func20 ?_
 rintro _ out H
 have G:=True.intro
 have Y:=xZ y_3 <| xZ y_9 <| xZ y_23 <| xZ y_24 <| xZ y_26 <| xZ y_28 <| xZ y_33 <| xZ y_41 <| xZ Tryd.results20 <| xZ Jd.eq_1 <| xZ Ja.eq_1 <| VE.eq_1
 simp only[Xi]at H
 refine xS ?_
 refine xr ?_
 refine xr ?_
 obtain⟨r1,hr1,H⟩:=Jk H
 have F:=xC Y (Jdi [(⟨[97,47,98,46,104],[120,121,122]⟩:Source),(⟨[109,97,105,110,46,99],[105,110,116]⟩:Source)] [(⟨0,1,2,[81]⟩:Edit)] r1 hr1)
 refine xR0 ?_
 refine Kt ?_
 refine Vo JY (fun s=>[(0,.c (.d (.v (.bool s))))]) (fun s=>[]) [] out ?_ ?_
 ·rcases Jc H with⟨hp1,H⟩|⟨hp1,H⟩
  ·obtain⟨F,G,hq1⟩:=xH Y G hp1
   rcases Jc H with⟨hp2,H⟩|⟨hp2,H⟩
   ·obtain⟨F,G,hq2⟩:=xH F G hp2
    obtain⟨hg1,H⟩:=Jb H
    have F:=xZ F (Jj Jd r1.1 0 default default (by omega))
    rcases Jc H with⟨hp3,H⟩|⟨hp3,H⟩
    ·obtain⟨F,G,hq3⟩:=xH F G hp3
     obtain⟨r2,hr2,H⟩:=Jk H
     have F:=xCf F (Xv [(⟨[97,47,98,46,104],[120,121,122]⟩:Source),(⟨[109,97,105,110,46,99],[105,110,116]⟩:Source)] [109,97,105,110,46,99] r2 hr2)
     rcases Jc H with⟨hp4,H⟩|⟨hp4,H⟩
     ·obtain⟨F,G,hq4⟩:=xH F G hp4
      obtain⟨r3,hr3,H⟩:=Jk H
      have F:=xCf F (VX [97,47,98,46,104] [46,46,47,109,97,105,110,46,99] r3 hr3)
      rcases Jc H with⟨hp5,H⟩|⟨hp5,H⟩
      ·obtain⟨F,G,hq5⟩:=xH F G hp5
       obtain⟨r4,hr4,H⟩:=Jk H
       have F:=xCf F (Jaz [(⟨[97,47,98,46,104],[120,121,122]⟩:Source),(⟨[109,97,105,110,46,99],[105,110,116]⟩:Source)] 0 [98,46,104] true r4 hr4)
       rcases Jc H with⟨hp6,H⟩|⟨hp6,H⟩
       ·obtain⟨F,G,hq6⟩:=xH F G hp6
        obtain⟨r5,hr5,H⟩:=Jk H
        have F:=xCf F (Xb [97] r5 hr5)
        rcases Jc H with⟨hp7,H⟩|⟨hp7,H⟩
        ·obtain⟨F,G,hq7⟩:=xH F G hp7
         obtain⟨r6,hr6,H⟩:=Jk H
         have F:=xCf F (Jbo [(⟨[97,47,98,46,104],[120,121,122]⟩:Source),(⟨[109,97,105,110,46,99],[105,110,116]⟩:Source)] r6 hr6)
         refine xR ?_
         exact Ji H (xK ⟨[],[]⟩)
        ·obtain⟨F,G,hq7⟩:=xH F G hp7
         refine xR ?_
         exact Ji H (xK ⟨[],[]⟩)
       ·obtain⟨F,G,hq6⟩:=xH F G hp6
        refine xR ?_
        exact Ji H (xK ⟨[],[]⟩)
      ·obtain⟨F,G,hq5⟩:=xH F G hp5
       refine xR ?_
       exact Ji H (xK ⟨[],[]⟩)
     ·obtain⟨F,G,hq4⟩:=xH F G hp4
      refine xR ?_
      exact Ji H (xK ⟨[],[]⟩)
    ·obtain⟨F,G,hq3⟩:=xH F G hp3
     refine xR ?_
     exact Ji H (xK ⟨[],[]⟩)
   ·obtain⟨F,G,hq2⟩:=xH F G hp2
    refine xR ?_
    exact Ji H (xK ⟨[],[]⟩)
  ·obtain⟨F,G,hq1⟩:=xH Y G hp1
   refine xR ?_
   exact Ji H (xK ⟨[],[]⟩)
 ·rintro x1 H
  rw[JY]at H
  replace H:=Option.some.inj H
  refine xS ?_
  subst H
  exact xN
theorem JcO  (r:Bool) (H:Xi  = some r):PC X9 [] (dB r):=PF.c (a:=()) H
noncomputable def Kl(x1:Int)(x2:Int):Bool→Option ((Int×Int) ⊕ Bool)
 | x3=>if x3=true then inrO (some false) else some (.inl (x1,IntKind.i64.wrap (x2+1)))
noncomputable def Kk:Bool→Option Bool
 | x4=>some x4
noncomputable def J8(a0:List Source)(a1:Int)(a2:List UInt8)(a3:Bool):(Int×Int)→Option ((Int×Int) ⊕ Bool)
 | (x1,x2)=>if(ltI x2 x1)=true then if(0:Int)≤x2∧x2.toNat<a0.length then(KG ((a0.getD x2.toNat default).Path) a2).bind fun r2=>if(!eqS r2 [])=true then(K7 r2).bind fun r3=>Kl x1 x2 (!r3) else Kl x1 x2 false else none else inrO ((Vh a0 a1 a2 a3).bind fun r4=>if(ltI r4 (a0.length:Int))=true then if(ltI r4 0)=true then Kk true else if(0:Int)≤r4∧r4.toNat<a0.length then(K6 a0 ((a0.getD r4.toNat default).Path)).bind fun r5=>Kk (leI r5 r4) else none else Kk false)
noncomputable def K9(a0:List Source)(a1:Int)(a2:List UInt8)(a3:Bool):Option Bool :=
 (Xi).bind fun r1=>if(!r1)=true then some false else JN (J8 a0 a1 a2 a3) ((a0.length:Int),0)
noncomputable def Zg:PF:=PF.of (E4 (dL 2 Jd) dI dS dB) (fun a=>K9 a.1 a.2.1 a.2.2.1 a.2.2.2) dB
theorem JaQ:Kb Tryd.prog 6 Zg:=by
 refine xF mixed [(20,X9),(15,VJ),(7,Vt),(13,V6),(11,Xc)] [] ⟨⟨Jjs,Jcr⟩,⟨Jdt,Zz⟩,⟨JcH,Xz⟩,⟨JgK,Jal⟩,⟨Jdg,Z6⟩,trivial⟩ trivial Tryd.func6 ?_
 rintro ⟨a0,a1,a2,a3⟩ out H
 have G:=True.intro
 have Y:=xZ y_9 <| xZ y_23 <| xZ y_33 <| xZ Tryd.results6 <| Jd.eq_1
 simp only[K9]at H
 refine xS ?_
 refine xr ?_
 obtain⟨r1,hr1,H⟩:=Jk H
 have F:=xC Y (JcO  r1 hr1)
 refine xR ?_
 rcases Jc H with⟨hp1,H⟩|⟨hp1,H⟩
 ·obtain⟨F,G,hq1⟩:=xH Y G hp1
  refine xT ?_
  replace H:=Option.some.inj H
  refine xr ?_
  subst H
  exact xN
 ·obtain⟨F,G,hq1⟩:=xH Y G hp1
  refine xE ?_
  refine xr ?_
  refine KU (J8 a0 a1 a2 a3) (fun s=>[(0,.c (.d (.sl 2 (List.map Jd a0)))),(1,.c (.d (.v (.int .i64 a1)))),(2,.c (.d (.v (str a2)))),(3,.c (.d (.v (.bool a3)))),(15,.c (.d (.sl 2 (List.map Jd a0)))),(16,.c (.d (.v (.int .i64 s.1)))),(17,.c (.d (.v (.int .i64 s.2))))]) (fun s=>[]) [] H (xK ⟨[],[]⟩) ?_
  rintro n1 ⟨x1,x2⟩ o1 H hF1
  rw[J8]at H
  refine xS ?_
  refine xr ?_
  rcases Jc H with⟨hp2,H⟩|⟨hp2,H⟩
  ·obtain⟨F,G,hq2⟩:=xH Y G hp2
   refine xT ?_
   obtain⟨hg1,H⟩:=Jb H
   have F:=xZ Y (Jj Jd a0 x2.toNat default default (by omega))
   refine xR ?_
   obtain⟨r2,hr2,H⟩:=Jk H
   have F:=xC Y (VX ((a0.getD x2.toNat default).Path) a2 r2 hr2)
   refine xR0 ?_
   refine Kt ?_
   refine Vo (Kl x1 x2) (fun s=>[(0,.c (.d (.sl 2 (List.map Jd a0)))),(1,.c (.d (.v (.int .i64 a1)))),(2,.c (.d (.v (str a2)))),(3,.c (.d (.v (.bool a3)))),(15,.c (.d (.sl 2 (List.map Jd a0)))),(16,.c (.d (.v (.int .i64 x1)))),(17,.c (.d (.v (.int .i64 x2)))),(31,.c (.d (.v (.bool s))))]) (fun s=>[]) [] o1 ?_ ?_
   ·rcases Jc H with⟨hp4,H⟩|⟨hp4,H⟩
    ·obtain⟨F,G,hq4⟩:=xH Y G hp4
     obtain⟨r3,hr3,H⟩:=Jk H
     have F:=xCf F (Xb r2 r3 hr3)
     refine xR ?_
     exact Ji H (xK ⟨[],[]⟩)
    ·obtain⟨F,G,hq4⟩:=xH Y G hp4
     refine xR ?_
     exact Ji H (xK ⟨[],[]⟩)
   ·rintro x3 H
    rw[Kl]at H
    rcases Jc H with⟨hp3,H⟩|⟨hp3,H⟩
    ·obtain⟨F,G,hq3⟩:=xH Y G hp3
     refine xT ?_
     replace H:=Jo H hF1
     replace H:=Option.some.inj H
     refine xr ?_
     subst H
     exact xN
    ·obtain⟨F,G,hq3⟩:=xH Y G hp3
     refine xE ?_
     refine xr ?_
     exact JI (JZ H hF1) (xK ⟨[],[]⟩)
  ·obtain⟨F,G,hq2⟩:=xH Y G hp2
   replace H:=Jo H hF1
   refine xE ?_
   obtain⟨r4,hr4,H⟩:=Jk H
   have F:=xC Y (Jaz a0 a1 a2 a3 r4 hr4)
   refine xR0 ?_
   refine Kt ?_
   refine Vo Kk (fun s=>[(8,.c (.d (.v (.bool s))))]) (fun s=>[]) [] out ?_ ?_
   ·rcases Jc H with⟨hp5,H⟩|⟨hp5,H⟩
    ·obtain⟨F,G,hq5⟩:=xH Y G hp5
     rcases Jc H with⟨hp6,H⟩|⟨hp6,H⟩
     ·obtain⟨F,G,hq6⟩:=xH F G hp6
      refine xR ?_
      exact Ji H (xK ⟨[],[]⟩)
     ·obtain⟨F,G,hq6⟩:=xH F G hp6
      obtain⟨hg2,H⟩:=Jb H
      have F:=xZ F (Jj Jd a0 r4.toNat default default (by omega))
      obtain⟨r5,hr5,H⟩:=Jk H
      have F:=xCf F (Xv a0 ((a0.getD r4.toNat default).Path) r5 hr5)
      refine xR ?_
      exact Ji H (xK ⟨[],[]⟩)
    ·obtain⟨F,G,hq5⟩:=xH Y G hp5
     refine xR ?_
     exact Ji H (xK ⟨[],[]⟩)
   ·rintro x4 H
    rw[Kk]at H
    replace H:=Option.some.inj H
    refine xS ?_
    subst H
    exact xN
end Go.Proofs.YtfkhlbhjhdpkoaaDoor
