/- Functions of data for functions of the program. Written by dec3.py. -/
import Derived.Test.YtfkhlbhjhdpkoaaDoorZoat
set_option linter.unusedVariables false
set_option linter.unusedSimpArgs false
set_option maxHeartbeats 4000000
set_option maxRecDepth 100000
namespace Go.Proofs.YtfkhlbhjhdpkoaaDoor
open Go.RowKit
noncomputable def Ko:Bool→Option Bool
 | x1=>some x1
noncomputable def Xm  : Option Bool :=
 (KT [(⟨[97,47,98,46,104],[120,121,122]⟩:Source),(⟨[109,97,105,110,46,99],[105,110,116]⟩:Source)] [(⟨0,1,2,[81]⟩:Edit)]).bind fun r1=>if(eqI r1.2 0)=true then if(eqI (r1.1.length:Int) 2)=true then if 0<r1.1.length then if(eqS ((r1.1.getD 0 default).Text) [120,81,122])=true then(Xk [(⟨[97,47,98,46,104],[120,121,122]⟩:Source),(⟨[109,97,105,110,46,99],[105,110,116]⟩:Source)] [109,97,105,110,46,99]).bind fun r2=>if(eqI r2 1)=true then(VB [97,47,98,46,104] [46,46,47,109,97,105,110,46,99]).bind fun r3=>if(eqS r3 [109,97,105,110,46,99])=true then(Zd [(⟨[97,47,98,46,104],[120,121,122]⟩:Source),(⟨[109,97,105,110,46,99],[105,110,116]⟩:Source)] 0 [98,46,104] true).bind fun r4=>if(eqI r4 0)=true then(Vr [97]).bind fun r5=>if r5=true then(Vs [(⟨[97,47,98,46,104],[120,121,122]⟩:Source),(⟨[109,97,105,110,46,99],[105,110,116]⟩:Source)]).bind fun r6=>Ko (eqI r6.Err 0) else Ko false else Ko false else Ko false else Ko false else Ko false else none else Ko false else Ko false
noncomputable def Ze:PF:=PF.of E0 (fun _=>Xm) dB
theorem JcH:Ks Tryd.prog 20 Ze:=by
 refine xF mixed [(17,VN),(11,Zb),(15,XA),(13,Zk),(7,V1),(9,V6)] [] ⟨⟨Jhf,JaJ⟩,⟨JgR,JbG⟩,⟨Jhc,JaI⟩,⟨JjJ,JcL⟩,⟨Jfp,ZT⟩,⟨Jfq,ZY⟩,trivial⟩ trivial Tryd.func20 ?_
 rintro _ out H
 have G:=True.intro
 have Y:=xZ y_3 <| xZ y_9 <| xZ y_23 <| xZ y_24 <| xZ y_26 <| xZ y_28 <| xZ y_33 <| xZ y_41 <| xZ Tryd.results20 <| xZ Jb.eq_1 <| xZ Ja.eq_1 <| Vv.eq_1
 simp only[Xm]at H
 refine xS ?_
 refine xr ?_
 refine xr ?_
 obtain⟨r1,hr1,H⟩:=Jw H
 have F:=xC Y (ZZ [(⟨[97,47,98,46,104],[120,121,122]⟩:Source),(⟨[109,97,105,110,46,99],[105,110,116]⟩:Source)] [(⟨0,1,2,[81]⟩:Edit)] r1 hr1)
 refine xR0 ?_
 refine KH ?_
 refine Vq Ko (fun s=>[(0,.c (.d (.v (.bool s))))]) (fun s=>[]) [] out ?_ ?_
 ·rcases Jc H with⟨hp1,H⟩|⟨hp1,H⟩
  ·obtain⟨F,G,hq1⟩:=xH Y G hp1
   rcases Jc H with⟨hp2,H⟩|⟨hp2,H⟩
   ·obtain⟨F,G,hq2⟩:=xH F G hp2
    obtain⟨hg1,H⟩:=Jd H
    have F:=xZ F (Jp Jb r1.1 0 default default (by omega))
    rcases Jc H with⟨hp3,H⟩|⟨hp3,H⟩
    ·obtain⟨F,G,hq3⟩:=xH F G hp3
     obtain⟨r2,hr2,H⟩:=Jw H
     have F:=xCf F (ZM [(⟨[97,47,98,46,104],[120,121,122]⟩:Source),(⟨[109,97,105,110,46,99],[105,110,116]⟩:Source)] [109,97,105,110,46,99] r2 hr2)
     rcases Jc H with⟨hp4,H⟩|⟨hp4,H⟩
     ·obtain⟨F,G,hq4⟩:=xH F G hp4
      obtain⟨r3,hr3,H⟩:=Jw H
      have F:=xCf F (XO [97,47,98,46,104] [46,46,47,109,97,105,110,46,99] r3 hr3)
      rcases Jc H with⟨hp5,H⟩|⟨hp5,H⟩
      ·obtain⟨F,G,hq5⟩:=xH F G hp5
       obtain⟨r4,hr4,H⟩:=Jw H
       have F:=xCf F (Jc3 [(⟨[97,47,98,46,104],[120,121,122]⟩:Source),(⟨[109,97,105,110,46,99],[105,110,116]⟩:Source)] 0 [98,46,104] true r4 hr4)
       rcases Jc H with⟨hp6,H⟩|⟨hp6,H⟩
       ·obtain⟨F,G,hq6⟩:=xH F G hp6
        obtain⟨r5,hr5,H⟩:=Jw H
        have F:=xCf F (X8 [97] r5 hr5)
        rcases Jc H with⟨hp7,H⟩|⟨hp7,H⟩
        ·obtain⟨F,G,hq7⟩:=xH F G hp7
         obtain⟨r6,hr6,H⟩:=Jw H
         have F:=xCf F (Jag [(⟨[97,47,98,46,104],[120,121,122]⟩:Source),(⟨[109,97,105,110,46,99],[105,110,116]⟩:Source)] r6 hr6)
         refine xR ?_
         exact Jn H (xK ⟨[],[]⟩)
        ·obtain⟨F,G,hq7⟩:=xH F G hp7
         refine xR ?_
         exact Jn H (xK ⟨[],[]⟩)
       ·obtain⟨F,G,hq6⟩:=xH F G hp6
        refine xR ?_
        exact Jn H (xK ⟨[],[]⟩)
      ·obtain⟨F,G,hq5⟩:=xH F G hp5
       refine xR ?_
       exact Jn H (xK ⟨[],[]⟩)
     ·obtain⟨F,G,hq4⟩:=xH F G hp4
      refine xR ?_
      exact Jn H (xK ⟨[],[]⟩)
    ·obtain⟨F,G,hq3⟩:=xH F G hp3
     refine xR ?_
     exact Jn H (xK ⟨[],[]⟩)
   ·obtain⟨F,G,hq2⟩:=xH F G hp2
    refine xR ?_
    exact Jn H (xK ⟨[],[]⟩)
  ·obtain⟨F,G,hq1⟩:=xH Y G hp1
   refine xR ?_
   exact Jn H (xK ⟨[],[]⟩)
 ·rintro x1 H
  rw[Ko]at H
  replace H:=Option.some.inj H
  refine xS ?_
  subst H
  exact xN
theorem Jc7  (r:Bool) (H:Xm  = some r):PC Ze [] (dB r):=PF.c (a:=()) H
noncomputable def K3(a0:List Source)(a1:List Source):(Int×Int)→Option ((Int×Int) ⊕ Bool)
 | (x1,x2)=>if(ltI x2 x1)=true then if(0:Int)≤x2∧x2.toNat<a0.length then if(0:Int)≤x2∧x2.toNat<a1.length then if(!(eqS ((a0.getD x2.toNat default).Path) ((a1.getD x2.toNat default).Path) && (eqS ((a0.getD x2.toNat default).Text) ((a1.getD x2.toNat default).Text))))=true then inrO (some false) else some (.inl (x1,IntKind.i64.wrap (x2+1))) else none else none else inrO (some true)
noncomputable def KA(a0:List Source)(a1:List Source):Option Bool :=
 if(!eqI (a0.length:Int) (a1.length:Int))=true then some false else Ju (K3 a0 a1) ((a0.length:Int),0)
noncomputable def Xh:PF:=PF.of (E2 (dL 2 Jb) (dL 2 Jb)) (fun a=>KA a.1 a.2) dB
theorem Jby:Ks Tryd.prog 19 Xh:=by
 refine xF mixed [] [] trivial trivial Tryd.func19 ?_
 rintro ⟨a0,a1⟩ out H
 have G:=True.intro
 have Y:=xZ y_23 <| xZ y_33 <| xZ Tryd.results19 <| Jb.eq_1
 simp only[KA]at H
 refine xS ?_
 refine xr ?_
 refine xr ?_
 rcases Jc H with⟨hp1,H⟩|⟨hp1,H⟩
 ·obtain⟨F,G,hq1⟩:=xH Y G hp1
  refine xT ?_
  replace H:=Option.some.inj H
  refine xr ?_
  subst H
  exact xN
 ·obtain⟨F,G,hq1⟩:=xH Y G hp1
  refine xE ?_
  refine xr ?_
  refine KS (K3 a0 a1) (fun s=>[(0,.c (.d (.sl 2 (List.map Jb a0)))),(1,.c (.d (.sl 2 (List.map Jb a1)))),(12,.c (.d (.v (.int .i64 s.1)))),(13,.c (.d (.v (.int .i64 s.2))))]) (fun s=>[]) [] H (xK ⟨[],[]⟩) ?_
  rintro n1 ⟨x1,x2⟩ o1 H hF1
  rw[K3]at H
  refine xS ?_
  refine xr ?_
  rcases Jc H with⟨hp2,H⟩|⟨hp2,H⟩
  ·obtain⟨F,G,hq2⟩:=xH Y G hp2
   refine xT ?_
   refine xr ?_
   obtain⟨hg1,H⟩:=Jd H
   have F:=xZ Y (Jp Jb a0 x2.toNat default default (by omega))
   obtain⟨hg2,H⟩:=Jd H
   have F:=xZ F (Jp Jb a1 x2.toNat default default (by omega))
   refine xR ?_
   rcases Jc H with⟨hp3,H⟩|⟨hp3,H⟩
   ·obtain⟨F,G,hq3⟩:=xH Y G hp3
    refine xT ?_
    replace H:=JF H hF1
    replace H:=Option.some.inj H
    refine xr ?_
    subst H
    exact xN
   ·obtain⟨F,G,hq3⟩:=xH Y G hp3
    refine xE ?_
    refine xr ?_
    exact J0 (Km H hF1) (xK ⟨[],[]⟩)
  ·obtain⟨F,G,hq2⟩:=xH Y G hp2
   replace H:=JF H hF1
   refine xE ?_
   replace H:=Option.some.inj H
   refine xr ?_
   subst H
   exact xN
theorem ZS(a0:List Source)(a1:List Source)(r:Bool)(H:KA a0 a1=some r):PC Xh [(dL 2 Jb) a0,(dL 2 Jb) a1] (dB r):=PF.c (a:=(a0,a1)) H
noncomputable def KV:Bool→Option Bool
 | x5=>some x5
noncomputable def KC(a0:List Source):Bool→Option Bool
 | x4=>if x4=true then some false else(KT a0 ([]:List Edit)).bind fun r4=>(Vs a0).bind fun r5=>if(eqI r4.2 r5.Err)=true then if(!eqI r4.2 0)=true then KV true else(KA r4.1 a0).bind fun r6=>KV r6 else KV false
noncomputable def Kf(a0:List Source)(a1:List Edit):(Int×Int×(List Edit))→Option ((Int×Int×(List Edit)) ⊕ Bool)
 | (x1,x2,x3)=>if(ltI x2 x1)=true then if(0:Int)≤(IntKind.i64.wrap ((IntKind.i64.wrap ((a1.length:Int)-1))-x2))∧(IntKind.i64.wrap ((IntKind.i64.wrap ((a1.length:Int)-1))-x2)).toNat<a1.length then if(x3.length + [(a1.getD ((IntKind.i64.wrap ((IntKind.i64.wrap ((a1.length:Int)-1))-x2)).toNat) default)].length) * 40≤140737488355328 then some (.inl (x1,IntKind.i64.wrap (x2+1),x3++[(a1.getD ((IntKind.i64.wrap ((IntKind.i64.wrap ((a1.length:Int)-1))-x2)).toNat) default)])) else none else none else inrO ((KT a0 a1).bind fun r2=>(KT a0 x3).bind fun r3=>if(!eqB (eqI r2.2 0) (eqI r3.2 0))=true then KC a0 true else(KA r2.1 r3.1).bind fun r7=>KC a0 (!r7))
noncomputable def VL(a0:List Source)(a1:List Edit):Option Bool :=
 (Xm).bind fun r1=>if(!r1)=true then some false else Ju (Kf a0 a1) ((a1.length:Int),0,([]:List Edit))
noncomputable def Zr:PF:=PF.of (E2 (dL 2 Jb) (dL 4 Ja)) (fun a=>VL a.1 a.2) dB
theorem Ja2:Ks Tryd.prog 4 Zr:=by
 refine xF mixed [(20,Ze),(17,VN),(9,V6),(19,Xh)] [] ⟨⟨Jkn,JcH⟩,⟨Jhf,JaJ⟩,⟨Jfq,ZY⟩,⟨Jj9,Jby⟩,trivial⟩ trivial Tryd.func4 ?_
 rintro ⟨a0,a1⟩ out H
 have G:=True.intro
 have Y:=xZ y_4 <| xZ y_24 <| xZ y_26 <| xZ y_28 <| xZ y_41 <| xZ Tryd.results4 <| xZ Jb.eq_1 <| xZ Ja.eq_1 <| Vv.eq_1
 simp only[VL]at H
 refine xS ?_
 refine xr ?_
 obtain⟨r1,hr1,H⟩:=Jw H
 have F:=xC Y (Jc7  r1 hr1)
 refine xR ?_
 rcases Jc H with⟨hp1,H⟩|⟨hp1,H⟩
 ·obtain⟨F,G,hq1⟩:=xH Y G hp1
  refine xT ?_
  replace H:=Option.some.inj H
  refine xr ?_
  subst H
  exact xN
 ·obtain⟨F,G,hq1⟩:=xH Y G hp1
  refine xE ?_
  refine xr ?_
  refine xr ?_
  refine KS (Kf a0 a1) (fun s=>[(0,.c (.d (.sl 2 (List.map Jb a0)))),(1,.c (.d (.sl 4 (List.map Ja a1)))),(5,.c (.os 1 4 0 s.2.2.length)),(15,.c (.d (.v (.int .i64 s.1)))),(16,.c (.d (.v (.int .i64 s.2.1))))]) (fun s=>[[.arr 4 (List.map Ja s.2.2)]]) [] H (xK ⟨[0],[]⟩) ?_
  rintro n1 ⟨x1,x2,x3⟩ o1 H hF1
  rw[Kf]at H
  refine xS ?_
  refine xr ?_
  rcases Jc H with⟨hp2,H⟩|⟨hp2,H⟩
  ·obtain⟨F,G,hq2⟩:=xH Y G hp2
   refine xT ?_
   refine xr ?_
   obtain⟨hg1,H⟩:=Jd H
   have F:=xZ Y (Jp Ja a1 ((IntKind.i64.wrap ((IntKind.i64.wrap ((a1.length:Int)-1))-x2)).toNat) default default (by omega))
   obtain⟨hg2,H⟩:=Jd H
   have F:=xZ F (Ja5 JfY [(a1.getD ((IntKind.i64.wrap ((IntKind.i64.wrap ((a1.length:Int)-1))-x2)).toNat) default)])
   have L:[(a1.getD ((IntKind.i64.wrap ((IntKind.i64.wrap ((a1.length:Int)-1))-x2)).toNat) default)].length=1:=rfl
   refine xR ?_
   refine xr ?_
   exact J0 (Km H hF1) (xK ⟨[2],[]⟩)
  ·obtain⟨F,G,hq2⟩:=xH Y G hp2
   replace H:=JF H hF1
   refine xE ?_
   obtain⟨r2,hr2,H⟩:=Jw H
   have F:=xC Y (ZZ a0 a1 r2 hr2)
   refine xR ?_
   refine xfz 1 4 (List.map Ja x3) [] ?_
   obtain⟨r3,hr3,H⟩:=Jw H
   have F:=xC Y (ZZ a0 x3 r3 hr3)
   refine xR0 ?_
   refine KH ?_
   refine Jbf ?_
   refine Vq (KC a0) (fun s=>[(0,.c (.d (.sl 2 (List.map Jb a0)))),(53,.c (.d (.v (.bool s))))]) (fun s=>[]) [] out ?_ ?_
   ·rcases Jc H with⟨hp6,H⟩|⟨hp6,H⟩
    ·obtain⟨F,G,hq6⟩:=xH Y G hp6
     refine xR ?_
     exact Jn H (xK ⟨[],[]⟩)
    ·obtain⟨F,G,hq6⟩:=xH Y G hp6
     obtain⟨r7,hr7,H⟩:=Jw H
     have F:=xCf F (ZS r2.1 r3.1 r7 hr7)
     refine xR ?_
     exact Jn H (xK ⟨[],[]⟩)
   ·rintro x4 H
    rw[KC]at H
    rcases Jc H with⟨hp3,H⟩|⟨hp3,H⟩
    ·obtain⟨F,G,hq3⟩:=xH Y G hp3
     refine xT ?_
     replace H:=Option.some.inj H
     refine xr ?_
     subst H
     exact xN
    ·obtain⟨F,G,hq3⟩:=xH Y G hp3
     refine xE ?_
     obtain⟨r4,hr4,H⟩:=Jw H
     have F:=xC Y (show PC VN [(dL 2 Jb) a0,D.sl 0 []] _ from PF.cl (a:=(a0,([]:List Edit))) hr4 (And.intro (Jf5 _) (And.intro (by simp[le1,le0,dL]) trivial)))
     refine xR0 ?_
     refine KH ?_
     refine Vq KV (fun s=>[(4,.c (.d (.v (.bool s))))]) (fun s=>[]) [] out ?_ ?_
     ·obtain⟨r5,hr5,H⟩:=Jw H
      have F:=xC Y (Jag a0 r5 hr5)
      rcases Jc H with⟨hp4,H⟩|⟨hp4,H⟩
      ·obtain⟨F,G,hq4⟩:=xH F G hp4
       rcases Jc H with⟨hp5,H⟩|⟨hp5,H⟩
       ·obtain⟨F,G,hq5⟩:=xH F G hp5
        refine xR ?_
        exact Jn H (xK ⟨[],[]⟩)
       ·obtain⟨F,G,hq5⟩:=xH F G hp5
        obtain⟨r6,hr6,H⟩:=Jw H
        have F:=xCf F (ZS r4.1 a0 r6 hr6)
        refine xR ?_
        exact Jn H (xK ⟨[],[]⟩)
      ·obtain⟨F,G,hq4⟩:=xH F G hp4
       refine xR ?_
       exact Jn H (xK ⟨[],[]⟩)
     ·rintro x5 H
      rw[KV]at H
      replace H:=Option.some.inj H
      refine xS ?_
      subst H
      exact xN
end Go.Proofs.YtfkhlbhjhdpkoaaDoor
