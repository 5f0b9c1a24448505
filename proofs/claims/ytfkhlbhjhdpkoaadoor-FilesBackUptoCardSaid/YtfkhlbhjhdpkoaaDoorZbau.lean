/- Functions of data for functions of the program. Written by dec3.py. -/
import Derived.Test.YtfkhlbhjhdpkoaaDoorZbat
set_option linter.unusedVariables false
set_option linter.unusedSimpArgs false
set_option maxHeartbeats 4000000
set_option maxRecDepth 100000
namespace Go.Proofs.YtfkhlbhjhdpkoaaDoor
open Go.RowKit
noncomputable def J2:Bool→Option Bool
 | x1=>some x1
noncomputable def Xh  : Option Bool :=
 (KV [(⟨[97,47,98,46,104],[120,121,122]⟩:Source),(⟨[109,97,105,110,46,99],[105,110,116]⟩:Source)] [(⟨0,1,2,[81]⟩:Edit)]).bind fun r1=>if(eqI r1.2 0)=true then if(eqI (r1.1.length:Int) 2)=true then if 0<r1.1.length then if(eqS ((r1.1.getD 0 default).Text) [120,81,122])=true then(Xb [(⟨[97,47,98,46,104],[120,121,122]⟩:Source),(⟨[109,97,105,110,46,99],[105,110,116]⟩:Source)] [109,97,105,110,46,99]).bind fun r2=>if(eqI r2 1)=true then(Vt [97,47,98,46,104] [46,46,47,109,97,105,110,46,99]).bind fun r3=>if(eqS r3 [109,97,105,110,46,99])=true then(X6 [(⟨[97,47,98,46,104],[120,121,122]⟩:Source),(⟨[109,97,105,110,46,99],[105,110,116]⟩:Source)] 0 [98,46,104] true).bind fun r4=>if(eqI r4 0)=true then(Vn [97]).bind fun r5=>if r5=true then(VL [(⟨[97,47,98,46,104],[120,121,122]⟩:Source),(⟨[109,97,105,110,46,99],[105,110,116]⟩:Source)]).bind fun r6=>J2 (eqI r6.Err 0) else J2 false else J2 false else J2 false else J2 false else J2 false else none else J2 false else J2 false
noncomputable def Ze:PF:=PF.of E0 (fun _=>Xh) dB
theorem JcA:Kd Tryd.prog 20 Ze:=by
 refine xF mixed [(17,Xs),(11,X5),(15,Xu),(13,Za),(7,VV),(9,XE)] [] ⟨⟨JgU,Jav⟩,⟨JgV,Jbt⟩,⟨JgN,JaB⟩,⟨JjK,Jcw⟩,⟨JfT,ZO⟩,⟨Jhv,JaS⟩,trivial⟩ trivial Tryd.func20 ?_
 rintro _ out H
 have G:=True.intro
 have Y:=xZ y_3 <| xZ y_9 <| xZ y_23 <| xZ y_24 <| xZ y_26 <| xZ y_28 <| xZ y_33 <| xZ y_41 <| xZ Tryd.results20 <| xZ Jb.eq_1 <| xZ Ja.eq_1 <| VB.eq_1
 simp only[Xh]at H
 refine xS ?_
 refine xr ?_
 refine xr ?_
 obtain⟨r1,hr1,H⟩:=Jl H
 have F:=xC Y (ZN [(⟨[97,47,98,46,104],[120,121,122]⟩:Source),(⟨[109,97,105,110,46,99],[105,110,116]⟩:Source)] [(⟨0,1,2,[81]⟩:Edit)] r1 hr1)
 refine xR0 ?_
 refine KL ?_
 refine Vw J2 (fun s=>[(0,.c (.d (.v (.bool s))))]) (fun s=>[]) [] out ?_ ?_
 ·rcases Jd H with⟨hp1,H⟩|⟨hp1,H⟩
  ·obtain⟨F,G,hq1⟩:=xH Y G hp1
   rcases Jd H with⟨hp2,H⟩|⟨hp2,H⟩
   ·obtain⟨F,G,hq2⟩:=xH F G hp2
    obtain⟨hg1,H⟩:=Jc H
    have F:=xZ F (Ji Jb r1.1 0 default default (by omega))
    rcases Jd H with⟨hp3,H⟩|⟨hp3,H⟩
    ·obtain⟨F,G,hq3⟩:=xH F G hp3
     obtain⟨r2,hr2,H⟩:=Jl H
     have F:=xCf F (Zr [(⟨[97,47,98,46,104],[120,121,122]⟩:Source),(⟨[109,97,105,110,46,99],[105,110,116]⟩:Source)] [109,97,105,110,46,99] r2 hr2)
     rcases Jd H with⟨hp4,H⟩|⟨hp4,H⟩
     ·obtain⟨F,G,hq4⟩:=xH F G hp4
      obtain⟨r3,hr3,H⟩:=Jl H
      have F:=xCf F (XC [97,47,98,46,104] [46,46,47,109,97,105,110,46,99] r3 hr3)
      rcases Jd H with⟨hp5,H⟩|⟨hp5,H⟩
      ·obtain⟨F,G,hq5⟩:=xH F G hp5
       obtain⟨r4,hr4,H⟩:=Jl H
       have F:=xCf F (JcU [(⟨[97,47,98,46,104],[120,121,122]⟩:Source),(⟨[109,97,105,110,46,99],[105,110,116]⟩:Source)] 0 [98,46,104] true r4 hr4)
       rcases Jd H with⟨hp6,H⟩|⟨hp6,H⟩
       ·obtain⟨F,G,hq6⟩:=xH F G hp6
        obtain⟨r5,hr5,H⟩:=Jl H
        have F:=xCf F (X2 [97] r5 hr5)
        rcases Jd H with⟨hp7,H⟩|⟨hp7,H⟩
        ·obtain⟨F,G,hq7⟩:=xH F G hp7
         obtain⟨r6,hr6,H⟩:=Jl H
         have F:=xCf F (Jbp [(⟨[97,47,98,46,104],[120,121,122]⟩:Source),(⟨[109,97,105,110,46,99],[105,110,116]⟩:Source)] r6 hr6)
         refine xR ?_
         exact Jj H (xK ⟨[],[]⟩)
        ·obtain⟨F,G,hq7⟩:=xH F G hp7
         refine xR ?_
         exact Jj H (xK ⟨[],[]⟩)
       ·obtain⟨F,G,hq6⟩:=xH F G hp6
        refine xR ?_
        exact Jj H (xK ⟨[],[]⟩)
      ·obtain⟨F,G,hq5⟩:=xH F G hp5
       refine xR ?_
       exact Jj H (xK ⟨[],[]⟩)
     ·obtain⟨F,G,hq4⟩:=xH F G hp4
      refine xR ?_
      exact Jj H (xK ⟨[],[]⟩)
    ·obtain⟨F,G,hq3⟩:=xH F G hp3
     refine xR ?_
     exact Jj H (xK ⟨[],[]⟩)
   ·obtain⟨F,G,hq2⟩:=xH F G hp2
    refine xR ?_
    exact Jj H (xK ⟨[],[]⟩)
  ·obtain⟨F,G,hq1⟩:=xH Y G hp1
   refine xR ?_
   exact Jj H (xK ⟨[],[]⟩)
 ·rintro x1 H
  rw[J2]at H
  replace H:=Option.some.inj H
  refine xS ?_
  subst H
  exact xN
theorem JcF  (r:Bool) (H:Xh  = some r):PC Ze [] (dB r):=PF.c (a:=()) H
noncomputable def KW(a0:List Source)(a1:List Source):(Int×Int)→Option ((Int×Int) ⊕ Bool)
 | (x1,x2)=>if(ltI x2 x1)=true then if(0:Int)≤x2∧x2.toNat<a0.length then if(0:Int)≤x2∧x2.toNat<a1.length then if(!(eqS ((a0.getD x2.toNat default).Path) ((a1.getD x2.toNat default).Path) && (eqS ((a0.getD x2.toNat default).Text) ((a1.getD x2.toNat default).Text))))=true then inrO (some false) else some (.inl (x1,IntKind.i64.wrap (x2+1))) else none else none else inrO (some true)
noncomputable def KX(a0:List Source)(a1:List Source):Option Bool :=
 if(!eqI (a0.length:Int) (a1.length:Int))=true then some false else Jz (KW a0 a1) ((a0.length:Int),0)
noncomputable def V4:PF:=PF.of (E2 (dL 2 Jb) (dL 2 Jb)) (fun a=>KX a.1 a.2) dB
theorem Jbe:Kd Tryd.prog 19 V4:=by
 refine xF mixed [] [] trivial trivial Tryd.func19 ?_
 rintro ⟨a0,a1⟩ out H
 have G:=True.intro
 have Y:=xZ y_23 <| xZ y_33 <| xZ Tryd.results19 <| Jb.eq_1
 simp only[KX]at H
 refine xS ?_
 refine xr ?_
 refine xr ?_
 rcases Jd H with⟨hp1,H⟩|⟨hp1,H⟩
 ·obtain⟨F,G,hq1⟩:=xH Y G hp1
  refine xT ?_
  replace H:=Option.some.inj H
  refine xr ?_
  subst H
  exact xN
 ·obtain⟨F,G,hq1⟩:=xH Y G hp1
  refine xE ?_
  refine xr ?_
  refine KQ (KW a0 a1) (fun s=>[(0,.c (.d (.sl 2 (List.map Jb a0)))),(1,.c (.d (.sl 2 (List.map Jb a1)))),(12,.c (.d (.v (.int .i64 s.1)))),(13,.c (.d (.v (.int .i64 s.2))))]) (fun s=>[]) [] H (xK ⟨[],[]⟩) ?_
  rintro n1 ⟨x1,x2⟩ o1 H hF1
  rw[KW]at H
  refine xS ?_
  refine xr ?_
  rcases Jd H with⟨hp2,H⟩|⟨hp2,H⟩
  ·obtain⟨F,G,hq2⟩:=xH Y G hp2
   refine xT ?_
   refine xr ?_
   obtain⟨hg1,H⟩:=Jc H
   have F:=xZ Y (Ji Jb a0 x2.toNat default default (by omega))
   obtain⟨hg2,H⟩:=Jc H
   have F:=xZ F (Ji Jb a1 x2.toNat default default (by omega))
   refine xR ?_
   rcases Jd H with⟨hp3,H⟩|⟨hp3,H⟩
   ·obtain⟨F,G,hq3⟩:=xH Y G hp3
    refine xT ?_
    replace H:=Jo H hF1
    replace H:=Option.some.inj H
    refine xr ?_
    subst H
    exact xN
   ·obtain⟨F,G,hq3⟩:=xH Y G hp3
    refine xE ?_
    refine xr ?_
    exact JL (J3 H hF1) (xK ⟨[],[]⟩)
  ·obtain⟨F,G,hq2⟩:=xH Y G hp2
   replace H:=Jo H hF1
   refine xE ?_
   replace H:=Option.some.inj H
   refine xr ?_
   subst H
   exact xN
theorem Jbv(a0:List Source)(a1:List Source)(r:Bool)(H:KX a0 a1=some r):PC V4 [(dL 2 Jb) a0,(dL 2 Jb) a1] (dB r):=PF.c (a:=(a0,a1)) H
noncomputable def Vj:Bool→Option Bool
 | x1=>some x1
noncomputable def VS(a0:List Source)(a1:Edit):Option Bool :=
 (Xh).bind fun r1=>if(!r1)=true then some false else(KV a0 [a1]).bind fun r2=>if(!eqI r2.2 0)=true then some (eqI (r2.1.length:Int) 0) else if(0:Int)≤a1.File∧a1.File.toNat<a0.length then if(0:Int)≤a1.From∧a1.From≤a1.To∧a1.To≤(((a0.getD a1.File.toNat default).Text).length:Int) then(KV r2.1 [(⟨a1.File,a1.From,IntKind.i64.wrap (a1.From+(a1.Text.length:Int)),List.take (a1.To.toNat-a1.From.toNat) (List.drop a1.From.toNat ((a0.getD a1.File.toNat default).Text))⟩:Edit)]).bind fun r3=>if(eqI r3.2 0)=true then(KX r3.1 a0).bind fun r4=>Vj r4 else Vj false else none else none
noncomputable def ZI:PF:=PF.of (E2 (dL 2 Jb) Ja) (fun a=>VS a.1 a.2) dB
theorem Ja3:Kd Tryd.prog 5 ZI:=by
 refine xF mixed [(20,Ze),(17,Xs),(19,V4)] [] ⟨⟨Jjz,JcA⟩,⟨JgU,Jav⟩,⟨JjP,Jbe⟩,trivial⟩ trivial Tryd.func5 ?_
 rintro ⟨a0,a1⟩ out H
 have G:=True.intro
 have Y:=xZ y_3 <| xZ y_9 <| xZ y_23 <| xZ y_24 <| xZ y_33 <| xZ y_41 <| xZ Tryd.results5 <| xZ Jb.eq_1 <| Ja.eq_1
 simp only[VS]at H
 refine xS ?_
 refine xr ?_
 obtain⟨r1,hr1,H⟩:=Jl H
 have F:=xC Y (JcF  r1 hr1)
 refine xR ?_
 rcases Jd H with⟨hp1,H⟩|⟨hp1,H⟩
 ·obtain⟨F,G,hq1⟩:=xH Y G hp1
  refine xT ?_
  replace H:=Option.some.inj H
  refine xr ?_
  subst H
  exact xN
 ·obtain⟨F,G,hq1⟩:=xH Y G hp1
  refine xE ?_
  obtain⟨r2,hr2,H⟩:=Jl H
  have F:=xC Y (ZN a0 [a1] r2 hr2)
  refine xR ?_
  refine xr ?_
  rcases Jd H with⟨hp2,H⟩|⟨hp2,H⟩
  ·obtain⟨F,G,hq2⟩:=xH Y G hp2
   refine xT ?_
   replace H:=Option.some.inj H
   refine xr ?_
   subst H
   exact xN
  ·obtain⟨F,G,hq2⟩:=xH Y G hp2
   refine xE ?_
   obtain⟨hg1,H⟩:=Jc H
   have F:=xZ Y (Ji Jb a0 a1.File.toNat default default (by omega))
   obtain⟨hg2,H⟩:=Jc H
   obtain⟨r3,hr3,H⟩:=Jl H
   have F:=xCf F (ZN r2.1 [(⟨a1.File,a1.From,IntKind.i64.wrap (a1.From+(a1.Text.length:Int)),List.take (a1.To.toNat-a1.From.toNat) (List.drop a1.From.toNat ((a0.getD a1.File.toNat default).Text))⟩:Edit)] r3 hr3)
   refine xR0 ?_
   refine KL ?_
   refine Vw Vj (fun s=>[(4,.c (.d (.v (.bool s))))]) (fun s=>[]) [] out ?_ ?_
   ·rcases Jd H with⟨hp3,H⟩|⟨hp3,H⟩
    ·obtain⟨F,G,hq3⟩:=xH Y G hp3
     obtain⟨r4,hr4,H⟩:=Jl H
     have F:=xCf F (Jbv r3.1 a0 r4 hr4)
     refine xR ?_
     exact Jj H (xK ⟨[],[]⟩)
    ·obtain⟨F,G,hq3⟩:=xH Y G hp3
     refine xR ?_
     exact Jj H (xK ⟨[],[]⟩)
   ·rintro x1 H
    rw[Vj]at H
    replace H:=Option.some.inj H
    refine xS ?_
    subst H
    exact xN
end Go.Proofs.YtfkhlbhjhdpkoaaDoor
