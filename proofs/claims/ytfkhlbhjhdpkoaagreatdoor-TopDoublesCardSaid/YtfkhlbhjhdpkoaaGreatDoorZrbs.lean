/- Functions of data for functions of the program. Written by dec3.py. -/
import Derived.Test.YtfkhlbhjhdpkoaaGreatDoorZras
import Derived.Test.YtfkhlbhjhdpkoaaGreatDoorZrau
import Derived.Test.YtfkhlbhjhdpkoaaGreatDoorZrbo
set_option linter.unusedVariables false
set_option linter.unusedSimpArgs false
set_option maxHeartbeats 4000000
set_option maxRecDepth 100000
namespace Go.Proofs.YtfkhlbhjhdpkoaaGreatDoor
open Go.RowKit
noncomputable def Xs:Bool→Option Bool
 | x5=>some x5
noncomputable def Xw(x6 x7:Int):Bool→Option YJ
 | x8=>if x8=true then inrO (some false) else some (.inl (x6,IntKind.i64.wrap (x7+1)))
noncomputable def K0(a0:Int)(r6:Yn):(Int×Int)→Option YJ
 | (x6,x7)=>if(ltI x7 x6)=true then if(0:Int)≤x7∧x7.toNat<r6.1.length then(Xr a0).bind fun r7=>if(!eqS ((r6.1.getD x7.toNat default).Text) r7)=true then Xw x6 x7 true else Xw x6 x7 (!eqI (((r6.1.getD x7.toNat default).Calls).length:Int) a0) else none else inrO (some true)
noncomputable def KA(a0:Int):YE→Option (YE ⊕ Bool)
 | (x2,x3,x4)=>if(ltI x4 a0)=true then if x2.length+8≤9223372036854775807 then(Xr x4).bind fun r2=>if x2.length+8+r2.length≤9223372036854775807 then if x2.length+8+r2.length+1≤9223372036854775807 then(Xr (IntKind.i64.wrap (x4+1))).bind fun r3=>if x2.length+8+r2.length+1+r3.length≤9223372036854775807 then if x2.length+8+r2.length+1+r3.length+1≤9223372036854775807 then if x2.length+8+r2.length+1+r3.length+1+r3.length≤9223372036854775807 then if x2.length+8+r2.length+1+r3.length+1+r3.length+1≤9223372036854775807 then some (.inl (((((((x2++[35,100,101,102,105,110,101,32])++r2)++[32])++r3)++[32])++r3)++[10],IntKind.i64.wrap (2 * x3),IntKind.i64.wrap (x4+1))) else none else none else none else none else none else none else none else inrO ((Xr 0).bind fun r4=>if x2.length+r4.length≤9223372036854775807 then(JbX).bind fun r5=>(XN [(⟨[109],x2++r4⟩:Source)] 0 ([]:List Macro) r5).bind fun r6=>if(!eqI r6.2.2.2.1 0)=true then if(ltI 700 x3)=true then if(eqI r6.2.2.2.1 11)=true then Xs true else Xs (eqI r6.2.2.2.1 4) else Xs false else if(!eqI (r6.1.length:Int) x3)=true then some false else Jt (K0 a0 r6) ((r6.1.length:Int),0) else none)
noncomputable def XB(a0:Int):Bool→Option Bool
 | x1=>if x1=true then some true else Jt (KA a0) ([],1,0)
noncomputable def Jad(a0:Int):Option Bool :=
 (Zz).bind fun r1=>if(!r1)=true then some false else if(ltI a0 0)=true then XB a0 true else XB a0 (ltI 12 a0)
noncomputable def JfA:PF:=PF.of (E1 dI) (fun a=>Jad a) dB
theorem JiE:JF Tryz.prog 3 JfA:=by
 refine xF mixed [(9,Jfs),(10,Jf9),(12,Jd4)] [(11,true,Jel)] ⟨⟨JCM,Jn0⟩,⟨JCb,Joo⟩,⟨Jwm,Jia⟩,trivial⟩ ⟨JlZ,trivial⟩ Tryz.func3 ?_
 rintro a0 out H
 have G:=True.intro
 have Y:=xZ y_9 <| xZ y_24 <| xZ y_27 <| xZ y_29 <| xZ y_31 <| xZ y_35 <| xZ y_37 <| xZ y_42 <| xZ y_44 <| xZ JmW <| xZ Tryz.results3 <| xZ Jf.eq_1 <| xZ Kw.eq_1 <| xZ Jk.eq_1 <| xZ Ja.eq_1 <| xZ Je.eq_1 <| xZ J9.eq_1 <| Jer.eq_1
 simp only[Jad]at H
 refine xS ?_
 refine xr ?_
 obtain⟨r1,hr1,H⟩:=Ji H
 have F:=xC Y (JoS  r1 hr1)
 refine xR ?_
 rcases xB Y G H with⟨p,H,F,G,q⟩|⟨p,H,F,G,q⟩
 ·refine xT ?_
  replace H:=oI H
  refine xr ?_
  subst H
  exact xN
 refine xE0 ?_
 refine Jbd ?_
 refine Jl ?_
 refine Vl ?_
 refine Jp (XB a0) (fun s=>[(0,cI a0),(18,cB s)]) (fun s=>[]) [] out ?_ ?_
 ·rcases xB Y G H with⟨p,H,F,G,q⟩|⟨p,H,F,G,q⟩
  ·refine xR ?_
   exact Jb H (xK ⟨[],[]⟩)
  refine xR ?_
  exact Jb H (xK ⟨[],[]⟩)
 rintro x1 H
 rw[XB]at H
 rcases xB Y G H with⟨p,H,F,G,q⟩|⟨p,H,F,G,q⟩
 ·refine xT ?_
  replace H:=oI H
  refine xr ?_
  subst H
  exact xN
 refine xE ?_
 refine xr ?_
 refine xr ?_
 refine JZ (KA a0) (fun s=>[(0,cI a0),(3,cS s.1),(4,cI s.2.1),(19,cI a0),(20,cI s.2.2)]) (fun s=>[]) [] H (xK ⟨[],[]⟩) ?_
 rintro n1 ⟨x2,x3,x4⟩ o1 H hF1
 rw[KA]at H
 refine xS ?_
 refine xr ?_
 rcases xB Y G H with⟨p,H,F,G,q⟩|⟨p,H,F,G,q⟩
 ·refine xT ?_
  refine xr ?_
  obtain⟨g,H⟩:=Jd H
  obtain⟨r2,hr2,H⟩:=Ji H
  have F:=xC Y (Jex x4 r2 hr2)
  obtain⟨g,H⟩:=Jd H
  obtain⟨g,H⟩:=Jd H
  obtain⟨r3,hr3,H⟩:=Ji H
  have F:=xCf F (Jex (IntKind.i64.wrap (x4+1)) r3 hr3)
  obtain⟨g,H⟩:=Jd H
  obtain⟨g,H⟩:=Jd H
  obtain⟨g,H⟩:=Jd H
  obtain⟨g,H⟩:=Jd H
  refine xR ?_
  refine xr ?_
  refine xr ?_
  exact JB (JG H hF1) (xK ⟨[],[]⟩)
 replace H:=Js H hF1
 refine xE ?_
 obtain⟨r4,hr4,H⟩:=Ji H
 have F:=xC Y (Jex 0 r4 hr4)
 obtain⟨g,H⟩:=Jd H
 obtain⟨r5,hr5,H⟩:=Ji H
 have F:=xCf F (JjH  r5 hr5)
 obtain⟨r6,hr6,H⟩:=Ji H
 have F:=F
 refine xQ ?_
 refine xs 6 ?_
 refine xc ⟨[],[]⟩ (tabG 0 (cg4 hr6)) ?_
 refine xs 9 ?_
 refine xl ?_
 refine xS ?_
 refine xr ?_
 rcases xB Y G H with⟨p,H,F,G,q⟩|⟨p,H,F,G,q⟩
 ·refine xT0 ?_
  refine Jp Xs (fun s=>[(2,cB s)]) (fun s=>[]) [] out ?_ ?_
  ·rcases xB Y G H with⟨p,H,F,G,q⟩|⟨p,H,F,G,q⟩
   ·rcases xB F G H with⟨p,H,F,G,q⟩|⟨p,H,F,G,q⟩
    ·refine xR ?_
     exact Jb H (xK ⟨[],[]⟩)
    refine xR ?_
    exact Jb H (xK ⟨[],[]⟩)
   refine xR ?_
   exact Jb H (xK ⟨[],[]⟩)
  rintro x5 H
  rw[Xs]at H
  replace H:=oI H
  refine xS ?_
  subst H
  exact xN
 refine xE ?_
 refine xr ?_
 rcases xB Y G H with⟨p,H,F,G,q⟩|⟨p,H,F,G,q⟩
 ·refine xT ?_
  replace H:=oI H
  refine xr ?_
  subst H
  exact xN
 refine xE ?_
 refine xr ?_
 refine JZ (K0 a0 r6) (fun s=>[(0,cI a0),(74,.c (.d (.sl 11 (List.map Ja r6.1)))),(75,cI s.1),(76,cI s.2)]) (fun s=>[]) [] H (xK ⟨[],[]⟩) ?_
 rintro n2 ⟨x6,x7⟩ o2 H hF2
 rw[K0]at H
 refine xS ?_
 refine xr ?_
 rcases xB Y G H with⟨p,H,F,G,q⟩|⟨p,H,F,G,q⟩
 ·refine xT ?_
  obtain⟨g,H⟩:=Jd H
  have F:=xZ Y (Jh Ja r6.1 x7.toNat default default (by omega))
  refine xR0 ?_
  refine Jl ?_
  refine Jp (Xw x6 x7) (fun s=>[(0,cI a0),(74,.c (.d (.sl 11 (List.map Ja r6.1)))),(75,cI x6),(76,cI x7),(91,cB s)]) (fun s=>[]) [] o2 ?_ ?_
  ·obtain⟨r7,hr7,H⟩:=Ji H
   have F:=xC Y (Jex a0 r7 hr7)
   rcases xB F G H with⟨p,H,F,G,q⟩|⟨p,H,F,G,q⟩
   ·refine xR ?_
    exact Jb H (xK ⟨[],[]⟩)
   refine xR ?_
   exact Jb H (xK ⟨[],[]⟩)
  rintro x8 H
  rw[Xw]at H
  rcases xB Y G H with⟨p,H,F,G,q⟩|⟨p,H,F,G,q⟩
  ·refine xT ?_
   replace H:=Js H hF2
   replace H:=oI H
   refine xr ?_
   subst H
   exact xN
  refine xE ?_
  refine xr ?_
  exact JB (JG H hF2) (xK ⟨[],[]⟩)
 replace H:=Js H hF2
 refine xE ?_
 replace H:=oI H
 refine xr ?_
 subst H
 exact xN
end Go.Proofs.YtfkhlbhjhdpkoaaGreatDoor
