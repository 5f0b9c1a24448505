/- Functions of data for functions of the program. Written by dec3.py. -/
import Derived.Test.YtfkhlbhjhdpkoaaGreatDoorZqam
set_option linter.unusedVariables false
set_option linter.unusedSimpArgs false
set_option maxHeartbeats 4000000
set_option maxRecDepth 100000
namespace Go.Proofs.YtfkhlbhjhdpkoaaGreatDoor
open Go.RowKit
noncomputable def KN(x2:List UInt8):(Int×(List UInt8)×(List Int))→Option Yo
 | (x5,x6,x7)=>some (.inl (IntKind.i64.wrap (x5+1),x2,x6,x7))
noncomputable def Vk(x1:Int)(x2 x3:List UInt8)(x4:List Int)(x8:List UInt8):Bool→Option Yo
 | x11=>if x11=true then KN x2 (x1,x3,x4) else if(0:Int)≤0∧0≤1∧1≤(x8.length:Int) then if x3.length+(List.take 1 x8).length≤9223372036854775807 then if(x4.length + [x1].length) * 8≤140737488355328 then KN x2 (x1,x3++(List.take 1 x8),x4++[x1]) else none else none else none
noncomputable def KO(x1:Int)(x2 x3:List UInt8)(x4:List Int)(x8:List UInt8):Bool→Option Yo
 | x10=>if x10=true then KN x2 (IntKind.i64.wrap (x1+2),x3,x4) else if(ltI 1 (x8.length:Int))=true then if 0<x8.length then if(eqI ((x8.getD 0 0).toNat:Int) 13)=true then if 1<x8.length then Vk x1 x2 x3 x4 x8 (eqI ((x8.getD 1 0).toNat:Int) 10) else none else Vk x1 x2 x3 x4 x8 false else none else Vk x1 x2 x3 x4 x8 false
noncomputable def Vj(x1:Int)(x2 x3:List UInt8)(x4:List Int):((List UInt8)×Bool)→Option Yo
 | (x8,x9)=>if x9=true then KN x2 (IntKind.i64.wrap (x1+1),x3,x4) else if(ltI 2 (x8.length:Int))=true then if 0<x8.length then if(eqI ((x8.getD 0 0).toNat:Int) 92)=true then if 1<x8.length then if(eqI ((x8.getD 1 0).toNat:Int) 13)=true then if 2<x8.length then KO x1 x2 x3 x4 x8 (eqI ((x8.getD 2 0).toNat:Int) 10) else none else KO x1 x2 x3 x4 x8 false else none else KO x1 x2 x3 x4 x8 false else none else KO x1 x2 x3 x4 x8 false
noncomputable def JaZ(a0:List UInt8):(Int×(List UInt8)×(List UInt8)×(List Int))→Option Yo
 | (x1,x2,x3,x4)=>if(ltI x1 (a0.length:Int))=true then if(0:Int)≤x1∧x1≤(a0.length:Int)∧(a0.length:Int)≤(a0.length:Int) then if(ltI 1 ((List.drop x1.toNat a0).length:Int))=true then if 0<(List.drop x1.toNat a0).length then if(eqI (((List.drop x1.toNat a0).getD 0 0).toNat:Int) 92)=true then if 1<(List.drop x1.toNat a0).length then Vj x1 x2 x3 x4 (List.drop x1.toNat a0,eqI (((List.drop x1.toNat a0).getD 1 0).toNat:Int) 10) else none else Vj x1 x2 x3 x4 (List.drop x1.toNat a0,false) else none else Vj x1 x2 x3 x4 (List.drop x1.toNat a0,false) else none else inrO (if(x4.length + [(a0.length:Int)].length) * 8≤140737488355328 then some (⟨x3,x4++[(a0.length:Int)]⟩:Spliced) else none)
noncomputable def Jbt(a0:List UInt8):Option Spliced :=
 Jv (JaZ a0) (0,[],[],([]:List Int))
noncomputable def Jfa:PF:=PF.of (E1 dS) (fun a=>Jbt a) JM
theorem Jnb:JB Tryz.prog 27 Jfa:=by
 refine xF mixed [] [] trivial trivial Tryz.func27 ?_
 rintro a0 out H
 have G:=True.intro
 have Y:=xZ y_3 <| xZ y_9 <| xZ y_25 <| xZ y_70 <| xZ Tryz.results27 <| JM.eq_1
 simp only[Jbt]at H
 refine xS ?_
 refine xr ?_
 refine xr ?_
 refine xr ?_
 refine JG (JaZ a0) (fun s=>[(0,cS a0),(2,.c (.pt 1 0)),(3,.c (.pt 2 0)),(4,cI s.1)]) (fun s=>[[kS s.2.1,.sl 1 [] 0],[kS s.2.2.1,.sl 1 (List.map dI s.2.2.2) 3]]) [3] H (xK ⟨[1,2],[0]⟩) ?_
 rintro n1 ⟨x1,x2,x3,x4⟩ o1 H hF1
 rw[JaZ]at H
 refine xS ?_
 refine xr ?_
 rcases xB Y G H with⟨p,H,F,G,q⟩|⟨p,H,F,G,q⟩
 ·refine xT0 ?_
  refine VA ?_
  refine Jj ?_
  refine Jn (KN x2) (fun s=>[(0,cS a0),(2,.c (.pt 1 0)),(3,.c (.pt 2 0)),(4,cI s.1)]) (fun s=>[[kS x2,.sl 1 [] 0],[kS s.2.1,.sl 1 (List.map dI s.2.2) 3]]) [3] o1 ?_ ?_
  ·refine xS ?_
   obtain⟨g,H⟩:=Jc H
   refine xr0 ?_
   refine Jj ?_
   refine Kf ?_
   refine Jn (Vj x1 x2 x3 x4) (fun s=>[(0,cS a0),(2,.c (.pt 1 0)),(3,.c (.pt 2 0)),(4,cI x1),(5,cS s.1),(27,cB s.2)]) (fun s=>[[kS x2,.sl 1 [] 0],[kS x3,.sl 1 (List.map dI x4) 3]]) [3] o1 ?_ ?_
   ·rcases xB Y G H with⟨p,H,F,G,q⟩|⟨p,H,F,G,q⟩
    ·obtain⟨g,H⟩:=Jc H
     rcases xB F G H with⟨p,H,F,G,q⟩|⟨p,H,F,G,q⟩
     ·obtain⟨g,H⟩:=Jc H
      refine xR ?_
      exact Jb H (xK ⟨[1,2],[3]⟩)
     refine xR ?_
     exact Jb H (xK ⟨[1,2],[3]⟩)
    refine xR ?_
    exact Jb H (xK ⟨[1,2],[3]⟩)
   rintro ⟨x8,x9⟩ H
   rw[Vj]at H
   rcases xB Y G H with⟨p,H,F,G,q⟩|⟨p,H,F,G,q⟩
   ·refine xT ?_
    refine xr ?_
    exact Jb H (xK ⟨[1,2],[3]⟩)
   refine xE0 ?_
   refine VA ?_
   refine Jj ?_
   refine Kf ?_
   refine Jn (KO x1 x2 x3 x4 x8) (fun s=>[(0,cS a0),(2,.c (.pt 1 0)),(3,.c (.pt 2 0)),(4,cI x1),(5,cS x8),(47,cB s)]) (fun s=>[[kS x2,.sl 1 [] 0],[kS x3,.sl 1 (List.map dI x4) 3]]) [3] o1 ?_ ?_
   ·rcases xB Y G H with⟨p,H,F,G,q⟩|⟨p,H,F,G,q⟩
    ·obtain⟨g,H⟩:=Jc H
     rcases xB F G H with⟨p,H,F,G,q⟩|⟨p,H,F,G,q⟩
     ·obtain⟨g,H⟩:=Jc H
      rcases xB F G H with⟨p,H,F,G,q⟩|⟨p,H,F,G,q⟩
      ·obtain⟨g,H⟩:=Jc H
       refine xR ?_
       exact Jb H (xK ⟨[1,2],[3]⟩)
      refine xR ?_
      exact Jb H (xK ⟨[1,2],[3]⟩)
     refine xR ?_
     exact Jb H (xK ⟨[1,2],[3]⟩)
    refine xR ?_
    exact Jb H (xK ⟨[1,2],[3]⟩)
   rintro x10 H
   rw[KO]at H
   rcases xB Y G H with⟨p,H,F,G,q⟩|⟨p,H,F,G,q⟩
   ·refine xT ?_
    refine xr ?_
    exact Jb H (xK ⟨[1,2],[3]⟩)
   refine xE0 ?_
   refine VA ?_
   refine Jj ?_
   refine Kf ?_
   refine Jn (Vk x1 x2 x3 x4 x8) (fun s=>[(0,cS a0),(2,.c (.pt 1 0)),(3,.c (.pt 2 0)),(4,cI x1),(5,cS x8),(62,cB s)]) (fun s=>[[kS x2,.sl 1 [] 0],[kS x3,.sl 1 (List.map dI x4) 3]]) [3] o1 ?_ ?_
   ·rcases xB Y G H with⟨p,H,F,G,q⟩|⟨p,H,F,G,q⟩
    ·obtain⟨g,H⟩:=Jc H
     rcases xB F G H with⟨p,H,F,G,q⟩|⟨p,H,F,G,q⟩
     ·obtain⟨g,H⟩:=Jc H
      refine xR ?_
      exact Jb H (xK ⟨[1,2],[3]⟩)
     refine xR ?_
     exact Jb H (xK ⟨[1,2],[3]⟩)
    refine xR ?_
    exact Jb H (xK ⟨[1,2],[3]⟩)
   rintro x11 H
   rw[Vk]at H
   rcases xB Y G H with⟨p,H,F,G,q⟩|⟨p,H,F,G,q⟩
   ·refine xT ?_
    exact Jb H (xK ⟨[1,2],[3]⟩)
   refine xE ?_
   obtain⟨g,H⟩:=Jc H
   obtain⟨g,H⟩:=Jc H
   refine xr ?_
   obtain⟨g,H⟩:=Jc H
   have F:=xZ Y (JH Jju [x1])
   refine xR ?_
   exact Jb H (xK ⟨[1,2],[4]⟩)
  rintro ⟨x5,x6,x7⟩ H
  rw[KN]at H
  refine xr ?_
  exact Jw (JA H hF1) (xK ⟨[1,2],[3]⟩)
 replace H:=Jq H hF1
 refine xE ?_
 obtain⟨g,H⟩:=Jc H
 have F:=xZ Y (JH Jju [(a0.length:Int)])
 refine xR ?_
 replace H:=oI H
 refine xr ?_
 subst H
 exact xN
theorem JnK(a0:List UInt8)(r:Spliced)(H:Jbt a0=some r):PC Jfa [dS a0] (JM r):=PF.c (a:=a0) H
noncomputable def Jcv(x2:Bool)(x7:Int):Bool→Option YA
 | x8=>if x8=true then some (.inl (IntKind.i64.wrap (x7+1))) else inrO (some (.inl (x7,x2)))
noncomputable def JcA(a0:List UInt8)(x2:Bool):Int→Option YA
 | x7=>if(ltI x7 (a0.length:Int))=true then if(0:Int)≤x7∧x7.toNat<a0.length then Jcv x2 x7 (!eqI ((a0.getD x7.toNat 0).toNat:Int) 10) else none else Jcv x2 x7 false
noncomputable def Jcy(a0:List UInt8)(x1:Int)(x2:Bool)(x9:Int):Bool→Option YA
 | x10=>if x10=true then some (.inl (IntKind.i64.wrap (x9+1))) else inrO (if(leI (a0.length:Int) (IntKind.i64.wrap (x9+1)))=true then inrO (some (IntKind.i64.wrap ((-1)-x1),x2)) else some (.inl (IntKind.i64.wrap (x9+2),x2)))
noncomputable def Jco(a0:List UInt8)(x1:Int)(x2:Bool):Int→Option YA
 | x9=>if(ltI (IntKind.i64.wrap (x9+1)) (a0.length:Int))=true then if(0:Int)≤x9∧x9≤(IntKind.i64.wrap (x9+2))∧(IntKind.i64.wrap (x9+2))≤(a0.length:Int) then Jcy a0 x1 x2 x9 (!eqS (List.take ((IntKind.i64.wrap (x9+2)).toNat-x9.toNat) (List.drop x9.toNat a0)) [42,47]) else none else Jcy a0 x1 x2 x9 false
noncomputable def Ky(a0:List UInt8)(x1:Int)(x2:Bool)(x4:List UInt8):Ya1→Option YG
 | (x5,x6)=>if x6=true then some (.inl (IntKind.i64.wrap (x1+1),x2)) else if(eqI (x5.toNat:Int) 10)=true then some (.inl (IntKind.i64.wrap (x1+1),true)) else if(eqS x4 [47,47])=true then Jv (JcA a0 x2) x1 else if(eqS x4 [47,42])=true then Jv (Jco a0 x1 x2) (IntKind.i64.wrap (x1+2)) else inrO (some (x1,x2))
noncomputable def Jaf(a0:List UInt8)(x1:Int)(x2:Bool):(UInt8×(List UInt8))→Option YG
 | (x3,x4)=>if(eqI (x3.toNat:Int) 32)=true then Ky a0 x1 x2 x4 (x3,true) else if(eqI (x3.toNat:Int) 9)=true then Ky a0 x1 x2 x4 (x3,true) else Ky a0 x1 x2 x4 (x3,eqI (x3.toNat:Int) 13)
noncomputable def KW(a0:List UInt8):(Int×Bool)→Option YG
 | (x1,x2)=>if(ltI x1 (a0.length:Int))=true then if(0:Int)≤x1∧x1.toNat<a0.length then if(ltI (IntKind.i64.wrap (x1+1)) (a0.length:Int))=true then if(0:Int)≤x1∧x1≤(IntKind.i64.wrap (x1+2))∧(IntKind.i64.wrap (x1+2))≤(a0.length:Int) then Jaf a0 x1 x2 ((a0.getD x1.toNat 0),List.take ((IntKind.i64.wrap (x1+2)).toNat-x1.toNat) (List.drop x1.toNat a0)) else none else Jaf a0 x1 x2 ((a0.getD x1.toNat 0),[]) else none else inrO (some (x1,x2))
noncomputable def JcU(a0:List UInt8):Option (Int×Bool) :=
 Jv (KW a0) (0,false)
noncomputable def JfY:PF:=PF.of (E1 dS) (fun a=>JcU a) (T2 dI dB)
theorem JpB:JB Tryz.prog 28 JfY:=by
 refine xF mixed [] [] trivial trivial Tryz.func28 ?_
 rintro a0 out H
 have G:=True.intro
 have Y:=xZ y_9 <| Tryz.results28
 simp only[JcU]at H
 refine xS ?_
 refine xr ?_
 refine xr ?_
 refine JG (KW a0) (fun s=>[(0,cS a0),(4,cI s.1),(5,cB s.2)]) (fun s=>[]) [] H (xK ⟨[],[]⟩) ?_
 rintro n1 ⟨x1,x2⟩ o1 H hF1
 rw[KW]at H
 refine xS ?_
 refine xr ?_
 rcases xB Y G H with⟨p,H,F,G,q⟩|⟨p,H,F,G,q⟩
 ·refine xT ?_
  obtain⟨g,H⟩:=Jc H
  refine xr ?_
  refine xr0 ?_
  refine Jj ?_
  refine Jn (Jaf a0 x1 x2) (fun s=>[(0,cS a0),(4,cI x1),(5,cB x2),(6,.c (.d (.v (.int .u8 (s.1.toNat:Int))))),(7,cS s.2)]) (fun s=>[]) [] o1 ?_ ?_
  ·refine xS ?_
   refine xr ?_
   rcases xB Y G H with⟨p,H,F,G,q⟩|⟨p,H,F,G,q⟩
   ·refine xT ?_
    obtain⟨g,H⟩:=Jc H
    refine xr ?_
    exact Jb H (xK ⟨[],[]⟩)
   refine xE ?_
   exact Jb H (xK ⟨[],[]⟩)
  rintro ⟨x3,x4⟩ H
  rw[Jaf]at H
  refine Jag ?_
  refine Jn (Ky a0 x1 x2 x4) (fun s=>[(0,cS a0),(4,cI x1),(5,cB x2),(6,.c (.d (.v (.int .u8 (s.1.toNat:Int))))),(7,cS x4),(28,cB s.2)]) (fun s=>[]) [] o1 ?_ ?_
  ·rcases xB Y G H with⟨p,H,F,G,q⟩|⟨p,H,F,G,q⟩
   ·refine xR ?_
    exact Jb H (xK ⟨[],[]⟩)
   rcases xB F G H with⟨p,H,F,G,q⟩|⟨p,H,F,G,q⟩
   ·refine xR ?_
    exact Jb H (xK ⟨[],[]⟩)
   refine xR ?_
   exact Jb H (xK ⟨[],[]⟩)
  rintro ⟨x5,x6⟩ H
  rw[Ky]at H
  rcases xB Y G H with⟨p,H,F,G,q⟩|⟨p,H,F,G,q⟩
  ·refine xT ?_
   refine xr ?_
   exact Jw (JA H hF1) (xK ⟨[],[]⟩)
  refine xE ?_
  refine xr ?_
  rcases xB Y G H with⟨p,H,F,G,q⟩|⟨p,H,F,G,q⟩
  ·refine xT ?_
   refine xr ?_
   refine xr ?_
   exact Jw (JA H hF1) (xK ⟨[],[]⟩)
  refine xE ?_
  refine xr ?_
  rcases xB Y G H with⟨p,H,F,G,q⟩|⟨p,H,F,G,q⟩
  ·refine xT ?_
   refine JG (JcA a0 x2) (fun s=>[(0,cS a0),(4,cI s),(5,cB x2)]) (fun s=>[]) [] H (xK ⟨[],[]⟩) ?_
   rintro n2 x7 o2 H hF2
   rw[JcA]at H
   refine Kf ?_
   refine Jn (Jcv x2 x7) (fun s=>[(0,cS a0),(4,cI x7),(5,cB x2),(58,cB s)]) (fun s=>[]) [] o2 ?_ ?_
   ·rcases xB Y G H with⟨p,H,F,G,q⟩|⟨p,H,F,G,q⟩
    ·obtain⟨g,H⟩:=Jc H
     refine xR ?_
     exact Jb H (xK ⟨[],[]⟩)
    refine xR ?_
    exact Jb H (xK ⟨[],[]⟩)
   rintro x8 H
   rw[Jcv]at H
   rcases xB Y G H with⟨p,H,F,G,q⟩|⟨p,H,F,G,q⟩
   ·refine xT ?_
    refine xr ?_
    exact Jw (JA H hF2) (xK ⟨[],[]⟩)
   replace H:=Jq H hF2
   refine xE ?_
   exact Jw (JA H hF1) (xK ⟨[],[]⟩)
  refine xE ?_
  refine xr ?_
  rcases xB Y G H with⟨p,H,F,G,q⟩|⟨p,H,F,G,q⟩
  ·refine xT ?_
   refine xr ?_
   refine JG (Jco a0 x1 x2) (fun s=>[(0,cS a0),(4,cI x1),(5,cB x2),(8,cI s)]) (fun s=>[]) [] H (xK ⟨[],[]⟩) ?_
   rintro n3 x9 o3 H hF3
   rw[Jco]at H
   refine Kf ?_
   refine Jn (Jcy a0 x1 x2 x9) (fun s=>[(0,cS a0),(4,cI x1),(5,cB x2),(8,cI x9),(78,cB s)]) (fun s=>[]) [] o3 ?_ ?_
   ·rcases xB Y G H with⟨p,H,F,G,q⟩|⟨p,H,F,G,q⟩
    ·obtain⟨g,H⟩:=Jc H
     refine xR ?_
     exact Jb H (xK ⟨[],[]⟩)
    refine xR ?_
    exact Jb H (xK ⟨[],[]⟩)
   rintro x10 H
   rw[Jcy]at H
   rcases xB Y G H with⟨p,H,F,G,q⟩|⟨p,H,F,G,q⟩
   ·refine xT ?_
    refine xr ?_
    exact Jw (JA H hF3) (xK ⟨[],[]⟩)
   replace H:=Jq H hF3
   refine xE ?_
   refine xr ?_
   rcases xB Y G H with⟨p,H,F,G,q⟩|⟨p,H,F,G,q⟩
   ·refine xT ?_
    replace H:=Jq H hF1
    replace H:=oI H
    refine xr ?_
    subst H
    exact xN
   refine xE ?_
   refine xr ?_
   exact Jw (JA H hF1) (xK ⟨[],[]⟩)
  refine xE ?_
  replace H:=Jq H hF1
  replace H:=oI H
  refine xr ?_
  subst H
  exact xN
 replace H:=Jq H hF1
 refine xE ?_
 replace H:=oI H
 refine xr ?_
 subst H
 exact xN
theorem Jqw(a0:List UInt8)(r:Int×Bool)(H:JcU a0=some r):PC JfY [dS a0] (T2 dI dB r):=PF.c (a:=a0) H
noncomputable def KM:Bool→Option Bool
 | x1=>some x1
noncomputable def ZC(a0:UInt8):Option Bool :=
 if(leI 97 (a0.toNat:Int))=true then if(leI (a0.toNat:Int) 122)=true then KM true else if(leI 65 (a0.toNat:Int))=true then if(leI (a0.toNat:Int) 90)=true then KM true else KM (eqI (a0.toNat:Int) 95) else KM (eqI (a0.toNat:Int) 95) else if(leI 65 (a0.toNat:Int))=true then if(leI (a0.toNat:Int) 90)=true then KM true else KM (eqI (a0.toNat:Int) 95) else KM (eqI (a0.toNat:Int) 95)
noncomputable def JcR:PF:=PF.of (E1 dU) (fun a=>ZC a) dB
theorem JhF:JB Tryz.prog 41 JcR:=by
 refine xF mixed [] [] trivial trivial Tryz.func41 ?_
 rintro a0 out H
 have G:=True.intro
 have Y:=Tryz.results41
 simp only[ZC]at H
 refine xS ?_
 refine xr0 ?_
 refine Jj ?_
 refine Jn KM (fun s=>[(2,cB s)]) (fun s=>[]) [] out ?_ ?_
 ·rcases xB Y G H with⟨p,H,F,G,q⟩|⟨p,H,F,G,q⟩
  ·rcases xB F G H with⟨p,H,F,G,q⟩|⟨p,H,F,G,q⟩
   ·refine xR ?_
    exact Jb H (xK ⟨[],[]⟩)
   rcases xB F G H with⟨p,H,F,G,q⟩|⟨p,H,F,G,q⟩
   ·rcases xB F G H with⟨p,H,F,G,q⟩|⟨p,H,F,G,q⟩
    ·refine xR ?_
     exact Jb H (xK ⟨[],[]⟩)
    refine xR ?_
    exact Jb H (xK ⟨[],[]⟩)
   refine xR ?_
   exact Jb H (xK ⟨[],[]⟩)
  rcases xB F G H with⟨p,H,F,G,q⟩|⟨p,H,F,G,q⟩
  ·rcases xB F G H with⟨p,H,F,G,q⟩|⟨p,H,F,G,q⟩
   ·refine xR ?_
    exact Jb H (xK ⟨[],[]⟩)
   refine xR ?_
   exact Jb H (xK ⟨[],[]⟩)
  refine xR ?_
  exact Jb H (xK ⟨[],[]⟩)
 rintro x1 H
 rw[KM]at H
 replace H:=oI H
 refine xS ?_
 subst H
 exact xN
theorem JfH(a0:UInt8)(r:Bool)(H:ZC a0=some r):PC JcR [dU a0] (dB r):=PF.c (a:=a0) H
noncomputable def Jdy:Bool→Option Bool
 | x1=>some x1
noncomputable def X8(a0:UInt8):Option Bool :=
 if(leI 48 (a0.toNat:Int))=true then Jdy (leI (a0.toNat:Int) 57) else Jdy false
noncomputable def JdC:PF:=PF.of (E1 dU) (fun a=>X8 a) dB
theorem Jh1:JB Tryz.prog 42 JdC:=by
 refine xF mixed [] [] trivial trivial Tryz.func42 ?_
 rintro a0 out H
 have G:=True.intro
 have Y:=Tryz.results42
 simp only[X8]at H
 refine xS ?_
 refine xr0 ?_
 refine Jj ?_
 refine Jn Jdy (fun s=>[(2,cB s)]) (fun s=>[]) [] out ?_ ?_
 ·rcases xB Y G H with⟨p,H,F,G,q⟩|⟨p,H,F,G,q⟩
  ·refine xR ?_
   exact Jb H (xK ⟨[],[]⟩)
  refine xR ?_
  exact Jb H (xK ⟨[],[]⟩)
 rintro x1 H
 rw[Jdy]at H
 replace H:=oI H
 refine xS ?_
 subst H
 exact xN
theorem Jea(a0:UInt8)(r:Bool)(H:X8 a0=some r):PC JdC [dU a0] (dB r):=PF.c (a:=a0) H
noncomputable def X5(a0:List UInt8):Int→Option (List UInt8)
 | x1=>if(0:Int)≤0∧0≤x1∧x1≤(a0.length:Int) then some (List.take x1.toNat a0) else none
noncomputable def VX(a0:List UInt8)(x2:Int):Bool→Option YP
 | x5=>if x5=true then inrO (X5 a0 x2) else some (.inl (IntKind.i64.wrap (x2+1)))
noncomputable def Km(a0:List UInt8)(x2:Int):Ya1→Option YP
 | (x3,x4)=>if(!x4)=true then if(!eqI (x3.toNat:Int) 46)=true then(ZC x3).bind fun r1=>if(!r1)=true then(X8 x3).bind fun r2=>VX a0 x2 (!r2) else VX a0 x2 false else VX a0 x2 false else VX a0 x2 false
noncomputable def JaS(a0:List UInt8):Int→Option YP
 | x2=>if(ltI x2 (a0.length:Int))=true then if(0:Int)≤x2∧x2.toNat<a0.length then if(eqI ((a0.getD x2.toNat 0).toNat:Int) 43)=true then if(ltI 0 x2)=true then if(0:Int)≤(IntKind.i64.wrap (x2-1))∧(IntKind.i64.wrap (x2-1)).toNat<a0.length then if(eqI ((a0.getD ((IntKind.i64.wrap (x2-1)).toNat) 0).toNat:Int) 101)=true then Km a0 x2 ((a0.getD x2.toNat 0),true) else if(0:Int)≤(IntKind.i64.wrap (x2-1))∧(IntKind.i64.wrap (x2-1)).toNat<a0.length then Km a0 x2 ((a0.getD x2.toNat 0),eqI ((a0.getD ((IntKind.i64.wrap (x2-1)).toNat) 0).toNat:Int) 69) else none else none else Km a0 x2 ((a0.getD x2.toNat 0),false) else if(eqI ((a0.getD x2.toNat 0).toNat:Int) 45)=true then if(ltI 0 x2)=true then if(0:Int)≤(IntKind.i64.wrap (x2-1))∧(IntKind.i64.wrap (x2-1)).toNat<a0.length then if(eqI ((a0.getD ((IntKind.i64.wrap (x2-1)).toNat) 0).toNat:Int) 101)=true then Km a0 x2 ((a0.getD x2.toNat 0),true) else if(0:Int)≤(IntKind.i64.wrap (x2-1))∧(IntKind.i64.wrap (x2-1)).toNat<a0.length then Km a0 x2 ((a0.getD x2.toNat 0),eqI ((a0.getD ((IntKind.i64.wrap (x2-1)).toNat) 0).toNat:Int) 69) else none else none else Km a0 x2 ((a0.getD x2.toNat 0),false) else Km a0 x2 ((a0.getD x2.toNat 0),false) else none else inrO (X5 a0 x2)
noncomputable def Jbx(a0:List UInt8):Option (List UInt8) :=
 Jv (JaS a0) 0
noncomputable def Je6:PF:=PF.of (E1 dS) (fun a=>Jbx a) dS
theorem Jnf:JB Tryz.prog 43 Je6:=by
 refine xF mixed [(41,JcR),(42,JdC)] [] ⟨⟨Jx3,JhF⟩,⟨Jw8,Jh1⟩,trivial⟩ trivial Tryz.func43 ?_
 rintro a0 out H
 have G:=True.intro
 have Y:=xZ y_9 <| Tryz.results43
 simp only[Jbx]at H
 refine xS ?_
 refine xr ?_
 refine xr0 ?_
 refine Jj ?_
 refine Jn (X5 a0) (fun s=>[(0,cS a0),(3,cI s)]) (fun s=>[]) [] out ?_ ?_
 ·refine xS ?_
  refine JG (JaS a0) (fun s=>[(0,cS a0),(3,cI s)]) (fun s=>[]) [] H (xK ⟨[],[]⟩) ?_
  rintro n1 x2 o1 H hF1
  rw[JaS]at H
  refine xS ?_
  refine xr ?_
  rcases xB Y G H with⟨p,H,F,G,q⟩|⟨p,H,F,G,q⟩
  ·refine xT ?_
   obtain⟨g,H⟩:=Jc H
   refine xr0 ?_
   refine Jj ?_
   refine Jn (Km a0 x2) (fun s=>[(0,cS a0),(3,cI x2),(4,.c (.d (.v (.int .u8 (s.1.toNat:Int))))),(5,cB s.2)]) (fun s=>[]) [] o1 ?_ ?_
   ·rcases xB Y G H with⟨p,H,F,G,q⟩|⟨p,H,F,G,q⟩
    ·rcases xB F G H with⟨p,H,F,G,q⟩|⟨p,H,F,G,q⟩
     ·obtain⟨g,H⟩:=Jc H
      rcases xB F G H with⟨p,H,F,G,q⟩|⟨p,H,F,G,q⟩
      ·refine xR ?_
       exact Jb H (xK ⟨[],[]⟩)
      obtain⟨g,H⟩:=Jc H
      refine xR ?_
      exact Jb H (xK ⟨[],[]⟩)
     refine xR ?_
     exact Jb H (xK ⟨[],[]⟩)
    rcases xB F G H with⟨p,H,F,G,q⟩|⟨p,H,F,G,q⟩
    ·rcases xB F G H with⟨p,H,F,G,q⟩|⟨p,H,F,G,q⟩
     ·obtain⟨g,H⟩:=Jc H
      rcases xB F G H with⟨p,H,F,G,q⟩|⟨p,H,F,G,q⟩
      ·refine xR ?_
       exact Jb H (xK ⟨[],[]⟩)
      obtain⟨g,H⟩:=Jc H
      refine xR ?_
      exact Jb H (xK ⟨[],[]⟩)
     refine xR ?_
     exact Jb H (xK ⟨[],[]⟩)
    refine xR ?_
    exact Jb H (xK ⟨[],[]⟩)
   rintro ⟨x3,x4⟩ H
   rw[Km]at H
   refine Kf ?_
   refine Jn (VX a0 x2) (fun s=>[(0,cS a0),(3,cI x2),(52,cB s)]) (fun s=>[]) [] o1 ?_ ?_
   ·rcases xB Y G H with⟨p,H,F,G,q⟩|⟨p,H,F,G,q⟩
    ·rcases xB F G H with⟨p,H,F,G,q⟩|⟨p,H,F,G,q⟩
     ·obtain⟨r1,hr1,H⟩:=Ji H
      have F:=xCf F (JfH x3 r1 hr1)
      rcases xB F G H with⟨p,H,F,G,q⟩|⟨p,H,F,G,q⟩
      ·obtain⟨r2,hr2,H⟩:=Ji H
       have F:=xCf F (Jea x3 r2 hr2)
       refine xR ?_
       exact Jb H (xK ⟨[],[]⟩)
      refine xR ?_
      exact Jb H (xK ⟨[],[]⟩)
     refine xR ?_
     exact Jb H (xK ⟨[],[]⟩)
    refine xR ?_
    exact Jb H (xK ⟨[],[]⟩)
   rintro x5 H
   rw[VX]at H
   rcases xB Y G H with⟨p,H,F,G,q⟩|⟨p,H,F,G,q⟩
   ·replace H:=Jq H hF1
    refine xT ?_
    exact Jb H (xK ⟨[],[]⟩)
   refine xE ?_
   refine xr ?_
   exact Jw (JA H hF1) (xK ⟨[],[]⟩)
  replace H:=Jq H hF1
  refine xE ?_
  exact Jb H (xK ⟨[],[]⟩)
 rintro x1 H
 rw[X5]at H
 refine xS ?_
 obtain⟨g,H⟩:=Jc H
 replace H:=oI H
 refine xr ?_
 subst H
 exact xN
theorem JnG(a0:List UInt8)(r:(List UInt8))(H:Jbx a0=some r):PC Je6 [dS a0] (dS r):=PF.c (a:=a0) H
noncomputable def JaV:Int→Option YP
 | x2=>some (.inl (IntKind.i64.wrap (x2+1)))
noncomputable def X6(x1:Int):Bool→Option YP
 | x3=>if x3=true then JaV (IntKind.i64.wrap (x1+1)) else JaV x1
noncomputable def JaN(a0:List UInt8):Int→Option YP
 | x1=>if(ltI x1 (a0.length:Int))=true then if(0:Int)≤x1∧x1.toNat<a0.length then if(eqI ((a0.getD x1.toNat 0).toNat:Int) 10)=true then inrO (some []) else if(0:Int)≤x1∧x1.toNat<a0.length then if 0<a0.length then if(eqI ((a0.getD x1.toNat 0).toNat:Int) ((a0.getD 0 0).toNat:Int))=true then if(0:Int)≤0∧0≤(IntKind.i64.wrap (x1+1))∧(IntKind.i64.wrap (x1+1))≤(a0.length:Int) then inrO (some (List.take ((IntKind.i64.wrap (x1+1)).toNat) a0)) else none else if(0:Int)≤x1∧x1.toNat<a0.length then if(eqI ((a0.getD x1.toNat 0).toNat:Int) 92)=true then if(ltI (IntKind.i64.wrap (x1+1)) (a0.length:Int))=true then if(0:Int)≤(IntKind.i64.wrap (x1+1))∧(IntKind.i64.wrap (x1+1)).toNat<a0.length then X6 x1 (!eqI ((a0.getD ((IntKind.i64.wrap (x1+1)).toNat) 0).toNat:Int) 10) else none else X6 x1 false else X6 x1 false else none else none else none else none else inrO (some [])
noncomputable def ZL(a0:List UInt8):Option (List UInt8) :=
 Jv (JaN a0) 1
noncomputable def Je4:PF:=PF.of (E1 dS) (fun a=>ZL a) dS
theorem Jni:JB Tryz.prog 44 Je4:=by
 refine xF mixed [] [] trivial trivial Tryz.func44 ?_
 rintro a0 out H
 have G:=True.intro
 have Y:=xZ y_9 <| Tryz.results44
 simp only[ZL]at H
 refine xS ?_
 refine xr ?_
 refine xr ?_
 refine JG (JaN a0) (fun s=>[(0,cS a0),(3,cI s)]) (fun s=>[]) [] H (xK ⟨[],[]⟩) ?_
 rintro n1 x1 o1 H hF1
 rw[JaN]at H
 refine xS ?_
 refine xr ?_
 rcases xB Y G H with⟨p,H,F,G,q⟩|⟨p,H,F,G,q⟩
 ·refine xT0 ?_
  refine VA ?_
  refine Jj ?_
  refine Jn JaV (fun s=>[(0,cS a0),(3,cI s)]) (fun s=>[]) [] o1 ?_ ?_
  ·refine xS ?_
   obtain⟨g,H⟩:=Jc H
   refine xr ?_
   rcases xB Y G H with⟨p,H,F,G,q⟩|⟨p,H,F,G,q⟩
   ·refine xT ?_
    replace H:=Jq H hF1
    replace H:=oI H
    refine xr ?_
    subst H
    exact xN
   refine xE ?_
   obtain⟨g,H⟩:=Jc H
   obtain⟨g,H⟩:=Jc H
   refine xr ?_
   rcases xB Y G H with⟨p,H,F,G,q⟩|⟨p,H,F,G,q⟩
   ·refine xT ?_
    obtain⟨g,H⟩:=Jc H
    replace H:=Jq H hF1
    replace H:=oI H
    refine xr ?_
    subst H
    exact xN
   refine xE0 ?_
   refine VA ?_
   refine Jj ?_
   refine Jn (X6 x1) (fun s=>[(0,cS a0),(3,cI x1),(41,cB s)]) (fun s=>[]) [] o1 ?_ ?_
   ·obtain⟨g,H⟩:=Jc H
    rcases xB Y G H with⟨p,H,F,G,q⟩|⟨p,H,F,G,q⟩
    ·rcases xB F G H with⟨p,H,F,G,q⟩|⟨p,H,F,G,q⟩
     ·obtain⟨g,H⟩:=Jc H
      refine xR ?_
      exact Jb H (xK ⟨[],[]⟩)
     refine xR ?_
     exact Jb H (xK ⟨[],[]⟩)
    refine xR ?_
    exact Jb H (xK ⟨[],[]⟩)
   rintro x3 H
   rw[X6]at H
   rcases xB Y G H with⟨p,H,F,G,q⟩|⟨p,H,F,G,q⟩
   ·refine xT ?_
    refine xr ?_
    exact Jb H (xK ⟨[],[]⟩)
   refine xE ?_
   exact Jb H (xK ⟨[],[]⟩)
  rintro x2 H
  rw[JaV]at H
  refine xr ?_
  exact Jw (JA H hF1) (xK ⟨[],[]⟩)
 replace H:=Jq H hF1
 refine xE ?_
 replace H:=oI H
 refine xr ?_
 subst H
 exact xN
theorem Jie(a0:List UInt8)(r:(List UInt8))(H:ZL a0=some r):PC Je4 [dS a0] (dS r):=PF.c (a:=a0) H
noncomputable def JdJ  : Option YV :=
 some [[46,46,46],[60,60,61],[62,62,61],[45,62],[43,43],[45,45],[60,60],[62,62],[60,61],[62,61],[61,61],[33,61],[38,38],[124,124],[43,61],[45,61],[42,61],[47,61],[37,61],[38,61],[124,61],[94,61],[35,35],[91],[93],[40],[41],[123],[125],[46],[38],[42],[43],[45],[126],[33],[47],[37],[60],[62],[94],[124],[63],[58],[59],[61],[44],[35]]
noncomputable def JfD:PF:=PF.of E0 (fun _=>JdJ) (dL 1 dS)
theorem JnP:JB Tryz.prog 65 JfD:=by
 refine xF mixed [] [] trivial trivial Tryz.func65 ?_
 rintro _ out H
 have G:=True.intro
 have Y:=xZ y_9 <| xZ y_41 <| Tryz.results65
 simp only[JdJ]at H
 refine xS ?_
 refine xr ?_
 replace H:=oI H
 refine xr ?_
 subst H
 exact xN
theorem Jpg  (r:YV) (H:JdJ  = some r):PC JfD [] ((dL 1 dS) r):=PF.c (a:=()) H
noncomputable def Jcf(x5 x6:Int):(List UInt8)→Option Yj
 | x7=>some (.inl (x7,x5,IntKind.i64.wrap (x6+1)))
noncomputable def Jai(a0:List UInt8)(x2:Int)(r1:YV):((List UInt8)×Int×Int)→Option Yj
 | (x4,x5,x6)=>if(ltI x6 x5)=true then if(0:Int)≤x6∧x6.toNat<r1.length then if(0:Int)≤0∧0≤x2∧x2≤(a0.length:Int) then if(eqS (r1.getD x6.toNat default) (List.take x2.toNat a0))=true then Jcf x5 x6 (r1.getD x6.toNat default) else Jcf x5 x6 x4 else none else none else inrO (some (.inl (x4,IntKind.i64.wrap (x2+1))))
noncomputable def Jal(a0 x1:List UInt8)(x2:Int):Bool→Option YB
 | x3=>if x3=true then(JdJ).bind fun r1=>Jv (Jai a0 x2 r1) (x1,(r1.length:Int),0) else inrO (some x1)
noncomputable def Jaw(a0:List UInt8):((List UInt8)×Int)→Option YB
 | (x1,x2)=>if(leI x2 3)=true then Jal a0 x1 x2 (leI x2 (a0.length:Int)) else Jal a0 x1 x2 false
noncomputable def Jc2(a0:List UInt8):Option (List UInt8) :=
 Jv (Jaw a0) ([],1)
noncomputable def Jgc:PF:=PF.of (E1 dS) (fun a=>Jc2 a) dS
theorem Jpy:JB Tryz.prog 45 Jgc:=by
 refine xF mixed [(65,JfD)] [] ⟨⟨JDq,JnP⟩,trivial⟩ trivial Tryz.func45 ?_
 rintro a0 out H
 have G:=True.intro
 have Y:=xZ y_9 <| xZ y_41 <| Tryz.results45
 simp only[Jc2]at H
 refine xS ?_
 refine xr ?_
 refine xr ?_
 refine xr ?_
 refine JG (Jaw a0) (fun s=>[(0,cS a0),(3,cS s.1),(4,cI s.2)]) (fun s=>[]) [] H (xK ⟨[],[]⟩) ?_
 rintro n1 ⟨x1,x2⟩ o1 H hF1
 rw[Jaw]at H
 refine Kf ?_
 refine Jn (Jal a0 x1 x2) (fun s=>[(0,cS a0),(3,cS x1),(4,cI x2),(14,cB s)]) (fun s=>[]) [] o1 ?_ ?_
 ·rcases xB Y G H with⟨p,H,F,G,q⟩|⟨p,H,F,G,q⟩
  ·refine xR ?_
   exact Jb H (xK ⟨[],[]⟩)
  refine xR ?_
  exact Jb H (xK ⟨[],[]⟩)
 rintro x3 H
 rw[Jal]at H
 rcases xB Y G H with⟨p,H,F,G,q⟩|⟨p,H,F,G,q⟩
 ·refine xT ?_
  obtain⟨r1,hr1,H⟩:=Ji H
  have F:=xC Y (Jpg  r1 hr1)
  refine xR ?_
  refine JG (Jai a0 x2 r1) (fun s=>[(0,cS a0),(3,cS s.1),(4,cI x2),(17,.c (.d (.sl 1 (List.map dS r1)))),(18,cI s.2.1),(19,cI s.2.2)]) (fun s=>[]) [] H (xK ⟨[],[]⟩) ?_
  rintro n2 ⟨x4,x5,x6⟩ o2 H hF2
  rw[Jai]at H
  refine xS ?_
  refine xr ?_
  rcases xB Y G H with⟨p,H,F,G,q⟩|⟨p,H,F,G,q⟩
  ·refine xT0 ?_
   refine VA ?_
   refine Jj ?_
   refine Jn (Jcf x5 x6) (fun s=>[(0,cS a0),(3,cS s),(4,cI x2),(17,.c (.d (.sl 1 (List.map dS r1)))),(18,cI x5),(19,cI x6)]) (fun s=>[]) [] o2 ?_ ?_
   ·refine xS ?_
    obtain⟨g,H⟩:=Jc H
    have F:=xZ Y (Jh dS r1 x6.toNat default default (by omega))
    refine xR ?_
    obtain⟨g,H⟩:=Jc H
    refine xr ?_
    rcases xB Y G H with⟨p,H,F,G,q⟩|⟨p,H,F,G,q⟩
    ·refine xT ?_
     refine xr ?_
     exact Jb H (xK ⟨[],[]⟩)
    refine xE ?_
    exact Jb H (xK ⟨[],[]⟩)
   rintro x7 H
   rw[Jcf]at H
   refine xr ?_
   exact Jw (JA H hF2) (xK ⟨[],[]⟩)
  replace H:=Jq H hF2
  refine xE ?_
  refine xr ?_
  exact Jw (JA H hF1) (xK ⟨[],[]⟩)
 replace H:=Jq H hF1
 refine xE ?_
 replace H:=oI H
 refine xr ?_
 subst H
 exact xN
theorem Jp5(a0:List UInt8)(r:(List UInt8))(H:Jc2 a0=some r):PC Jgc [dS a0] (dS r):=PF.c (a:=a0) H
noncomputable def ZI(a0:List UInt8):Unit→Option YQ
 | ()=>(Jc2 a0).bind fun r1=>if(!eqS r1 [])=true then some (5,r1) else if(0:Int)≤0∧0≤1∧1≤(a0.length:Int) then some (6,List.take 1 a0) else none
noncomputable def Xm(a0:List UInt8)(x1:Int):Bool→Option YH
 | x2=>if x2=true then some (.inl (IntKind.i64.wrap (x1+1))) else inrO (if(0:Int)≤0∧0≤x1∧x1≤(a0.length:Int) then some (1,List.take x1.toNat a0) else none)
noncomputable def ZD(a0:List UInt8):Int→Option YH
 | x1=>if(ltI x1 (a0.length:Int))=true then if(0:Int)≤x1∧x1.toNat<a0.length then(ZC (a0.getD x1.toNat 0)).bind fun r3=>if r3=true then Xm a0 x1 true else if(0:Int)≤x1∧x1.toNat<a0.length then(X8 (a0.getD x1.toNat 0)).bind fun r4=>Xm a0 x1 r4 else none else none else Xm a0 x1 false
noncomputable def JbD(a0:List UInt8)(x6:Int):Bool→Option YH
 | x7=>if x7=true then if(0:Int)≤x6∧x6.toNat<a0.length then if(eqI ((a0.getD x6.toNat 0).toNat:Int) 62)=true then if(0:Int)≤0∧0≤(IntKind.i64.wrap (x6+1))∧(IntKind.i64.wrap (x6+1))≤(a0.length:Int) then inrO (some (7,List.take ((IntKind.i64.wrap (x6+1)).toNat) a0)) else none else some (.inl (IntKind.i64.wrap (x6+1))) else none else inrO (ZI a0 ())
noncomputable def ZJ(a0:List UInt8):Int→Option YH
 | x6=>if(ltI x6 (a0.length:Int))=true then if(0:Int)≤x6∧x6.toNat<a0.length then JbD a0 x6 (!eqI ((a0.getD x6.toNat 0).toNat:Int) 10) else none else JbD a0 x6 false
noncomputable def K8(a0:List UInt8):Bool→Option YQ
 | x5=>if x5=true then Jv (ZJ a0) 1 else ZI a0 ()
noncomputable def VC(a0:List UInt8)(a1:Bool):Ya1→Option YQ
 | (x3,x4)=>if x4=true then(Jbx a0).bind fun r5=>some (2,r5) else if(eqI (x3.toNat:Int) 34)=true then(ZL a0).bind fun r6=>some (4,r6) else if(eqI (x3.toNat:Int) 39)=true then(ZL a0).bind fun r7=>some (3,r7) else if(eqI (x3.toNat:Int) 60)=true then K8 a0 a1 else K8 a0 false
noncomputable def JaI(a0:List UInt8)(a1:Bool):Option YQ :=
 if 0<a0.length then(ZC (a0.getD 0 0)).bind fun r2=>if r2=true then Jv (ZD a0) 0 else(X8 (a0.getD 0 0)).bind fun r8=>if r8=true then VC a0 a1 ((a0.getD 0 0),true) else if(eqI ((a0.getD 0 0).toNat:Int) 46)=true then if(ltI 1 (a0.length:Int))=true then if 1<a0.length then(X8 (a0.getD 1 0)).bind fun r9=>VC a0 a1 ((a0.getD 0 0),r9) else none else VC a0 a1 ((a0.getD 0 0),false) else VC a0 a1 ((a0.getD 0 0),false) else none
noncomputable def Jfz:PF:=PF.of (E2 dS dB) (fun a=>JaI a.1 a.2) (T2 dI dS)
theorem JnU:JB Tryz.prog 29 Jfz:=by
 refine xF mixed [(45,Jgc),(41,JcR),(42,JdC),(43,Je6),(44,Je4)] [] ⟨⟨JDf,Jpy⟩,⟨Jx3,JhF⟩,⟨Jw8,Jh1⟩,⟨JDb,Jnf⟩,⟨JD5,Jni⟩,trivial⟩ trivial Tryz.func29 ?_
 rintro ⟨a0,a1⟩ out H
 have G:=True.intro
 have Y:=xZ y_9 <| Tryz.results29
 simp only[JaI]at H
 refine xS ?_
 refine xr0 ?_
 refine Jj ?_
 refine Jn (ZI a0) (fun s=>[(0,cS a0)]) (fun s=>[]) [] out ?_ ?_
 ·refine xS ?_
  obtain⟨g,H⟩:=Jc H
  refine xr ?_
  obtain⟨r2,hr2,H⟩:=Ji H
  have F:=xC Y (JfH (a0.getD 0 0) r2 hr2)
  refine xR ?_
  rcases xB Y G H with⟨p,H,F,G,q⟩|⟨p,H,F,G,q⟩
  ·refine xT ?_
   refine xr ?_
   refine JG (ZD a0) (fun s=>[(0,cS a0),(7,cI s)]) (fun s=>[]) [] H (xK ⟨[],[]⟩) ?_
   rintro n1 x1 o1 H hF1
   rw[ZD]at H
   refine Kf ?_
   refine Jn (Xm a0 x1) (fun s=>[(0,cS a0),(7,cI x1),(30,cB s)]) (fun s=>[]) [] o1 ?_ ?_
   ·rcases xB Y G H with⟨p,H,F,G,q⟩|⟨p,H,F,G,q⟩
    ·obtain⟨g,H⟩:=Jc H
     obtain⟨r3,hr3,H⟩:=Ji H
     have F:=xCf F (JfH (a0.getD x1.toNat 0) r3 hr3)
     rcases xB F G H with⟨p,H,F,G,q⟩|⟨p,H,F,G,q⟩
     ·refine xR ?_
      exact Jb H (xK ⟨[],[]⟩)
     obtain⟨g,H⟩:=Jc H
     obtain⟨r4,hr4,H⟩:=Ji H
     have F:=xCf F (Jea (a0.getD x1.toNat 0) r4 hr4)
     refine xR ?_
     exact Jb H (xK ⟨[],[]⟩)
    refine xR ?_
    exact Jb H (xK ⟨[],[]⟩)
   rintro x2 H
   rw[Xm]at H
   rcases xB Y G H with⟨p,H,F,G,q⟩|⟨p,H,F,G,q⟩
   ·refine xT ?_
    refine xr ?_
    exact Jw (JA H hF1) (xK ⟨[],[]⟩)
   replace H:=Jq H hF1
   refine xE ?_
   obtain⟨g,H⟩:=Jc H
   replace H:=oI H
   refine xr ?_
   subst H
   exact xN
  refine xE0 ?_
  refine Jn (VC a0 a1) (fun s=>[(0,cS a0),(1,cB a1),(6,.c (.d (.v (.int .u8 (s.1.toNat:Int))))),(36,cB s.2)]) (fun s=>[]) [] out ?_ ?_
  ·obtain⟨r8,hr8,H⟩:=Ji H
   have F:=xC Y (Jea (a0.getD 0 0) r8 hr8)
   rcases xB F G H with⟨p,H,F,G,q⟩|⟨p,H,F,G,q⟩
   ·refine xR ?_
    exact Jb H (xK ⟨[],[]⟩)
   rcases xB F G H with⟨p,H,F,G,q⟩|⟨p,H,F,G,q⟩
   ·rcases xB F G H with⟨p,H,F,G,q⟩|⟨p,H,F,G,q⟩
    ·obtain⟨g,H⟩:=Jc H
     obtain⟨r9,hr9,H⟩:=Ji H
     have F:=xCf F (Jea (a0.getD 1 0) r9 hr9)
     refine xR ?_
     exact Jb H (xK ⟨[],[]⟩)
    refine xR ?_
    exact Jb H (xK ⟨[],[]⟩)
   refine xR ?_
   exact Jb H (xK ⟨[],[]⟩)
  rintro ⟨x3,x4⟩ H
  rw[VC]at H
  rcases xB Y G H with⟨p,H,F,G,q⟩|⟨p,H,F,G,q⟩
  ·refine xT ?_
   obtain⟨r5,hr5,H⟩:=Ji H
   have F:=xC Y (JnG a0 r5 hr5)
   replace H:=oI H
   refine xR ?_
   subst H
   exact xN
  refine xE ?_
  refine xr ?_
  rcases xB Y G H with⟨p,H,F,G,q⟩|⟨p,H,F,G,q⟩
  ·refine xT ?_
   obtain⟨r6,hr6,H⟩:=Ji H
   have F:=xC Y (Jie a0 r6 hr6)
   replace H:=oI H
   refine xR ?_
   subst H
   exact xN
  refine xE ?_
  refine xr ?_
  rcases xB Y G H with⟨p,H,F,G,q⟩|⟨p,H,F,G,q⟩
  ·refine xT ?_
   obtain⟨r7,hr7,H⟩:=Ji H
   have F:=xC Y (Jie a0 r7 hr7)
   replace H:=oI H
   refine xR ?_
   subst H
   exact xN
  refine xE0 ?_
  refine Jn (K8 a0) (fun s=>[(0,cS a0),(65,cB s)]) (fun s=>[]) [] out ?_ ?_
  ·rcases xB Y G H with⟨p,H,F,G,q⟩|⟨p,H,F,G,q⟩
   ·refine xR ?_
    exact Jb H (xK ⟨[],[]⟩)
   refine xR ?_
   exact Jb H (xK ⟨[],[]⟩)
  rintro x5 H
  rw[K8]at H
  rcases xB Y G H with⟨p,H,F,G,q⟩|⟨p,H,F,G,q⟩
  ·refine xT ?_
   refine xr ?_
   refine JG (ZJ a0) (fun s=>[(0,cS a0),(8,cI s)]) (fun s=>[]) [] H (xK ⟨[],[]⟩) ?_
   rintro n2 x6 o2 H hF2
   rw[ZJ]at H
   refine Kf ?_
   refine Jn (JbD a0 x6) (fun s=>[(0,cS a0),(8,cI x6),(80,cB s)]) (fun s=>[]) [] o2 ?_ ?_
   ·rcases xB Y G H with⟨p,H,F,G,q⟩|⟨p,H,F,G,q⟩
    ·obtain⟨g,H⟩:=Jc H
     refine xR ?_
     exact Jb H (xK ⟨[],[]⟩)
    refine xR ?_
    exact Jb H (xK ⟨[],[]⟩)
   rintro x7 H
   rw[JbD]at H
   rcases xB Y G H with⟨p,H,F,G,q⟩|⟨p,H,F,G,q⟩
   ·refine xT ?_
    obtain⟨g,H⟩:=Jc H
    refine xr ?_
    rcases xB Y G H with⟨p,H,F,G,q⟩|⟨p,H,F,G,q⟩
    ·refine xT ?_
     obtain⟨g,H⟩:=Jc H
     replace H:=Jq H hF2
     replace H:=oI H
     refine xr ?_
     subst H
     exact xN
    refine xE ?_
    refine xr ?_
    exact Jw (JA H hF2) (xK ⟨[],[]⟩)
   replace H:=Jq H hF2
   refine xE ?_
   exact Jb H (xK ⟨[],[]⟩)
  refine xE ?_
  exact Jb H (xK ⟨[],[]⟩)
 rintro ⟨⟩ H
 rw[ZI]at H
 refine xS ?_
 obtain⟨r1,hr1,H⟩:=Ji H
 have F:=xC Y (Jp5 a0 r1 hr1)
 refine xR ?_
 refine xr ?_
 rcases xB Y G H with⟨p,H,F,G,q⟩|⟨p,H,F,G,q⟩
 ·refine xT ?_
  replace H:=oI H
  refine xr ?_
  subst H
  exact xN
 refine xE ?_
 obtain⟨g,H⟩:=Jc H
 replace H:=oI H
 refine xr ?_
 subst H
 exact xN
theorem JoM(a0:List UInt8)(a1:Bool)(r:Int×(List UInt8))(H:JaI a0 a1=some r):PC Jfz [dS a0,dB a1] (T2 dI dS r):=PF.c (a:=(a0,a1)) H
noncomputable def Jcu(x2:Int):Int→Option YW
 | x4=>some (.inl (x4,IntKind.i64.wrap (x2+1)))
noncomputable def Jch(a0:List UInt8)(x1 x2:Int):Bool→Option YW
 | x3=>if x3=true then if(0:Int)≤x2∧x2.toNat<a0.length then if(eqI ((a0.getD x2.toNat 0).toNat:Int) 10)=true then Jcu x2 (IntKind.i64.wrap (x1+1)) else Jcu x2 x1 else none else inrO (some x1)
noncomputable def Jcn(a0:List UInt8)(a1:Int):(Int×Int)→Option YW
 | (x1,x2)=>if(ltI x2 a1)=true then Jch a0 x1 x2 (ltI x2 (a0.length:Int)) else Jch a0 x1 x2 false
noncomputable def Jdc(a0:List UInt8)(a1:Int):Option Int :=
 Jv (Jcn a0 a1) (1,0)
noncomputable def Jf0:PF:=PF.of (E2 dS dI) (fun a=>Jdc a.1 a.2) dI
theorem JoI:JB Tryz.prog 30 Jf0:=by
 refine xF mixed [] [] trivial trivial Tryz.func30 ?_
 rintro ⟨a0,a1⟩ out H
 have G:=True.intro
 have Y:=xZ y_9 <| Tryz.results30
 simp only[Jdc]at H
 refine xS ?_
 refine xr ?_
 refine xr ?_
 refine xr ?_
 refine JG (Jcn a0 a1) (fun s=>[(0,cS a0),(1,cI a1),(5,cI s.1),(6,cI s.2)]) (fun s=>[]) [] H (xK ⟨[],[]⟩) ?_
 rintro n1 ⟨x1,x2⟩ o1 H hF1
 rw[Jcn]at H
 refine Kf ?_
 refine Jn (Jch a0 x1 x2) (fun s=>[(0,cS a0),(1,cI a1),(5,cI x1),(6,cI x2),(15,cB s)]) (fun s=>[]) [] o1 ?_ ?_
 ·rcases xB Y G H with⟨p,H,F,G,q⟩|⟨p,H,F,G,q⟩
  ·refine xR ?_
   exact Jb H (xK ⟨[],[]⟩)
  refine xR ?_
  exact Jb H (xK ⟨[],[]⟩)
 rintro x3 H
 rw[Jch]at H
 rcases xB Y G H with⟨p,H,F,G,q⟩|⟨p,H,F,G,q⟩
 ·refine xT0 ?_
  refine VA ?_
  refine Jj ?_
  refine Jn (Jcu x2) (fun s=>[(0,cS a0),(1,cI a1),(5,cI s),(6,cI x2)]) (fun s=>[]) [] o1 ?_ ?_
  ·refine xS ?_
   obtain⟨g,H⟩:=Jc H
   refine xr ?_
   rcases xB Y G H with⟨p,H,F,G,q⟩|⟨p,H,F,G,q⟩
   ·refine xT ?_
    refine xr ?_
    exact Jb H (xK ⟨[],[]⟩)
   refine xE ?_
   exact Jb H (xK ⟨[],[]⟩)
  rintro x4 H
  rw[Jcu]at H
  refine xr ?_
  exact Jw (JA H hF1) (xK ⟨[],[]⟩)
 replace H:=Jq H hF1
 refine xE ?_
 replace H:=oI H
 refine xr ?_
 subst H
 exact xN
theorem Jqv(a0:List UInt8)(a1 r:Int)(H:Jdc a0 a1=some r):PC Jf0 [dS a0,dI a1] (dI r):=PF.c (a:=(a0,a1)) H
noncomputable def Kl(a0:Int)(a1:List UInt8)(r1:Spliced)(x2:List Token)(r2:Int×Bool)(x3:Int)(x4:Bool):Bool→Option Yu
 | x5=>if(0:Int)≤x3∧x3≤(r1.Text.length:Int)∧(r1.Text.length:Int)≤(r1.Text.length:Int) then(JaI (List.drop x3.toNat r1.Text) x5).bind fun r3=>if(eqS r3.2 [])=true then if(0:Int)≤x3∧x3.toNat<r1.At.length then inrO (some (([]:List Token),(⟨9,a0,(r1.At.getD x3.toNat default)⟩:Fault))) else none else if(0:Int)≤x3∧x3.toNat<r1.At.length then if(0:Int)≤(IntKind.i64.wrap ((IntKind.i64.wrap (x3+(r3.2.length:Int)))-1))∧(IntKind.i64.wrap ((IntKind.i64.wrap (x3+(r3.2.length:Int)))-1)).toNat<r1.At.length then if(0:Int)≤x3∧x3.toNat<r1.At.length then(Jdc a1 (r1.At.getD x3.toNat default)).bind fun r4=>if(x2.length + [(⟨r3.1,r3.2,ltI 0 r2.1,x4,a0,(r1.At.getD x3.toNat default),IntKind.i64.wrap ((r1.At.getD ((IntKind.i64.wrap ((IntKind.i64.wrap (x3+(r3.2.length:Int)))-1)).toNat) default)+1),r4,([]:List (List UInt8)),([]:List Call),0⟩:Token)].length) * 120≤140737488355328 then some (.inl (IntKind.i64.wrap (x3+(r3.2.length:Int)),x2++[(⟨r3.1,r3.2,ltI 0 r2.1,x4,a0,(r1.At.getD x3.toNat default),IntKind.i64.wrap ((r1.At.getD ((IntKind.i64.wrap ((IntKind.i64.wrap (x3+(r3.2.length:Int)))-1)).toNat) default)+1),r4,([]:List (List UInt8)),([]:List Call),0⟩:Token)])) else none else none else none else none else none
noncomputable def X4(a0:Int)(a1:List UInt8)(r1:Spliced)(x2:List Token)(r2:Int×Bool):(Int×Bool)→Option Yu
 | (x3,x4)=>if(!x4)=true then if(leI 2 ((x2.length:Nat):Int))=true then if(0:Int)≤(IntKind.i64.wrap (((x2.length:Nat):Int)-1))∧(IntKind.i64.wrap (((x2.length:Nat):Int)-1)).toNat<x2.length then if(IntKind.i64.wrap (((x2.length:Nat):Int)-1)).toNat<x2.length then if(eqS ((x2.getD ((IntKind.i64.wrap (((x2.length:Nat):Int)-1)).toNat) default).Text) [105,110,99,108,117,100,101])=true then if(0:Int)≤(IntKind.i64.wrap (((x2.length:Nat):Int)-1))∧(IntKind.i64.wrap (((x2.length:Nat):Int)-1)).toNat<x2.length then if(IntKind.i64.wrap (((x2.length:Nat):Int)-1)).toNat<x2.length then if(!((x2.getD ((IntKind.i64.wrap (((x2.length:Nat):Int)-1)).toNat) default).First))=true then if(0:Int)≤(IntKind.i64.wrap (((x2.length:Nat):Int)-2))∧(IntKind.i64.wrap (((x2.length:Nat):Int)-2)).toNat<x2.length then if(IntKind.i64.wrap (((x2.length:Nat):Int)-2)).toNat<x2.length then if(eqS ((x2.getD ((IntKind.i64.wrap (((x2.length:Nat):Int)-2)).toNat) default).Text) [35])=true then if(0:Int)≤(IntKind.i64.wrap (((x2.length:Nat):Int)-2))∧(IntKind.i64.wrap (((x2.length:Nat):Int)-2)).toNat<x2.length then if(IntKind.i64.wrap (((x2.length:Nat):Int)-2)).toNat<x2.length then Kl a0 a1 r1 x2 r2 x3 x4 ((x2.getD ((IntKind.i64.wrap (((x2.length:Nat):Int)-2)).toNat) default).First) else none else none else Kl a0 a1 r1 x2 r2 x3 x4 false else none else none else Kl a0 a1 r1 x2 r2 x3 x4 false else none else none else Kl a0 a1 r1 x2 r2 x3 x4 false else none else none else Kl a0 a1 r1 x2 r2 x3 x4 false else Kl a0 a1 r1 x2 r2 x3 x4 false
noncomputable def VZ(a0:Int)(a1:List UInt8)(r1:Spliced):YO→Option Yu
 | (x1,x2)=>if(0:Int)≤x1∧x1≤(r1.Text.length:Int)∧(r1.Text.length:Int)≤(r1.Text.length:Int) then(JcU (List.drop x1.toNat r1.Text)).bind fun r2=>if(ltI r2.1 0)=true then if(0:Int)≤(IntKind.i64.wrap ((IntKind.i64.wrap (x1-1))-r2.1))∧(IntKind.i64.wrap ((IntKind.i64.wrap (x1-1))-r2.1)).toNat<r1.At.length then inrO (some (([]:List Token),(⟨9,a0,(r1.At.getD ((IntKind.i64.wrap ((IntKind.i64.wrap (x1-1))-r2.1)).toNat) default)⟩:Fault))) else none else if(leI (r1.Text.length:Int) (IntKind.i64.wrap (x1+r2.1)))=true then inrO (some (x2,(⟨0,(-1),0⟩:Fault))) else if r2.2=true then X4 a0 a1 r1 x2 r2 (IntKind.i64.wrap (x1+r2.1),true) else X4 a0 a1 r1 x2 r2 (IntKind.i64.wrap (x1+r2.1),eqI ((x2.length:Nat):Int) 0) else none
noncomputable def XC(a0:Int)(a1:List UInt8):Option ((List Token)×Fault) :=
 if(ltI 3000 (a1.length:Int))=true then some (([]:List Token),(⟨4,a0,0⟩:Fault)) else(Jbt a1).bind fun r1=>Jv (VZ a0 a1 r1) (0,([]:List Token))
noncomputable def Je2:PF:=PF.of (E2 dI dS) (fun a=>XC a.1 a.2) (T2 (dL 11 Ja) JU)
theorem Jm6:JB Tryz.prog 16 Je2:=by
 refine xF mixed [(27,Jfa),(28,JfY),(29,Jfz),(30,Jf0)] [] ⟨⟨JDi,Jnb⟩,⟨JDe,JpB⟩,⟨JCZ,JnU⟩,⟨JDS,JoI⟩,trivial⟩ trivial Tryz.func16 ?_
 rintro ⟨a0,a1⟩ out H
 have G:=True.intro
 have Y:=xZ y_3 <| xZ y_4 <| xZ y_9 <| xZ y_24 <| xZ y_25 <| xZ y_29 <| xZ y_31 <| xZ y_41 <| xZ y_42 <| xZ y_44 <| xZ y_70 <| xZ Tryz.results16 <| xZ Jl.eq_1 <| xZ Ja.eq_1 <| xZ JM.eq_1 <| JU.eq_1
 simp only[XC]at H
 refine xS ?_
 refine xr ?_
 refine xr ?_
 rcases xB Y G H with⟨p,H,F,G,q⟩|⟨p,H,F,G,q⟩
 ·refine xT ?_
  replace H:=oI H
  refine xr ?_
  subst H
  exact xN
 refine xE ?_
 obtain⟨r1,hr1,H⟩:=Ji H
 have F:=xC Y (JnK a1 r1 hr1)
 refine xR ?_
 refine xr ?_
 refine xr ?_
 refine JG (VZ a0 a1 r1) (fun s=>[(0,cI a0),(1,cS a1),(5,.c (.pt 1 0)),(6,.c (.pt 2 0)),(7,.c (.os 3 11 0 s.2.length)),(8,cI s.1)]) (fun s=>[[kI 0,kI 0,kI 0],[kS r1.Text,.d (.sl 1 (List.map dI r1.At))],[.arr 11 (List.map Ja s.2)]]) [] H (xK ⟨[1,2,0],[]⟩) ?_
 rintro n1 ⟨x1,x2⟩ o1 H hF1
 rw[VZ]at H
 refine xS ?_
 obtain⟨g,H⟩:=Jc H
 obtain⟨r2,hr2,H⟩:=Ji H
 have F:=xC Y (Jqw (List.drop x1.toNat r1.Text) r2 hr2)
 refine xR ?_
 refine xr ?_
 rcases xB Y G H with⟨p,H,F,G,q⟩|⟨p,H,F,G,q⟩
 ·refine xT ?_
  obtain⟨g,H⟩:=Jc H
  have F:=xZ Y (Jh dI r1.At ((IntKind.i64.wrap ((IntKind.i64.wrap (x1-1))-r2.1)).toNat) default default (by omega))
  replace H:=Jq H hF1
  replace H:=oI H
  refine xR ?_
  subst H
  exact xN
 refine xE ?_
 refine xr ?_
 refine xr ?_
 rcases xB Y G H with⟨p,H,F,G,q⟩|⟨p,H,F,G,q⟩
 ·refine xT ?_
  replace H:=Jq H hF1
  replace H:=oI H
  refine xr ?_
  subst H
  refine xNf 3 11 (List.map Ja x2) [] ?_
  exact xN
 refine xE0 ?_
 refine VA ?_
 refine Jj ?_
 refine Jn (X4 a0 a1 r1 x2 r2) (fun s=>[(0,cI a0),(1,cS a1),(5,.c (.pt 1 0)),(6,.c (.pt 2 0)),(7,.c (.os 3 11 0 x2.length)),(8,cI s.1),(9,cI r2.1),(11,cB s.2)]) (fun s=>[[kI 0,kI 0,kI 0],[kS r1.Text,.d (.sl 1 (List.map dI r1.At))],[.arr 11 (List.map Ja x2)]]) [] o1 ?_ ?_
 ·rcases xB Y G H with⟨p,H,F,G,q⟩|⟨p,H,F,G,q⟩
  ·refine xR ?_
   exact Jb H (xK ⟨[1,2,3],[]⟩)
  refine xR ?_
  exact Jb H (xK ⟨[1,2,3],[]⟩)
 rintro ⟨x3,x4⟩ H
 rw[X4]at H
 refine xS ?_
 refine xr0 ?_
 refine Jj ?_
 refine Jn (Kl a0 a1 r1 x2 r2 x3 x4) (fun s=>[(0,cI a0),(1,cS a1),(5,.c (.pt 1 0)),(6,.c (.pt 2 0)),(7,.c (.os 3 11 0 x2.length)),(8,cI x3),(9,cI r2.1),(11,cB x4),(13,cB s)]) (fun s=>[[kI 0,kI 0,kI 0],[kS r1.Text,.d (.sl 1 (List.map dI r1.At))],[.arr 11 (List.map Ja x2)]]) [] o1 ?_ ?_
 ·rcases xB Y G H with⟨p,H,F,G,q⟩|⟨p,H,F,G,q⟩
  ·rcases xB F G H with⟨p,H,F,G,q⟩|⟨p,H,F,G,q⟩
   ·obtain⟨g,H⟩:=Jc H
    obtain⟨g,H⟩:=Jc H
    have F:=xZ F (Jh Ja x2 ((IntKind.i64.wrap (((x2.length:Nat):Int)-1)).toNat) default default (by omega))
    rcases xB F G H with⟨p,H,F,G,q⟩|⟨p,H,F,G,q⟩
    ·obtain⟨g,H⟩:=Jc H
     obtain⟨g,H⟩:=Jc H
     have F:=xZ F (Jh Ja x2 ((IntKind.i64.wrap (((x2.length:Nat):Int)-1)).toNat) default default (by omega))
     rcases xB F G H with⟨p,H,F,G,q⟩|⟨p,H,F,G,q⟩
     ·obtain⟨g,H⟩:=Jc H
      obtain⟨g,H⟩:=Jc H
      have F:=xZ F (Jh Ja x2 ((IntKind.i64.wrap (((x2.length:Nat):Int)-2)).toNat) default default (by omega))
      rcases xB F G H with⟨p,H,F,G,q⟩|⟨p,H,F,G,q⟩
      ·obtain⟨g,H⟩:=Jc H
       obtain⟨g,H⟩:=Jc H
       have F:=xZ F (Jh Ja x2 ((IntKind.i64.wrap (((x2.length:Nat):Int)-2)).toNat) default default (by omega))
       refine xR ?_
       exact Jb H (xK ⟨[1,2,3],[]⟩)
      refine xR ?_
      exact Jb H (xK ⟨[1,2,3],[]⟩)
     refine xR ?_
     exact Jb H (xK ⟨[1,2,3],[]⟩)
    refine xR ?_
    exact Jb H (xK ⟨[1,2,3],[]⟩)
   refine xR ?_
   exact Jb H (xK ⟨[1,2,3],[]⟩)
  refine xR ?_
  exact Jb H (xK ⟨[1,2,3],[]⟩)
 rintro x5 H
 rw[Kl]at H
 refine xS ?_
 obtain⟨g,H⟩:=Jc H
 obtain⟨r3,hr3,H⟩:=Ji H
 have F:=xC Y (JoM (List.drop x3.toNat r1.Text) x5 r3 hr3)
 refine xR ?_
 refine xr ?_
 rcases xB Y G H with⟨p,H,F,G,q⟩|⟨p,H,F,G,q⟩
 ·refine xT ?_
  obtain⟨g,H⟩:=Jc H
  have F:=xZ Y (Jh dI r1.At x3.toNat default default (by omega))
  replace H:=Jq H hF1
  replace H:=oI H
  refine xR ?_
  subst H
  exact xN
 refine xE ?_
 obtain⟨g,H⟩:=Jc H
 have F:=xZ Y (Jh dI r1.At x3.toNat default default (by omega))
 obtain⟨g,H⟩:=Jc H
 have F:=xZ F (Jh dI r1.At ((IntKind.i64.wrap ((IntKind.i64.wrap (x3+(r3.2.length:Int)))-1)).toNat) default default (by omega))
 obtain⟨g,H⟩:=Jc H
 have F:=xZ F (Jh dI r1.At x3.toNat default default (by omega))
 obtain⟨r4,hr4,H⟩:=Ji H
 have F:=xCf F (Jqv a1 (r1.At.getD x3.toNat default) r4 hr4)
 obtain⟨g,H⟩:=Jc H
 have F:=xZ F (JH KL [(⟨r3.1,r3.2,ltI 0 r2.1,x4,a0,(r1.At.getD x3.toNat default),IntKind.i64.wrap ((r1.At.getD ((IntKind.i64.wrap ((IntKind.i64.wrap (x3+(r3.2.length:Int)))-1)).toNat) default)+1),r4,([]:List (List UInt8)),([]:List Call),0⟩:Token)])
 have L:[(⟨r3.1,r3.2,ltI 0 r2.1,x4,a0,(r1.At.getD x3.toNat default),IntKind.i64.wrap ((r1.At.getD ((IntKind.i64.wrap ((IntKind.i64.wrap (x3+(r3.2.length:Int)))-1)).toNat) default)+1),r4,([]:List (List UInt8)),([]:List Call),0⟩:Token)].length=1:=rfl
 refine xR ?_
 refine xr ?_
 exact Jw (JA H hF1) (xK ⟨[1,2,4],[]⟩)
theorem Jnw(a0:Int)(a1:List UInt8)(r:(List Token)×Fault)(H:XC a0 a1=some r):PC Je2 [dI a0,dS a1] (T2 (dL 11 Ja) JU r):=PF.c (a:=(a0,a1)) H
end Go.Proofs.YtfkhlbhjhdpkoaaGreatDoor
