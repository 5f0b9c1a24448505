/- Functions of data for functions of the program. Written by dec3.py. -/
import Derived.Test.YtfkhlbhjhdpkoaaGreatDoorZoam
set_option linter.unusedVariables false
set_option linter.unusedSimpArgs false
set_option maxHeartbeats 4000000
set_option maxRecDepth 100000
namespace Go.Proofs.YtfkhlbhjhdpkoaaGreatDoor
open Go.RowKit
noncomputable def KW(x2:List UInt8):(Int×(List UInt8)×(List Int))→Option Yo
 | (x5,x6,x7)=>some (.inl (IntKind.i64.wrap (x5+1),x2,x6,x7))
noncomputable def Vo(x1:Int)(x2 x3:List UInt8)(x4:List Int)(x8:List UInt8):Bool→Option Yo
 | x11=>if x11=true then KW x2 (x1,x3,x4) else if(0:Int)≤0∧0≤1∧1≤(x8.length:Int) then if x3.length+(List.take 1 x8).length≤9223372036854775807 then if(x4.length + [x1].length) * 8≤140737488355328 then KW x2 (x1,x3++(List.take 1 x8),x4++[x1]) else none else none else none
noncomputable def KY(x1:Int)(x2 x3:List UInt8)(x4:List Int)(x8:List UInt8):Bool→Option Yo
 | x10=>if x10=true then KW x2 (IntKind.i64.wrap (x1+2),x3,x4) else if(ltI 1 (x8.length:Int))=true then if 0<x8.length then if(eqI ((x8.getD 0 0).toNat:Int) 13)=true then if 1<x8.length then Vo x1 x2 x3 x4 x8 (eqI ((x8.getD 1 0).toNat:Int) 10) else none else Vo x1 x2 x3 x4 x8 false else none else Vo x1 x2 x3 x4 x8 false
noncomputable def Vp(x1:Int)(x2 x3:List UInt8)(x4:List Int):((List UInt8)×Bool)→Option Yo
 | (x8,x9)=>if x9=true then KW x2 (IntKind.i64.wrap (x1+1),x3,x4) else if(ltI 2 (x8.length:Int))=true then if 0<x8.length then if(eqI ((x8.getD 0 0).toNat:Int) 92)=true then if 1<x8.length then if(eqI ((x8.getD 1 0).toNat:Int) 13)=true then if 2<x8.length then KY x1 x2 x3 x4 x8 (eqI ((x8.getD 2 0).toNat:Int) 10) else none else KY x1 x2 x3 x4 x8 false else none else KY x1 x2 x3 x4 x8 false else none else KY x1 x2 x3 x4 x8 false
noncomputable def JaY(a0:List UInt8):(Int×(List UInt8)×(List UInt8)×(List Int))→Option Yo
 | (x1,x2,x3,x4)=>if(ltI x1 (a0.length:Int))=true then if(0:Int)≤x1∧x1≤(a0.length:Int)∧(a0.length:Int)≤(a0.length:Int) then if(ltI 1 ((List.drop x1.toNat a0).length:Int))=true then if 0<(List.drop x1.toNat a0).length then if(eqI (((List.drop x1.toNat a0).getD 0 0).toNat:Int) 92)=true then if 1<(List.drop x1.toNat a0).length then Vp x1 x2 x3 x4 (List.drop x1.toNat a0,eqI (((List.drop x1.toNat a0).getD 1 0).toNat:Int) 10) else none else Vp x1 x2 x3 x4 (List.drop x1.toNat a0,false) else none else Vp x1 x2 x3 x4 (List.drop x1.toNat a0,false) else none else inrO (if(x4.length + [(a0.length:Int)].length) * 8≤140737488355328 then some (⟨x3,x4++[(a0.length:Int)]⟩:Spliced) else none)
noncomputable def JbA(a0:List UInt8):Option Spliced :=
 Jt (JaY a0) (0,[],[],([]:List Int))
noncomputable def Jff:PF:=PF.of (E1 dS) (fun a=>JbA a) JT
theorem JnB:JC Tryz.prog 27 Jff:=by
 refine xF mixed [] [] trivial trivial Tryz.func27 ?_
 rintro a0 out H
 have G:=True.intro
 have Y:=xZ y_3 <| xZ y_9 <| xZ y_25 <| xZ y_70 <| xZ Tryz.results27 <| JT.eq_1
 simp only[JbA]at H
 refine xS ?_
 refine xr ?_
 refine xr ?_
 refine xr ?_
 refine JK (JaY a0) (fun s=>[(0,cS a0),(2,.c (.pt 1 0)),(3,.c (.pt 2 0)),(4,cI s.1)]) (fun s=>[[kS s.2.1,.sl 1 [] 0],[kS s.2.2.1,.sl 1 (List.map dI s.2.2.2) 3]]) [3] H (xK ⟨[1,2],[0]⟩) ?_
 rintro n1 ⟨x1,x2,x3,x4⟩ o1 H hF1
 rw[JaY]at H
 refine xS ?_
 refine xr ?_
 rcases xB Y G H with⟨p,H,F,G,q⟩|⟨p,H,F,G,q⟩
 ·refine xT0 ?_
  refine V0 ?_
  refine Jk ?_
  refine Jo (KW x2) (fun s=>[(0,cS a0),(2,.c (.pt 1 0)),(3,.c (.pt 2 0)),(4,cI s.1)]) (fun s=>[[kS x2,.sl 1 [] 0],[kS s.2.1,.sl 1 (List.map dI s.2.2) 3]]) [3] o1 ?_ ?_
  ·refine xS ?_
   obtain⟨g,H⟩:=Jc H
   refine xr0 ?_
   refine Jk ?_
   refine Kv ?_
   refine Jo (Vp x1 x2 x3 x4) (fun s=>[(0,cS a0),(2,.c (.pt 1 0)),(3,.c (.pt 2 0)),(4,cI x1),(5,cS s.1),(27,cB s.2)]) (fun s=>[[kS x2,.sl 1 [] 0],[kS x3,.sl 1 (List.map dI x4) 3]]) [3] o1 ?_ ?_
   ·rcases xB Y G H with⟨p,H,F,G,q⟩|⟨p,H,F,G,q⟩
    ·obtain⟨g,H⟩:=Jc H
     rcases xB F G H with⟨p,H,F,G,q⟩|⟨p,H,F,G,q⟩
     ·obtain⟨g,H⟩:=Jc H
      refine xR ?_
      exact Jb H (xK ⟨[1,2],[3]⟩)
     refine xR ?_
     exact Jb H (xK ⟨[1,2],[3]⟩)
    refine xR ?_
    exact Jb H (xK ⟨[1,2],[3]⟩)
   rintro ⟨x8,x9⟩ H
   rw[Vp]at H
   rcases xB Y G H with⟨p,H,F,G,q⟩|⟨p,H,F,G,q⟩
   ·refine xT ?_
    refine xr ?_
    exact Jb H (xK ⟨[1,2],[3]⟩)
   refine xE0 ?_
   refine V0 ?_
   refine Jk ?_
   refine Kv ?_
   refine Jo (KY x1 x2 x3 x4 x8) (fun s=>[(0,cS a0),(2,.c (.pt 1 0)),(3,.c (.pt 2 0)),(4,cI x1),(5,cS x8),(47,cB s)]) (fun s=>[[kS x2,.sl 1 [] 0],[kS x3,.sl 1 (List.map dI x4) 3]]) [3] o1 ?_ ?_
   ·rcases xB Y G H with⟨p,H,F,G,q⟩|⟨p,H,F,G,q⟩
    ·obtain⟨g,H⟩:=Jc H
     rcases xB F G H with⟨p,H,F,G,q⟩|⟨p,H,F,G,q⟩
     ·obtain⟨g,H⟩:=Jc H
      rcases xB F G H with⟨p,H,F,G,q⟩|⟨p,H,F,G,q⟩
      ·obtain⟨g,H⟩:=Jc H
       refine xR ?_
       exact Jb H (xK ⟨[1,2],[3]⟩)
      refine xR ?_
      exact Jb H (xK ⟨[1,2],[3]⟩)
     refine xR ?_
     exact Jb H (xK ⟨[1,2],[3]⟩)
    refine xR ?_
    exact Jb H (xK ⟨[1,2],[3]⟩)
   rintro x10 H
   rw[KY]at H
   rcases xB Y G H with⟨p,H,F,G,q⟩|⟨p,H,F,G,q⟩
   ·refine xT ?_
    refine xr ?_
    exact Jb H (xK ⟨[1,2],[3]⟩)
   refine xE0 ?_
   refine V0 ?_
   refine Jk ?_
   refine Kv ?_
   refine Jo (Vo x1 x2 x3 x4 x8) (fun s=>[(0,cS a0),(2,.c (.pt 1 0)),(3,.c (.pt 2 0)),(4,cI x1),(5,cS x8),(62,cB s)]) (fun s=>[[kS x2,.sl 1 [] 0],[kS x3,.sl 1 (List.map dI x4) 3]]) [3] o1 ?_ ?_
   ·rcases xB Y G H with⟨p,H,F,G,q⟩|⟨p,H,F,G,q⟩
    ·obtain⟨g,H⟩:=Jc H
     rcases xB F G H with⟨p,H,F,G,q⟩|⟨p,H,F,G,q⟩
     ·obtain⟨g,H⟩:=Jc H
      refine xR ?_
      exact Jb H (xK ⟨[1,2],[3]⟩)
     refine xR ?_
     exact Jb H (xK ⟨[1,2],[3]⟩)
    refine xR ?_
    exact Jb H (xK ⟨[1,2],[3]⟩)
   rintro x11 H
   rw[Vo]at H
   rcases xB Y G H with⟨p,H,F,G,q⟩|⟨p,H,F,G,q⟩
   ·refine xT ?_
    exact Jb H (xK ⟨[1,2],[3]⟩)
   refine xE ?_
   obtain⟨g,H⟩:=Jc H
   obtain⟨g,H⟩:=Jc H
   refine xr ?_
   obtain⟨g,H⟩:=Jc H
   have F:=xZ Y (JO JjN [x1])
   refine xR ?_
   exact Jb H (xK ⟨[1,2],[4]⟩)
  rintro ⟨x5,x6,x7⟩ H
  rw[KW]at H
  refine xr ?_
  exact Jw (JA H hF1) (xK ⟨[1,2],[3]⟩)
 replace H:=Jq H hF1
 refine xE ?_
 obtain⟨g,H⟩:=Jc H
 have F:=xZ Y (JO JjN [(a0.length:Int)])
 refine xR ?_
 replace H:=oI H
 refine xr ?_
 subst H
 exact xN
theorem Joh(a0:List UInt8)(r:Spliced)(H:JbA a0=some r):PC Jff [dS a0] (JT r):=PF.c (a:=a0) H
noncomputable def Jcn(x2:Bool)(x7:Int):Bool→Option YA
 | x8=>if x8=true then some (.inl (IntKind.i64.wrap (x7+1))) else inrO (some (.inl (x7,x2)))
noncomputable def JcL(a0:List UInt8)(x2:Bool):Int→Option YA
 | x7=>if(ltI x7 (a0.length:Int))=true then if(0:Int)≤x7∧x7.toNat<a0.length then Jcn x2 x7 (!eqI ((a0.getD x7.toNat 0).toNat:Int) 10) else none else Jcn x2 x7 false
noncomputable def Jcv(a0:List UInt8)(x1:Int)(x2:Bool)(x9:Int):Bool→Option YA
 | x10=>if x10=true then some (.inl (IntKind.i64.wrap (x9+1))) else inrO (if(leI (a0.length:Int) (IntKind.i64.wrap (x9+1)))=true then inrO (some (IntKind.i64.wrap ((-1)-x1),x2)) else some (.inl (IntKind.i64.wrap (x9+2),x2)))
noncomputable def Jcq(a0:List UInt8)(x1:Int)(x2:Bool):Int→Option YA
 | x9=>if(ltI (IntKind.i64.wrap (x9+1)) (a0.length:Int))=true then if(0:Int)≤x9∧x9≤(IntKind.i64.wrap (x9+2))∧(IntKind.i64.wrap (x9+2))≤(a0.length:Int) then Jcv a0 x1 x2 x9 (!eqS (List.take ((IntKind.i64.wrap (x9+2)).toNat-x9.toNat) (List.drop x9.toNat a0)) [42,47]) else none else Jcv a0 x1 x2 x9 false
noncomputable def KK(a0:List UInt8)(x1:Int)(x2:Bool)(x4:List UInt8):Yc1→Option YG
 | (x5,x6)=>if x6=true then some (.inl (IntKind.i64.wrap (x1+1),x2)) else if(eqI (x5.toNat:Int) 10)=true then some (.inl (IntKind.i64.wrap (x1+1),true)) else if(eqS x4 [47,47])=true then Jt (JcL a0 x2) x1 else if(eqS x4 [47,42])=true then Jt (Jcq a0 x1 x2) (IntKind.i64.wrap (x1+2)) else inrO (some (x1,x2))
noncomputable def JaB(a0:List UInt8)(x1:Int)(x2:Bool):(UInt8×(List UInt8))→Option YG
 | (x3,x4)=>if(eqI (x3.toNat:Int) 32)=true then KK a0 x1 x2 x4 (x3,true) else if(eqI (x3.toNat:Int) 9)=true then KK a0 x1 x2 x4 (x3,true) else KK a0 x1 x2 x4 (x3,eqI (x3.toNat:Int) 13)
noncomputable def K6(a0:List UInt8):(Int×Bool)→Option YG
 | (x1,x2)=>if(ltI x1 (a0.length:Int))=true then if(0:Int)≤x1∧x1.toNat<a0.length then if(ltI (IntKind.i64.wrap (x1+1)) (a0.length:Int))=true then if(0:Int)≤x1∧x1≤(IntKind.i64.wrap (x1+2))∧(IntKind.i64.wrap (x1+2))≤(a0.length:Int) then JaB a0 x1 x2 ((a0.getD x1.toNat 0),List.take ((IntKind.i64.wrap (x1+2)).toNat-x1.toNat) (List.drop x1.toNat a0)) else none else JaB a0 x1 x2 ((a0.getD x1.toNat 0),[]) else none else inrO (some (x1,x2))
noncomputable def Jdb(a0:List UInt8):Option (Int×Bool) :=
 Jt (K6 a0) (0,false)
noncomputable def Jgv:PF:=PF.of (E1 dS) (fun a=>Jdb a) (T2 dI dB)
theorem JpQ:JC Tryz.prog 28 Jgv:=by
 refine xF mixed [] [] trivial trivial Tryz.func28 ?_
 rintro a0 out H
 have G:=True.intro
 have Y:=xZ y_9 <| Tryz.results28
 simp only[Jdb]at H
 refine xS ?_
 refine xr ?_
 refine xr ?_
 refine JK (K6 a0) (fun s=>[(0,cS a0),(4,cI s.1),(5,cB s.2)]) (fun s=>[]) [] H (xK ⟨[],[]⟩) ?_
 rintro n1 ⟨x1,x2⟩ o1 H hF1
 rw[K6]at H
 refine xS ?_
 refine xr ?_
 rcases xB Y G H with⟨p,H,F,G,q⟩|⟨p,H,F,G,q⟩
 ·refine xT ?_
  obtain⟨g,H⟩:=Jc H
  refine xr ?_
  refine xr0 ?_
  refine Jk ?_
  refine Jo (JaB a0 x1 x2) (fun s=>[(0,cS a0),(4,cI x1),(5,cB x2),(6,.c (.d (.v (.int .u8 (s.1.toNat:Int))))),(7,cS s.2)]) (fun s=>[]) [] o1 ?_ ?_
  ·refine xS ?_
   refine xr ?_
   rcases xB Y G H with⟨p,H,F,G,q⟩|⟨p,H,F,G,q⟩
   ·refine xT ?_
    obtain⟨g,H⟩:=Jc H
    refine xr ?_
    exact Jb H (xK ⟨[],[]⟩)
   refine xE ?_
   exact Jb H (xK ⟨[],[]⟩)
  rintro ⟨x3,x4⟩ H
  rw[JaB]at H
  refine Jas ?_
  refine Jo (KK a0 x1 x2 x4) (fun s=>[(0,cS a0),(4,cI x1),(5,cB x2),(6,.c (.d (.v (.int .u8 (s.1.toNat:Int))))),(7,cS x4),(28,cB s.2)]) (fun s=>[]) [] o1 ?_ ?_
  ·rcases xB Y G H with⟨p,H,F,G,q⟩|⟨p,H,F,G,q⟩
   ·refine xR ?_
    exact Jb H (xK ⟨[],[]⟩)
   rcases xB F G H with⟨p,H,F,G,q⟩|⟨p,H,F,G,q⟩
   ·refine xR ?_
    exact Jb H (xK ⟨[],[]⟩)
   refine xR ?_
   exact Jb H (xK ⟨[],[]⟩)
  rintro ⟨x5,x6⟩ H
  rw[KK]at H
  rcases xB Y G H with⟨p,H,F,G,q⟩|⟨p,H,F,G,q⟩
  ·refine xT ?_
   refine xr ?_
   exact Jw (JA H hF1) (xK ⟨[],[]⟩)
  refine xE ?_
  refine xr ?_
  rcases xB Y G H with⟨p,H,F,G,q⟩|⟨p,H,F,G,q⟩
  ·refine xT ?_
   refine xr ?_
   refine xr ?_
   exact Jw (JA H hF1) (xK ⟨[],[]⟩)
  refine xE ?_
  refine xr ?_
  rcases xB Y G H with⟨p,H,F,G,q⟩|⟨p,H,F,G,q⟩
  ·refine xT ?_
   refine JK (JcL a0 x2) (fun s=>[(0,cS a0),(4,cI s),(5,cB x2)]) (fun s=>[]) [] H (xK ⟨[],[]⟩) ?_
   rintro n2 x7 o2 H hF2
   rw[JcL]at H
   refine Kv ?_
   refine Jo (Jcn x2 x7) (fun s=>[(0,cS a0),(4,cI x7),(5,cB x2),(58,cB s)]) (fun s=>[]) [] o2 ?_ ?_
   ·rcases xB Y G H with⟨p,H,F,G,q⟩|⟨p,H,F,G,q⟩
    ·obtain⟨g,H⟩:=Jc H
     refine xR ?_
     exact Jb H (xK ⟨[],[]⟩)
    refine xR ?_
    exact Jb H (xK ⟨[],[]⟩)
   rintro x8 H
   rw[Jcn]at H
   rcases xB Y G H with⟨p,H,F,G,q⟩|⟨p,H,F,G,q⟩
   ·refine xT ?_
    refine xr ?_
    exact Jw (JA H hF2) (xK ⟨[],[]⟩)
   replace H:=Jq H hF2
   refine xE ?_
   exact Jw (JA H hF1) (xK ⟨[],[]⟩)
  refine xE ?_
  refine xr ?_
  rcases xB Y G H with⟨p,H,F,G,q⟩|⟨p,H,F,G,q⟩
  ·refine xT ?_
   refine xr ?_
   refine JK (Jcq a0 x1 x2) (fun s=>[(0,cS a0),(4,cI x1),(5,cB x2),(8,cI s)]) (fun s=>[]) [] H (xK ⟨[],[]⟩) ?_
   rintro n3 x9 o3 H hF3
   rw[Jcq]at H
   refine Kv ?_
   refine Jo (Jcv a0 x1 x2 x9) (fun s=>[(0,cS a0),(4,cI x1),(5,cB x2),(8,cI x9),(78,cB s)]) (fun s=>[]) [] o3 ?_ ?_
   ·rcases xB Y G H with⟨p,H,F,G,q⟩|⟨p,H,F,G,q⟩
    ·obtain⟨g,H⟩:=Jc H
     refine xR ?_
     exact Jb H (xK ⟨[],[]⟩)
    refine xR ?_
    exact Jb H (xK ⟨[],[]⟩)
   rintro x10 H
   rw[Jcv]at H
   rcases xB Y G H with⟨p,H,F,G,q⟩|⟨p,H,F,G,q⟩
   ·refine xT ?_
    refine xr ?_
    exact Jw (JA H hF3) (xK ⟨[],[]⟩)
   replace H:=Jq H hF3
   refine xE ?_
   refine xr ?_
   rcases xB Y G H with⟨p,H,F,G,q⟩|⟨p,H,F,G,q⟩
   ·refine xT ?_
    replace H:=Jq H hF1
    replace H:=oI H
    refine xr ?_
    subst H
    exact xN
   refine xE ?_
   refine xr ?_
   exact Jw (JA H hF1) (xK ⟨[],[]⟩)
  refine xE ?_
  replace H:=Jq H hF1
  replace H:=oI H
  refine xr ?_
  subst H
  exact xN
 replace H:=Jq H hF1
 refine xE ?_
 replace H:=oI H
 refine xr ?_
 subst H
 exact xN
theorem JqV(a0:List UInt8)(r:Int×Bool)(H:Jdb a0=some r):PC Jgv [dS a0] (T2 dI dB r):=PF.c (a:=a0) H
noncomputable def KV:Bool→Option Bool
 | x1=>some x1
noncomputable def ZW(a0:UInt8):Option Bool :=
 if(leI 97 (a0.toNat:Int))=true then if(leI (a0.toNat:Int) 122)=true then KV true else if(leI 65 (a0.toNat:Int))=true then if(leI (a0.toNat:Int) 90)=true then KV true else KV (eqI (a0.toNat:Int) 95) else KV (eqI (a0.toNat:Int) 95) else if(leI 65 (a0.toNat:Int))=true then if(leI (a0.toNat:Int) 90)=true then KV true else KV (eqI (a0.toNat:Int) 95) else KV (eqI (a0.toNat:Int) 95)
noncomputable def JcX:PF:=PF.of (E1 dU) (fun a=>ZW a) dB
theorem JhQ:JC Tryz.prog 41 JcX:=by
 refine xF mixed [] [] trivial trivial Tryz.func41 ?_
 rintro a0 out H
 have G:=True.intro
 have Y:=Tryz.results41
 simp only[ZW]at H
 refine xS ?_
 refine xr0 ?_
 refine Jk ?_
 refine Jo KV (fun s=>[(2,cB s)]) (fun s=>[]) [] out ?_ ?_
 ·rcases xB Y G H with⟨p,H,F,G,q⟩|⟨p,H,F,G,q⟩
  ·rcases xB F G H with⟨p,H,F,G,q⟩|⟨p,H,F,G,q⟩
   ·refine xR ?_
    exact Jb H (xK ⟨[],[]⟩)
   rcases xB F G H with⟨p,H,F,G,q⟩|⟨p,H,F,G,q⟩
   ·rcases xB F G H with⟨p,H,F,G,q⟩|⟨p,H,F,G,q⟩
    ·refine xR ?_
     exact Jb H (xK ⟨[],[]⟩)
    refine xR ?_
    exact Jb H (xK ⟨[],[]⟩)
   refine xR ?_
   exact Jb H (xK ⟨[],[]⟩)
  rcases xB F G H with⟨p,H,F,G,q⟩|⟨p,H,F,G,q⟩
  ·rcases xB F G H with⟨p,H,F,G,q⟩|⟨p,H,F,G,q⟩
   ·refine xR ?_
    exact Jb H (xK ⟨[],[]⟩)
   refine xR ?_
   exact Jb H (xK ⟨[],[]⟩)
  refine xR ?_
  exact Jb H (xK ⟨[],[]⟩)
 rintro x1 H
 rw[KV]at H
 replace H:=oI H
 refine xS ?_
 subst H
 exact xN
theorem JfL(a0:UInt8)(r:Bool)(H:ZW a0=some r):PC JcX [dU a0] (dB r):=PF.c (a:=a0) H
noncomputable def JdO:Bool→Option Bool
 | x1=>some x1
noncomputable def Zh(a0:UInt8):Option Bool :=
 if(leI 48 (a0.toNat:Int))=true then JdO (leI (a0.toNat:Int) 57) else JdO false
noncomputable def JdA:PF:=PF.of (E1 dU) (fun a=>Zh a) dB
theorem Jip:JC Tryz.prog 42 JdA:=by
 refine xF mixed [] [] trivial trivial Tryz.func42 ?_
 rintro a0 out H
 have G:=True.intro
 have Y:=Tryz.results42
 simp only[Zh]at H
 refine xS ?_
 refine xr0 ?_
 refine Jk ?_
 refine Jo JdO (fun s=>[(2,cB s)]) (fun s=>[]) [] out ?_ ?_
 ·rcases xB Y G H with⟨p,H,F,G,q⟩|⟨p,H,F,G,q⟩
  ·refine xR ?_
   exact Jb H (xK ⟨[],[]⟩)
  refine xR ?_
  exact Jb H (xK ⟨[],[]⟩)
 rintro x1 H
 rw[JdO]at H
 replace H:=oI H
 refine xS ?_
 subst H
 exact xN
theorem Jeg(a0:UInt8)(r:Bool)(H:Zh a0=some r):PC JdA [dU a0] (dB r):=PF.c (a:=a0) H
noncomputable def Zf(a0:List UInt8):Int→Option (List UInt8)
 | x1=>if(0:Int)≤0∧0≤x1∧x1≤(a0.length:Int) then some (List.take x1.toNat a0) else none
noncomputable def V2(a0:List UInt8)(x2:Int):Bool→Option YR
 | x5=>if x5=true then inrO (Zf a0 x2) else some (.inl (IntKind.i64.wrap (x2+1)))
noncomputable def KA(a0:List UInt8)(x2:Int):Yc1→Option YR
 | (x3,x4)=>if(!x4)=true then if(!eqI (x3.toNat:Int) 46)=true then(ZW x3).bind fun r1=>if(!r1)=true then(Zh x3).bind fun r2=>V2 a0 x2 (!r2) else V2 a0 x2 false else V2 a0 x2 false else V2 a0 x2 false
noncomputable def JaX(a0:List UInt8):Int→Option YR
 | x2=>if(ltI x2 (a0.length:Int))=true then if(0:Int)≤x2∧x2.toNat<a0.length then if(eqI ((a0.getD x2.toNat 0).toNat:Int) 43)=true then if(ltI 0 x2)=true then if(0:Int)≤(IntKind.i64.wrap (x2-1))∧(IntKind.i64.wrap (x2-1)).toNat<a0.length then if(eqI ((a0.getD ((IntKind.i64.wrap (x2-1)).toNat) 0).toNat:Int) 101)=true then KA a0 x2 ((a0.getD x2.toNat 0),true) else if(0:Int)≤(IntKind.i64.wrap (x2-1))∧(IntKind.i64.wrap (x2-1)).toNat<a0.length then KA a0 x2 ((a0.getD x2.toNat 0),eqI ((a0.getD ((IntKind.i64.wrap (x2-1)).toNat) 0).toNat:Int) 69) else none else none else KA a0 x2 ((a0.getD x2.toNat 0),false) else if(eqI ((a0.getD x2.toNat 0).toNat:Int) 45)=true then if(ltI 0 x2)=true then if(0:Int)≤(IntKind.i64.wrap (x2-1))∧(IntKind.i64.wrap (x2-1)).toNat<a0.length then if(eqI ((a0.getD ((IntKind.i64.wrap (x2-1)).toNat) 0).toNat:Int) 101)=true then KA a0 x2 ((a0.getD x2.toNat 0),true) else if(0:Int)≤(IntKind.i64.wrap (x2-1))∧(IntKind.i64.wrap (x2-1)).toNat<a0.length then KA a0 x2 ((a0.getD x2.toNat 0),eqI ((a0.getD ((IntKind.i64.wrap (x2-1)).toNat) 0).toNat:Int) 69) else none else none else KA a0 x2 ((a0.getD x2.toNat 0),false) else KA a0 x2 ((a0.getD x2.toNat 0),false) else none else inrO (Zf a0 x2)
noncomputable def JbG(a0:List UInt8):Option (List UInt8) :=
 Jt (JaX a0) 0
noncomputable def Jfi:PF:=PF.of (E1 dS) (fun a=>JbG a) dS
theorem JnD:JC Tryz.prog 43 Jfi:=by
 refine xF mixed [(41,JcX),(42,JdA)] [] ⟨⟨JyQ,JhQ⟩,⟨JyF,Jip⟩,trivial⟩ trivial Tryz.func43 ?_
 rintro a0 out H
 have G:=True.intro
 have Y:=xZ y_9 <| Tryz.results43
 simp only[JbG]at H
 refine xS ?_
 refine xr ?_
 refine xr0 ?_
 refine Jk ?_
 refine Jo (Zf a0) (fun s=>[(0,cS a0),(3,cI s)]) (fun s=>[]) [] out ?_ ?_
 ·refine xS ?_
  refine JK (JaX a0) (fun s=>[(0,cS a0),(3,cI s)]) (fun s=>[]) [] H (xK ⟨[],[]⟩) ?_
  rintro n1 x2 o1 H hF1
  rw[JaX]at H
  refine xS ?_
  refine xr ?_
  rcases xB Y G H with⟨p,H,F,G,q⟩|⟨p,H,F,G,q⟩
  ·refine xT ?_
   obtain⟨g,H⟩:=Jc H
   refine xr0 ?_
   refine Jk ?_
   refine Jo (KA a0 x2) (fun s=>[(0,cS a0),(3,cI x2),(4,.c (.d (.v (.int .u8 (s.1.toNat:Int))))),(5,cB s.2)]) (fun s=>[]) [] o1 ?_ ?_
   ·rcases xB Y G H with⟨p,H,F,G,q⟩|⟨p,H,F,G,q⟩
    ·rcases xB F G H with⟨p,H,F,G,q⟩|⟨p,H,F,G,q⟩
     ·obtain⟨g,H⟩:=Jc H
      rcases xB F G H with⟨p,H,F,G,q⟩|⟨p,H,F,G,q⟩
      ·refine xR ?_
       exact Jb H (xK ⟨[],[]⟩)
      obtain⟨g,H⟩:=Jc H
      refine xR ?_
      exact Jb H (xK ⟨[],[]⟩)
     refine xR ?_
     exact Jb H (xK ⟨[],[]⟩)
    rcases xB F G H with⟨p,H,F,G,q⟩|⟨p,H,F,G,q⟩
    ·rcases xB F G H with⟨p,H,F,G,q⟩|⟨p,H,F,G,q⟩
     ·obtain⟨g,H⟩:=Jc H
      rcases xB F G H with⟨p,H,F,G,q⟩|⟨p,H,F,G,q⟩
      ·refine xR ?_
       exact Jb H (xK ⟨[],[]⟩)
      obtain⟨g,H⟩:=Jc H
      refine xR ?_
      exact Jb H (xK ⟨[],[]⟩)
     refine xR ?_
     exact Jb H (xK ⟨[],[]⟩)
    refine xR ?_
    exact Jb H (xK ⟨[],[]⟩)
   rintro ⟨x3,x4⟩ H
   rw[KA]at H
   refine Kv ?_
   refine Jo (V2 a0 x2) (fun s=>[(0,cS a0),(3,cI x2),(52,cB s)]) (fun s=>[]) [] o1 ?_ ?_
   ·rcases xB Y G H with⟨p,H,F,G,q⟩|⟨p,H,F,G,q⟩
    ·rcases xB F G H with⟨p,H,F,G,q⟩|⟨p,H,F,G,q⟩
     ·obtain⟨r1,hr1,H⟩:=Jj H
      have F:=xCf F (JfL x3 r1 hr1)
      rcases xB F G H with⟨p,H,F,G,q⟩|⟨p,H,F,G,q⟩
      ·obtain⟨r2,hr2,H⟩:=Jj H
       have F:=xCf F (Jeg x3 r2 hr2)
       refine xR ?_
       exact Jb H (xK ⟨[],[]⟩)
      refine xR ?_
      exact Jb H (xK ⟨[],[]⟩)
     refine xR ?_
     exact Jb H (xK ⟨[],[]⟩)
    refine xR ?_
    exact Jb H (xK ⟨[],[]⟩)
   rintro x5 H
   rw[V2]at H
   rcases xB Y G H with⟨p,H,F,G,q⟩|⟨p,H,F,G,q⟩
   ·replace H:=Jq H hF1
    refine xT ?_
    exact Jb H (xK ⟨[],[]⟩)
   refine xE ?_
   refine xr ?_
   exact Jw (JA H hF1) (xK ⟨[],[]⟩)
  replace H:=Jq H hF1
  refine xE ?_
  exact Jb H (xK ⟨[],[]⟩)
 rintro x1 H
 rw[Zf]at H
 refine xS ?_
 obtain⟨g,H⟩:=Jc H
 replace H:=oI H
 refine xr ?_
 subst H
 exact xN
theorem Jn8(a0:List UInt8)(r:(List UInt8))(H:JbG a0=some r):PC Jfi [dS a0] (dS r):=PF.c (a:=a0) H
noncomputable def Ja9:Int→Option YR
 | x2=>some (.inl (IntKind.i64.wrap (x2+1)))
noncomputable def Zd(x1:Int):Bool→Option YR
 | x3=>if x3=true then Ja9 (IntKind.i64.wrap (x1+1)) else Ja9 x1
noncomputable def JaU(a0:List UInt8):Int→Option YR
 | x1=>if(ltI x1 (a0.length:Int))=true then if(0:Int)≤x1∧x1.toNat<a0.length then if(eqI ((a0.getD x1.toNat 0).toNat:Int) 10)=true then inrO (some []) else if(0:Int)≤x1∧x1.toNat<a0.length then if 0<a0.length then if(eqI ((a0.getD x1.toNat 0).toNat:Int) ((a0.getD 0 0).toNat:Int))=true then if(0:Int)≤0∧0≤(IntKind.i64.wrap (x1+1))∧(IntKind.i64.wrap (x1+1))≤(a0.length:Int) then inrO (some (List.take ((IntKind.i64.wrap (x1+1)).toNat) a0)) else none else if(0:Int)≤x1∧x1.toNat<a0.length then if(eqI ((a0.getD x1.toNat 0).toNat:Int) 92)=true then if(ltI (IntKind.i64.wrap (x1+1)) (a0.length:Int))=true then if(0:Int)≤(IntKind.i64.wrap (x1+1))∧(IntKind.i64.wrap (x1+1)).toNat<a0.length then Zd x1 (!eqI ((a0.getD ((IntKind.i64.wrap (x1+1)).toNat) 0).toNat:Int) 10) else none else Zd x1 false else Zd x1 false else none else none else none else none else inrO (some [])
noncomputable def ZT(a0:List UInt8):Option (List UInt8) :=
 Jt (JaU a0) 1
noncomputable def Jfh:PF:=PF.of (E1 dS) (fun a=>ZT a) dS
theorem JnM:JC Tryz.prog 44 Jfh:=by
 refine xF mixed [] [] trivial trivial Tryz.func44 ?_
 rintro a0 out H
 have G:=True.intro
 have Y:=xZ y_9 <| Tryz.results44
 simp only[ZT]at H
 refine xS ?_
 refine xr ?_
 refine xr ?_
 refine JK (JaU a0) (fun s=>[(0,cS a0),(3,cI s)]) (fun s=>[]) [] H (xK ⟨[],[]⟩) ?_
 rintro n1 x1 o1 H hF1
 rw[JaU]at H
 refine xS ?_
 refine xr ?_
 rcases xB Y G H with⟨p,H,F,G,q⟩|⟨p,H,F,G,q⟩
 ·refine xT0 ?_
  refine V0 ?_
  refine Jk ?_
  refine Jo Ja9 (fun s=>[(0,cS a0),(3,cI s)]) (fun s=>[]) [] o1 ?_ ?_
  ·refine xS ?_
   obtain⟨g,H⟩:=Jc H
   refine xr ?_
   rcases xB Y G H with⟨p,H,F,G,q⟩|⟨p,H,F,G,q⟩
   ·refine xT ?_
    replace H:=Jq H hF1
    replace H:=oI H
    refine xr ?_
    subst H
    exact xN
   refine xE ?_
   obtain⟨g,H⟩:=Jc H
   obtain⟨g,H⟩:=Jc H
   refine xr ?_
   rcases xB Y G H with⟨p,H,F,G,q⟩|⟨p,H,F,G,q⟩
   ·refine xT ?_
    obtain⟨g,H⟩:=Jc H
    replace H:=Jq H hF1
    replace H:=oI H
    refine xr ?_
    subst H
    exact xN
   refine xE0 ?_
   refine V0 ?_
   refine Jk ?_
   refine Jo (Zd x1) (fun s=>[(0,cS a0),(3,cI x1),(41,cB s)]) (fun s=>[]) [] o1 ?_ ?_
   ·obtain⟨g,H⟩:=Jc H
    rcases xB Y G H with⟨p,H,F,G,q⟩|⟨p,H,F,G,q⟩
    ·rcases xB F G H with⟨p,H,F,G,q⟩|⟨p,H,F,G,q⟩
     ·obtain⟨g,H⟩:=Jc H
      refine xR ?_
      exact Jb H (xK ⟨[],[]⟩)
     refine xR ?_
     exact Jb H (xK ⟨[],[]⟩)
    refine xR ?_
    exact Jb H (xK ⟨[],[]⟩)
   rintro x3 H
   rw[Zd]at H
   rcases xB Y G H with⟨p,H,F,G,q⟩|⟨p,H,F,G,q⟩
   ·refine xT ?_
    refine xr ?_
    exact Jb H (xK ⟨[],[]⟩)
   refine xE ?_
   exact Jb H (xK ⟨[],[]⟩)
  rintro x2 H
  rw[Ja9]at H
  refine xr ?_
  exact Jw (JA H hF1) (xK ⟨[],[]⟩)
 replace H:=Jq H hF1
 refine xE ?_
 replace H:=oI H
 refine xr ?_
 subst H
 exact xN
theorem Jij(a0:List UInt8)(r:(List UInt8))(H:ZT a0=some r):PC Jfh [dS a0] (dS r):=PF.c (a:=a0) H
noncomputable def JdU  : Option YX :=
 some [[46,46,46],[60,60,61],[62,62,61],[45,62],[43,43],[45,45],[60,60],[62,62],[60,61],[62,61],[61,61],[33,61],[38,38],[124,124],[43,61],[45,61],[42,61],[47,61],[37,61],[38,61],[124,61],[94,61],[35,35],[91],[93],[40],[41],[123],[125],[46],[38],[42],[43],[45],[126],[33],[47],[37],[60],[62],[94],[124],[63],[58],[59],[61],[44],[35]]
noncomputable def JfR:PF:=PF.of E0 (fun _=>JdU) (dL 1 dS)
theorem Joi:JC Tryz.prog 65 JfR:=by
 refine xF mixed [] [] trivial trivial Tryz.func65 ?_
 rintro _ out H
 have G:=True.intro
 have Y:=xZ y_9 <| xZ y_41 <| Tryz.results65
 simp only[JdU]at H
 refine xS ?_
 refine xr ?_
 replace H:=oI H
 refine xr ?_
 subst H
 exact xN
theorem Jox  (r:YX) (H:JdU  = some r):PC JfR [] ((dL 1 dS) r):=PF.c (a:=()) H
noncomputable def Jcj(x5 x6:Int):(List UInt8)→Option Yj
 | x7=>some (.inl (x7,x5,IntKind.i64.wrap (x6+1)))
noncomputable def Jaz(a0:List UInt8)(x2:Int)(r1:YX):YJ→Option Yj
 | (x4,x5,x6)=>if(ltI x6 x5)=true then if(0:Int)≤x6∧x6.toNat<r1.length then if(0:Int)≤0∧0≤x2∧x2≤(a0.length:Int) then if(eqS (r1.getD x6.toNat default) (List.take x2.toNat a0))=true then Jcj x5 x6 (r1.getD x6.toNat default) else Jcj x5 x6 x4 else none else none else inrO (some (.inl (x4,IntKind.i64.wrap (x2+1))))
noncomputable def JaD(a0 x1:List UInt8)(x2:Int):Bool→Option YB
 | x3=>if x3=true then(JdU).bind fun r1=>Jt (Jaz a0 x2 r1) (x1,(r1.length:Int),0) else inrO (some x1)
noncomputable def JaI(a0:List UInt8):((List UInt8)×Int)→Option YB
 | (x1,x2)=>if(leI x2 3)=true then JaD a0 x1 x2 (leI x2 (a0.length:Int)) else JaD a0 x1 x2 false
noncomputable def Jdh(a0:List UInt8):Option (List UInt8) :=
 Jt (JaI a0) ([],1)
noncomputable def JgP:PF:=PF.of (E1 dS) (fun a=>Jdh a) dS
theorem JoB:JC Tryz.prog 45 JgP:=by
 refine xF mixed [(65,JfR)] [] ⟨⟨JEC,Joi⟩,trivial⟩ trivial Tryz.func45 ?_
 rintro a0 out H
 have G:=True.intro
 have Y:=xZ y_9 <| xZ y_41 <| Tryz.results45
 simp only[Jdh]at H
 refine xS ?_
 refine xr ?_
 refine xr ?_
 refine xr ?_
 refine JK (JaI a0) (fun s=>[(0,cS a0),(3,cS s.1),(4,cI s.2)]) (fun s=>[]) [] H (xK ⟨[],[]⟩) ?_
 rintro n1 ⟨x1,x2⟩ o1 H hF1
 rw[JaI]at H
 refine Kv ?_
 refine Jo (JaD a0 x1 x2) (fun s=>[(0,cS a0),(3,cS x1),(4,cI x2),(14,cB s)]) (fun s=>[]) [] o1 ?_ ?_
 ·rcases xB Y G H with⟨p,H,F,G,q⟩|⟨p,H,F,G,q⟩
  ·refine xR ?_
   exact Jb H (xK ⟨[],[]⟩)
  refine xR ?_
  exact Jb H (xK ⟨[],[]⟩)
 rintro x3 H
 rw[JaD]at H
 rcases xB Y G H with⟨p,H,F,G,q⟩|⟨p,H,F,G,q⟩
 ·refine xT ?_
  obtain⟨r1,hr1,H⟩:=Jj H
  have F:=xC Y (Jox  r1 hr1)
  refine xR ?_
  refine JK (Jaz a0 x2 r1) (fun s=>[(0,cS a0),(3,cS s.1),(4,cI x2),(17,.c (.d (.sl 1 (List.map dS r1)))),(18,cI s.2.1),(19,cI s.2.2)]) (fun s=>[]) [] H (xK ⟨[],[]⟩) ?_
  rintro n2 ⟨x4,x5,x6⟩ o2 H hF2
  rw[Jaz]at H
  refine xS ?_
  refine xr ?_
  rcases xB Y G H with⟨p,H,F,G,q⟩|⟨p,H,F,G,q⟩
  ·refine xT0 ?_
   refine V0 ?_
   refine Jk ?_
   refine Jo (Jcj x5 x6) (fun s=>[(0,cS a0),(3,cS s),(4,cI x2),(17,.c (.d (.sl 1 (List.map dS r1)))),(18,cI x5),(19,cI x6)]) (fun s=>[]) [] o2 ?_ ?_
   ·refine xS ?_
    obtain⟨g,H⟩:=Jc H
    have F:=xZ Y (Jh dS r1 x6.toNat default default (by omega))
    refine xR ?_
    obtain⟨g,H⟩:=Jc H
    refine xr ?_
    rcases xB Y G H with⟨p,H,F,G,q⟩|⟨p,H,F,G,q⟩
    ·refine xT ?_
     refine xr ?_
     exact Jb H (xK ⟨[],[]⟩)
    refine xE ?_
    exact Jb H (xK ⟨[],[]⟩)
   rintro x7 H
   rw[Jcj]at H
   refine xr ?_
   exact Jw (JA H hF2) (xK ⟨[],[]⟩)
  replace H:=Jq H hF2
  refine xE ?_
  refine xr ?_
  exact Jw (JA H hF1) (xK ⟨[],[]⟩)
 replace H:=Jq H hF1
 refine xE ?_
 replace H:=oI H
 refine xr ?_
 subst H
 exact xN
theorem Jq7(a0:List UInt8)(r:(List UInt8))(H:Jdh a0=some r):PC JgP [dS a0] (dS r):=PF.c (a:=a0) H
noncomputable def ZV(a0:List UInt8):Unit→Option YS
 | ()=>(Jdh a0).bind fun r1=>if(!eqS r1 [])=true then some (5,r1) else if(0:Int)≤0∧0≤1∧1≤(a0.length:Int) then some (6,List.take 1 a0) else none
noncomputable def Xo(a0:List UInt8)(x1:Int):Bool→Option YH
 | x2=>if x2=true then some (.inl (IntKind.i64.wrap (x1+1))) else inrO (if(0:Int)≤0∧0≤x1∧x1≤(a0.length:Int) then some (1,List.take x1.toNat a0) else none)
noncomputable def ZO(a0:List UInt8):Int→Option YH
 | x1=>if(ltI x1 (a0.length:Int))=true then if(0:Int)≤x1∧x1.toNat<a0.length then(ZW (a0.getD x1.toNat 0)).bind fun r3=>if r3=true then Xo a0 x1 true else if(0:Int)≤x1∧x1.toNat<a0.length then(Zh (a0.getD x1.toNat 0)).bind fun r4=>Xo a0 x1 r4 else none else none else Xo a0 x1 false
noncomputable def JbX(a0:List UInt8)(x6:Int):Bool→Option YH
 | x7=>if x7=true then if(0:Int)≤x6∧x6.toNat<a0.length then if(eqI ((a0.getD x6.toNat 0).toNat:Int) 62)=true then if(0:Int)≤0∧0≤(IntKind.i64.wrap (x6+1))∧(IntKind.i64.wrap (x6+1))≤(a0.length:Int) then inrO (some (7,List.take ((IntKind.i64.wrap (x6+1)).toNat) a0)) else none else some (.inl (IntKind.i64.wrap (x6+1))) else none else inrO (ZV a0 ())
noncomputable def ZM(a0:List UInt8):Int→Option YH
 | x6=>if(ltI x6 (a0.length:Int))=true then if(0:Int)≤x6∧x6.toNat<a0.length then JbX a0 x6 (!eqI ((a0.getD x6.toNat 0).toNat:Int) 10) else none else JbX a0 x6 false
noncomputable def Vi(a0:List UInt8):Bool→Option YS
 | x5=>if x5=true then Jt (ZM a0) 1 else ZV a0 ()
noncomputable def VM(a0:List UInt8)(a1:Bool):Yc1→Option YS
 | (x3,x4)=>if x4=true then(JbG a0).bind fun r5=>some (2,r5) else if(eqI (x3.toNat:Int) 34)=true then(ZT a0).bind fun r6=>some (4,r6) else if(eqI (x3.toNat:Int) 39)=true then(ZT a0).bind fun r7=>some (3,r7) else if(eqI (x3.toNat:Int) 60)=true then Vi a0 a1 else Vi a0 false
noncomputable def JaQ(a0:List UInt8)(a1:Bool):Option YS :=
 if 0<a0.length then(ZW (a0.getD 0 0)).bind fun r2=>if r2=true then Jt (ZO a0) 0 else(Zh (a0.getD 0 0)).bind fun r8=>if r8=true then VM a0 a1 ((a0.getD 0 0),true) else if(eqI ((a0.getD 0 0).toNat:Int) 46)=true then if(ltI 1 (a0.length:Int))=true then if 1<a0.length then(Zh (a0.getD 1 0)).bind fun r9=>VM a0 a1 ((a0.getD 0 0),r9) else none else VM a0 a1 ((a0.getD 0 0),false) else VM a0 a1 ((a0.getD 0 0),false) else none
noncomputable def JfX:PF:=PF.of (E2 dS dB) (fun a=>JaQ a.1 a.2) (T2 dI dS)
theorem Jot:JC Tryz.prog 29 JfX:=by
 refine xF mixed [(45,JgP),(41,JcX),(42,JdA),(43,Jfi),(44,Jfh)] [] ⟨⟨JD1,JoB⟩,⟨JyQ,JhQ⟩,⟨JyF,Jip⟩,⟨JDJ,JnD⟩,⟨JDT,JnM⟩,trivial⟩ trivial Tryz.func29 ?_
 rintro ⟨a0,a1⟩ out H
 have G:=True.intro
 have Y:=xZ y_9 <| Tryz.results29
 simp only[JaQ]at H
 refine xS ?_
 refine xr0 ?_
 refine Jk ?_
 refine Jo (ZV a0) (fun s=>[(0,cS a0)]) (fun s=>[]) [] out ?_ ?_
 ·refine xS ?_
  obtain⟨g,H⟩:=Jc H
  refine xr ?_
  obtain⟨r2,hr2,H⟩:=Jj H
  have F:=xC Y (JfL (a0.getD 0 0) r2 hr2)
  refine xR ?_
  rcases xB Y G H with⟨p,H,F,G,q⟩|⟨p,H,F,G,q⟩
  ·refine xT ?_
   refine xr ?_
   refine JK (ZO a0) (fun s=>[(0,cS a0),(7,cI s)]) (fun s=>[]) [] H (xK ⟨[],[]⟩) ?_
   rintro n1 x1 o1 H hF1
   rw[ZO]at H
   refine Kv ?_
   refine Jo (Xo a0 x1) (fun s=>[(0,cS a0),(7,cI x1),(30,cB s)]) (fun s=>[]) [] o1 ?_ ?_
   ·rcases xB Y G H with⟨p,H,F,G,q⟩|⟨p,H,F,G,q⟩
    ·obtain⟨g,H⟩:=Jc H
     obtain⟨r3,hr3,H⟩:=Jj H
     have F:=xCf F (JfL (a0.getD x1.toNat 0) r3 hr3)
     rcases xB F G H with⟨p,H,F,G,q⟩|⟨p,H,F,G,q⟩
     ·refine xR ?_
      exact Jb H (xK ⟨[],[]⟩)
     obtain⟨g,H⟩:=Jc H
     obtain⟨r4,hr4,H⟩:=Jj H
     have F:=xCf F (Jeg (a0.getD x1.toNat 0) r4 hr4)
     refine xR ?_
     exact Jb H (xK ⟨[],[]⟩)
    refine xR ?_
    exact Jb H (xK ⟨[],[]⟩)
   rintro x2 H
   rw[Xo]at H
   rcases xB Y G H with⟨p,H,F,G,q⟩|⟨p,H,F,G,q⟩
   ·refine xT ?_
    refine xr ?_
    exact Jw (JA H hF1) (xK ⟨[],[]⟩)
   replace H:=Jq H hF1
   refine xE ?_
   obtain⟨g,H⟩:=Jc H
   replace H:=oI H
   refine xr ?_
   subst H
   exact xN
  refine xE0 ?_
  refine Jo (VM a0 a1) (fun s=>[(0,cS a0),(1,cB a1),(6,.c (.d (.v (.int .u8 (s.1.toNat:Int))))),(36,cB s.2)]) (fun s=>[]) [] out ?_ ?_
  ·obtain⟨r8,hr8,H⟩:=Jj H
   have F:=xC Y (Jeg (a0.getD 0 0) r8 hr8)
   rcases xB F G H with⟨p,H,F,G,q⟩|⟨p,H,F,G,q⟩
   ·refine xR ?_
    exact Jb H (xK ⟨[],[]⟩)
   rcases xB F G H with⟨p,H,F,G,q⟩|⟨p,H,F,G,q⟩
   ·rcases xB F G H with⟨p,H,F,G,q⟩|⟨p,H,F,G,q⟩
    ·obtain⟨g,H⟩:=Jc H
     obtain⟨r9,hr9,H⟩:=Jj H
     have F:=xCf F (Jeg (a0.getD 1 0) r9 hr9)
     refine xR ?_
     exact Jb H (xK ⟨[],[]⟩)
    refine xR ?_
    exact Jb H (xK ⟨[],[]⟩)
   refine xR ?_
   exact Jb H (xK ⟨[],[]⟩)
  rintro ⟨x3,x4⟩ H
  rw[VM]at H
  rcases xB Y G H with⟨p,H,F,G,q⟩|⟨p,H,F,G,q⟩
  ·refine xT ?_
   obtain⟨r5,hr5,H⟩:=Jj H
   have F:=xC Y (Jn8 a0 r5 hr5)
   replace H:=oI H
   refine xR ?_
   subst H
   exact xN
  refine xE ?_
  refine xr ?_
  rcases xB Y G H with⟨p,H,F,G,q⟩|⟨p,H,F,G,q⟩
  ·refine xT ?_
   obtain⟨r6,hr6,H⟩:=Jj H
   have F:=xC Y (Jij a0 r6 hr6)
   replace H:=oI H
   refine xR ?_
   subst H
   exact xN
  refine xE ?_
  refine xr ?_
  rcases xB Y G H with⟨p,H,F,G,q⟩|⟨p,H,F,G,q⟩
  ·refine xT ?_
   obtain⟨r7,hr7,H⟩:=Jj H
   have F:=xC Y (Jij a0 r7 hr7)
   replace H:=oI H
   refine xR ?_
   subst H
   exact xN
  refine xE0 ?_
  refine Jo (Vi a0) (fun s=>[(0,cS a0),(65,cB s)]) (fun s=>[]) [] out ?_ ?_
  ·rcases xB Y G H with⟨p,H,F,G,q⟩|⟨p,H,F,G,q⟩
   ·refine xR ?_
    exact Jb H (xK ⟨[],[]⟩)
   refine xR ?_
   exact Jb H (xK ⟨[],[]⟩)
  rintro x5 H
  rw[Vi]at H
  rcases xB Y G H with⟨p,H,F,G,q⟩|⟨p,H,F,G,q⟩
  ·refine xT ?_
   refine xr ?_
   refine JK (ZM a0) (fun s=>[(0,cS a0),(8,cI s)]) (fun s=>[]) [] H (xK ⟨[],[]⟩) ?_
   rintro n2 x6 o2 H hF2
   rw[ZM]at H
   refine Kv ?_
   refine Jo (JbX a0 x6) (fun s=>[(0,cS a0),(8,cI x6),(80,cB s)]) (fun s=>[]) [] o2 ?_ ?_
   ·rcases xB Y G H with⟨p,H,F,G,q⟩|⟨p,H,F,G,q⟩
    ·obtain⟨g,H⟩:=Jc H
     refine xR ?_
     exact Jb H (xK ⟨[],[]⟩)
    refine xR ?_
    exact Jb H (xK ⟨[],[]⟩)
   rintro x7 H
   rw[JbX]at H
   rcases xB Y G H with⟨p,H,F,G,q⟩|⟨p,H,F,G,q⟩
   ·refine xT ?_
    obtain⟨g,H⟩:=Jc H
    refine xr ?_
    rcases xB Y G H with⟨p,H,F,G,q⟩|⟨p,H,F,G,q⟩
    ·refine xT ?_
     obtain⟨g,H⟩:=Jc H
     replace H:=Jq H hF2
     replace H:=oI H
     refine xr ?_
     subst H
     exact xN
    refine xE ?_
    refine xr ?_
    exact Jw (JA H hF2) (xK ⟨[],[]⟩)
   replace H:=Jq H hF2
   refine xE ?_
   exact Jb H (xK ⟨[],[]⟩)
  refine xE ?_
  exact Jb H (xK ⟨[],[]⟩)
 rintro ⟨⟩ H
 rw[ZV]at H
 refine xS ?_
 obtain⟨r1,hr1,H⟩:=Jj H
 have F:=xC Y (Jq7 a0 r1 hr1)
 refine xR ?_
 refine xr ?_
 rcases xB Y G H with⟨p,H,F,G,q⟩|⟨p,H,F,G,q⟩
 ·refine xT ?_
  replace H:=oI H
  refine xr ?_
  subst H
  exact xN
 refine xE ?_
 obtain⟨g,H⟩:=Jc H
 replace H:=oI H
 refine xr ?_
 subst H
 exact xN
theorem JpD(a0:List UInt8)(a1:Bool)(r:Int×(List UInt8))(H:JaQ a0 a1=some r):PC JfX [dS a0,dB a1] (T2 dI dS r):=PF.c (a:=(a0,a1)) H
noncomputable def Jci(x2:Int):Int→Option YY
 | x4=>some (.inl (x4,IntKind.i64.wrap (x2+1)))
noncomputable def Jcw(a0:List UInt8)(x1 x2:Int):Bool→Option YY
 | x3=>if x3=true then if(0:Int)≤x2∧x2.toNat<a0.length then if(eqI ((a0.getD x2.toNat 0).toNat:Int) 10)=true then Jci x2 (IntKind.i64.wrap (x1+1)) else Jci x2 x1 else none else inrO (some x1)
noncomputable def JcO(a0:List UInt8)(a1:Int):(Int×Int)→Option YY
 | (x1,x2)=>if(ltI x2 a1)=true then Jcw a0 x1 x2 (ltI x2 (a0.length:Int)) else Jcw a0 x1 x2 false
noncomputable def Jc5(a0:List UInt8)(a1:Int):Option Int :=
 Jt (JcO a0 a1) (1,0)
noncomputable def Jgw:PF:=PF.of (E2 dS dI) (fun a=>Jc5 a.1 a.2) dI
theorem JpK:JC Tryz.prog 30 Jgw:=by
 refine xF mixed [] [] trivial trivial Tryz.func30 ?_
 rintro ⟨a0,a1⟩ out H
 have G:=True.intro
 have Y:=xZ y_9 <| Tryz.results30
 simp only[Jc5]at H
 refine xS ?_
 refine xr ?_
 refine xr ?_
 refine xr ?_
 refine JK (JcO a0 a1) (fun s=>[(0,cS a0),(1,cI a1),(5,cI s.1),(6,cI s.2)]) (fun s=>[]) [] H (xK ⟨[],[]⟩) ?_
 rintro n1 ⟨x1,x2⟩ o1 H hF1
 rw[JcO]at H
 refine Kv ?_
 refine Jo (Jcw a0 x1 x2) (fun s=>[(0,cS a0),(1,cI a1),(5,cI x1),(6,cI x2),(15,cB s)]) (fun s=>[]) [] o1 ?_ ?_
 ·rcases xB Y G H with⟨p,H,F,G,q⟩|⟨p,H,F,G,q⟩
  ·refine xR ?_
   exact Jb H (xK ⟨[],[]⟩)
  refine xR ?_
  exact Jb H (xK ⟨[],[]⟩)
 rintro x3 H
 rw[Jcw]at H
 rcases xB Y G H with⟨p,H,F,G,q⟩|⟨p,H,F,G,q⟩
 ·refine xT0 ?_
  refine V0 ?_
  refine Jk ?_
  refine Jo (Jci x2) (fun s=>[(0,cS a0),(1,cI a1),(5,cI s),(6,cI x2)]) (fun s=>[]) [] o1 ?_ ?_
  ·refine xS ?_
   obtain⟨g,H⟩:=Jc H
   refine xr ?_
   rcases xB Y G H with⟨p,H,F,G,q⟩|⟨p,H,F,G,q⟩
   ·refine xT ?_
    refine xr ?_
    exact Jb H (xK ⟨[],[]⟩)
   refine xE ?_
   exact Jb H (xK ⟨[],[]⟩)
  rintro x4 H
  rw[Jci]at H
  refine xr ?_
  exact Jw (JA H hF1) (xK ⟨[],[]⟩)
 replace H:=Jq H hF1
 refine xE ?_
 replace H:=oI H
 refine xr ?_
 subst H
 exact xN
theorem Jqv(a0:List UInt8)(a1 r:Int)(H:Jc5 a0 a1=some r):PC Jgw [dS a0,dI a1] (dI r):=PF.c (a:=(a0,a1)) H
noncomputable def Ky(a0:Int)(a1:List UInt8)(r1:Spliced)(x2:List Token)(r2:Int×Bool)(x3:Int)(x4:Bool):Bool→Option Yu
 | x5=>if(0:Int)≤x3∧x3≤(r1.Text.length:Int)∧(r1.Text.length:Int)≤(r1.Text.length:Int) then(JaQ (List.drop x3.toNat r1.Text) x5).bind fun r3=>if(eqS r3.2 [])=true then if(0:Int)≤x3∧x3.toNat<r1.At.length then inrO (some (([]:List Token),(⟨9,a0,(r1.At.getD x3.toNat default)⟩:Fault))) else none else if(0:Int)≤x3∧x3.toNat<r1.At.length then if(0:Int)≤(IntKind.i64.wrap ((IntKind.i64.wrap (x3+(r3.2.length:Int)))-1))∧(IntKind.i64.wrap ((IntKind.i64.wrap (x3+(r3.2.length:Int)))-1)).toNat<r1.At.length then if(0:Int)≤x3∧x3.toNat<r1.At.length then(Jc5 a1 (r1.At.getD x3.toNat default)).bind fun r4=>if(x2.length + [(⟨r3.1,r3.2,ltI 0 r2.1,x4,a0,(r1.At.getD x3.toNat default),IntKind.i64.wrap ((r1.At.getD ((IntKind.i64.wrap ((IntKind.i64.wrap (x3+(r3.2.length:Int)))-1)).toNat) default)+1),r4,([]:List (List UInt8)),([]:List Call),0⟩:Token)].length) * 120≤140737488355328 then some (.inl (IntKind.i64.wrap (x3+(r3.2.length:Int)),x2++[(⟨r3.1,r3.2,ltI 0 r2.1,x4,a0,(r1.At.getD x3.toNat default),IntKind.i64.wrap ((r1.At.getD ((IntKind.i64.wrap ((IntKind.i64.wrap (x3+(r3.2.length:Int)))-1)).toNat) default)+1),r4,([]:List (List UInt8)),([]:List Call),0⟩:Token)])) else none else none else none else none else none
noncomputable def Ze(a0:Int)(a1:List UInt8)(r1:Spliced)(x2:List Token)(r2:Int×Bool):(Int×Bool)→Option Yu
 | (x3,x4)=>if(!x4)=true then if(leI 2 ((x2.length:Nat):Int))=true then if(0:Int)≤(IntKind.i64.wrap (((x2.length:Nat):Int)-1))∧(IntKind.i64.wrap (((x2.length:Nat):Int)-1)).toNat<x2.length then if(IntKind.i64.wrap (((x2.length:Nat):Int)-1)).toNat<x2.length then if(eqS ((x2.getD ((IntKind.i64.wrap (((x2.length:Nat):Int)-1)).toNat) default).Text) [105,110,99,108,117,100,101])=true then if(0:Int)≤(IntKind.i64.wrap (((x2.length:Nat):Int)-1))∧(IntKind.i64.wrap (((x2.length:Nat):Int)-1)).toNat<x2.length then if(IntKind.i64.wrap (((x2.length:Nat):Int)-1)).toNat<x2.length then if(!((x2.getD ((IntKind.i64.wrap (((x2.length:Nat):Int)-1)).toNat) default).First))=true then if(0:Int)≤(IntKind.i64.wrap (((x2.length:Nat):Int)-2))∧(IntKind.i64.wrap (((x2.length:Nat):Int)-2)).toNat<x2.length then if(IntKind.i64.wrap (((x2.length:Nat):Int)-2)).toNat<x2.length then if(eqS ((x2.getD ((IntKind.i64.wrap (((x2.length:Nat):Int)-2)).toNat) default).Text) [35])=true then if(0:Int)≤(IntKind.i64.wrap (((x2.length:Nat):Int)-2))∧(IntKind.i64.wrap (((x2.length:Nat):Int)-2)).toNat<x2.length then if(IntKind.i64.wrap (((x2.length:Nat):Int)-2)).toNat<x2.length then Ky a0 a1 r1 x2 r2 x3 x4 ((x2.getD ((IntKind.i64.wrap (((x2.length:Nat):Int)-2)).toNat) default).First) else none else none else Ky a0 a1 r1 x2 r2 x3 x4 false else none else none else Ky a0 a1 r1 x2 r2 x3 x4 false else none else none else Ky a0 a1 r1 x2 r2 x3 x4 false else none else none else Ky a0 a1 r1 x2 r2 x3 x4 false else Ky a0 a1 r1 x2 r2 x3 x4 false
noncomputable def V3(a0:Int)(a1:List UInt8)(r1:Spliced):YQ→Option Yu
 | (x1,x2)=>if(0:Int)≤x1∧x1≤(r1.Text.length:Int)∧(r1.Text.length:Int)≤(r1.Text.length:Int) then(Jdb (List.drop x1.toNat r1.Text)).bind fun r2=>if(ltI r2.1 0)=true then if(0:Int)≤(IntKind.i64.wrap ((IntKind.i64.wrap (x1-1))-r2.1))∧(IntKind.i64.wrap ((IntKind.i64.wrap (x1-1))-r2.1)).toNat<r1.At.length then inrO (some (([]:List Token),(⟨9,a0,(r1.At.getD ((IntKind.i64.wrap ((IntKind.i64.wrap (x1-1))-r2.1)).toNat) default)⟩:Fault))) else none else if(leI (r1.Text.length:Int) (IntKind.i64.wrap (x1+r2.1)))=true then inrO (some (x2,(⟨0,(-1),0⟩:Fault))) else if r2.2=true then Ze a0 a1 r1 x2 r2 (IntKind.i64.wrap (x1+r2.1),true) else Ze a0 a1 r1 x2 r2 (IntKind.i64.wrap (x1+r2.1),eqI ((x2.length:Nat):Int) 0) else none
noncomputable def XL(a0:Int)(a1:List UInt8):Option ((List Token)×Fault) :=
 if(ltI 3000 (a1.length:Int))=true then some (([]:List Token),(⟨4,a0,0⟩:Fault)) else(JbA a1).bind fun r1=>Jt (V3 a0 a1 r1) (0,([]:List Token))
noncomputable def Jfm:PF:=PF.of (E2 dI dS) (fun a=>XL a.1 a.2) (T2 (dL 11 Ja) J3)
theorem JnJ:JC Tryz.prog 16 Jfm:=by
 refine xF mixed [(27,Jff),(28,Jgv),(29,JfX),(30,Jgw)] [] ⟨⟨JDN,JnB⟩,⟨JDW,JpQ⟩,⟨JDA,Jot⟩,⟨JDX,JpK⟩,trivial⟩ trivial Tryz.func16 ?_
 rintro ⟨a0,a1⟩ out H
 have G:=True.intro
 have Y:=xZ y_3 <| xZ y_4 <| xZ y_9 <| xZ y_24 <| xZ y_25 <| xZ y_29 <| xZ y_31 <| xZ y_41 <| xZ y_42 <| xZ y_44 <| xZ y_70 <| xZ Tryz.results16 <| xZ Jm.eq_1 <| xZ Ja.eq_1 <| xZ JT.eq_1 <| J3.eq_1
 simp only[XL]at H
 refine xS ?_
 refine xr ?_
 refine xr ?_
 rcases xB Y G H with⟨p,H,F,G,q⟩|⟨p,H,F,G,q⟩
 ·refine xT ?_
  replace H:=oI H
  refine xr ?_
  subst H
  exact xN
 refine xE ?_
 obtain⟨r1,hr1,H⟩:=Jj H
 have F:=xC Y (Joh a1 r1 hr1)
 refine xR ?_
 refine xr ?_
 refine xr ?_
 refine JK (V3 a0 a1 r1) (fun s=>[(0,cI a0),(1,cS a1),(5,.c (.pt 1 0)),(6,.c (.pt 2 0)),(7,.c (.os 3 11 0 s.2.length)),(8,cI s.1)]) (fun s=>[[kI 0,kI 0,kI 0],[kS r1.Text,.d (.sl 1 (List.map dI r1.At))],[.arr 11 (List.map Ja s.2)]]) [] H (xK ⟨[1,2,0],[]⟩) ?_
 rintro n1 ⟨x1,x2⟩ o1 H hF1
 rw[V3]at H
 refine xS ?_
 obtain⟨g,H⟩:=Jc H
 obtain⟨r2,hr2,H⟩:=Jj H
 have F:=xC Y (JqV (List.drop x1.toNat r1.Text) r2 hr2)
 refine xR ?_
 refine xr ?_
 rcases xB Y G H with⟨p,H,F,G,q⟩|⟨p,H,F,G,q⟩
 ·refine xT ?_
  obtain⟨g,H⟩:=Jc H
  have F:=xZ Y (Jh dI r1.At ((IntKind.i64.wrap ((IntKind.i64.wrap (x1-1))-r2.1)).toNat) default default (by omega))
  replace H:=Jq H hF1
  replace H:=oI H
  refine xR ?_
  subst H
  exact xN
 refine xE ?_
 refine xr ?_
 refine xr ?_
 rcases xB Y G H with⟨p,H,F,G,q⟩|⟨p,H,F,G,q⟩
 ·refine xT ?_
  replace H:=Jq H hF1
  replace H:=oI H
  refine xr ?_
  subst H
  refine xNf 3 11 (List.map Ja x2) [] ?_
  exact xN
 refine xE0 ?_
 refine V0 ?_
 refine Jk ?_
 refine Jo (Ze a0 a1 r1 x2 r2) (fun s=>[(0,cI a0),(1,cS a1),(5,.c (.pt 1 0)),(6,.c (.pt 2 0)),(7,.c (.os 3 11 0 x2.length)),(8,cI s.1),(9,cI r2.1),(11,cB s.2)]) (fun s=>[[kI 0,kI 0,kI 0],[kS r1.Text,.d (.sl 1 (List.map dI r1.At))],[.arr 11 (List.map Ja x2)]]) [] o1 ?_ ?_
 ·rcases xB Y G H with⟨p,H,F,G,q⟩|⟨p,H,F,G,q⟩
  ·refine xR ?_
   exact Jb H (xK ⟨[1,2,3],[]⟩)
  refine xR ?_
  exact Jb H (xK ⟨[1,2,3],[]⟩)
 rintro ⟨x3,x4⟩ H
 rw[Ze]at H
 refine xS ?_
 refine xr0 ?_
 refine Jk ?_
 refine Jo (Ky a0 a1 r1 x2 r2 x3 x4) (fun s=>[(0,cI a0),(1,cS a1),(5,.c (.pt 1 0)),(6,.c (.pt 2 0)),(7,.c (.os 3 11 0 x2.length)),(8,cI x3),(9,cI r2.1),(11,cB x4),(13,cB s)]) (fun s=>[[kI 0,kI 0,kI 0],[kS r1.Text,.d (.sl 1 (List.map dI r1.At))],[.arr 11 (List.map Ja x2)]]) [] o1 ?_ ?_
 ·rcases xB Y G H with⟨p,H,F,G,q⟩|⟨p,H,F,G,q⟩
  ·rcases xB F G H with⟨p,H,F,G,q⟩|⟨p,H,F,G,q⟩
   ·obtain⟨g,H⟩:=Jc H
    obtain⟨g,H⟩:=Jc H
    have F:=xZ F (Jh Ja x2 ((IntKind.i64.wrap (((x2.length:Nat):Int)-1)).toNat) default default (by omega))
    rcases xB F G H with⟨p,H,F,G,q⟩|⟨p,H,F,G,q⟩
    ·obtain⟨g,H⟩:=Jc H
     obtain⟨g,H⟩:=Jc H
     have F:=xZ F (Jh Ja x2 ((IntKind.i64.wrap (((x2.length:Nat):Int)-1)).toNat) default default (by omega))
     rcases xB F G H with⟨p,H,F,G,q⟩|⟨p,H,F,G,q⟩
     ·obtain⟨g,H⟩:=Jc H
      obtain⟨g,H⟩:=Jc H
      have F:=xZ F (Jh Ja x2 ((IntKind.i64.wrap (((x2.length:Nat):Int)-2)).toNat) default default (by omega))
      rcases xB F G H with⟨p,H,F,G,q⟩|⟨p,H,F,G,q⟩
      ·obtain⟨g,H⟩:=Jc H
       obtain⟨g,H⟩:=Jc H
       have F:=xZ F (Jh Ja x2 ((IntKind.i64.wrap (((x2.length:Nat):Int)-2)).toNat) default default (by omega))
       refine xR ?_
       exact Jb H (xK ⟨[1,2,3],[]⟩)
      refine xR ?_
      exact Jb H (xK ⟨[1,2,3],[]⟩)
     refine xR ?_
     exact Jb H (xK ⟨[1,2,3],[]⟩)
    refine xR ?_
    exact Jb H (xK ⟨[1,2,3],[]⟩)
   refine xR ?_
   exact Jb H (xK ⟨[1,2,3],[]⟩)
  refine xR ?_
  exact Jb H (xK ⟨[1,2,3],[]⟩)
 rintro x5 H
 rw[Ky]at H
 refine xS ?_
 obtain⟨g,H⟩:=Jc H
 obtain⟨r3,hr3,H⟩:=Jj H
 have F:=xC Y (JpD (List.drop x3.toNat r1.Text) x5 r3 hr3)
 refine xR ?_
 refine xr ?_
 rcases xB Y G H with⟨p,H,F,G,q⟩|⟨p,H,F,G,q⟩
 ·refine xT ?_
  obtain⟨g,H⟩:=Jc H
  have F:=xZ Y (Jh dI r1.At x3.toNat default default (by omega))
  replace H:=Jq H hF1
  replace H:=oI H
  refine xR ?_
  subst H
  exact xN
 refine xE ?_
 obtain⟨g,H⟩:=Jc H
 have F:=xZ Y (Jh dI r1.At x3.toNat default default (by omega))
 obtain⟨g,H⟩:=Jc H
 have F:=xZ F (Jh dI r1.At ((IntKind.i64.wrap ((IntKind.i64.wrap (x3+(r3.2.length:Int)))-1)).toNat) default default (by omega))
 obtain⟨g,H⟩:=Jc H
 have F:=xZ F (Jh dI r1.At x3.toNat default default (by omega))
 obtain⟨r4,hr4,H⟩:=Jj H
 have F:=xCf F (Jqv a1 (r1.At.getD x3.toNat default) r4 hr4)
 obtain⟨g,H⟩:=Jc H
 have F:=xZ F (JO KU [(⟨r3.1,r3.2,ltI 0 r2.1,x4,a0,(r1.At.getD x3.toNat default),IntKind.i64.wrap ((r1.At.getD ((IntKind.i64.wrap ((IntKind.i64.wrap (x3+(r3.2.length:Int)))-1)).toNat) default)+1),r4,([]:List (List UInt8)),([]:List Call),0⟩:Token)])
 have L:[(⟨r3.1,r3.2,ltI 0 r2.1,x4,a0,(r1.At.getD x3.toNat default),IntKind.i64.wrap ((r1.At.getD ((IntKind.i64.wrap ((IntKind.i64.wrap (x3+(r3.2.length:Int)))-1)).toNat) default)+1),r4,([]:List (List UInt8)),([]:List Call),0⟩:Token)].length=1:=rfl
 refine xR ?_
 refine xr ?_
 exact Jw (JA H hF1) (xK ⟨[1,2,4],[]⟩)
theorem Jn4(a0:Int)(a1:List UInt8)(r:(List Token)×Fault)(H:XL a0 a1=some r):PC Jfm [dI a0,dS a1] (T2 (dL 11 Ja) J3 r):=PF.c (a:=(a0,a1)) H
end Go.Proofs.YtfkhlbhjhdpkoaaGreatDoor
