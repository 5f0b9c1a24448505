/- Functions of data for functions of the program. Written by dec3.py. -/
import Derived.Test.YtaofbminodhcnaaZbaq
import Derived.Test.YtaofbminodhcnaaZbat
set_option linter.unusedVariables false
set_option linter.unusedSimpArgs false
set_option maxHeartbeats 4000000
set_option maxRecDepth 100000
namespace Go.Proofs.Ytaofbminodhcnaa
open Go.RowKit
noncomputable def Vh(x2:List UInt8):(Int×(List UInt8)×(List Int))→Option ((Int×(List UInt8)×(List UInt8)×(List Int)) ⊕ Spliced)
 | (x5,x6,x7)=>some (.inl (IntKind.i64.wrap (x5+1),x2,x6,x7))
noncomputable def VK(x1:Int)(x2:List UInt8)(x3:List UInt8)(x4:List Int)(x8:List UInt8):Bool→Option ((Int×(List UInt8)×(List UInt8)×(List Int)) ⊕ Spliced)
 | x11=>if x11=true then Vh x2 (x1,x3,x4) else if(0:Int)≤0∧0≤1∧1≤(x8.length:Int) then if x3.length+(List.take 1 x8).length≤9223372036854775807 then if(x4.length + [x1].length) * 8≤140737488355328 then Vh x2 (x1,x3++(List.take 1 x8),x4++[x1]) else none else none else none
noncomputable def Vi(x1:Int)(x2:List UInt8)(x3:List UInt8)(x4:List Int)(x8:List UInt8):Bool→Option ((Int×(List UInt8)×(List UInt8)×(List Int)) ⊕ Spliced)
 | x10=>if x10=true then Vh x2 (IntKind.i64.wrap (x1+2),x3,x4) else if(ltI 1 (x8.length:Int))=true then if 0<x8.length then if(eqI ((x8.getD 0 0).toNat:Int) 13)=true then if 1<x8.length then VK x1 x2 x3 x4 x8 (eqI ((x8.getD 1 0).toNat:Int) 10) else none else VK x1 x2 x3 x4 x8 false else none else VK x1 x2 x3 x4 x8 false
noncomputable def VJ(x1:Int)(x2:List UInt8)(x3:List UInt8)(x4:List Int):((List UInt8)×Bool)→Option ((Int×(List UInt8)×(List UInt8)×(List Int)) ⊕ Spliced)
 | (x8,x9)=>if x9=true then Vh x2 (IntKind.i64.wrap (x1+1),x3,x4) else if(ltI 2 (x8.length:Int))=true then if 0<x8.length then if(eqI ((x8.getD 0 0).toNat:Int) 92)=true then if 1<x8.length then if(eqI ((x8.getD 1 0).toNat:Int) 13)=true then if 2<x8.length then Vi x1 x2 x3 x4 x8 (eqI ((x8.getD 2 0).toNat:Int) 10) else none else Vi x1 x2 x3 x4 x8 false else none else Vi x1 x2 x3 x4 x8 false else none else Vi x1 x2 x3 x4 x8 false
noncomputable def Jae(a0:List UInt8):(Int×(List UInt8)×(List UInt8)×(List Int))→Option ((Int×(List UInt8)×(List UInt8)×(List Int)) ⊕ Spliced)
 | (x1,x2,x3,x4)=>if(ltI x1 (a0.length:Int))=true then if(0:Int)≤x1∧x1≤(a0.length:Int)∧(a0.length:Int)≤(a0.length:Int) then if(ltI 1 ((List.drop x1.toNat a0).length:Int))=true then if 0<(List.drop x1.toNat a0).length then if(eqI (((List.drop x1.toNat a0).getD 0 0).toNat:Int) 92)=true then if 1<(List.drop x1.toNat a0).length then VJ x1 x2 x3 x4 (List.drop x1.toNat a0,eqI (((List.drop x1.toNat a0).getD 1 0).toNat:Int) 10) else none else VJ x1 x2 x3 x4 (List.drop x1.toNat a0,false) else none else VJ x1 x2 x3 x4 (List.drop x1.toNat a0,false) else none else inrO (if(x4.length + [(a0.length:Int)].length) * 8≤140737488355328 then some (⟨x3,x4++[(a0.length:Int)]⟩:Spliced) else none)
noncomputable def JaD(a0:List UInt8):Option Spliced :=
 Ju (Jae a0) (0,[],[],([]:List Int))
noncomputable def Jc3:PF:=PF.of (E1 dS) (fun a=>JaD a) ZU
theorem JiQ:Kt Try.prog 27 Jc3:=by
 refine xF mixed [] [] trivial trivial Try.func27 ?_
 rintro a0 out H
 have G:=True.intro
 have Y:=xZ y_3 <| xZ y_9 <| xZ y_78 <| xZ y_80 <| xZ Try.results27 <| ZU.eq_1
 simp only[JaD]at H
 refine xS ?_
 refine xr ?_
 refine xr ?_
 refine xr ?_
 refine KH (Jae a0) (fun s=>[(0,.c (.d (.v (str a0)))),(2,.c (.pt 1 0)),(3,.c (.pt 2 0)),(4,.c (.d (.v (.int .i64 s.1))))]) (fun s=>[[.d (.v (str s.2.1)),.sl 1 [] 0],[.d (.v (str s.2.2.1)),.sl 1 (List.map dI s.2.2.2) 3]]) [3] H (xK ⟨[1,2],[0]⟩) ?_
 rintro n1 ⟨x1,x2,x3,x4⟩ o1 H hF1
 rw[Jae]at H
 refine xS ?_
 refine xr ?_
 rcases Jc H with⟨hp1,H⟩|⟨hp1,H⟩
 ·obtain⟨F,G,hq1⟩:=xH Y G hp1
  refine xT0 ?_
  refine JbD ?_
  refine Jn ?_
  refine JB (Vh x2) (fun s=>[(0,.c (.d (.v (str a0)))),(2,.c (.pt 1 0)),(3,.c (.pt 2 0)),(4,.c (.d (.v (.int .i64 s.1))))]) (fun s=>[[.d (.v (str x2)),.sl 1 [] 0],[.d (.v (str s.2.1)),.sl 1 (List.map dI s.2.2) 3]]) [3] o1 ?_ ?_
  ·refine xS ?_
   obtain⟨hg1,H⟩:=Jg H
   refine xr0 ?_
   refine Jn ?_
   refine XV ?_
   refine JB (VJ x1 x2 x3 x4) (fun s=>[(0,.c (.d (.v (str a0)))),(2,.c (.pt 1 0)),(3,.c (.pt 2 0)),(4,.c (.d (.v (.int .i64 x1)))),(5,.c (.d (.v (str s.1)))),(27,.c (.d (.v (.bool s.2))))]) (fun s=>[[.d (.v (str x2)),.sl 1 [] 0],[.d (.v (str x3)),.sl 1 (List.map dI x4) 3]]) [3] o1 ?_ ?_
   ·rcases Jc H with⟨hp10,H⟩|⟨hp10,H⟩
    ·obtain⟨F,G,hq10⟩:=xH Y G hp10
     obtain⟨hg10,H⟩:=Jg H
     rcases Jc H with⟨hp11,H⟩|⟨hp11,H⟩
     ·obtain⟨F,G,hq11⟩:=xH F G hp11
      obtain⟨hg11,H⟩:=Jg H
      refine xR ?_
      exact Jd H (xK ⟨[1,2],[3]⟩)
     ·obtain⟨F,G,hq11⟩:=xH F G hp11
      refine xR ?_
      exact Jd H (xK ⟨[1,2],[3]⟩)
    ·obtain⟨F,G,hq10⟩:=xH Y G hp10
     refine xR ?_
     exact Jd H (xK ⟨[1,2],[3]⟩)
   ·rintro ⟨x8,x9⟩ H
    rw[VJ]at H
    rcases Jc H with⟨hp2,H⟩|⟨hp2,H⟩
    ·obtain⟨F,G,hq2⟩:=xH Y G hp2
     refine xT ?_
     refine xr ?_
     exact Jd H (xK ⟨[1,2],[3]⟩)
    ·obtain⟨F,G,hq2⟩:=xH Y G hp2
     refine xE0 ?_
     refine JbD ?_
     refine Jn ?_
     refine XV ?_
     refine JB (Vi x1 x2 x3 x4 x8) (fun s=>[(0,.c (.d (.v (str a0)))),(2,.c (.pt 1 0)),(3,.c (.pt 2 0)),(4,.c (.d (.v (.int .i64 x1)))),(5,.c (.d (.v (str x8)))),(47,.c (.d (.v (.bool s))))]) (fun s=>[[.d (.v (str x2)),.sl 1 [] 0],[.d (.v (str x3)),.sl 1 (List.map dI x4) 3]]) [3] o1 ?_ ?_
     ·rcases Jc H with⟨hp7,H⟩|⟨hp7,H⟩
      ·obtain⟨F,G,hq7⟩:=xH Y G hp7
       obtain⟨hg7,H⟩:=Jg H
       rcases Jc H with⟨hp8,H⟩|⟨hp8,H⟩
       ·obtain⟨F,G,hq8⟩:=xH F G hp8
        obtain⟨hg8,H⟩:=Jg H
        rcases Jc H with⟨hp9,H⟩|⟨hp9,H⟩
        ·obtain⟨F,G,hq9⟩:=xH F G hp9
         obtain⟨hg9,H⟩:=Jg H
         refine xR ?_
         exact Jd H (xK ⟨[1,2],[3]⟩)
        ·obtain⟨F,G,hq9⟩:=xH F G hp9
         refine xR ?_
         exact Jd H (xK ⟨[1,2],[3]⟩)
       ·obtain⟨F,G,hq8⟩:=xH F G hp8
        refine xR ?_
        exact Jd H (xK ⟨[1,2],[3]⟩)
      ·obtain⟨F,G,hq7⟩:=xH Y G hp7
       refine xR ?_
       exact Jd H (xK ⟨[1,2],[3]⟩)
     ·rintro x10 H
      rw[Vi]at H
      rcases Jc H with⟨hp3,H⟩|⟨hp3,H⟩
      ·obtain⟨F,G,hq3⟩:=xH Y G hp3
       refine xT ?_
       refine xr ?_
       exact Jd H (xK ⟨[1,2],[3]⟩)
      ·obtain⟨F,G,hq3⟩:=xH Y G hp3
       refine xE0 ?_
       refine JbD ?_
       refine Jn ?_
       refine XV ?_
       refine JB (VK x1 x2 x3 x4 x8) (fun s=>[(0,.c (.d (.v (str a0)))),(2,.c (.pt 1 0)),(3,.c (.pt 2 0)),(4,.c (.d (.v (.int .i64 x1)))),(5,.c (.d (.v (str x8)))),(62,.c (.d (.v (.bool s))))]) (fun s=>[[.d (.v (str x2)),.sl 1 [] 0],[.d (.v (str x3)),.sl 1 (List.map dI x4) 3]]) [3] o1 ?_ ?_
       ·rcases Jc H with⟨hp5,H⟩|⟨hp5,H⟩
        ·obtain⟨F,G,hq5⟩:=xH Y G hp5
         obtain⟨hg5,H⟩:=Jg H
         rcases Jc H with⟨hp6,H⟩|⟨hp6,H⟩
         ·obtain⟨F,G,hq6⟩:=xH F G hp6
          obtain⟨hg6,H⟩:=Jg H
          refine xR ?_
          exact Jd H (xK ⟨[1,2],[3]⟩)
         ·obtain⟨F,G,hq6⟩:=xH F G hp6
          refine xR ?_
          exact Jd H (xK ⟨[1,2],[3]⟩)
        ·obtain⟨F,G,hq5⟩:=xH Y G hp5
         refine xR ?_
         exact Jd H (xK ⟨[1,2],[3]⟩)
       ·rintro x11 H
        rw[VK]at H
        rcases Jc H with⟨hp4,H⟩|⟨hp4,H⟩
        ·obtain⟨F,G,hq4⟩:=xH Y G hp4
         refine xT ?_
         exact Jd H (xK ⟨[1,2],[3]⟩)
        ·obtain⟨F,G,hq4⟩:=xH Y G hp4
         refine xE ?_
         obtain⟨hg2,H⟩:=Jg H
         obtain⟨hg3,H⟩:=Jg H
         refine xr ?_
         obtain⟨hg4,H⟩:=Jg H
         have F:=xZ Y (XE Jsm [x1])
         refine xR ?_
         exact Jd H (xK ⟨[1,2],[4]⟩)
  ·rintro ⟨x5,x6,x7⟩ H
   rw[Vh]at H
   refine xr ?_
   exact JJ (J2 H hF1) (xK ⟨[1,2],[3]⟩)
 ·obtain⟨F,G,hq1⟩:=xH Y G hp1
  replace H:=Jq H hF1
  refine xE ?_
  obtain⟨hg12,H⟩:=Jg H
  have F:=xZ Y (XE Jsm [(a0.length:Int)])
  refine xR ?_
  replace H:=Option.some.inj H
  refine xr ?_
  subst H
  exact xN
theorem Jjl(a0:List UInt8)(r:Spliced)(H:JaD a0=some r):PC Jc3 [dS a0] (ZU r):=PF.c (a:=a0) H
noncomputable def Jbh(x2:Bool)(x7:Int):Bool→Option (Int ⊕ ((Int×Bool) ⊕ (Int×Bool)))
 | x8=>if x8=true then some (.inl (IntKind.i64.wrap (x7+1))) else inrO (some (.inl (x7,x2)))
noncomputable def Jbe(a0:List UInt8)(x2:Bool):Int→Option (Int ⊕ ((Int×Bool) ⊕ (Int×Bool)))
 | x7=>if(ltI x7 (a0.length:Int))=true then if(0:Int)≤x7∧x7.toNat<a0.length then Jbh x2 x7 (!eqI ((a0.getD x7.toNat 0).toNat:Int) 10) else none else Jbh x2 x7 false
noncomputable def Jbi(a0:List UInt8)(x1:Int)(x2:Bool)(x9:Int):Bool→Option (Int ⊕ ((Int×Bool) ⊕ (Int×Bool)))
 | x10=>if x10=true then some (.inl (IntKind.i64.wrap (x9+1))) else inrO (if(leI (a0.length:Int) (IntKind.i64.wrap (x9+1)))=true then inrO (some (IntKind.i64.wrap ((-1)-x1),x2)) else some (.inl (IntKind.i64.wrap (x9+2),x2)))
noncomputable def Ja9(a0:List UInt8)(x1:Int)(x2:Bool):Int→Option (Int ⊕ ((Int×Bool) ⊕ (Int×Bool)))
 | x9=>if(ltI (IntKind.i64.wrap (x9+1)) (a0.length:Int))=true then if(0:Int)≤x9∧x9≤(IntKind.i64.wrap (x9+2))∧(IntKind.i64.wrap (x9+2))≤(a0.length:Int) then Jbi a0 x1 x2 x9 (!eqS (List.take ((IntKind.i64.wrap (x9+2)).toNat-x9.toNat) (List.drop x9.toNat a0)) [42,47]) else none else Jbi a0 x1 x2 x9 false
noncomputable def K7(a0:List UInt8)(x1:Int)(x2:Bool)(x4:List UInt8):(UInt8×Bool)→Option ((Int×Bool) ⊕ (Int×Bool))
 | (x5,x6)=>if x6=true then some (.inl (IntKind.i64.wrap (x1+1),x2)) else if(eqI (x5.toNat:Int) 10)=true then some (.inl (IntKind.i64.wrap (x1+1),true)) else if(eqS x4 [47,47])=true then Ju (Jbe a0 x2) x1 else if(eqS x4 [47,42])=true then Ju (Ja9 a0 x1 x2) (IntKind.i64.wrap (x1+2)) else inrO (some (x1,x2))
noncomputable def Z1(a0:List UInt8)(x1:Int)(x2:Bool):(UInt8×(List UInt8))→Option ((Int×Bool) ⊕ (Int×Bool))
 | (x3,x4)=>if(eqI (x3.toNat:Int) 32)=true then K7 a0 x1 x2 x4 (x3,true) else if(eqI (x3.toNat:Int) 9)=true then K7 a0 x1 x2 x4 (x3,true) else K7 a0 x1 x2 x4 (x3,eqI (x3.toNat:Int) 13)
noncomputable def Vo(a0:List UInt8):(Int×Bool)→Option ((Int×Bool) ⊕ (Int×Bool))
 | (x1,x2)=>if(ltI x1 (a0.length:Int))=true then if(0:Int)≤x1∧x1.toNat<a0.length then if(ltI (IntKind.i64.wrap (x1+1)) (a0.length:Int))=true then if(0:Int)≤x1∧x1≤(IntKind.i64.wrap (x1+2))∧(IntKind.i64.wrap (x1+2))≤(a0.length:Int) then Z1 a0 x1 x2 ((a0.getD x1.toNat 0),List.take ((IntKind.i64.wrap (x1+2)).toNat-x1.toNat) (List.drop x1.toNat a0)) else none else Z1 a0 x1 x2 ((a0.getD x1.toNat 0),[]) else none else inrO (some (x1,x2))
noncomputable def JbR(a0:List UInt8):Option (Int×Bool) :=
 Ju (Vo a0) (0,false)
noncomputable def Jd6:PF:=PF.of (E1 dS) (fun a=>JbR a) (T2 dI dB)
theorem Jj7:Kt Try.prog 28 Jd6:=by
 refine xF mixed [] [] trivial trivial Try.func28 ?_
 rintro a0 out H
 have G:=True.intro
 have Y:=xZ y_9 <| Try.results28
 simp only[JbR]at H
 refine xS ?_
 refine xr ?_
 refine xr ?_
 refine KH (Vo a0) (fun s=>[(0,.c (.d (.v (str a0)))),(4,.c (.d (.v (.int .i64 s.1)))),(5,.c (.d (.v (.bool s.2))))]) (fun s=>[]) [] H (xK ⟨[],[]⟩) ?_
 rintro n1 ⟨x1,x2⟩ o1 H hF1
 rw[Vo]at H
 refine xS ?_
 refine xr ?_
 rcases Jc H with⟨hp1,H⟩|⟨hp1,H⟩
 ·obtain⟨F,G,hq1⟩:=xH Y G hp1
  refine xT ?_
  obtain⟨hg1,H⟩:=Jg H
  refine xr ?_
  refine xr0 ?_
  refine Jn ?_
  refine JB (Z1 a0 x1 x2) (fun s=>[(0,.c (.d (.v (str a0)))),(4,.c (.d (.v (.int .i64 x1)))),(5,.c (.d (.v (.bool x2)))),(6,.c (.d (.v (.int .u8 (s.1.toNat:Int))))),(7,.c (.d (.v (str s.2))))]) (fun s=>[]) [] o1 ?_ ?_
  ·refine xS ?_
   refine xr ?_
   rcases Jc H with⟨hp13,H⟩|⟨hp13,H⟩
   ·obtain⟨F,G,hq13⟩:=xH Y G hp13
    refine xT ?_
    obtain⟨hg4,H⟩:=Jg H
    refine xr ?_
    exact Jd H (xK ⟨[],[]⟩)
   ·obtain⟨F,G,hq13⟩:=xH Y G hp13
    refine xE ?_
    exact Jd H (xK ⟨[],[]⟩)
  ·rintro ⟨x3,x4⟩ H
   rw[Z1]at H
   refine Jff ?_
   refine JB (K7 a0 x1 x2 x4) (fun s=>[(0,.c (.d (.v (str a0)))),(4,.c (.d (.v (.int .i64 x1)))),(5,.c (.d (.v (.bool x2)))),(6,.c (.d (.v (.int .u8 (s.1.toNat:Int))))),(7,.c (.d (.v (str x4)))),(28,.c (.d (.v (.bool s.2))))]) (fun s=>[]) [] o1 ?_ ?_
   ·rcases Jc H with⟨hp11,H⟩|⟨hp11,H⟩
    ·obtain⟨F,G,hq11⟩:=xH Y G hp11
     refine xR ?_
     exact Jd H (xK ⟨[],[]⟩)
    ·obtain⟨F,G,hq11⟩:=xH Y G hp11
     rcases Jc H with⟨hp12,H⟩|⟨hp12,H⟩
     ·obtain⟨F,G,hq12⟩:=xH F G hp12
      refine xR ?_
      exact Jd H (xK ⟨[],[]⟩)
     ·obtain⟨F,G,hq12⟩:=xH F G hp12
      refine xR ?_
      exact Jd H (xK ⟨[],[]⟩)
   ·rintro ⟨x5,x6⟩ H
    rw[K7]at H
    rcases Jc H with⟨hp2,H⟩|⟨hp2,H⟩
    ·obtain⟨F,G,hq2⟩:=xH Y G hp2
     refine xT ?_
     refine xr ?_
     exact JJ (J2 H hF1) (xK ⟨[],[]⟩)
    ·obtain⟨F,G,hq2⟩:=xH Y G hp2
     refine xE ?_
     refine xr ?_
     rcases Jc H with⟨hp3,H⟩|⟨hp3,H⟩
     ·obtain⟨F,G,hq3⟩:=xH Y G hp3
      refine xT ?_
      refine xr ?_
      refine xr ?_
      exact JJ (J2 H hF1) (xK ⟨[],[]⟩)
     ·obtain⟨F,G,hq3⟩:=xH Y G hp3
      refine xE ?_
      refine xr ?_
      rcases Jc H with⟨hp4,H⟩|⟨hp4,H⟩
      ·obtain⟨F,G,hq4⟩:=xH Y G hp4
       refine xT ?_
       refine KH (Jbe a0 x2) (fun s=>[(0,.c (.d (.v (str a0)))),(4,.c (.d (.v (.int .i64 s)))),(5,.c (.d (.v (.bool x2))))]) (fun s=>[]) [] H (xK ⟨[],[]⟩) ?_
       rintro n2 x7 o2 H hF2
       rw[Jbe]at H
       refine XV ?_
       refine JB (Jbh x2 x7) (fun s=>[(0,.c (.d (.v (str a0)))),(4,.c (.d (.v (.int .i64 x7)))),(5,.c (.d (.v (.bool x2)))),(58,.c (.d (.v (.bool s))))]) (fun s=>[]) [] o2 ?_ ?_
       ·rcases Jc H with⟨hp6,H⟩|⟨hp6,H⟩
        ·obtain⟨F,G,hq6⟩:=xH Y G hp6
         obtain⟨hg2,H⟩:=Jg H
         refine xR ?_
         exact Jd H (xK ⟨[],[]⟩)
        ·obtain⟨F,G,hq6⟩:=xH Y G hp6
         refine xR ?_
         exact Jd H (xK ⟨[],[]⟩)
       ·rintro x8 H
        rw[Jbh]at H
        rcases Jc H with⟨hp5,H⟩|⟨hp5,H⟩
        ·obtain⟨F,G,hq5⟩:=xH Y G hp5
         refine xT ?_
         refine xr ?_
         exact JJ (J2 H hF2) (xK ⟨[],[]⟩)
        ·obtain⟨F,G,hq5⟩:=xH Y G hp5
         replace H:=Jq H hF2
         refine xE ?_
         exact JJ (J2 H hF1) (xK ⟨[],[]⟩)
      ·obtain⟨F,G,hq4⟩:=xH Y G hp4
       refine xE ?_
       refine xr ?_
       rcases Jc H with⟨hp7,H⟩|⟨hp7,H⟩
       ·obtain⟨F,G,hq7⟩:=xH Y G hp7
        refine xT ?_
        refine xr ?_
        refine KH (Ja9 a0 x1 x2) (fun s=>[(0,.c (.d (.v (str a0)))),(4,.c (.d (.v (.int .i64 x1)))),(5,.c (.d (.v (.bool x2)))),(8,.c (.d (.v (.int .i64 s))))]) (fun s=>[]) [] H (xK ⟨[],[]⟩) ?_
        rintro n3 x9 o3 H hF3
        rw[Ja9]at H
        refine XV ?_
        refine JB (Jbi a0 x1 x2 x9) (fun s=>[(0,.c (.d (.v (str a0)))),(4,.c (.d (.v (.int .i64 x1)))),(5,.c (.d (.v (.bool x2)))),(8,.c (.d (.v (.int .i64 x9)))),(78,.c (.d (.v (.bool s))))]) (fun s=>[]) [] o3 ?_ ?_
        ·rcases Jc H with⟨hp10,H⟩|⟨hp10,H⟩
         ·obtain⟨F,G,hq10⟩:=xH Y G hp10
          obtain⟨hg3,H⟩:=Jg H
          refine xR ?_
          exact Jd H (xK ⟨[],[]⟩)
         ·obtain⟨F,G,hq10⟩:=xH Y G hp10
          refine xR ?_
          exact Jd H (xK ⟨[],[]⟩)
        ·rintro x10 H
         rw[Jbi]at H
         rcases Jc H with⟨hp8,H⟩|⟨hp8,H⟩
         ·obtain⟨F,G,hq8⟩:=xH Y G hp8
          refine xT ?_
          refine xr ?_
          exact JJ (J2 H hF3) (xK ⟨[],[]⟩)
         ·obtain⟨F,G,hq8⟩:=xH Y G hp8
          replace H:=Jq H hF3
          refine xE ?_
          refine xr ?_
          rcases Jc H with⟨hp9,H⟩|⟨hp9,H⟩
          ·obtain⟨F,G,hq9⟩:=xH Y G hp9
           refine xT ?_
           replace H:=Jq H hF1
           replace H:=Option.some.inj H
           refine xr ?_
           subst H
           exact xN
          ·obtain⟨F,G,hq9⟩:=xH Y G hp9
           refine xE ?_
           refine xr ?_
           exact JJ (J2 H hF1) (xK ⟨[],[]⟩)
       ·obtain⟨F,G,hq7⟩:=xH Y G hp7
        refine xE ?_
        replace H:=Jq H hF1
        replace H:=Option.some.inj H
        refine xr ?_
        subst H
        exact xN
 ·obtain⟨F,G,hq1⟩:=xH Y G hp1
  replace H:=Jq H hF1
  refine xE ?_
  replace H:=Option.some.inj H
  refine xr ?_
  subst H
  exact xN
theorem Jkv(a0:List UInt8)(r:Int×Bool)(H:JbR a0=some r):PC Jd6 [dS a0] (T2 dI dB r):=PF.c (a:=a0) H
noncomputable def KT:Bool→Option Bool
 | x1=>some x1
noncomputable def Xb(a0:UInt8):Option Bool :=
 if(leI 97 (a0.toNat:Int))=true then if(leI (a0.toNat:Int) 122)=true then KT true else if(leI 65 (a0.toNat:Int))=true then if(leI (a0.toNat:Int) 90)=true then KT true else KT (eqI (a0.toNat:Int) 95) else KT (eqI (a0.toNat:Int) 95) else if(leI 65 (a0.toNat:Int))=true then if(leI (a0.toNat:Int) 90)=true then KT true else KT (eqI (a0.toNat:Int) 95) else KT (eqI (a0.toNat:Int) 95)
noncomputable def JbB:PF:=PF.of (E1 dU) (fun a=>Xb a) dB
theorem Je3:Kt Try.prog 51 JbB:=by
 refine xF mixed [] [] trivial trivial Try.func51 ?_
 rintro a0 out H
 have G:=True.intro
 have Y:=Try.results51
 simp only[Xb]at H
 refine xS ?_
 refine xr0 ?_
 refine Jn ?_
 refine JB KT (fun s=>[(2,.c (.d (.v (.bool s))))]) (fun s=>[]) [] out ?_ ?_
 ·rcases Jc H with⟨hp1,H⟩|⟨hp1,H⟩
  ·obtain⟨F,G,hq1⟩:=xH Y G hp1
   rcases Jc H with⟨hp2,H⟩|⟨hp2,H⟩
   ·obtain⟨F,G,hq2⟩:=xH F G hp2
    refine xR ?_
    exact Jd H (xK ⟨[],[]⟩)
   ·obtain⟨F,G,hq2⟩:=xH F G hp2
    rcases Jc H with⟨hp3,H⟩|⟨hp3,H⟩
    ·obtain⟨F,G,hq3⟩:=xH F G hp3
     rcases Jc H with⟨hp4,H⟩|⟨hp4,H⟩
     ·obtain⟨F,G,hq4⟩:=xH F G hp4
      refine xR ?_
      exact Jd H (xK ⟨[],[]⟩)
     ·obtain⟨F,G,hq4⟩:=xH F G hp4
      refine xR ?_
      exact Jd H (xK ⟨[],[]⟩)
    ·obtain⟨F,G,hq3⟩:=xH F G hp3
     refine xR ?_
     exact Jd H (xK ⟨[],[]⟩)
  ·obtain⟨F,G,hq1⟩:=xH Y G hp1
   rcases Jc H with⟨hp5,H⟩|⟨hp5,H⟩
   ·obtain⟨F,G,hq5⟩:=xH F G hp5
    rcases Jc H with⟨hp6,H⟩|⟨hp6,H⟩
    ·obtain⟨F,G,hq6⟩:=xH F G hp6
     refine xR ?_
     exact Jd H (xK ⟨[],[]⟩)
    ·obtain⟨F,G,hq6⟩:=xH F G hp6
     refine xR ?_
     exact Jd H (xK ⟨[],[]⟩)
   ·obtain⟨F,G,hq5⟩:=xH F G hp5
    refine xR ?_
    exact Jd H (xK ⟨[],[]⟩)
 ·rintro x1 H
  rw[KT]at H
  replace H:=Option.some.inj H
  refine xS ?_
  subst H
  exact xN
theorem Jdt(a0:UInt8)(r:Bool)(H:Xb a0=some r):PC JbB [dU a0] (dB r):=PF.c (a:=a0) H
noncomputable def JaG:Bool→Option Bool
 | x1=>some x1
noncomputable def V7(a0:UInt8):Option Bool :=
 if(leI 48 (a0.toNat:Int))=true then JaG (leI (a0.toNat:Int) 57) else JaG false
noncomputable def JbZ:PF:=PF.of (E1 dU) (fun a=>V7 a) dB
theorem Jft:Kt Try.prog 52 JbZ:=by
 refine xF mixed [] [] trivial trivial Try.func52 ?_
 rintro a0 out H
 have G:=True.intro
 have Y:=Try.results52
 simp only[V7]at H
 refine xS ?_
 refine xr0 ?_
 refine Jn ?_
 refine JB JaG (fun s=>[(2,.c (.d (.v (.bool s))))]) (fun s=>[]) [] out ?_ ?_
 ·rcases Jc H with⟨hp1,H⟩|⟨hp1,H⟩
  ·obtain⟨F,G,hq1⟩:=xH Y G hp1
   refine xR ?_
   exact Jd H (xK ⟨[],[]⟩)
  ·obtain⟨F,G,hq1⟩:=xH Y G hp1
   refine xR ?_
   exact Jd H (xK ⟨[],[]⟩)
 ·rintro x1 H
  rw[JaG]at H
  replace H:=Option.some.inj H
  refine xS ?_
  subst H
  exact xN
theorem Jcs(a0:UInt8)(r:Bool)(H:V7 a0=some r):PC JbZ [dU a0] (dB r):=PF.c (a:=a0) H
noncomputable def Zb(a0:List UInt8):Int→Option (List UInt8)
 | x1=>if(0:Int)≤0∧0≤x1∧x1≤(a0.length:Int) then some (List.take x1.toNat a0) else none
noncomputable def Xo(a0:List UInt8)(x2:Int):Bool→Option (Int ⊕ (List UInt8))
 | x5=>if x5=true then inrO (Zb a0 x2) else some (.inl (IntKind.i64.wrap (x2+1)))
noncomputable def KV(a0:List UInt8)(x2:Int):(UInt8×Bool)→Option (Int ⊕ (List UInt8))
 | (x3,x4)=>if(!x4)=true then if(!eqI (x3.toNat:Int) 46)=true then(Xb x3).bind fun r1=>if(!r1)=true then(V7 x3).bind fun r2=>Xo a0 x2 (!r2) else Xo a0 x2 false else Xo a0 x2 false else Xo a0 x2 false
noncomputable def Z8(a0:List UInt8):Int→Option (Int ⊕ (List UInt8))
 | x2=>if(ltI x2 (a0.length:Int))=true then if(0:Int)≤x2∧x2.toNat<a0.length then if(eqI ((a0.getD x2.toNat 0).toNat:Int) 43)=true then if(ltI 0 x2)=true then if(0:Int)≤(IntKind.i64.wrap (x2-1))∧(IntKind.i64.wrap (x2-1)).toNat<a0.length then if(eqI ((a0.getD ((IntKind.i64.wrap (x2-1)).toNat) 0).toNat:Int) 101)=true then KV a0 x2 ((a0.getD x2.toNat 0),true) else if(0:Int)≤(IntKind.i64.wrap (x2-1))∧(IntKind.i64.wrap (x2-1)).toNat<a0.length then KV a0 x2 ((a0.getD x2.toNat 0),eqI ((a0.getD ((IntKind.i64.wrap (x2-1)).toNat) 0).toNat:Int) 69) else none else none else KV a0 x2 ((a0.getD x2.toNat 0),false) else if(eqI ((a0.getD x2.toNat 0).toNat:Int) 45)=true then if(ltI 0 x2)=true then if(0:Int)≤(IntKind.i64.wrap (x2-1))∧(IntKind.i64.wrap (x2-1)).toNat<a0.length then if(eqI ((a0.getD ((IntKind.i64.wrap (x2-1)).toNat) 0).toNat:Int) 101)=true then KV a0 x2 ((a0.getD x2.toNat 0),true) else if(0:Int)≤(IntKind.i64.wrap (x2-1))∧(IntKind.i64.wrap (x2-1)).toNat<a0.length then KV a0 x2 ((a0.getD x2.toNat 0),eqI ((a0.getD ((IntKind.i64.wrap (x2-1)).toNat) 0).toNat:Int) 69) else none else none else KV a0 x2 ((a0.getD x2.toNat 0),false) else KV a0 x2 ((a0.getD x2.toNat 0),false) else none else inrO (Zb a0 x2)
noncomputable def Jay(a0:List UInt8):Option (List UInt8) :=
 Ju (Z8 a0) 0
noncomputable def Jc0:PF:=PF.of (E1 dS) (fun a=>Jay a) dS
theorem JiO:Kt Try.prog 53 Jc0:=by
 refine xF mixed [(51,JbB),(52,JbZ)] [] ⟨⟨JpH,Je3⟩,⟨Jo5,Jft⟩,trivial⟩ trivial Try.func53 ?_
 rintro a0 out H
 have G:=True.intro
 have Y:=xZ y_9 <| Try.results53
 simp only[Jay]at H
 refine xS ?_
 refine xr ?_
 refine xr0 ?_
 refine Jn ?_
 refine JB (Zb a0) (fun s=>[(0,.c (.d (.v (str a0)))),(3,.c (.d (.v (.int .i64 s))))]) (fun s=>[]) [] out ?_ ?_
 ·refine xS ?_
  refine KH (Z8 a0) (fun s=>[(0,.c (.d (.v (str a0)))),(3,.c (.d (.v (.int .i64 s))))]) (fun s=>[]) [] H (xK ⟨[],[]⟩) ?_
  rintro n1 x2 o1 H hF1
  rw[Z8]at H
  refine xS ?_
  refine xr ?_
  rcases Jc H with⟨hp1,H⟩|⟨hp1,H⟩
  ·obtain⟨F,G,hq1⟩:=xH Y G hp1
   refine xT ?_
   obtain⟨hg2,H⟩:=Jg H
   refine xr0 ?_
   refine Jn ?_
   refine JB (KV a0 x2) (fun s=>[(0,.c (.d (.v (str a0)))),(3,.c (.d (.v (.int .i64 x2)))),(4,.c (.d (.v (.int .u8 (s.1.toNat:Int))))),(5,.c (.d (.v (.bool s.2))))]) (fun s=>[]) [] o1 ?_ ?_
   ·rcases Jc H with⟨hp6,H⟩|⟨hp6,H⟩
    ·obtain⟨F,G,hq6⟩:=xH Y G hp6
     rcases Jc H with⟨hp7,H⟩|⟨hp7,H⟩
     ·obtain⟨F,G,hq7⟩:=xH F G hp7
      obtain⟨hg3,H⟩:=Jg H
      rcases Jc H with⟨hp8,H⟩|⟨hp8,H⟩
      ·obtain⟨F,G,hq8⟩:=xH F G hp8
       refine xR ?_
       exact Jd H (xK ⟨[],[]⟩)
      ·obtain⟨F,G,hq8⟩:=xH F G hp8
       obtain⟨hg4,H⟩:=Jg H
       refine xR ?_
       exact Jd H (xK ⟨[],[]⟩)
     ·obtain⟨F,G,hq7⟩:=xH F G hp7
      refine xR ?_
      exact Jd H (xK ⟨[],[]⟩)
    ·obtain⟨F,G,hq6⟩:=xH Y G hp6
     rcases Jc H with⟨hp9,H⟩|⟨hp9,H⟩
     ·obtain⟨F,G,hq9⟩:=xH F G hp9
      rcases Jc H with⟨hp10,H⟩|⟨hp10,H⟩
      ·obtain⟨F,G,hq10⟩:=xH F G hp10
       obtain⟨hg5,H⟩:=Jg H
       rcases Jc H with⟨hp11,H⟩|⟨hp11,H⟩
       ·obtain⟨F,G,hq11⟩:=xH F G hp11
        refine xR ?_
        exact Jd H (xK ⟨[],[]⟩)
       ·obtain⟨F,G,hq11⟩:=xH F G hp11
        obtain⟨hg6,H⟩:=Jg H
        refine xR ?_
        exact Jd H (xK ⟨[],[]⟩)
      ·obtain⟨F,G,hq10⟩:=xH F G hp10
       refine xR ?_
       exact Jd H (xK ⟨[],[]⟩)
     ·obtain⟨F,G,hq9⟩:=xH F G hp9
      refine xR ?_
      exact Jd H (xK ⟨[],[]⟩)
   ·rintro ⟨x3,x4⟩ H
    rw[KV]at H
    refine XV ?_
    refine JB (Xo a0 x2) (fun s=>[(0,.c (.d (.v (str a0)))),(3,.c (.d (.v (.int .i64 x2)))),(52,.c (.d (.v (.bool s))))]) (fun s=>[]) [] o1 ?_ ?_
    ·rcases Jc H with⟨hp3,H⟩|⟨hp3,H⟩
     ·obtain⟨F,G,hq3⟩:=xH Y G hp3
      rcases Jc H with⟨hp4,H⟩|⟨hp4,H⟩
      ·obtain⟨F,G,hq4⟩:=xH F G hp4
       obtain⟨r1,hr1,H⟩:=Je H
       have F:=xCf F (Jdt x3 r1 hr1)
       rcases Jc H with⟨hp5,H⟩|⟨hp5,H⟩
       ·obtain⟨F,G,hq5⟩:=xH F G hp5
        obtain⟨r2,hr2,H⟩:=Je H
        have F:=xCf F (Jcs x3 r2 hr2)
        refine xR ?_
        exact Jd H (xK ⟨[],[]⟩)
       ·obtain⟨F,G,hq5⟩:=xH F G hp5
        refine xR ?_
        exact Jd H (xK ⟨[],[]⟩)
      ·obtain⟨F,G,hq4⟩:=xH F G hp4
       refine xR ?_
       exact Jd H (xK ⟨[],[]⟩)
     ·obtain⟨F,G,hq3⟩:=xH Y G hp3
      refine xR ?_
      exact Jd H (xK ⟨[],[]⟩)
    ·rintro x5 H
     rw[Xo]at H
     rcases Jc H with⟨hp2,H⟩|⟨hp2,H⟩
     ·obtain⟨F,G,hq2⟩:=xH Y G hp2
      replace H:=Jq H hF1
      refine xT ?_
      exact Jd H (xK ⟨[],[]⟩)
     ·obtain⟨F,G,hq2⟩:=xH Y G hp2
      refine xE ?_
      refine xr ?_
      exact JJ (J2 H hF1) (xK ⟨[],[]⟩)
  ·obtain⟨F,G,hq1⟩:=xH Y G hp1
   replace H:=Jq H hF1
   refine xE ?_
   exact Jd H (xK ⟨[],[]⟩)
 ·rintro x1 H
  rw[Zb]at H
  refine xS ?_
  obtain⟨hg1,H⟩:=Jg H
  replace H:=Option.some.inj H
  refine xr ?_
  subst H
  exact xN
theorem Jjn(a0:List UInt8)(r:(List UInt8))(H:Jay a0=some r):PC Jc0 [dS a0] (dS r):=PF.c (a:=a0) H
noncomputable def Jah:Int→Option (Int ⊕ (List UInt8))
 | x2=>some (.inl (IntKind.i64.wrap (x2+1)))
noncomputable def X7(x1:Int):Bool→Option (Int ⊕ (List UInt8))
 | x3=>if x3=true then Jah (IntKind.i64.wrap (x1+1)) else Jah x1
noncomputable def Z9(a0:List UInt8):Int→Option (Int ⊕ (List UInt8))
 | x1=>if(ltI x1 (a0.length:Int))=true then if(0:Int)≤x1∧x1.toNat<a0.length then if(eqI ((a0.getD x1.toNat 0).toNat:Int) 10)=true then inrO (some []) else if(0:Int)≤x1∧x1.toNat<a0.length then if 0<a0.length then if(eqI ((a0.getD x1.toNat 0).toNat:Int) ((a0.getD 0 0).toNat:Int))=true then if(0:Int)≤0∧0≤(IntKind.i64.wrap (x1+1))∧(IntKind.i64.wrap (x1+1))≤(a0.length:Int) then inrO (some (List.take ((IntKind.i64.wrap (x1+1)).toNat) a0)) else none else if(0:Int)≤x1∧x1.toNat<a0.length then if(eqI ((a0.getD x1.toNat 0).toNat:Int) 92)=true then if(ltI (IntKind.i64.wrap (x1+1)) (a0.length:Int))=true then if(0:Int)≤(IntKind.i64.wrap (x1+1))∧(IntKind.i64.wrap (x1+1)).toNat<a0.length then X7 x1 (!eqI ((a0.getD ((IntKind.i64.wrap (x1+1)).toNat) 0).toNat:Int) 10) else none else X7 x1 false else X7 x1 false else none else none else none else none else inrO (some [])
noncomputable def Zo(a0:List UInt8):Option (List UInt8) :=
 Ju (Z9 a0) 1
noncomputable def Jc8:PF:=PF.of (E1 dS) (fun a=>Zo a) dS
theorem JiW:Kt Try.prog 54 Jc8:=by
 refine xF mixed [] [] trivial trivial Try.func54 ?_
 rintro a0 out H
 have G:=True.intro
 have Y:=xZ y_9 <| Try.results54
 simp only[Zo]at H
 refine xS ?_
 refine xr ?_
 refine xr ?_
 refine KH (Z9 a0) (fun s=>[(0,.c (.d (.v (str a0)))),(3,.c (.d (.v (.int .i64 s))))]) (fun s=>[]) [] H (xK ⟨[],[]⟩) ?_
 rintro n1 x1 o1 H hF1
 rw[Z9]at H
 refine xS ?_
 refine xr ?_
 rcases Jc H with⟨hp1,H⟩|⟨hp1,H⟩
 ·obtain⟨F,G,hq1⟩:=xH Y G hp1
  refine xT0 ?_
  refine JbD ?_
  refine Jn ?_
  refine JB Jah (fun s=>[(0,.c (.d (.v (str a0)))),(3,.c (.d (.v (.int .i64 s))))]) (fun s=>[]) [] o1 ?_ ?_
  ·refine xS ?_
   obtain⟨hg1,H⟩:=Jg H
   refine xr ?_
   rcases Jc H with⟨hp2,H⟩|⟨hp2,H⟩
   ·obtain⟨F,G,hq2⟩:=xH Y G hp2
    refine xT ?_
    replace H:=Jq H hF1
    replace H:=Option.some.inj H
    refine xr ?_
    subst H
    exact xN
   ·obtain⟨F,G,hq2⟩:=xH Y G hp2
    refine xE ?_
    obtain⟨hg2,H⟩:=Jg H
    obtain⟨hg3,H⟩:=Jg H
    refine xr ?_
    rcases Jc H with⟨hp3,H⟩|⟨hp3,H⟩
    ·obtain⟨F,G,hq3⟩:=xH Y G hp3
     refine xT ?_
     obtain⟨hg4,H⟩:=Jg H
     replace H:=Jq H hF1
     replace H:=Option.some.inj H
     refine xr ?_
     subst H
     exact xN
    ·obtain⟨F,G,hq3⟩:=xH Y G hp3
     refine xE0 ?_
     refine JbD ?_
     refine Jn ?_
     refine JB (X7 x1) (fun s=>[(0,.c (.d (.v (str a0)))),(3,.c (.d (.v (.int .i64 x1)))),(41,.c (.d (.v (.bool s))))]) (fun s=>[]) [] o1 ?_ ?_
     ·obtain⟨hg5,H⟩:=Jg H
      rcases Jc H with⟨hp5,H⟩|⟨hp5,H⟩
      ·obtain⟨F,G,hq5⟩:=xH Y G hp5
       rcases Jc H with⟨hp6,H⟩|⟨hp6,H⟩
       ·obtain⟨F,G,hq6⟩:=xH F G hp6
        obtain⟨hg6,H⟩:=Jg H
        refine xR ?_
        exact Jd H (xK ⟨[],[]⟩)
       ·obtain⟨F,G,hq6⟩:=xH F G hp6
        refine xR ?_
        exact Jd H (xK ⟨[],[]⟩)
      ·obtain⟨F,G,hq5⟩:=xH Y G hp5
       refine xR ?_
       exact Jd H (xK ⟨[],[]⟩)
     ·rintro x3 H
      rw[X7]at H
      rcases Jc H with⟨hp4,H⟩|⟨hp4,H⟩
      ·obtain⟨F,G,hq4⟩:=xH Y G hp4
       refine xT ?_
       refine xr ?_
       exact Jd H (xK ⟨[],[]⟩)
      ·obtain⟨F,G,hq4⟩:=xH Y G hp4
       refine xE ?_
       exact Jd H (xK ⟨[],[]⟩)
  ·rintro x2 H
   rw[Jah]at H
   refine xr ?_
   exact JJ (J2 H hF1) (xK ⟨[],[]⟩)
 ·obtain⟨F,G,hq1⟩:=xH Y G hp1
  replace H:=Jq H hF1
  refine xE ?_
  replace H:=Option.some.inj H
  refine xr ?_
  subst H
  exact xN
theorem Jfp(a0:List UInt8)(r:(List UInt8))(H:Zo a0=some r):PC Jc8 [dS a0] (dS r):=PF.c (a:=a0) H
noncomputable def Jcg  : Option (List (List UInt8)) :=
 some [[46,46,46],[60,60,61],[62,62,61],[45,62],[43,43],[45,45],[60,60],[62,62],[60,61],[62,61],[61,61],[33,61],[38,38],[124,124],[43,61],[45,61],[42,61],[47,61],[37,61],[38,61],[124,61],[94,61],[35,35],[91],[93],[40],[41],[123],[125],[46],[38],[42],[43],[45],[126],[33],[47],[37],[60],[62],[94],[124],[63],[58],[59],[61],[44],[35]]
noncomputable def Jds:PF:=PF.of E0 (fun _=>Jcg) (dL 1 dS)
theorem Jjo:Kt Try.prog 76 Jds:=by
 refine xF mixed [] [] trivial trivial Try.func76 ?_
 rintro _ out H
 have G:=True.intro
 have Y:=xZ y_9 <| xZ y_41 <| Try.results76
 simp only[Jcg]at H
 refine xS ?_
 refine xr ?_
 replace H:=Option.some.inj H
 refine xr ?_
 subst H
 exact xN
theorem Jkn  (r:(List (List UInt8))) (H:Jcg  = some r):PC Jds [] ((dL 1 dS) r):=PF.c (a:=()) H
noncomputable def Ja3(x5:Int)(x6:Int):(List UInt8)→Option (((List UInt8)×Int×Int) ⊕ (((List UInt8)×Int) ⊕ (List UInt8)))
 | x7=>some (.inl (x7,x5,IntKind.i64.wrap (x6+1)))
noncomputable def ZY(a0:List UInt8)(x2:Int)(r1:(List (List UInt8))):((List UInt8)×Int×Int)→Option (((List UInt8)×Int×Int) ⊕ (((List UInt8)×Int) ⊕ (List UInt8)))
 | (x4,x5,x6)=>if(ltI x6 x5)=true then if(0:Int)≤x6∧x6.toNat<r1.length then if(0:Int)≤0∧0≤x2∧x2≤(a0.length:Int) then if(eqS (r1.getD x6.toNat default) (List.take x2.toNat a0))=true then Ja3 x5 x6 (r1.getD x6.toNat default) else Ja3 x5 x6 x4 else none else none else inrO (some (.inl (x4,IntKind.i64.wrap (x2+1))))
noncomputable def ZX(a0:List UInt8)(x1:List UInt8)(x2:Int):Bool→Option (((List UInt8)×Int) ⊕ (List UInt8))
 | x3=>if x3=true then(Jcg).bind fun r1=>Ju (ZY a0 x2 r1) (x1,(r1.length:Int),0) else inrO (some x1)
noncomputable def ZV(a0:List UInt8):((List UInt8)×Int)→Option (((List UInt8)×Int) ⊕ (List UInt8))
 | (x1,x2)=>if(leI x2 3)=true then ZX a0 x1 x2 (leI x2 (a0.length:Int)) else ZX a0 x1 x2 false
noncomputable def JbQ(a0:List UInt8):Option (List UInt8) :=
 Ju (ZV a0) ([],1)
noncomputable def Jd8:PF:=PF.of (E1 dS) (fun a=>JbQ a) dS
theorem Jkm:Kt Try.prog 55 Jd8:=by
 refine xF mixed [(76,Jds)] [] ⟨⟨Juj,Jjo⟩,trivial⟩ trivial Try.func55 ?_
 rintro a0 out H
 have G:=True.intro
 have Y:=xZ y_9 <| xZ y_41 <| Try.results55
 simp only[JbQ]at H
 refine xS ?_
 refine xr ?_
 refine xr ?_
 refine xr ?_
 refine KH (ZV a0) (fun s=>[(0,.c (.d (.v (str a0)))),(3,.c (.d (.v (str s.1)))),(4,.c (.d (.v (.int .i64 s.2))))]) (fun s=>[]) [] H (xK ⟨[],[]⟩) ?_
 rintro n1 ⟨x1,x2⟩ o1 H hF1
 rw[ZV]at H
 refine XV ?_
 refine JB (ZX a0 x1 x2) (fun s=>[(0,.c (.d (.v (str a0)))),(3,.c (.d (.v (str x1)))),(4,.c (.d (.v (.int .i64 x2)))),(14,.c (.d (.v (.bool s))))]) (fun s=>[]) [] o1 ?_ ?_
 ·rcases Jc H with⟨hp4,H⟩|⟨hp4,H⟩
  ·obtain⟨F,G,hq4⟩:=xH Y G hp4
   refine xR ?_
   exact Jd H (xK ⟨[],[]⟩)
  ·obtain⟨F,G,hq4⟩:=xH Y G hp4
   refine xR ?_
   exact Jd H (xK ⟨[],[]⟩)
 ·rintro x3 H
  rw[ZX]at H
  rcases Jc H with⟨hp1,H⟩|⟨hp1,H⟩
  ·obtain⟨F,G,hq1⟩:=xH Y G hp1
   refine xT ?_
   obtain⟨r1,hr1,H⟩:=Je H
   have F:=xC Y (Jkn  r1 hr1)
   refine xR ?_
   refine KH (ZY a0 x2 r1) (fun s=>[(0,.c (.d (.v (str a0)))),(3,.c (.d (.v (str s.1)))),(4,.c (.d (.v (.int .i64 x2)))),(17,.c (.d (.sl 1 (List.map dS r1)))),(18,.c (.d (.v (.int .i64 s.2.1)))),(19,.c (.d (.v (.int .i64 s.2.2))))]) (fun s=>[]) [] H (xK ⟨[],[]⟩) ?_
   rintro n2 ⟨x4,x5,x6⟩ o2 H hF2
   rw[ZY]at H
   refine xS ?_
   refine xr ?_
   rcases Jc H with⟨hp2,H⟩|⟨hp2,H⟩
   ·obtain⟨F,G,hq2⟩:=xH Y G hp2
    refine xT0 ?_
    refine JbD ?_
    refine Jn ?_
    refine JB (Ja3 x5 x6) (fun s=>[(0,.c (.d (.v (str a0)))),(3,.c (.d (.v (str s)))),(4,.c (.d (.v (.int .i64 x2)))),(17,.c (.d (.sl 1 (List.map dS r1)))),(18,.c (.d (.v (.int .i64 x5)))),(19,.c (.d (.v (.int .i64 x6))))]) (fun s=>[]) [] o2 ?_ ?_
    ·refine xS ?_
     obtain⟨hg1,H⟩:=Jg H
     have F:=xZ Y (Jv dS r1 x6.toNat default default (by omega))
     refine xR ?_
     obtain⟨hg2,H⟩:=Jg H
     refine xr ?_
     rcases Jc H with⟨hp3,H⟩|⟨hp3,H⟩
     ·obtain⟨F,G,hq3⟩:=xH Y G hp3
      refine xT ?_
      refine xr ?_
      exact Jd H (xK ⟨[],[]⟩)
     ·obtain⟨F,G,hq3⟩:=xH Y G hp3
      refine xE ?_
      exact Jd H (xK ⟨[],[]⟩)
    ·rintro x7 H
     rw[Ja3]at H
     refine xr ?_
     exact JJ (J2 H hF2) (xK ⟨[],[]⟩)
   ·obtain⟨F,G,hq2⟩:=xH Y G hp2
    replace H:=Jq H hF2
    refine xE ?_
    refine xr ?_
    exact JJ (J2 H hF1) (xK ⟨[],[]⟩)
  ·obtain⟨F,G,hq1⟩:=xH Y G hp1
   replace H:=Jq H hF1
   refine xE ?_
   replace H:=Option.some.inj H
   refine xr ?_
   subst H
   exact xN
theorem JkD(a0:List UInt8)(r:(List UInt8))(H:JbQ a0=some r):PC Jd8 [dS a0] (dS r):=PF.c (a:=a0) H
noncomputable def ZB(a0:List UInt8):Unit→Option (Int×(List UInt8))
 | ()=>(JbQ a0).bind fun r1=>if(!eqS r1 [])=true then some (5,r1) else if(0:Int)≤0∧0≤1∧1≤(a0.length:Int) then some (6,List.take 1 a0) else none
noncomputable def Xv(a0:List UInt8)(x1:Int):Bool→Option (Int ⊕ (Int×(List UInt8)))
 | x2=>if x2=true then some (.inl (IntKind.i64.wrap (x1+1))) else inrO (if(0:Int)≤0∧0≤x1∧x1≤(a0.length:Int) then some (1,List.take x1.toNat a0) else none)
noncomputable def Zq(a0:List UInt8):Int→Option (Int ⊕ (Int×(List UInt8)))
 | x1=>if(ltI x1 (a0.length:Int))=true then if(0:Int)≤x1∧x1.toNat<a0.length then(Xb (a0.getD x1.toNat 0)).bind fun r3=>if r3=true then Xv a0 x1 true else if(0:Int)≤x1∧x1.toNat<a0.length then(V7 (a0.getD x1.toNat 0)).bind fun r4=>Xv a0 x1 r4 else none else none else Xv a0 x1 false
noncomputable def JaM(a0:List UInt8)(x6:Int):Bool→Option (Int ⊕ (Int×(List UInt8)))
 | x7=>if x7=true then if(0:Int)≤x6∧x6.toNat<a0.length then if(eqI ((a0.getD x6.toNat 0).toNat:Int) 62)=true then if(0:Int)≤0∧0≤(IntKind.i64.wrap (x6+1))∧(IntKind.i64.wrap (x6+1))≤(a0.length:Int) then inrO (some (7,List.take ((IntKind.i64.wrap (x6+1)).toNat) a0)) else none else some (.inl (IntKind.i64.wrap (x6+1))) else none else inrO (ZB a0 ())
noncomputable def ZC(a0:List UInt8):Int→Option (Int ⊕ (Int×(List UInt8)))
 | x6=>if(ltI x6 (a0.length:Int))=true then if(0:Int)≤x6∧x6.toNat<a0.length then JaM a0 x6 (!eqI ((a0.getD x6.toNat 0).toNat:Int) 10) else none else JaM a0 x6 false
noncomputable def Vz(a0:List UInt8):Bool→Option (Int×(List UInt8))
 | x5=>if x5=true then Ju (ZC a0) 1 else ZB a0 ()
noncomputable def V6(a0:List UInt8)(a1:Bool):(UInt8×Bool)→Option (Int×(List UInt8))
 | (x3,x4)=>if x4=true then(Jay a0).bind fun r5=>some (2,r5) else if(eqI (x3.toNat:Int) 34)=true then(Zo a0).bind fun r6=>some (4,r6) else if(eqI (x3.toNat:Int) 39)=true then(Zo a0).bind fun r7=>some (3,r7) else if(eqI (x3.toNat:Int) 60)=true then Vz a0 a1 else Vz a0 false
noncomputable def Z5(a0:List UInt8)(a1:Bool):Option (Int×(List UInt8)) :=
 if 0<a0.length then(Xb (a0.getD 0 0)).bind fun r2=>if r2=true then Ju (Zq a0) 0 else(V7 (a0.getD 0 0)).bind fun r8=>if r8=true then V6 a0 a1 ((a0.getD 0 0),true) else if(eqI ((a0.getD 0 0).toNat:Int) 46)=true then if(ltI 1 (a0.length:Int))=true then if 1<a0.length then(V7 (a0.getD 1 0)).bind fun r9=>V6 a0 a1 ((a0.getD 0 0),r9) else none else V6 a0 a1 ((a0.getD 0 0),false) else V6 a0 a1 ((a0.getD 0 0),false) else none
noncomputable def Jdr:PF:=PF.of (E2 dS dB) (fun a=>Z5 a.1 a.2) (T2 dI dS)
theorem Jjq:Kt Try.prog 29 Jdr:=by
 refine xF mixed [(55,Jd8),(51,JbB),(52,JbZ),(53,Jc0),(54,Jc8)] [] ⟨⟨Juy,Jkm⟩,⟨JpH,Je3⟩,⟨Jo5,Jft⟩,⟨Jt2,JiO⟩,⟨JuA,JiW⟩,trivial⟩ trivial Try.func29 ?_
 rintro ⟨a0,a1⟩ out H
 have G:=True.intro
 have Y:=xZ y_9 <| Try.results29
 simp only[Z5]at H
 refine xS ?_
 refine xr0 ?_
 refine Jn ?_
 refine JB (ZB a0) (fun s=>[(0,.c (.d (.v (str a0))))]) (fun s=>[]) [] out ?_ ?_
 ·refine xS ?_
  obtain⟨hg2,H⟩:=Jg H
  refine xr ?_
  obtain⟨r2,hr2,H⟩:=Je H
  have F:=xC Y (Jdt (a0.getD 0 0) r2 hr2)
  refine xR ?_
  rcases Jc H with⟨hp2,H⟩|⟨hp2,H⟩
  ·obtain⟨F,G,hq2⟩:=xH Y G hp2
   refine xT ?_
   refine xr ?_
   refine KH (Zq a0) (fun s=>[(0,.c (.d (.v (str a0)))),(7,.c (.d (.v (.int .i64 s))))]) (fun s=>[]) [] H (xK ⟨[],[]⟩) ?_
   rintro n1 x1 o1 H hF1
   rw[Zq]at H
   refine XV ?_
   refine JB (Xv a0 x1) (fun s=>[(0,.c (.d (.v (str a0)))),(7,.c (.d (.v (.int .i64 x1)))),(30,.c (.d (.v (.bool s))))]) (fun s=>[]) [] o1 ?_ ?_
   ·rcases Jc H with⟨hp4,H⟩|⟨hp4,H⟩
    ·obtain⟨F,G,hq4⟩:=xH Y G hp4
     obtain⟨hg4,H⟩:=Jg H
     obtain⟨r3,hr3,H⟩:=Je H
     have F:=xCf F (Jdt (a0.getD x1.toNat 0) r3 hr3)
     rcases Jc H with⟨hp5,H⟩|⟨hp5,H⟩
     ·obtain⟨F,G,hq5⟩:=xH F G hp5
      refine xR ?_
      exact Jd H (xK ⟨[],[]⟩)
     ·obtain⟨F,G,hq5⟩:=xH F G hp5
      obtain⟨hg5,H⟩:=Jg H
      obtain⟨r4,hr4,H⟩:=Je H
      have F:=xCf F (Jcs (a0.getD x1.toNat 0) r4 hr4)
      refine xR ?_
      exact Jd H (xK ⟨[],[]⟩)
    ·obtain⟨F,G,hq4⟩:=xH Y G hp4
     refine xR ?_
     exact Jd H (xK ⟨[],[]⟩)
   ·rintro x2 H
    rw[Xv]at H
    rcases Jc H with⟨hp3,H⟩|⟨hp3,H⟩
    ·obtain⟨F,G,hq3⟩:=xH Y G hp3
     refine xT ?_
     refine xr ?_
     exact JJ (J2 H hF1) (xK ⟨[],[]⟩)
    ·obtain⟨F,G,hq3⟩:=xH Y G hp3
     replace H:=Jq H hF1
     refine xE ?_
     obtain⟨hg3,H⟩:=Jg H
     replace H:=Option.some.inj H
     refine xr ?_
     subst H
     exact xN
  ·obtain⟨F,G,hq2⟩:=xH Y G hp2
   refine xE0 ?_
   refine JB (V6 a0 a1) (fun s=>[(0,.c (.d (.v (str a0)))),(1,.c (.d (.v (.bool a1)))),(6,.c (.d (.v (.int .u8 (s.1.toNat:Int))))),(36,.c (.d (.v (.bool s.2))))]) (fun s=>[]) [] out ?_ ?_
   ·obtain⟨r8,hr8,H⟩:=Je H
    have F:=xC Y (Jcs (a0.getD 0 0) r8 hr8)
    rcases Jc H with⟨hp14,H⟩|⟨hp14,H⟩
    ·obtain⟨F,G,hq14⟩:=xH F G hp14
     refine xR ?_
     exact Jd H (xK ⟨[],[]⟩)
    ·obtain⟨F,G,hq14⟩:=xH F G hp14
     rcases Jc H with⟨hp15,H⟩|⟨hp15,H⟩
     ·obtain⟨F,G,hq15⟩:=xH F G hp15
      rcases Jc H with⟨hp16,H⟩|⟨hp16,H⟩
      ·obtain⟨F,G,hq16⟩:=xH F G hp16
       obtain⟨hg9,H⟩:=Jg H
       obtain⟨r9,hr9,H⟩:=Je H
       have F:=xCf F (Jcs (a0.getD 1 0) r9 hr9)
       refine xR ?_
       exact Jd H (xK ⟨[],[]⟩)
      ·obtain⟨F,G,hq16⟩:=xH F G hp16
       refine xR ?_
       exact Jd H (xK ⟨[],[]⟩)
     ·obtain⟨F,G,hq15⟩:=xH F G hp15
      refine xR ?_
      exact Jd H (xK ⟨[],[]⟩)
   ·rintro ⟨x3,x4⟩ H
    rw[V6]at H
    rcases Jc H with⟨hp6,H⟩|⟨hp6,H⟩
    ·obtain⟨F,G,hq6⟩:=xH Y G hp6
     refine xT ?_
     obtain⟨r5,hr5,H⟩:=Je H
     have F:=xC Y (Jjn a0 r5 hr5)
     replace H:=Option.some.inj H
     refine xR ?_
     subst H
     exact xN
    ·obtain⟨F,G,hq6⟩:=xH Y G hp6
     refine xE ?_
     refine xr ?_
     rcases Jc H with⟨hp7,H⟩|⟨hp7,H⟩
     ·obtain⟨F,G,hq7⟩:=xH Y G hp7
      refine xT ?_
      obtain⟨r6,hr6,H⟩:=Je H
      have F:=xC Y (Jfp a0 r6 hr6)
      replace H:=Option.some.inj H
      refine xR ?_
      subst H
      exact xN
     ·obtain⟨F,G,hq7⟩:=xH Y G hp7
      refine xE ?_
      refine xr ?_
      rcases Jc H with⟨hp8,H⟩|⟨hp8,H⟩
      ·obtain⟨F,G,hq8⟩:=xH Y G hp8
       refine xT ?_
       obtain⟨r7,hr7,H⟩:=Je H
       have F:=xC Y (Jfp a0 r7 hr7)
       replace H:=Option.some.inj H
       refine xR ?_
       subst H
       exact xN
      ·obtain⟨F,G,hq8⟩:=xH Y G hp8
       refine xE0 ?_
       refine JB (Vz a0) (fun s=>[(0,.c (.d (.v (str a0)))),(65,.c (.d (.v (.bool s))))]) (fun s=>[]) [] out ?_ ?_
       ·rcases Jc H with⟨hp13,H⟩|⟨hp13,H⟩
        ·obtain⟨F,G,hq13⟩:=xH Y G hp13
         refine xR ?_
         exact Jd H (xK ⟨[],[]⟩)
        ·obtain⟨F,G,hq13⟩:=xH Y G hp13
         refine xR ?_
         exact Jd H (xK ⟨[],[]⟩)
       ·rintro x5 H
        rw[Vz]at H
        rcases Jc H with⟨hp9,H⟩|⟨hp9,H⟩
        ·obtain⟨F,G,hq9⟩:=xH Y G hp9
         refine xT ?_
         refine xr ?_
         refine KH (ZC a0) (fun s=>[(0,.c (.d (.v (str a0)))),(8,.c (.d (.v (.int .i64 s))))]) (fun s=>[]) [] H (xK ⟨[],[]⟩) ?_
         rintro n2 x6 o2 H hF2
         rw[ZC]at H
         refine XV ?_
         refine JB (JaM a0 x6) (fun s=>[(0,.c (.d (.v (str a0)))),(8,.c (.d (.v (.int .i64 x6)))),(80,.c (.d (.v (.bool s))))]) (fun s=>[]) [] o2 ?_ ?_
         ·rcases Jc H with⟨hp12,H⟩|⟨hp12,H⟩
          ·obtain⟨F,G,hq12⟩:=xH Y G hp12
           obtain⟨hg8,H⟩:=Jg H
           refine xR ?_
           exact Jd H (xK ⟨[],[]⟩)
          ·obtain⟨F,G,hq12⟩:=xH Y G hp12
           refine xR ?_
           exact Jd H (xK ⟨[],[]⟩)
         ·rintro x7 H
          rw[JaM]at H
          rcases Jc H with⟨hp10,H⟩|⟨hp10,H⟩
          ·obtain⟨F,G,hq10⟩:=xH Y G hp10
           refine xT ?_
           obtain⟨hg6,H⟩:=Jg H
           refine xr ?_
           rcases Jc H with⟨hp11,H⟩|⟨hp11,H⟩
           ·obtain⟨F,G,hq11⟩:=xH Y G hp11
            refine xT ?_
            obtain⟨hg7,H⟩:=Jg H
            replace H:=Jq H hF2
            replace H:=Option.some.inj H
            refine xr ?_
            subst H
            exact xN
           ·obtain⟨F,G,hq11⟩:=xH Y G hp11
            refine xE ?_
            refine xr ?_
            exact JJ (J2 H hF2) (xK ⟨[],[]⟩)
          ·obtain⟨F,G,hq10⟩:=xH Y G hp10
           replace H:=Jq H hF2
           refine xE ?_
           exact Jd H (xK ⟨[],[]⟩)
        ·obtain⟨F,G,hq9⟩:=xH Y G hp9
         refine xE ?_
         exact Jd H (xK ⟨[],[]⟩)
 ·rintro ⟨⟩ H
  rw[ZB]at H
  refine xS ?_
  obtain⟨r1,hr1,H⟩:=Je H
  have F:=xC Y (JkD a0 r1 hr1)
  refine xR ?_
  refine xr ?_
  rcases Jc H with⟨hp1,H⟩|⟨hp1,H⟩
  ·obtain⟨F,G,hq1⟩:=xH Y G hp1
   refine xT ?_
   replace H:=Option.some.inj H
   refine xr ?_
   subst H
   exact xN
  ·obtain⟨F,G,hq1⟩:=xH Y G hp1
   refine xE ?_
   obtain⟨hg1,H⟩:=Jg H
   replace H:=Option.some.inj H
   refine xr ?_
   subst H
   exact xN
theorem Jj6(a0:List UInt8)(a1:Bool)(r:Int×(List UInt8))(H:Z5 a0 a1=some r):PC Jdr [dS a0,dB a1] (T2 dI dS r):=PF.c (a:=(a0,a1)) H
noncomputable def Jbo(x2:Int):Int→Option ((Int×Int) ⊕ Int)
 | x4=>some (.inl (x4,IntKind.i64.wrap (x2+1)))
noncomputable def Ja6(a0:List UInt8)(x1:Int)(x2:Int):Bool→Option ((Int×Int) ⊕ Int)
 | x3=>if x3=true then if(0:Int)≤x2∧x2.toNat<a0.length then if(eqI ((a0.getD x2.toNat 0).toNat:Int) 10)=true then Jbo x2 (IntKind.i64.wrap (x1+1)) else Jbo x2 x1 else none else inrO (some x1)
noncomputable def Jbd(a0:List UInt8)(a1:Int):(Int×Int)→Option ((Int×Int) ⊕ Int)
 | (x1,x2)=>if(ltI x2 a1)=true then Ja6 a0 x1 x2 (ltI x2 (a0.length:Int)) else Ja6 a0 x1 x2 false
noncomputable def JbN(a0:List UInt8)(a1:Int):Option Int :=
 Ju (Jbd a0 a1) (1,0)
noncomputable def JdO:PF:=PF.of (E2 dS dI) (fun a=>JbN a.1 a.2) dI
theorem JjL:Kt Try.prog 30 JdO:=by
 refine xF mixed [] [] trivial trivial Try.func30 ?_
 rintro ⟨a0,a1⟩ out H
 have G:=True.intro
 have Y:=xZ y_9 <| Try.results30
 simp only[JbN]at H
 refine xS ?_
 refine xr ?_
 refine xr ?_
 refine xr ?_
 refine KH (Jbd a0 a1) (fun s=>[(0,.c (.d (.v (str a0)))),(1,.c (.d (.v (.int .i64 a1)))),(5,.c (.d (.v (.int .i64 s.1)))),(6,.c (.d (.v (.int .i64 s.2))))]) (fun s=>[]) [] H (xK ⟨[],[]⟩) ?_
 rintro n1 ⟨x1,x2⟩ o1 H hF1
 rw[Jbd]at H
 refine XV ?_
 refine JB (Ja6 a0 x1 x2) (fun s=>[(0,.c (.d (.v (str a0)))),(1,.c (.d (.v (.int .i64 a1)))),(5,.c (.d (.v (.int .i64 x1)))),(6,.c (.d (.v (.int .i64 x2)))),(15,.c (.d (.v (.bool s))))]) (fun s=>[]) [] o1 ?_ ?_
 ·rcases Jc H with⟨hp3,H⟩|⟨hp3,H⟩
  ·obtain⟨F,G,hq3⟩:=xH Y G hp3
   refine xR ?_
   exact Jd H (xK ⟨[],[]⟩)
  ·obtain⟨F,G,hq3⟩:=xH Y G hp3
   refine xR ?_
   exact Jd H (xK ⟨[],[]⟩)
 ·rintro x3 H
  rw[Ja6]at H
  rcases Jc H with⟨hp1,H⟩|⟨hp1,H⟩
  ·obtain⟨F,G,hq1⟩:=xH Y G hp1
   refine xT0 ?_
   refine JbD ?_
   refine Jn ?_
   refine JB (Jbo x2) (fun s=>[(0,.c (.d (.v (str a0)))),(1,.c (.d (.v (.int .i64 a1)))),(5,.c (.d (.v (.int .i64 s)))),(6,.c (.d (.v (.int .i64 x2))))]) (fun s=>[]) [] o1 ?_ ?_
   ·refine xS ?_
    obtain⟨hg1,H⟩:=Jg H
    refine xr ?_
    rcases Jc H with⟨hp2,H⟩|⟨hp2,H⟩
    ·obtain⟨F,G,hq2⟩:=xH Y G hp2
     refine xT ?_
     refine xr ?_
     exact Jd H (xK ⟨[],[]⟩)
    ·obtain⟨F,G,hq2⟩:=xH Y G hp2
     refine xE ?_
     exact Jd H (xK ⟨[],[]⟩)
   ·rintro x4 H
    rw[Jbo]at H
    refine xr ?_
    exact JJ (J2 H hF1) (xK ⟨[],[]⟩)
  ·obtain⟨F,G,hq1⟩:=xH Y G hp1
   replace H:=Jq H hF1
   refine xE ?_
   replace H:=Option.some.inj H
   refine xr ?_
   subst H
   exact xN
theorem Jko(a0:List UInt8)(a1:Int)(r:Int)(H:JbN a0 a1=some r):PC JdO [dS a0,dI a1] (dI r):=PF.c (a:=(a0,a1)) H
noncomputable def KU(a0:Int)(a1:List UInt8)(r1:Spliced)(x1:List Token)(r2:Int×Bool)(x3:Int)(x4:Bool):Bool→Option (((List Token)×Int) ⊕ ((List Token)×Fault))
 | x5=>if(0:Int)≤x3∧x3≤(r1.Text.length:Int)∧(r1.Text.length:Int)≤(r1.Text.length:Int) then(Z5 (List.drop x3.toNat r1.Text) x5).bind fun r3=>if(eqS r3.2 [])=true then if(0:Int)≤x3∧x3.toNat<r1.At.length then inrO (some (([]:List Token),(⟨9,a0,(r1.At.getD x3.toNat default)⟩:Fault))) else none else if(0:Int)≤x3∧x3.toNat<r1.At.length then if(0:Int)≤(IntKind.i64.wrap ((IntKind.i64.wrap (x3+(r3.2.length:Int)))-1))∧(IntKind.i64.wrap ((IntKind.i64.wrap (x3+(r3.2.length:Int)))-1)).toNat<r1.At.length then if(0:Int)≤x3∧x3.toNat<r1.At.length then(JbN a1 (r1.At.getD x3.toNat default)).bind fun r4=>if(x1.length + [(⟨r3.1,r3.2,ltI 0 r2.1,x4,a0,(r1.At.getD x3.toNat default),IntKind.i64.wrap ((r1.At.getD ((IntKind.i64.wrap ((IntKind.i64.wrap (x3+(r3.2.length:Int)))-1)).toNat) default)+1),r4,([]:List (List UInt8)),([]:List Call),0⟩:Token)].length) * 120≤140737488355328 then some (.inl (x1++[(⟨r3.1,r3.2,ltI 0 r2.1,x4,a0,(r1.At.getD x3.toNat default),IntKind.i64.wrap ((r1.At.getD ((IntKind.i64.wrap ((IntKind.i64.wrap (x3+(r3.2.length:Int)))-1)).toNat) default)+1),r4,([]:List (List UInt8)),([]:List Call),0⟩:Token)],IntKind.i64.wrap (x3+(r3.2.length:Int)))) else none else none else none else none else none
noncomputable def Zc(a0:Int)(a1:List UInt8)(r1:Spliced)(x1:List Token)(r2:Int×Bool):(Int×Bool)→Option (((List Token)×Int) ⊕ ((List Token)×Fault))
 | (x3,x4)=>if(!x4)=true then if(leI 2 (x1.length:Int))=true then if(0:Int)≤(IntKind.i64.wrap ((x1.length:Int)-1))∧(IntKind.i64.wrap ((x1.length:Int)-1)).toNat<x1.length then if(eqS ((x1.getD ((IntKind.i64.wrap ((x1.length:Int)-1)).toNat) default).Text) [105,110,99,108,117,100,101])=true then if(0:Int)≤(IntKind.i64.wrap ((x1.length:Int)-1))∧(IntKind.i64.wrap ((x1.length:Int)-1)).toNat<x1.length then if(!((x1.getD ((IntKind.i64.wrap ((x1.length:Int)-1)).toNat) default).First))=true then if(0:Int)≤(IntKind.i64.wrap ((x1.length:Int)-2))∧(IntKind.i64.wrap ((x1.length:Int)-2)).toNat<x1.length then if(eqS ((x1.getD ((IntKind.i64.wrap ((x1.length:Int)-2)).toNat) default).Text) [35])=true then if(0:Int)≤(IntKind.i64.wrap ((x1.length:Int)-2))∧(IntKind.i64.wrap ((x1.length:Int)-2)).toNat<x1.length then KU a0 a1 r1 x1 r2 x3 x4 ((x1.getD ((IntKind.i64.wrap ((x1.length:Int)-2)).toNat) default).First) else none else KU a0 a1 r1 x1 r2 x3 x4 false else none else KU a0 a1 r1 x1 r2 x3 x4 false else none else KU a0 a1 r1 x1 r2 x3 x4 false else none else KU a0 a1 r1 x1 r2 x3 x4 false else KU a0 a1 r1 x1 r2 x3 x4 false
noncomputable def Xh(a0:Int)(a1:List UInt8)(r1:Spliced):((List Token)×Int)→Option (((List Token)×Int) ⊕ ((List Token)×Fault))
 | (x1,x2)=>if(0:Int)≤x2∧x2≤(r1.Text.length:Int)∧(r1.Text.length:Int)≤(r1.Text.length:Int) then(JbR (List.drop x2.toNat r1.Text)).bind fun r2=>if(ltI r2.1 0)=true then if(0:Int)≤(IntKind.i64.wrap ((IntKind.i64.wrap (x2-1))-r2.1))∧(IntKind.i64.wrap ((IntKind.i64.wrap (x2-1))-r2.1)).toNat<r1.At.length then inrO (some (([]:List Token),(⟨9,a0,(r1.At.getD ((IntKind.i64.wrap ((IntKind.i64.wrap (x2-1))-r2.1)).toNat) default)⟩:Fault))) else none else if(leI (r1.Text.length:Int) (IntKind.i64.wrap (x2+r2.1)))=true then inrO (some (x1,(⟨0,(-1),0⟩:Fault))) else if r2.2=true then Zc a0 a1 r1 x1 r2 (IntKind.i64.wrap (x2+r2.1),true) else Zc a0 a1 r1 x1 r2 (IntKind.i64.wrap (x2+r2.1),eqI (x1.length:Int) 0) else none
noncomputable def ZA(a0:Int)(a1:List UInt8):Option ((List Token)×Fault) :=
 if(ltI 3000 (a1.length:Int))=true then some (([]:List Token),(⟨4,a0,0⟩:Fault)) else(JaD a1).bind fun r1=>Ju (Xh a0 a1 r1) (([]:List Token),0)
noncomputable def JcZ:PF:=PF.of (E2 dI dS) (fun a=>ZA a.1 a.2) (T2 (dL 11 Jb) Kf)
theorem Ji1:Kt Try.prog 15 JcZ:=by
 refine xF mixed [(27,Jc3),(28,Jd6),(29,Jdr),(30,JdO)] [] ⟨⟨Jt8,JiQ⟩,⟨JtV,Jj7⟩,⟨Juq,Jjq⟩,⟨JtM,JjL⟩,trivial⟩ trivial Try.func15 ?_
 rintro ⟨a0,a1⟩ out H
 have G:=True.intro
 have Y:=xZ y_3 <| xZ y_4 <| xZ y_9 <| xZ y_22 <| xZ y_27 <| xZ y_29 <| xZ y_41 <| xZ y_42 <| xZ y_44 <| xZ y_78 <| xZ y_80 <| xZ Try.results15 <| xZ J9.eq_1 <| xZ Jb.eq_1 <| xZ ZU.eq_1 <| Kf.eq_1
 simp only[ZA]at H
 refine xS ?_
 refine xr ?_
 refine xr ?_
 rcases Jc H with⟨hp1,H⟩|⟨hp1,H⟩
 ·obtain⟨F,G,hq1⟩:=xH Y G hp1
  refine xT ?_
  replace H:=Option.some.inj H
  refine xr ?_
  subst H
  exact xN
 ·obtain⟨F,G,hq1⟩:=xH Y G hp1
  refine xE ?_
  obtain⟨r1,hr1,H⟩:=Je H
  have F:=xC Y (Jjl a1 r1 hr1)
  refine xR ?_
  refine xr ?_
  refine xr ?_
  refine KH (Xh a0 a1 r1) (fun s=>[(0,.c (.d (.v (.int .i64 a0)))),(1,.c (.d (.v (str a1)))),(5,.c (.pt 1 0)),(6,.c (.pt 2 0)),(7,.c (.sl 11 (List.map Jb s.1) 3)),(8,.c (.d (.v (.int .i64 s.2))))]) (fun s=>[[.d (.v (.int .i64 0)),.d (.v (.int .i64 0)),.d (.v (.int .i64 0))],[.d (.v (str r1.Text)),.d (.sl 1 (List.map dI r1.At))]]) [44] H (xK ⟨[1,2],[0]⟩) ?_
  rintro n1 ⟨x1,x2⟩ o1 H hF1
  rw[Xh]at H
  refine xS ?_
  obtain⟨hg1,H⟩:=Jg H
  obtain⟨r2,hr2,H⟩:=Je H
  have F:=xC Y (Jkv (List.drop x2.toNat r1.Text) r2 hr2)
  refine xR ?_
  refine xr ?_
  rcases Jc H with⟨hp2,H⟩|⟨hp2,H⟩
  ·obtain⟨F,G,hq2⟩:=xH Y G hp2
   refine xT ?_
   obtain⟨hg2,H⟩:=Jg H
   have F:=xZ Y (Jv dI r1.At ((IntKind.i64.wrap ((IntKind.i64.wrap (x2-1))-r2.1)).toNat) default default (by omega))
   replace H:=Jq H hF1
   replace H:=Option.some.inj H
   refine xR ?_
   subst H
   exact xN
  ·obtain⟨F,G,hq2⟩:=xH Y G hp2
   refine xE ?_
   refine xr ?_
   refine xr ?_
   rcases Jc H with⟨hp3,H⟩|⟨hp3,H⟩
   ·obtain⟨F,G,hq3⟩:=xH Y G hp3
    refine xT ?_
    replace H:=Jq H hF1
    replace H:=Option.some.inj H
    refine xr ?_
    subst H
    exact xN
   ·obtain⟨F,G,hq3⟩:=xH Y G hp3
    refine xE0 ?_
    refine JbD ?_
    refine Jn ?_
    refine JB (Zc a0 a1 r1 x1 r2) (fun s=>[(0,.c (.d (.v (.int .i64 a0)))),(1,.c (.d (.v (str a1)))),(5,.c (.pt 1 0)),(6,.c (.pt 2 0)),(7,.c (.sl 11 (List.map Jb x1) 3)),(8,.c (.d (.v (.int .i64 s.1)))),(9,.c (.d (.v (.int .i64 r2.1)))),(11,.c (.d (.v (.bool s.2))))]) (fun s=>[[.d (.v (.int .i64 0)),.d (.v (.int .i64 0)),.d (.v (.int .i64 0))],[.d (.v (str r1.Text)),.d (.sl 1 (List.map dI r1.At))]]) [44] o1 ?_ ?_
    ·rcases Jc H with⟨hp10,H⟩|⟨hp10,H⟩
     ·obtain⟨F,G,hq10⟩:=xH Y G hp10
      refine xR ?_
      exact Jd H (xK ⟨[1,2],[3]⟩)
     ·obtain⟨F,G,hq10⟩:=xH Y G hp10
      refine xR ?_
      exact Jd H (xK ⟨[1,2],[3]⟩)
    ·rintro ⟨x3,x4⟩ H
     rw[Zc]at H
     refine xS ?_
     refine xr0 ?_
     refine Jn ?_
     refine JB (KU a0 a1 r1 x1 r2 x3 x4) (fun s=>[(0,.c (.d (.v (.int .i64 a0)))),(1,.c (.d (.v (str a1)))),(5,.c (.pt 1 0)),(6,.c (.pt 2 0)),(7,.c (.sl 11 (List.map Jb x1) 3)),(8,.c (.d (.v (.int .i64 x3)))),(9,.c (.d (.v (.int .i64 r2.1)))),(11,.c (.d (.v (.bool x4)))),(13,.c (.d (.v (.bool s))))]) (fun s=>[[.d (.v (.int .i64 0)),.d (.v (.int .i64 0)),.d (.v (.int .i64 0))],[.d (.v (str r1.Text)),.d (.sl 1 (List.map dI r1.At))]]) [44] o1 ?_ ?_
     ·rcases Jc H with⟨hp5,H⟩|⟨hp5,H⟩
      ·obtain⟨F,G,hq5⟩:=xH Y G hp5
       rcases Jc H with⟨hp6,H⟩|⟨hp6,H⟩
       ·obtain⟨F,G,hq6⟩:=xH F G hp6
        obtain⟨hg9,H⟩:=Jg H
        have F:=xZ F (Jv Jb x1 ((IntKind.i64.wrap ((x1.length:Int)-1)).toNat) default default (by omega))
        rcases Jc H with⟨hp7,H⟩|⟨hp7,H⟩
        ·obtain⟨F,G,hq7⟩:=xH F G hp7
         obtain⟨hg10,H⟩:=Jg H
         have F:=xZ F (Jv Jb x1 ((IntKind.i64.wrap ((x1.length:Int)-1)).toNat) default default (by omega))
         rcases Jc H with⟨hp8,H⟩|⟨hp8,H⟩
         ·obtain⟨F,G,hq8⟩:=xH F G hp8
          obtain⟨hg11,H⟩:=Jg H
          have F:=xZ F (Jv Jb x1 ((IntKind.i64.wrap ((x1.length:Int)-2)).toNat) default default (by omega))
          rcases Jc H with⟨hp9,H⟩|⟨hp9,H⟩
          ·obtain⟨F,G,hq9⟩:=xH F G hp9
           obtain⟨hg12,H⟩:=Jg H
           have F:=xZ F (Jv Jb x1 ((IntKind.i64.wrap ((x1.length:Int)-2)).toNat) default default (by omega))
           refine xR ?_
           exact Jd H (xK ⟨[1,2],[3]⟩)
          ·obtain⟨F,G,hq9⟩:=xH F G hp9
           refine xR ?_
           exact Jd H (xK ⟨[1,2],[3]⟩)
         ·obtain⟨F,G,hq8⟩:=xH F G hp8
          refine xR ?_
          exact Jd H (xK ⟨[1,2],[3]⟩)
        ·obtain⟨F,G,hq7⟩:=xH F G hp7
         refine xR ?_
         exact Jd H (xK ⟨[1,2],[3]⟩)
       ·obtain⟨F,G,hq6⟩:=xH F G hp6
        refine xR ?_
        exact Jd H (xK ⟨[1,2],[3]⟩)
      ·obtain⟨F,G,hq5⟩:=xH Y G hp5
       refine xR ?_
       exact Jd H (xK ⟨[1,2],[3]⟩)
     ·rintro x5 H
      rw[KU]at H
      refine xS ?_
      obtain⟨hg3,H⟩:=Jg H
      obtain⟨r3,hr3,H⟩:=Je H
      have F:=xC Y (Jj6 (List.drop x3.toNat r1.Text) x5 r3 hr3)
      refine xR ?_
      refine xr ?_
      rcases Jc H with⟨hp4,H⟩|⟨hp4,H⟩
      ·obtain⟨F,G,hq4⟩:=xH Y G hp4
       refine xT ?_
       obtain⟨hg4,H⟩:=Jg H
       have F:=xZ Y (Jv dI r1.At x3.toNat default default (by omega))
       replace H:=Jq H hF1
       replace H:=Option.some.inj H
       refine xR ?_
       subst H
       exact xN
      ·obtain⟨F,G,hq4⟩:=xH Y G hp4
       refine xE ?_
       obtain⟨hg5,H⟩:=Jg H
       have F:=xZ Y (Jv dI r1.At x3.toNat default default (by omega))
       obtain⟨hg6,H⟩:=Jg H
       have F:=xZ F (Jv dI r1.At ((IntKind.i64.wrap ((IntKind.i64.wrap (x3+(r3.2.length:Int)))-1)).toNat) default default (by omega))
       obtain⟨hg7,H⟩:=Jg H
       have F:=xZ F (Jv dI r1.At x3.toNat default default (by omega))
       obtain⟨r4,hr4,H⟩:=Je H
       have F:=xCf F (Jko a1 (r1.At.getD x3.toNat default) r4 hr4)
       obtain⟨hg8,H⟩:=Jg H
       have F:=xZ F (XE Jsp [(⟨r3.1,r3.2,ltI 0 r2.1,x4,a0,(r1.At.getD x3.toNat default),IntKind.i64.wrap ((r1.At.getD ((IntKind.i64.wrap ((IntKind.i64.wrap (x3+(r3.2.length:Int)))-1)).toNat) default)+1),r4,([]:List (List UInt8)),([]:List Call),0⟩:Token)])
       refine xR ?_
       refine xr ?_
       exact JJ (J2 H hF1) (xK ⟨[1,2],[4]⟩)
theorem Jje(a0:Int)(a1:List UInt8)(r:(List Token)×Fault)(H:ZA a0 a1=some r):PC JcZ [dI a0,dS a1] (T2 (dL 11 Jb) Kf r):=PF.c (a:=(a0,a1)) H
noncomputable def Z3(a0:List UInt8):Option (List Token) :=
 (ZA 0 a0).bind fun r1=>some r1.1
noncomputable def Jb4:PF:=PF.of (E1 dS) (fun a=>Z3 a) (dL 11 Jb)
theorem JfG:Kt Try.prog 6 Jb4:=by
 refine xF mixed [(15,JcZ)] [] ⟨⟨JuZ,Ji1⟩,trivial⟩ trivial Try.func6 ?_
 rintro a0 out H
 have G:=True.intro
 have Y:=xZ y_29 <| xZ Try.results6 <| xZ J9.eq_1 <| xZ Jb.eq_1 <| Kf.eq_1
 simp only[Z3]at H
 refine xS ?_
 refine xr ?_
 obtain⟨r1,hr1,H⟩:=Je H
 have F:=xC Y (Jje 0 a0 r1 hr1)
 refine xR ?_
 replace H:=Option.some.inj H
 refine xr ?_
 subst H
 exact xN
theorem Jf0(a0:List UInt8)(r:(List Token))(H:Z3 a0=some r):PC Jb4 [dS a0] ((dL 11 Jb) r):=PF.c (a:=a0) H
noncomputable def X0:Bool→Option Bool
 | x1=>some x1
noncomputable def JbS  : Option Bool :=
 (Z3 [105,110,116,32,120,59,32,105,110,116,32,102,40,105,110,116,32,121,41,32,123,32,105,110,116,32,120,59,32,120,32,61,32,121,59,32,114,101,116,117,114,110,32,102,40,120,41,59,32,125]).bind fun r1=>(Z4 r1).bind fun r2=>(Zh r1 r2.1).bind fun r3=>if(eqI r3.2.1 0)=true then if(eqI (r3.1.length:Int) 8)=true then(JcD r3.1 13).bind fun r4=>if(eqI r4 11)=true then(JcD r3.1 0).bind fun r5=>X0 (eqI r5 (-1)) else X0 false else X0 false else X0 false
noncomputable def Jc6:PF:=PF.of E0 (fun _=>JbS) dB
theorem JiV:Kt Try.prog 13 Jc6:=by
 refine xF mixed [(6,Jb4),(7,JbU),(11,JeD)] [(8,true,ZW)] ⟨⟨Jsa,JfG⟩,⟨JrZ,JfK⟩,⟨Jpa,Ji5⟩,trivial⟩ ⟨Jf3,trivial⟩ Try.func13 ?_
 rintro _ out H
 have G:=True.intro
 have Y:=xZ y_26 <| xZ y_27 <| xZ y_29 <| xZ y_32 <| xZ y_40 <| xZ Try.results13 <| xZ J9.eq_1 <| xZ Jb.eq_1 <| xZ Kf.eq_1 <| xZ Vl <| xZ Ji.eq_1 <| ZZ.eq_1
 simp only[JbS]at H
 refine xS ?_
 refine xr ?_
 obtain⟨r1,hr1,H⟩:=Je H
 have F:=xC Y (Jf0 [105,110,116,32,120,59,32,105,110,116,32,102,40,105,110,116,32,121,41,32,123,32,105,110,116,32,120,59,32,120,32,61,32,121,59,32,114,101,116,117,114,110,32,102,40,120,41,59,32,125] r1 hr1)
 refine xR ?_
 obtain⟨r2,hr2,H⟩:=Je H
 have F:=xC Y (Jf2 r1 r2 hr2)
 refine xR ?_
 obtain⟨r3,hr3,H⟩:=Je H
 have F:=Y
 refine xQ ?_
 refine xs 2 ?_
 refine xc ⟨[],[]⟩ (tabG 0 (JfV r1 r2.1 r3 hr3)) ?_
 refine xs 6 ?_
 refine xl ?_
 refine  ?_
 refine Jn ?_
 refine JB X0 (fun s=>[(0,.c (.d (.v (.bool s))))]) (fun s=>[]) [] out ?_ ?_
 ·rcases Jc H with⟨hp1,H⟩|⟨hp1,H⟩
  ·obtain⟨F,G,hq1⟩:=xH Y G hp1
   rcases Jc H with⟨hp2,H⟩|⟨hp2,H⟩
   ·obtain⟨F,G,hq2⟩:=xH F G hp2
    obtain⟨r4,hr4,H⟩:=Je H
    have F:=xCf F (JgP r3.1 13 r4 hr4)
    rcases Jc H with⟨hp3,H⟩|⟨hp3,H⟩
    ·obtain⟨F,G,hq3⟩:=xH F G hp3
     obtain⟨r5,hr5,H⟩:=Je H
     have F:=xCf F (JgP r3.1 0 r5 hr5)
     refine xR ?_
     exact Jd H (xK ⟨[],[]⟩)
    ·obtain⟨F,G,hq3⟩:=xH F G hp3
     refine xR ?_
     exact Jd H (xK ⟨[],[]⟩)
   ·obtain⟨F,G,hq2⟩:=xH F G hp2
    refine xR ?_
    exact Jd H (xK ⟨[],[]⟩)
  ·obtain⟨F,G,hq1⟩:=xH Y G hp1
   refine xR ?_
   exact Jd H (xK ⟨[],[]⟩)
 ·rintro x1 H
  rw[X0]at H
  replace H:=Option.some.inj H
  refine xS ?_
  subst H
  exact xN
theorem Jjt  (r:Bool) (H:JbS  = some r):PC Jc6 [] (dB r):=PF.c (a:=()) H
noncomputable def Jar:Bool→Option Bool
 | x2=>some x2
noncomputable def V9(x3:Int)(x4:Int):Bool→Option ((Int×Int) ⊕ Bool)
 | x5=>if x5=true then inrO (some false) else some (.inl (x3,IntKind.i64.wrap (x4+1)))
noncomputable def VB(r2:(List Token))(r4:((List Bind)×Int×Int×Int)):(Int×Int)→Option ((Int×Int) ⊕ Bool)
 | (x3,x4)=>if(ltI x4 x3)=true then if(0:Int)≤x4∧x4.toNat<r2.length then(JcD r4.1 x4).bind fun r5=>if(eqI ((r2.getD x4.toNat default).Kind) 1)=true then(Jbq ((r2.getD x4.toNat default).Text)).bind fun r6=>V9 x3 x4 (!eqB (leI 0 r5) (!r6)) else V9 x3 x4 (!eqB (leI 0 r5) false) else none else inrO (some true)
noncomputable def VC(r2:(List Token))(r4:((List Bind)×Int×Int×Int)):Bool→Option Bool
 | x1=>if x1=true then if(eqI (r4.1.length:Int) 0)=true then Jar true else Jar (eqI r4.2.1 0) else Ju (VB r2 r4) ((r2.length:Int),0)
noncomputable def Jbt(a0:List UInt8):Option Bool :=
 (JbS).bind fun r1=>if(!r1)=true then some false else(Z3 a0).bind fun r2=>(Z4 r2).bind fun r3=>(Zh r2 r3.1).bind fun r4=>if(!eqI r3.2.Err 0)=true then VC r2 r4 true else VC r2 r4 (!eqI r4.2.1 0)
noncomputable def Jee:PF:=PF.of (E1 dS) (fun a=>Jbt a) dB
theorem JgQ:Kt Try.prog 5 Jee:=by
 refine xF mixed [(13,Jc6),(6,Jb4),(7,JbU),(11,JeD),(14,JcQ)] [(8,true,ZW)] ⟨⟨Juu,JiV⟩,⟨Jsa,JfG⟩,⟨JrZ,JfK⟩,⟨Jpa,Ji5⟩,⟨Jqd,Jgl⟩,trivial⟩ ⟨Jf3,trivial⟩ Try.func5 ?_
 rintro a0 out H
 have G:=True.intro
 have Y:=xZ y_3 <| xZ y_4 <| xZ y_9 <| xZ y_22 <| xZ y_26 <| xZ y_27 <| xZ y_29 <| xZ y_32 <| xZ y_40 <| xZ y_44 <| xZ Try.results5 <| xZ J9.eq_1 <| xZ Jb.eq_1 <| xZ Kf.eq_1 <| xZ Vl <| xZ Ji.eq_1 <| ZZ.eq_1
 simp only[Jbt]at H
 refine xS ?_
 refine xr ?_
 obtain⟨r1,hr1,H⟩:=Je H
 have F:=xC Y (Jjt  r1 hr1)
 refine xR ?_
 rcases Jc H with⟨hp1,H⟩|⟨hp1,H⟩
 ·obtain⟨F,G,hq1⟩:=xH Y G hp1
  refine xT ?_
  replace H:=Option.some.inj H
  refine xr ?_
  subst H
  exact xN
 ·obtain⟨F,G,hq1⟩:=xH Y G hp1
  refine xE ?_
  obtain⟨r2,hr2,H⟩:=Je H
  have F:=xC Y (Jf0 a0 r2 hr2)
  refine xR ?_
  obtain⟨r3,hr3,H⟩:=Je H
  have F:=xC Y (Jf2 r2 r3 hr3)
  refine xR ?_
  obtain⟨r4,hr4,H⟩:=Je H
  have F:=Y
  refine xQ ?_
  refine xs 2 ?_
  refine xc ⟨[],[]⟩ (tabG 0 (JfV r2 r3.1 r4 hr4)) ?_
  refine xs 6 ?_
  refine xl ?_
  refine  ?_
  refine Jn ?_
  refine XV ?_
  refine JB (VC r2 r4) (fun s=>[(3,.c (.d (.sl 11 (List.map Jb r2)))),(6,.c (.sl 2 (List.map Ji r4.1) 2)),(7,.c (.pt 1 0)),(32,.c (.d (.v (.bool s))))]) (fun s=>[[.d (.v (.int .i64 r4.2.1)),.d (.v (.int .i64 r4.2.2.1)),.d (.v (.int .i64 r4.2.2.2))]]) [40] out ?_ ?_
  ·rcases Jc H with⟨hp7,H⟩|⟨hp7,H⟩
   ·obtain⟨F,G,hq7⟩:=xH Y G hp7
    refine xR ?_
    exact Jd H (xK ⟨[4],[3]⟩)
   ·obtain⟨F,G,hq7⟩:=xH Y G hp7
    refine xR ?_
    exact Jd H (xK ⟨[4],[3]⟩)
  ·rintro x1 H
   rw[VC]at H
   rcases Jc H with⟨hp2,H⟩|⟨hp2,H⟩
   ·obtain⟨F,G,hq2⟩:=xH Y G hp2
    refine xT0 ?_
    refine JB Jar (fun s=>[(2,.c (.d (.v (.bool s))))]) (fun s=>[]) [] out ?_ ?_
    ·rcases Jc H with⟨hp3,H⟩|⟨hp3,H⟩
     ·obtain⟨F,G,hq3⟩:=xH Y G hp3
      refine xR ?_
      exact Jd H (xK ⟨[],[]⟩)
     ·obtain⟨F,G,hq3⟩:=xH Y G hp3
      refine xR ?_
      exact Jd H (xK ⟨[],[]⟩)
    ·rintro x2 H
     rw[Jar]at H
     replace H:=Option.some.inj H
     refine xS ?_
     subst H
     exact xN
   ·obtain⟨F,G,hq2⟩:=xH Y G hp2
    refine xE ?_
    refine xr ?_
    refine KH (VB r2 r4) (fun s=>[(6,.c (.sl 2 (List.map Ji r4.1) 1)),(41,.c (.d (.sl 11 (List.map Jb r2)))),(42,.c (.d (.v (.int .i64 s.1)))),(43,.c (.d (.v (.int .i64 s.2))))]) (fun s=>[]) [40] H (xK ⟨[],[2]⟩) ?_
    rintro n1 ⟨x3,x4⟩ o1 H hF1
    rw[VB]at H
    refine xS ?_
    refine xr ?_
    rcases Jc H with⟨hp4,H⟩|⟨hp4,H⟩
    ·obtain⟨F,G,hq4⟩:=xH Y G hp4
     refine xT ?_
     obtain⟨hg1,H⟩:=Jg H
     have F:=xZ Y (Jv Jb r2 x4.toNat default default (by omega))
     refine xR0 ?_
     refine Jn ?_
     refine JB (V9 x3 x4) (fun s=>[(6,.c (.sl 2 (List.map Ji r4.1) 1)),(41,.c (.d (.sl 11 (List.map Jb r2)))),(42,.c (.d (.v (.int .i64 x3)))),(43,.c (.d (.v (.int .i64 x4)))),(61,.c (.d (.v (.bool s))))]) (fun s=>[]) [40] o1 ?_ ?_
     ·obtain⟨r5,hr5,H⟩:=Je H
      have F:=xC Y (JgP r4.1 x4 r5 hr5)
      rcases Jc H with⟨hp6,H⟩|⟨hp6,H⟩
      ·obtain⟨F,G,hq6⟩:=xH F G hp6
       obtain⟨r6,hr6,H⟩:=Je H
       have F:=xCf F (Jhm ((r2.getD x4.toNat default).Text) r6 hr6)
       refine xR ?_
       exact Jd H (xK ⟨[],[1]⟩)
      ·obtain⟨F,G,hq6⟩:=xH F G hp6
       refine xR ?_
       exact Jd H (xK ⟨[],[1]⟩)
     ·rintro x5 H
      rw[V9]at H
      rcases Jc H with⟨hp5,H⟩|⟨hp5,H⟩
      ·obtain⟨F,G,hq5⟩:=xH Y G hp5
       refine xT ?_
       replace H:=Jq H hF1
       replace H:=Option.some.inj H
       refine xr ?_
       subst H
       exact xN
      ·obtain⟨F,G,hq5⟩:=xH Y G hp5
       refine xE ?_
       refine xr ?_
       exact JJ (J2 H hF1) (xK ⟨[],[1]⟩)
    ·obtain⟨F,G,hq4⟩:=xH Y G hp4
     replace H:=Jq H hF1
     refine xE ?_
     replace H:=Option.some.inj H
     refine xr ?_
     subst H
     exact xN
end Go.Proofs.Ytaofbminodhcnaa
