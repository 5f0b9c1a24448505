/- Functions of data for functions of the program. Written by dec3.py. -/
import Derived.Test.YtaofbminodhcnaaZaaq
import Derived.Test.YtaofbminodhcnaaZaat
set_option linter.unusedVariables false
set_option linter.unusedSimpArgs false
set_option maxHeartbeats 4000000
set_option maxRecDepth 100000
namespace Go.Proofs.Ytaofbminodhcnaa
open Go.RowKit
noncomputable def Vj(x2:List UInt8):(Int×(List UInt8)×(List Int))→Option ((Int×(List UInt8)×(List UInt8)×(List Int)) ⊕ Spliced)
 | (x5,x6,x7)=>some (.inl (IntKind.i64.wrap (x5+1),x2,x6,x7))
noncomputable def VI(x1:Int)(x2:List UInt8)(x3:List UInt8)(x4:List Int)(x8:List UInt8):Bool→Option ((Int×(List UInt8)×(List UInt8)×(List Int)) ⊕ Spliced)
 | x11=>if x11=true then Vj x2 (x1,x3,x4) else if(0:Int)≤0∧0≤1∧1≤(x8.length:Int) then if x3.length+(List.take 1 x8).length≤9223372036854775807 then if(x4.length + [x1].length) * 8≤140737488355328 then Vj x2 (x1,x3++(List.take 1 x8),x4++[x1]) else none else none else none
noncomputable def Vi(x1:Int)(x2:List UInt8)(x3:List UInt8)(x4:List Int)(x8:List UInt8):Bool→Option ((Int×(List UInt8)×(List UInt8)×(List Int)) ⊕ Spliced)
 | x10=>if x10=true then Vj x2 (IntKind.i64.wrap (x1+2),x3,x4) else if(ltI 1 (x8.length:Int))=true then if 0<x8.length then if(eqI ((x8.getD 0 0).toNat:Int) 13)=true then if 1<x8.length then VI x1 x2 x3 x4 x8 (eqI ((x8.getD 1 0).toNat:Int) 10) else none else VI x1 x2 x3 x4 x8 false else none else VI x1 x2 x3 x4 x8 false
noncomputable def VL(x1:Int)(x2:List UInt8)(x3:List UInt8)(x4:List Int):((List UInt8)×Bool)→Option ((Int×(List UInt8)×(List UInt8)×(List Int)) ⊕ Spliced)
 | (x8,x9)=>if x9=true then Vj x2 (IntKind.i64.wrap (x1+1),x3,x4) else if(ltI 2 (x8.length:Int))=true then if 0<x8.length then if(eqI ((x8.getD 0 0).toNat:Int) 92)=true then if 1<x8.length then if(eqI ((x8.getD 1 0).toNat:Int) 13)=true then if 2<x8.length then Vi x1 x2 x3 x4 x8 (eqI ((x8.getD 2 0).toNat:Int) 10) else none else Vi x1 x2 x3 x4 x8 false else none else Vi x1 x2 x3 x4 x8 false else none else Vi x1 x2 x3 x4 x8 false
noncomputable def Jao(a0:List UInt8):(Int×(List UInt8)×(List UInt8)×(List Int))→Option ((Int×(List UInt8)×(List UInt8)×(List Int)) ⊕ Spliced)
 | (x1,x2,x3,x4)=>if(ltI x1 (a0.length:Int))=true then if(0:Int)≤x1∧x1≤(a0.length:Int)∧(a0.length:Int)≤(a0.length:Int) then if(ltI 1 ((List.drop x1.toNat a0).length:Int))=true then if 0<(List.drop x1.toNat a0).length then if(eqI (((List.drop x1.toNat a0).getD 0 0).toNat:Int) 92)=true then if 1<(List.drop x1.toNat a0).length then VL x1 x2 x3 x4 (List.drop x1.toNat a0,eqI (((List.drop x1.toNat a0).getD 1 0).toNat:Int) 10) else none else VL x1 x2 x3 x4 (List.drop x1.toNat a0,false) else none else VL x1 x2 x3 x4 (List.drop x1.toNat a0,false) else none else inrO (if(x4.length + [(a0.length:Int)].length) * 8≤140737488355328 then some (⟨x3,x4++[(a0.length:Int)]⟩:Spliced) else none)
noncomputable def Jax(a0:List UInt8):Option Spliced :=
 Jv (Jao a0) (0,[],[],([]:List Int))
noncomputable def JcY:PF:=PF.of (E1 dS) (fun a=>Jax a) ZM
theorem JiW:Kt Try.prog 27 JcY:=by
 refine xF mixed [] [] trivial trivial Try.func27 ?_
 rintro a0 out H
 have G:=True.intro
 have Y:=xZ y_3 <| xZ y_9 <| xZ y_78 <| xZ y_80 <| xZ Try.results27 <| ZM.eq_1
 simp only[Jax]at H
 refine xS ?_
 refine xr ?_
 refine xr ?_
 refine xr ?_
 refine KI (Jao a0) (fun s=>[(0,.c (.d (.v (str a0)))),(2,.c (.pt 1 0)),(3,.c (.pt 2 0)),(4,.c (.d (.v (.int .i64 s.1))))]) (fun s=>[[.d (.v (str s.2.1)),.sl 1 [] 0],[.d (.v (str s.2.2.1)),.sl 1 (List.map dI s.2.2.2) 3]]) [3] H (xK ⟨[1,2],[0]⟩) ?_
 rintro n1 ⟨x1,x2,x3,x4⟩ o1 H hF1
 rw[Jao]at H
 refine xS ?_
 refine xr ?_
 rcases Jc H with⟨hp1,H⟩|⟨hp1,H⟩
 ·obtain⟨F,G,hq1⟩:=xH Y G hp1
  refine xT0 ?_
  refine JbN ?_
  refine Jn ?_
  refine JC (Vj x2) (fun s=>[(0,.c (.d (.v (str a0)))),(2,.c (.pt 1 0)),(3,.c (.pt 2 0)),(4,.c (.d (.v (.int .i64 s.1))))]) (fun s=>[[.d (.v (str x2)),.sl 1 [] 0],[.d (.v (str s.2.1)),.sl 1 (List.map dI s.2.2) 3]]) [3] o1 ?_ ?_
  ·refine xS ?_
   obtain⟨hg1,H⟩:=Jg H
   refine xr0 ?_
   refine Jn ?_
   refine XS ?_
   refine JC (VL x1 x2 x3 x4) (fun s=>[(0,.c (.d (.v (str a0)))),(2,.c (.pt 1 0)),(3,.c (.pt 2 0)),(4,.c (.d (.v (.int .i64 x1)))),(5,.c (.d (.v (str s.1)))),(27,.c (.d (.v (.bool s.2))))]) (fun s=>[[.d (.v (str x2)),.sl 1 [] 0],[.d (.v (str x3)),.sl 1 (List.map dI x4) 3]]) [3] o1 ?_ ?_
   ·rcases Jc H with⟨hp10,H⟩|⟨hp10,H⟩
    ·obtain⟨F,G,hq10⟩:=xH Y G hp10
     obtain⟨hg10,H⟩:=Jg H
     rcases Jc H with⟨hp11,H⟩|⟨hp11,H⟩
     ·obtain⟨F,G,hq11⟩:=xH F G hp11
      obtain⟨hg11,H⟩:=Jg H
      refine xR ?_
      exact Jd H (xK ⟨[1,2],[3]⟩)
     ·obtain⟨F,G,hq11⟩:=xH F G hp11
      refine xR ?_
      exact Jd H (xK ⟨[1,2],[3]⟩)
    ·obtain⟨F,G,hq10⟩:=xH Y G hp10
     refine xR ?_
     exact Jd H (xK ⟨[1,2],[3]⟩)
   ·rintro ⟨x8,x9⟩ H
    rw[VL]at H
    rcases Jc H with⟨hp2,H⟩|⟨hp2,H⟩
    ·obtain⟨F,G,hq2⟩:=xH Y G hp2
     refine xT ?_
     refine xr ?_
     exact Jd H (xK ⟨[1,2],[3]⟩)
    ·obtain⟨F,G,hq2⟩:=xH Y G hp2
     refine xE0 ?_
     refine JbN ?_
     refine Jn ?_
     refine XS ?_
     refine JC (Vi x1 x2 x3 x4 x8) (fun s=>[(0,.c (.d (.v (str a0)))),(2,.c (.pt 1 0)),(3,.c (.pt 2 0)),(4,.c (.d (.v (.int .i64 x1)))),(5,.c (.d (.v (str x8)))),(47,.c (.d (.v (.bool s))))]) (fun s=>[[.d (.v (str x2)),.sl 1 [] 0],[.d (.v (str x3)),.sl 1 (List.map dI x4) 3]]) [3] o1 ?_ ?_
     ·rcases Jc H with⟨hp7,H⟩|⟨hp7,H⟩
      ·obtain⟨F,G,hq7⟩:=xH Y G hp7
       obtain⟨hg7,H⟩:=Jg H
       rcases Jc H with⟨hp8,H⟩|⟨hp8,H⟩
       ·obtain⟨F,G,hq8⟩:=xH F G hp8
        obtain⟨hg8,H⟩:=Jg H
        rcases Jc H with⟨hp9,H⟩|⟨hp9,H⟩
        ·obtain⟨F,G,hq9⟩:=xH F G hp9
         obtain⟨hg9,H⟩:=Jg H
         refine xR ?_
         exact Jd H (xK ⟨[1,2],[3]⟩)
        ·obtain⟨F,G,hq9⟩:=xH F G hp9
         refine xR ?_
         exact Jd H (xK ⟨[1,2],[3]⟩)
       ·obtain⟨F,G,hq8⟩:=xH F G hp8
        refine xR ?_
        exact Jd H (xK ⟨[1,2],[3]⟩)
      ·obtain⟨F,G,hq7⟩:=xH Y G hp7
       refine xR ?_
       exact Jd H (xK ⟨[1,2],[3]⟩)
     ·rintro x10 H
      rw[Vi]at H
      rcases Jc H with⟨hp3,H⟩|⟨hp3,H⟩
      ·obtain⟨F,G,hq3⟩:=xH Y G hp3
       refine xT ?_
       refine xr ?_
       exact Jd H (xK ⟨[1,2],[3]⟩)
      ·obtain⟨F,G,hq3⟩:=xH Y G hp3
       refine xE0 ?_
       refine JbN ?_
       refine Jn ?_
       refine XS ?_
       refine JC (VI x1 x2 x3 x4 x8) (fun s=>[(0,.c (.d (.v (str a0)))),(2,.c (.pt 1 0)),(3,.c (.pt 2 0)),(4,.c (.d (.v (.int .i64 x1)))),(5,.c (.d (.v (str x8)))),(62,.c (.d (.v (.bool s))))]) (fun s=>[[.d (.v (str x2)),.sl 1 [] 0],[.d (.v (str x3)),.sl 1 (List.map dI x4) 3]]) [3] o1 ?_ ?_
       ·rcases Jc H with⟨hp5,H⟩|⟨hp5,H⟩
        ·obtain⟨F,G,hq5⟩:=xH Y G hp5
         obtain⟨hg5,H⟩:=Jg H
         rcases Jc H with⟨hp6,H⟩|⟨hp6,H⟩
         ·obtain⟨F,G,hq6⟩:=xH F G hp6
          obtain⟨hg6,H⟩:=Jg H
          refine xR ?_
          exact Jd H (xK ⟨[1,2],[3]⟩)
         ·obtain⟨F,G,hq6⟩:=xH F G hp6
          refine xR ?_
          exact Jd H (xK ⟨[1,2],[3]⟩)
        ·obtain⟨F,G,hq5⟩:=xH Y G hp5
         refine xR ?_
         exact Jd H (xK ⟨[1,2],[3]⟩)
       ·rintro x11 H
        rw[VI]at H
        rcases Jc H with⟨hp4,H⟩|⟨hp4,H⟩
        ·obtain⟨F,G,hq4⟩:=xH Y G hp4
         refine xT ?_
         exact Jd H (xK ⟨[1,2],[3]⟩)
        ·obtain⟨F,G,hq4⟩:=xH Y G hp4
         refine xE ?_
         obtain⟨hg2,H⟩:=Jg H
         obtain⟨hg3,H⟩:=Jg H
         refine xr ?_
         obtain⟨hg4,H⟩:=Jg H
         have F:=xZ Y (XN JrP [x1])
         refine xR ?_
         exact Jd H (xK ⟨[1,2],[4]⟩)
  ·rintro ⟨x5,x6,x7⟩ H
   rw[Vj]at H
   refine xr ?_
   exact JJ (J3 H hF1) (xK ⟨[1,2],[3]⟩)
 ·obtain⟨F,G,hq1⟩:=xH Y G hp1
  replace H:=Jq H hF1
  refine xE ?_
  obtain⟨hg12,H⟩:=Jg H
  have F:=xZ Y (XN JrP [(a0.length:Int)])
  refine xR ?_
  replace H:=Option.some.inj H
  refine xr ?_
  subst H
  exact xN
theorem Jji(a0:List UInt8)(r:Spliced)(H:Jax a0=some r):PC JcY [dS a0] (ZM r):=PF.c (a:=a0) H
noncomputable def Jbb(x2:Bool)(x7:Int):Bool→Option (Int ⊕ ((Int×Bool) ⊕ (Int×Bool)))
 | x8=>if x8=true then some (.inl (IntKind.i64.wrap (x7+1))) else inrO (some (.inl (x7,x2)))
noncomputable def Ja0(a0:List UInt8)(x2:Bool):Int→Option (Int ⊕ ((Int×Bool) ⊕ (Int×Bool)))
 | x7=>if(ltI x7 (a0.length:Int))=true then if(0:Int)≤x7∧x7.toNat<a0.length then Jbb x2 x7 (!eqI ((a0.getD x7.toNat 0).toNat:Int) 10) else none else Jbb x2 x7 false
noncomputable def Jbh(a0:List UInt8)(x1:Int)(x2:Bool)(x9:Int):Bool→Option (Int ⊕ ((Int×Bool) ⊕ (Int×Bool)))
 | x10=>if x10=true then some (.inl (IntKind.i64.wrap (x9+1))) else inrO (if(leI (a0.length:Int) (IntKind.i64.wrap (x9+1)))=true then inrO (some (IntKind.i64.wrap ((-1)-x1),x2)) else some (.inl (IntKind.i64.wrap (x9+2),x2)))
noncomputable def Jbe(a0:List UInt8)(x1:Int)(x2:Bool):Int→Option (Int ⊕ ((Int×Bool) ⊕ (Int×Bool)))
 | x9=>if(ltI (IntKind.i64.wrap (x9+1)) (a0.length:Int))=true then if(0:Int)≤x9∧x9≤(IntKind.i64.wrap (x9+2))∧(IntKind.i64.wrap (x9+2))≤(a0.length:Int) then Jbh a0 x1 x2 x9 (!eqS (List.take ((IntKind.i64.wrap (x9+2)).toNat-x9.toNat) (List.drop x9.toNat a0)) [42,47]) else none else Jbh a0 x1 x2 x9 false
noncomputable def K4(a0:List UInt8)(x1:Int)(x2:Bool)(x4:List UInt8):(UInt8×Bool)→Option ((Int×Bool) ⊕ (Int×Bool))
 | (x5,x6)=>if x6=true then some (.inl (IntKind.i64.wrap (x1+1),x2)) else if(eqI (x5.toNat:Int) 10)=true then some (.inl (IntKind.i64.wrap (x1+1),true)) else if(eqS x4 [47,47])=true then Jv (Ja0 a0 x2) x1 else if(eqS x4 [47,42])=true then Jv (Jbe a0 x1 x2) (IntKind.i64.wrap (x1+2)) else inrO (some (x1,x2))
noncomputable def Z2(a0:List UInt8)(x1:Int)(x2:Bool):(UInt8×(List UInt8))→Option ((Int×Bool) ⊕ (Int×Bool))
 | (x3,x4)=>if(eqI (x3.toNat:Int) 32)=true then K4 a0 x1 x2 x4 (x3,true) else if(eqI (x3.toNat:Int) 9)=true then K4 a0 x1 x2 x4 (x3,true) else K4 a0 x1 x2 x4 (x3,eqI (x3.toNat:Int) 13)
noncomputable def Vp(a0:List UInt8):(Int×Bool)→Option ((Int×Bool) ⊕ (Int×Bool))
 | (x1,x2)=>if(ltI x1 (a0.length:Int))=true then if(0:Int)≤x1∧x1.toNat<a0.length then if(ltI (IntKind.i64.wrap (x1+1)) (a0.length:Int))=true then if(0:Int)≤x1∧x1≤(IntKind.i64.wrap (x1+2))∧(IntKind.i64.wrap (x1+2))≤(a0.length:Int) then Z2 a0 x1 x2 ((a0.getD x1.toNat 0),List.take ((IntKind.i64.wrap (x1+2)).toNat-x1.toNat) (List.drop x1.toNat a0)) else none else Z2 a0 x1 x2 ((a0.getD x1.toNat 0),[]) else none else inrO (some (x1,x2))
noncomputable def JbC(a0:List UInt8):Option (Int×Bool) :=
 Jv (Vp a0) (0,false)
noncomputable def JdU:PF:=PF.of (E1 dS) (fun a=>JbC a) (T2 dI dB)
theorem JjT:Kt Try.prog 28 JdU:=by
 refine xF mixed [] [] trivial trivial Try.func28 ?_
 rintro a0 out H
 have G:=True.intro
 have Y:=xZ y_9 <| Try.results28
 simp only[JbC]at H
 refine xS ?_
 refine xr ?_
 refine xr ?_
 refine KI (Vp a0) (fun s=>[(0,.c (.d (.v (str a0)))),(4,.c (.d (.v (.int .i64 s.1)))),(5,.c (.d (.v (.bool s.2))))]) (fun s=>[]) [] H (xK ⟨[],[]⟩) ?_
 rintro n1 ⟨x1,x2⟩ o1 H hF1
 rw[Vp]at H
 refine xS ?_
 refine xr ?_
 rcases Jc H with⟨hp1,H⟩|⟨hp1,H⟩
 ·obtain⟨F,G,hq1⟩:=xH Y G hp1
  refine xT ?_
  obtain⟨hg1,H⟩:=Jg H
  refine xr ?_
  refine xr0 ?_
  refine Jn ?_
  refine JC (Z2 a0 x1 x2) (fun s=>[(0,.c (.d (.v (str a0)))),(4,.c (.d (.v (.int .i64 x1)))),(5,.c (.d (.v (.bool x2)))),(6,.c (.d (.v (.int .u8 (s.1.toNat:Int))))),(7,.c (.d (.v (str s.2))))]) (fun s=>[]) [] o1 ?_ ?_
  ·refine xS ?_
   refine xr ?_
   rcases Jc H with⟨hp13,H⟩|⟨hp13,H⟩
   ·obtain⟨F,G,hq13⟩:=xH Y G hp13
    refine xT ?_
    obtain⟨hg4,H⟩:=Jg H
    refine xr ?_
    exact Jd H (xK ⟨[],[]⟩)
   ·obtain⟨F,G,hq13⟩:=xH Y G hp13
    refine xE ?_
    exact Jd H (xK ⟨[],[]⟩)
  ·rintro ⟨x3,x4⟩ H
   rw[Z2]at H
   refine Jfh ?_
   refine JC (K4 a0 x1 x2 x4) (fun s=>[(0,.c (.d (.v (str a0)))),(4,.c (.d (.v (.int .i64 x1)))),(5,.c (.d (.v (.bool x2)))),(6,.c (.d (.v (.int .u8 (s.1.toNat:Int))))),(7,.c (.d (.v (str x4)))),(28,.c (.d (.v (.bool s.2))))]) (fun s=>[]) [] o1 ?_ ?_
   ·rcases Jc H with⟨hp11,H⟩|⟨hp11,H⟩
    ·obtain⟨F,G,hq11⟩:=xH Y G hp11
     refine xR ?_
     exact Jd H (xK ⟨[],[]⟩)
    ·obtain⟨F,G,hq11⟩:=xH Y G hp11
     rcases Jc H with⟨hp12,H⟩|⟨hp12,H⟩
     ·obtain⟨F,G,hq12⟩:=xH F G hp12
      refine xR ?_
      exact Jd H (xK ⟨[],[]⟩)
     ·obtain⟨F,G,hq12⟩:=xH F G hp12
      refine xR ?_
      exact Jd H (xK ⟨[],[]⟩)
   ·rintro ⟨x5,x6⟩ H
    rw[K4]at H
    rcases Jc H with⟨hp2,H⟩|⟨hp2,H⟩
    ·obtain⟨F,G,hq2⟩:=xH Y G hp2
     refine xT ?_
     refine xr ?_
     exact JJ (J3 H hF1) (xK ⟨[],[]⟩)
    ·obtain⟨F,G,hq2⟩:=xH Y G hp2
     refine xE ?_
     refine xr ?_
     rcases Jc H with⟨hp3,H⟩|⟨hp3,H⟩
     ·obtain⟨F,G,hq3⟩:=xH Y G hp3
      refine xT ?_
      refine xr ?_
      refine xr ?_
      exact JJ (J3 H hF1) (xK ⟨[],[]⟩)
     ·obtain⟨F,G,hq3⟩:=xH Y G hp3
      refine xE ?_
      refine xr ?_
      rcases Jc H with⟨hp4,H⟩|⟨hp4,H⟩
      ·obtain⟨F,G,hq4⟩:=xH Y G hp4
       refine xT ?_
       refine KI (Ja0 a0 x2) (fun s=>[(0,.c (.d (.v (str a0)))),(4,.c (.d (.v (.int .i64 s)))),(5,.c (.d (.v (.bool x2))))]) (fun s=>[]) [] H (xK ⟨[],[]⟩) ?_
       rintro n2 x7 o2 H hF2
       rw[Ja0]at H
       refine XS ?_
       refine JC (Jbb x2 x7) (fun s=>[(0,.c (.d (.v (str a0)))),(4,.c (.d (.v (.int .i64 x7)))),(5,.c (.d (.v (.bool x2)))),(58,.c (.d (.v (.bool s))))]) (fun s=>[]) [] o2 ?_ ?_
       ·rcases Jc H with⟨hp6,H⟩|⟨hp6,H⟩
        ·obtain⟨F,G,hq6⟩:=xH Y G hp6
         obtain⟨hg2,H⟩:=Jg H
         refine xR ?_
         exact Jd H (xK ⟨[],[]⟩)
        ·obtain⟨F,G,hq6⟩:=xH Y G hp6
         refine xR ?_
         exact Jd H (xK ⟨[],[]⟩)
       ·rintro x8 H
        rw[Jbb]at H
        rcases Jc H with⟨hp5,H⟩|⟨hp5,H⟩
        ·obtain⟨F,G,hq5⟩:=xH Y G hp5
         refine xT ?_
         refine xr ?_
         exact JJ (J3 H hF2) (xK ⟨[],[]⟩)
        ·obtain⟨F,G,hq5⟩:=xH Y G hp5
         replace H:=Jq H hF2
         refine xE ?_
         exact JJ (J3 H hF1) (xK ⟨[],[]⟩)
      ·obtain⟨F,G,hq4⟩:=xH Y G hp4
       refine xE ?_
       refine xr ?_
       rcases Jc H with⟨hp7,H⟩|⟨hp7,H⟩
       ·obtain⟨F,G,hq7⟩:=xH Y G hp7
        refine xT ?_
        refine xr ?_
        refine KI (Jbe a0 x1 x2) (fun s=>[(0,.c (.d (.v (str a0)))),(4,.c (.d (.v (.int .i64 x1)))),(5,.c (.d (.v (.bool x2)))),(8,.c (.d (.v (.int .i64 s))))]) (fun s=>[]) [] H (xK ⟨[],[]⟩) ?_
        rintro n3 x9 o3 H hF3
        rw[Jbe]at H
        refine XS ?_
        refine JC (Jbh a0 x1 x2 x9) (fun s=>[(0,.c (.d (.v (str a0)))),(4,.c (.d (.v (.int .i64 x1)))),(5,.c (.d (.v (.bool x2)))),(8,.c (.d (.v (.int .i64 x9)))),(78,.c (.d (.v (.bool s))))]) (fun s=>[]) [] o3 ?_ ?_
        ·rcases Jc H with⟨hp10,H⟩|⟨hp10,H⟩
         ·obtain⟨F,G,hq10⟩:=xH Y G hp10
          obtain⟨hg3,H⟩:=Jg H
          refine xR ?_
          exact Jd H (xK ⟨[],[]⟩)
         ·obtain⟨F,G,hq10⟩:=xH Y G hp10
          refine xR ?_
          exact Jd H (xK ⟨[],[]⟩)
        ·rintro x10 H
         rw[Jbh]at H
         rcases Jc H with⟨hp8,H⟩|⟨hp8,H⟩
         ·obtain⟨F,G,hq8⟩:=xH Y G hp8
          refine xT ?_
          refine xr ?_
          exact JJ (J3 H hF3) (xK ⟨[],[]⟩)
         ·obtain⟨F,G,hq8⟩:=xH Y G hp8
          replace H:=Jq H hF3
          refine xE ?_
          refine xr ?_
          rcases Jc H with⟨hp9,H⟩|⟨hp9,H⟩
          ·obtain⟨F,G,hq9⟩:=xH Y G hp9
           refine xT ?_
           replace H:=Jq H hF1
           replace H:=Option.some.inj H
           refine xr ?_
           subst H
           exact xN
          ·obtain⟨F,G,hq9⟩:=xH Y G hp9
           refine xE ?_
           refine xr ?_
           exact JJ (J3 H hF1) (xK ⟨[],[]⟩)
       ·obtain⟨F,G,hq7⟩:=xH Y G hp7
        refine xE ?_
        replace H:=Jq H hF1
        replace H:=Option.some.inj H
        refine xr ?_
        subst H
        exact xN
 ·obtain⟨F,G,hq1⟩:=xH Y G hp1
  replace H:=Jq H hF1
  refine xE ?_
  replace H:=Option.some.inj H
  refine xr ?_
  subst H
  exact xN
theorem Jkw(a0:List UInt8)(r:Int×Bool)(H:JbC a0=some r):PC JdU [dS a0] (T2 dI dB r):=PF.c (a:=a0) H
noncomputable def KV:Bool→Option Bool
 | x1=>some x1
noncomputable def V9(a0:UInt8):Option Bool :=
 if(leI 97 (a0.toNat:Int))=true then if(leI (a0.toNat:Int) 122)=true then KV true else if(leI 65 (a0.toNat:Int))=true then if(leI (a0.toNat:Int) 90)=true then KV true else KV (eqI (a0.toNat:Int) 95) else KV (eqI (a0.toNat:Int) 95) else if(leI 65 (a0.toNat:Int))=true then if(leI (a0.toNat:Int) 90)=true then KV true else KV (eqI (a0.toNat:Int) 95) else KV (eqI (a0.toNat:Int) 95)
noncomputable def Jbv:PF:=PF.of (E1 dU) (fun a=>V9 a) dB
theorem Je1:Kt Try.prog 51 Jbv:=by
 refine xF mixed [] [] trivial trivial Try.func51 ?_
 rintro a0 out H
 have G:=True.intro
 have Y:=Try.results51
 simp only[V9]at H
 refine xS ?_
 refine xr0 ?_
 refine Jn ?_
 refine JC KV (fun s=>[(2,.c (.d (.v (.bool s))))]) (fun s=>[]) [] out ?_ ?_
 ·rcases Jc H with⟨hp1,H⟩|⟨hp1,H⟩
  ·obtain⟨F,G,hq1⟩:=xH Y G hp1
   rcases Jc H with⟨hp2,H⟩|⟨hp2,H⟩
   ·obtain⟨F,G,hq2⟩:=xH F G hp2
    refine xR ?_
    exact Jd H (xK ⟨[],[]⟩)
   ·obtain⟨F,G,hq2⟩:=xH F G hp2
    rcases Jc H with⟨hp3,H⟩|⟨hp3,H⟩
    ·obtain⟨F,G,hq3⟩:=xH F G hp3
     rcases Jc H with⟨hp4,H⟩|⟨hp4,H⟩
     ·obtain⟨F,G,hq4⟩:=xH F G hp4
      refine xR ?_
      exact Jd H (xK ⟨[],[]⟩)
     ·obtain⟨F,G,hq4⟩:=xH F G hp4
      refine xR ?_
      exact Jd H (xK ⟨[],[]⟩)
    ·obtain⟨F,G,hq3⟩:=xH F G hp3
     refine xR ?_
     exact Jd H (xK ⟨[],[]⟩)
  ·obtain⟨F,G,hq1⟩:=xH Y G hp1
   rcases Jc H with⟨hp5,H⟩|⟨hp5,H⟩
   ·obtain⟨F,G,hq5⟩:=xH F G hp5
    rcases Jc H with⟨hp6,H⟩|⟨hp6,H⟩
    ·obtain⟨F,G,hq6⟩:=xH F G hp6
     refine xR ?_
     exact Jd H (xK ⟨[],[]⟩)
    ·obtain⟨F,G,hq6⟩:=xH F G hp6
     refine xR ?_
     exact Jd H (xK ⟨[],[]⟩)
   ·obtain⟨F,G,hq5⟩:=xH F G hp5
    refine xR ?_
    exact Jd H (xK ⟨[],[]⟩)
 ·rintro x1 H
  rw[KV]at H
  replace H:=Option.some.inj H
  refine xS ?_
  subst H
  exact xN
theorem Jdv(a0:UInt8)(r:Bool)(H:V9 a0=some r):PC Jbv [dU a0] (dB r):=PF.c (a:=a0) H
noncomputable def JaN:Bool→Option Bool
 | x1=>some x1
noncomputable def V8(a0:UInt8):Option Bool :=
 if(leI 48 (a0.toNat:Int))=true then JaN (leI (a0.toNat:Int) 57) else JaN false
noncomputable def Jb0:PF:=PF.of (E1 dU) (fun a=>V8 a) dB
theorem Jfu:Kt Try.prog 52 Jb0:=by
 refine xF mixed [] [] trivial trivial Try.func52 ?_
 rintro a0 out H
 have G:=True.intro
 have Y:=Try.results52
 simp only[V8]at H
 refine xS ?_
 refine xr0 ?_
 refine Jn ?_
 refine JC JaN (fun s=>[(2,.c (.d (.v (.bool s))))]) (fun s=>[]) [] out ?_ ?_
 ·rcases Jc H with⟨hp1,H⟩|⟨hp1,H⟩
  ·obtain⟨F,G,hq1⟩:=xH Y G hp1
   refine xR ?_
   exact Jd H (xK ⟨[],[]⟩)
  ·obtain⟨F,G,hq1⟩:=xH Y G hp1
   refine xR ?_
   exact Jd H (xK ⟨[],[]⟩)
 ·rintro x1 H
  rw[JaN]at H
  replace H:=Option.some.inj H
  refine xS ?_
  subst H
  exact xN
theorem Jcq(a0:UInt8)(r:Bool)(H:V8 a0=some r):PC Jb0 [dU a0] (dB r):=PF.c (a:=a0) H
noncomputable def Za(a0:List UInt8):Int→Option (List UInt8)
 | x1=>if(0:Int)≤0∧0≤x1∧x1≤(a0.length:Int) then some (List.take x1.toNat a0) else none
noncomputable def Xn(a0:List UInt8)(x2:Int):Bool→Option (Int ⊕ (List UInt8))
 | x5=>if x5=true then inrO (Za a0 x2) else some (.inl (IntKind.i64.wrap (x2+1)))
noncomputable def KW(a0:List UInt8)(x2:Int):(UInt8×Bool)→Option (Int ⊕ (List UInt8))
 | (x3,x4)=>if(!x4)=true then if(!eqI (x3.toNat:Int) 46)=true then(V9 x3).bind fun r1=>if(!r1)=true then(V8 x3).bind fun r2=>Xn a0 x2 (!r2) else Xn a0 x2 false else Xn a0 x2 false else Xn a0 x2 false
noncomputable def Jal(a0:List UInt8):Int→Option (Int ⊕ (List UInt8))
 | x2=>if(ltI x2 (a0.length:Int))=true then if(0:Int)≤x2∧x2.toNat<a0.length then if(eqI ((a0.getD x2.toNat 0).toNat:Int) 43)=true then if(ltI 0 x2)=true then if(0:Int)≤(IntKind.i64.wrap (x2-1))∧(IntKind.i64.wrap (x2-1)).toNat<a0.length then if(eqI ((a0.getD ((IntKind.i64.wrap (x2-1)).toNat) 0).toNat:Int) 101)=true then KW a0 x2 ((a0.getD x2.toNat 0),true) else if(0:Int)≤(IntKind.i64.wrap (x2-1))∧(IntKind.i64.wrap (x2-1)).toNat<a0.length then KW a0 x2 ((a0.getD x2.toNat 0),eqI ((a0.getD ((IntKind.i64.wrap (x2-1)).toNat) 0).toNat:Int) 69) else none else none else KW a0 x2 ((a0.getD x2.toNat 0),false) else if(eqI ((a0.getD x2.toNat 0).toNat:Int) 45)=true then if(ltI 0 x2)=true then if(0:Int)≤(IntKind.i64.wrap (x2-1))∧(IntKind.i64.wrap (x2-1)).toNat<a0.length then if(eqI ((a0.getD ((IntKind.i64.wrap (x2-1)).toNat) 0).toNat:Int) 101)=true then KW a0 x2 ((a0.getD x2.toNat 0),true) else if(0:Int)≤(IntKind.i64.wrap (x2-1))∧(IntKind.i64.wrap (x2-1)).toNat<a0.length then KW a0 x2 ((a0.getD x2.toNat 0),eqI ((a0.getD ((IntKind.i64.wrap (x2-1)).toNat) 0).toNat:Int) 69) else none else none else KW a0 x2 ((a0.getD x2.toNat 0),false) else KW a0 x2 ((a0.getD x2.toNat 0),false) else none else inrO (Za a0 x2)
noncomputable def JaC(a0:List UInt8):Option (List UInt8) :=
 Jv (Jal a0) 0
noncomputable def Jc6:PF:=PF.of (E1 dS) (fun a=>JaC a) dS
theorem JiT:Kt Try.prog 53 Jc6:=by
 refine xF mixed [(51,Jbv),(52,Jb0)] [] ⟨⟨JoZ,Je1⟩,⟨JpA,Jfu⟩,trivial⟩ trivial Try.func53 ?_
 rintro a0 out H
 have G:=True.intro
 have Y:=xZ y_9 <| Try.results53
 simp only[JaC]at H
 refine xS ?_
 refine xr ?_
 refine xr0 ?_
 refine Jn ?_
 refine JC (Za a0) (fun s=>[(0,.c (.d (.v (str a0)))),(3,.c (.d (.v (.int .i64 s))))]) (fun s=>[]) [] out ?_ ?_
 ·refine xS ?_
  refine KI (Jal a0) (fun s=>[(0,.c (.d (.v (str a0)))),(3,.c (.d (.v (.int .i64 s))))]) (fun s=>[]) [] H (xK ⟨[],[]⟩) ?_
  rintro n1 x2 o1 H hF1
  rw[Jal]at H
  refine xS ?_
  refine xr ?_
  rcases Jc H with⟨hp1,H⟩|⟨hp1,H⟩
  ·obtain⟨F,G,hq1⟩:=xH Y G hp1
   refine xT ?_
   obtain⟨hg2,H⟩:=Jg H
   refine xr0 ?_
   refine Jn ?_
   refine JC (KW a0 x2) (fun s=>[(0,.c (.d (.v (str a0)))),(3,.c (.d (.v (.int .i64 x2)))),(4,.c (.d (.v (.int .u8 (s.1.toNat:Int))))),(5,.c (.d (.v (.bool s.2))))]) (fun s=>[]) [] o1 ?_ ?_
   ·rcases Jc H with⟨hp6,H⟩|⟨hp6,H⟩
    ·obtain⟨F,G,hq6⟩:=xH Y G hp6
     rcases Jc H with⟨hp7,H⟩|⟨hp7,H⟩
     ·obtain⟨F,G,hq7⟩:=xH F G hp7
      obtain⟨hg3,H⟩:=Jg H
      rcases Jc H with⟨hp8,H⟩|⟨hp8,H⟩
      ·obtain⟨F,G,hq8⟩:=xH F G hp8
       refine xR ?_
       exact Jd H (xK ⟨[],[]⟩)
      ·obtain⟨F,G,hq8⟩:=xH F G hp8
       obtain⟨hg4,H⟩:=Jg H
       refine xR ?_
       exact Jd H (xK ⟨[],[]⟩)
     ·obtain⟨F,G,hq7⟩:=xH F G hp7
      refine xR ?_
      exact Jd H (xK ⟨[],[]⟩)
    ·obtain⟨F,G,hq6⟩:=xH Y G hp6
     rcases Jc H with⟨hp9,H⟩|⟨hp9,H⟩
     ·obtain⟨F,G,hq9⟩:=xH F G hp9
      rcases Jc H with⟨hp10,H⟩|⟨hp10,H⟩
      ·obtain⟨F,G,hq10⟩:=xH F G hp10
       obtain⟨hg5,H⟩:=Jg H
       rcases Jc H with⟨hp11,H⟩|⟨hp11,H⟩
       ·obtain⟨F,G,hq11⟩:=xH F G hp11
        refine xR ?_
        exact Jd H (xK ⟨[],[]⟩)
       ·obtain⟨F,G,hq11⟩:=xH F G hp11
        obtain⟨hg6,H⟩:=Jg H
        refine xR ?_
        exact Jd H (xK ⟨[],[]⟩)
      ·obtain⟨F,G,hq10⟩:=xH F G hp10
       refine xR ?_
       exact Jd H (xK ⟨[],[]⟩)
     ·obtain⟨F,G,hq9⟩:=xH F G hp9
      refine xR ?_
      exact Jd H (xK ⟨[],[]⟩)
   ·rintro ⟨x3,x4⟩ H
    rw[KW]at H
    refine XS ?_
    refine JC (Xn a0 x2) (fun s=>[(0,.c (.d (.v (str a0)))),(3,.c (.d (.v (.int .i64 x2)))),(52,.c (.d (.v (.bool s))))]) (fun s=>[]) [] o1 ?_ ?_
    ·rcases Jc H with⟨hp3,H⟩|⟨hp3,H⟩
     ·obtain⟨F,G,hq3⟩:=xH Y G hp3
      rcases Jc H with⟨hp4,H⟩|⟨hp4,H⟩
      ·obtain⟨F,G,hq4⟩:=xH F G hp4
       obtain⟨r1,hr1,H⟩:=Je H
       have F:=xCf F (Jdv x3 r1 hr1)
       rcases Jc H with⟨hp5,H⟩|⟨hp5,H⟩
       ·obtain⟨F,G,hq5⟩:=xH F G hp5
        obtain⟨r2,hr2,H⟩:=Je H
        have F:=xCf F (Jcq x3 r2 hr2)
        refine xR ?_
        exact Jd H (xK ⟨[],[]⟩)
       ·obtain⟨F,G,hq5⟩:=xH F G hp5
        refine xR ?_
        exact Jd H (xK ⟨[],[]⟩)
      ·obtain⟨F,G,hq4⟩:=xH F G hp4
       refine xR ?_
       exact Jd H (xK ⟨[],[]⟩)
     ·obtain⟨F,G,hq3⟩:=xH Y G hp3
      refine xR ?_
      exact Jd H (xK ⟨[],[]⟩)
    ·rintro x5 H
     rw[Xn]at H
     rcases Jc H with⟨hp2,H⟩|⟨hp2,H⟩
     ·obtain⟨F,G,hq2⟩:=xH Y G hp2
      replace H:=Jq H hF1
      refine xT ?_
      exact Jd H (xK ⟨[],[]⟩)
     ·obtain⟨F,G,hq2⟩:=xH Y G hp2
      refine xE ?_
      refine xr ?_
      exact JJ (J3 H hF1) (xK ⟨[],[]⟩)
  ·obtain⟨F,G,hq1⟩:=xH Y G hp1
   replace H:=Jq H hF1
   refine xE ?_
   exact Jd H (xK ⟨[],[]⟩)
 ·rintro x1 H
  rw[Za]at H
  refine xS ?_
  obtain⟨hg1,H⟩:=Jg H
  replace H:=Option.some.inj H
  refine xr ?_
  subst H
  exact xN
theorem Jjg(a0:List UInt8)(r:(List UInt8))(H:JaC a0=some r):PC Jc6 [dS a0] (dS r):=PF.c (a:=a0) H
noncomputable def Z9:Int→Option (Int ⊕ (List UInt8))
 | x2=>some (.inl (IntKind.i64.wrap (x2+1)))
noncomputable def X5(x1:Int):Bool→Option (Int ⊕ (List UInt8))
 | x3=>if x3=true then Z9 (IntKind.i64.wrap (x1+1)) else Z9 x1
noncomputable def Jaf(a0:List UInt8):Int→Option (Int ⊕ (List UInt8))
 | x1=>if(ltI x1 (a0.length:Int))=true then if(0:Int)≤x1∧x1.toNat<a0.length then if(eqI ((a0.getD x1.toNat 0).toNat:Int) 10)=true then inrO (some []) else if(0:Int)≤x1∧x1.toNat<a0.length then if 0<a0.length then if(eqI ((a0.getD x1.toNat 0).toNat:Int) ((a0.getD 0 0).toNat:Int))=true then if(0:Int)≤0∧0≤(IntKind.i64.wrap (x1+1))∧(IntKind.i64.wrap (x1+1))≤(a0.length:Int) then inrO (some (List.take ((IntKind.i64.wrap (x1+1)).toNat) a0)) else none else if(0:Int)≤x1∧x1.toNat<a0.length then if(eqI ((a0.getD x1.toNat 0).toNat:Int) 92)=true then if(ltI (IntKind.i64.wrap (x1+1)) (a0.length:Int))=true then if(0:Int)≤(IntKind.i64.wrap (x1+1))∧(IntKind.i64.wrap (x1+1)).toNat<a0.length then X5 x1 (!eqI ((a0.getD ((IntKind.i64.wrap (x1+1)).toNat) 0).toNat:Int) 10) else none else X5 x1 false else X5 x1 false else none else none else none else none else inrO (some [])
noncomputable def Zt(a0:List UInt8):Option (List UInt8) :=
 Jv (Jaf a0) 1
noncomputable def Jc4:PF:=PF.of (E1 dS) (fun a=>Zt a) dS
theorem JiY:Kt Try.prog 54 Jc4:=by
 refine xF mixed [] [] trivial trivial Try.func54 ?_
 rintro a0 out H
 have G:=True.intro
 have Y:=xZ y_9 <| Try.results54
 simp only[Zt]at H
 refine xS ?_
 refine xr ?_
 refine xr ?_
 refine KI (Jaf a0) (fun s=>[(0,.c (.d (.v (str a0)))),(3,.c (.d (.v (.int .i64 s))))]) (fun s=>[]) [] H (xK ⟨[],[]⟩) ?_
 rintro n1 x1 o1 H hF1
 rw[Jaf]at H
 refine xS ?_
 refine xr ?_
 rcases Jc H with⟨hp1,H⟩|⟨hp1,H⟩
 ·obtain⟨F,G,hq1⟩:=xH Y G hp1
  refine xT0 ?_
  refine JbN ?_
  refine Jn ?_
  refine JC Z9 (fun s=>[(0,.c (.d (.v (str a0)))),(3,.c (.d (.v (.int .i64 s))))]) (fun s=>[]) [] o1 ?_ ?_
  ·refine xS ?_
   obtain⟨hg1,H⟩:=Jg H
   refine xr ?_
   rcases Jc H with⟨hp2,H⟩|⟨hp2,H⟩
   ·obtain⟨F,G,hq2⟩:=xH Y G hp2
    refine xT ?_
    replace H:=Jq H hF1
    replace H:=Option.some.inj H
    refine xr ?_
    subst H
    exact xN
   ·obtain⟨F,G,hq2⟩:=xH Y G hp2
    refine xE ?_
    obtain⟨hg2,H⟩:=Jg H
    obtain⟨hg3,H⟩:=Jg H
    refine xr ?_
    rcases Jc H with⟨hp3,H⟩|⟨hp3,H⟩
    ·obtain⟨F,G,hq3⟩:=xH Y G hp3
     refine xT ?_
     obtain⟨hg4,H⟩:=Jg H
     replace H:=Jq H hF1
     replace H:=Option.some.inj H
     refine xr ?_
     subst H
     exact xN
    ·obtain⟨F,G,hq3⟩:=xH Y G hp3
     refine xE0 ?_
     refine JbN ?_
     refine Jn ?_
     refine JC (X5 x1) (fun s=>[(0,.c (.d (.v (str a0)))),(3,.c (.d (.v (.int .i64 x1)))),(41,.c (.d (.v (.bool s))))]) (fun s=>[]) [] o1 ?_ ?_
     ·obtain⟨hg5,H⟩:=Jg H
      rcases Jc H with⟨hp5,H⟩|⟨hp5,H⟩
      ·obtain⟨F,G,hq5⟩:=xH Y G hp5
       rcases Jc H with⟨hp6,H⟩|⟨hp6,H⟩
       ·obtain⟨F,G,hq6⟩:=xH F G hp6
        obtain⟨hg6,H⟩:=Jg H
        refine xR ?_
        exact Jd H (xK ⟨[],[]⟩)
       ·obtain⟨F,G,hq6⟩:=xH F G hp6
        refine xR ?_
        exact Jd H (xK ⟨[],[]⟩)
      ·obtain⟨F,G,hq5⟩:=xH Y G hp5
       refine xR ?_
       exact Jd H (xK ⟨[],[]⟩)
     ·rintro x3 H
      rw[X5]at H
      rcases Jc H with⟨hp4,H⟩|⟨hp4,H⟩
      ·obtain⟨F,G,hq4⟩:=xH Y G hp4
       refine xT ?_
       refine xr ?_
       exact Jd H (xK ⟨[],[]⟩)
      ·obtain⟨F,G,hq4⟩:=xH Y G hp4
       refine xE ?_
       exact Jd H (xK ⟨[],[]⟩)
  ·rintro x2 H
   rw[Z9]at H
   refine xr ?_
   exact JJ (J3 H hF1) (xK ⟨[],[]⟩)
 ·obtain⟨F,G,hq1⟩:=xH Y G hp1
  replace H:=Jq H hF1
  refine xE ?_
  replace H:=Option.some.inj H
  refine xr ?_
  subst H
  exact xN
theorem JfD(a0:List UInt8)(r:(List UInt8))(H:Zt a0=some r):PC Jc4 [dS a0] (dS r):=PF.c (a:=a0) H
noncomputable def Jb8  : Option (List (List UInt8)) :=
 some [[46,46,46],[60,60,61],[62,62,61],[45,62],[43,43],[45,45],[60,60],[62,62],[60,61],[62,61],[61,61],[33,61],[38,38],[124,124],[43,61],[45,61],[42,61],[47,61],[37,61],[38,61],[124,61],[94,61],[35,35],[91],[93],[40],[41],[123],[125],[46],[38],[42],[43],[45],[126],[33],[47],[37],[60],[62],[94],[124],[63],[58],[59],[61],[44],[35]]
noncomputable def Jdr:PF:=PF.of E0 (fun _=>Jb8) (dL 1 dS)
theorem Jjq:Kt Try.prog 76 Jdr:=by
 refine xF mixed [] [] trivial trivial Try.func76 ?_
 rintro _ out H
 have G:=True.intro
 have Y:=xZ y_9 <| xZ y_41 <| Try.results76
 simp only[Jb8]at H
 refine xS ?_
 refine xr ?_
 replace H:=Option.some.inj H
 refine xr ?_
 subst H
 exact xN
theorem Jka  (r:(List (List UInt8))) (H:Jb8  = some r):PC Jdr [] ((dL 1 dS) r):=PF.c (a:=()) H
noncomputable def Jbm(x5:Int)(x6:Int):(List UInt8)→Option (((List UInt8)×Int×Int) ⊕ (((List UInt8)×Int) ⊕ (List UInt8)))
 | x7=>some (.inl (x7,x5,IntKind.i64.wrap (x6+1)))
noncomputable def Z1(a0:List UInt8)(x2:Int)(r1:(List (List UInt8))):((List UInt8)×Int×Int)→Option (((List UInt8)×Int×Int) ⊕ (((List UInt8)×Int) ⊕ (List UInt8)))
 | (x4,x5,x6)=>if(ltI x6 x5)=true then if(0:Int)≤x6∧x6.toNat<r1.length then if(0:Int)≤0∧0≤x2∧x2≤(a0.length:Int) then if(eqS (r1.getD x6.toNat default) (List.take x2.toNat a0))=true then Jbm x5 x6 (r1.getD x6.toNat default) else Jbm x5 x6 x4 else none else none else inrO (some (.inl (x4,IntKind.i64.wrap (x2+1))))
noncomputable def ZZ(a0:List UInt8)(x1:List UInt8)(x2:Int):Bool→Option (((List UInt8)×Int) ⊕ (List UInt8))
 | x3=>if x3=true then(Jb8).bind fun r1=>Jv (Z1 a0 x2 r1) (x1,(r1.length:Int),0) else inrO (some x1)
noncomputable def ZV(a0:List UInt8):((List UInt8)×Int)→Option (((List UInt8)×Int) ⊕ (List UInt8))
 | (x1,x2)=>if(leI x2 3)=true then ZZ a0 x1 x2 (leI x2 (a0.length:Int)) else ZZ a0 x1 x2 false
noncomputable def JbQ(a0:List UInt8):Option (List UInt8) :=
 Jv (ZV a0) ([],1)
noncomputable def JdO:PF:=PF.of (E1 dS) (fun a=>JbQ a) dS
theorem Jjw:Kt Try.prog 55 JdO:=by
 refine xF mixed [(76,Jdr)] [] ⟨⟨Jud,Jjq⟩,trivial⟩ trivial Try.func55 ?_
 rintro a0 out H
 have G:=True.intro
 have Y:=xZ y_9 <| xZ y_41 <| Try.results55
 simp only[JbQ]at H
 refine xS ?_
 refine xr ?_
 refine xr ?_
 refine xr ?_
 refine KI (ZV a0) (fun s=>[(0,.c (.d (.v (str a0)))),(3,.c (.d (.v (str s.1)))),(4,.c (.d (.v (.int .i64 s.2))))]) (fun s=>[]) [] H (xK ⟨[],[]⟩) ?_
 rintro n1 ⟨x1,x2⟩ o1 H hF1
 rw[ZV]at H
 refine XS ?_
 refine JC (ZZ a0 x1 x2) (fun s=>[(0,.c (.d (.v (str a0)))),(3,.c (.d (.v (str x1)))),(4,.c (.d (.v (.int .i64 x2)))),(14,.c (.d (.v (.bool s))))]) (fun s=>[]) [] o1 ?_ ?_
 ·rcases Jc H with⟨hp4,H⟩|⟨hp4,H⟩
  ·obtain⟨F,G,hq4⟩:=xH Y G hp4
   refine xR ?_
   exact Jd H (xK ⟨[],[]⟩)
  ·obtain⟨F,G,hq4⟩:=xH Y G hp4
   refine xR ?_
   exact Jd H (xK ⟨[],[]⟩)
 ·rintro x3 H
  rw[ZZ]at H
  rcases Jc H with⟨hp1,H⟩|⟨hp1,H⟩
  ·obtain⟨F,G,hq1⟩:=xH Y G hp1
   refine xT ?_
   obtain⟨r1,hr1,H⟩:=Je H
   have F:=xC Y (Jka  r1 hr1)
   refine xR ?_
   refine KI (Z1 a0 x2 r1) (fun s=>[(0,.c (.d (.v (str a0)))),(3,.c (.d (.v (str s.1)))),(4,.c (.d (.v (.int .i64 x2)))),(17,.c (.d (.sl 1 (List.map dS r1)))),(18,.c (.d (.v (.int .i64 s.2.1)))),(19,.c (.d (.v (.int .i64 s.2.2))))]) (fun s=>[]) [] H (xK ⟨[],[]⟩) ?_
   rintro n2 ⟨x4,x5,x6⟩ o2 H hF2
   rw[Z1]at H
   refine xS ?_
   refine xr ?_
   rcases Jc H with⟨hp2,H⟩|⟨hp2,H⟩
   ·obtain⟨F,G,hq2⟩:=xH Y G hp2
    refine xT0 ?_
    refine JbN ?_
    refine Jn ?_
    refine JC (Jbm x5 x6) (fun s=>[(0,.c (.d (.v (str a0)))),(3,.c (.d (.v (str s)))),(4,.c (.d (.v (.int .i64 x2)))),(17,.c (.d (.sl 1 (List.map dS r1)))),(18,.c (.d (.v (.int .i64 x5)))),(19,.c (.d (.v (.int .i64 x6))))]) (fun s=>[]) [] o2 ?_ ?_
    ·refine xS ?_
     obtain⟨hg1,H⟩:=Jg H
     have F:=xZ Y (Jt dS r1 x6.toNat default default (by omega))
     refine xR ?_
     obtain⟨hg2,H⟩:=Jg H
     refine xr ?_
     rcases Jc H with⟨hp3,H⟩|⟨hp3,H⟩
     ·obtain⟨F,G,hq3⟩:=xH Y G hp3
      refine xT ?_
      refine xr ?_
      exact Jd H (xK ⟨[],[]⟩)
     ·obtain⟨F,G,hq3⟩:=xH Y G hp3
      refine xE ?_
      exact Jd H (xK ⟨[],[]⟩)
    ·rintro x7 H
     rw[Jbm]at H
     refine xr ?_
     exact JJ (J3 H hF2) (xK ⟨[],[]⟩)
   ·obtain⟨F,G,hq2⟩:=xH Y G hp2
    replace H:=Jq H hF2
    refine xE ?_
    refine xr ?_
    exact JJ (J3 H hF1) (xK ⟨[],[]⟩)
  ·obtain⟨F,G,hq1⟩:=xH Y G hp1
   replace H:=Jq H hF1
   refine xE ?_
   replace H:=Option.some.inj H
   refine xr ?_
   subst H
   exact xN
theorem Jkv(a0:List UInt8)(r:(List UInt8))(H:JbQ a0=some r):PC JdO [dS a0] (dS r):=PF.c (a:=a0) H
noncomputable def Zw(a0:List UInt8):Unit→Option (Int×(List UInt8))
 | ()=>(JbQ a0).bind fun r1=>if(!eqS r1 [])=true then some (5,r1) else if(0:Int)≤0∧0≤1∧1≤(a0.length:Int) then some (6,List.take 1 a0) else none
noncomputable def Xv(a0:List UInt8)(x1:Int):Bool→Option (Int ⊕ (Int×(List UInt8)))
 | x2=>if x2=true then some (.inl (IntKind.i64.wrap (x1+1))) else inrO (if(0:Int)≤0∧0≤x1∧x1≤(a0.length:Int) then some (1,List.take x1.toNat a0) else none)
noncomputable def Zv(a0:List UInt8):Int→Option (Int ⊕ (Int×(List UInt8)))
 | x1=>if(ltI x1 (a0.length:Int))=true then if(0:Int)≤x1∧x1.toNat<a0.length then(V9 (a0.getD x1.toNat 0)).bind fun r3=>if r3=true then Xv a0 x1 true else if(0:Int)≤x1∧x1.toNat<a0.length then(V8 (a0.getD x1.toNat 0)).bind fun r4=>Xv a0 x1 r4 else none else none else Xv a0 x1 false
noncomputable def JaI(a0:List UInt8)(x6:Int):Bool→Option (Int ⊕ (Int×(List UInt8)))
 | x7=>if x7=true then if(0:Int)≤x6∧x6.toNat<a0.length then if(eqI ((a0.getD x6.toNat 0).toNat:Int) 62)=true then if(0:Int)≤0∧0≤(IntKind.i64.wrap (x6+1))∧(IntKind.i64.wrap (x6+1))≤(a0.length:Int) then inrO (some (7,List.take ((IntKind.i64.wrap (x6+1)).toNat) a0)) else none else some (.inl (IntKind.i64.wrap (x6+1))) else none else inrO (Zw a0 ())
noncomputable def ZA(a0:List UInt8):Int→Option (Int ⊕ (Int×(List UInt8)))
 | x6=>if(ltI x6 (a0.length:Int))=true then if(0:Int)≤x6∧x6.toNat<a0.length then JaI a0 x6 (!eqI ((a0.getD x6.toNat 0).toNat:Int) 10) else none else JaI a0 x6 false
noncomputable def VB(a0:List UInt8):Bool→Option (Int×(List UInt8))
 | x5=>if x5=true then Jv (ZA a0) 1 else Zw a0 ()
noncomputable def V0(a0:List UInt8)(a1:Bool):(UInt8×Bool)→Option (Int×(List UInt8))
 | (x3,x4)=>if x4=true then(JaC a0).bind fun r5=>some (2,r5) else if(eqI (x3.toNat:Int) 34)=true then(Zt a0).bind fun r6=>some (4,r6) else if(eqI (x3.toNat:Int) 39)=true then(Zt a0).bind fun r7=>some (3,r7) else if(eqI (x3.toNat:Int) 60)=true then VB a0 a1 else VB a0 false
noncomputable def Z6(a0:List UInt8)(a1:Bool):Option (Int×(List UInt8)) :=
 if 0<a0.length then(V9 (a0.getD 0 0)).bind fun r2=>if r2=true then Jv (Zv a0) 0 else(V8 (a0.getD 0 0)).bind fun r8=>if r8=true then V0 a0 a1 ((a0.getD 0 0),true) else if(eqI ((a0.getD 0 0).toNat:Int) 46)=true then if(ltI 1 (a0.length:Int))=true then if 1<a0.length then(V8 (a0.getD 1 0)).bind fun r9=>V0 a0 a1 ((a0.getD 0 0),r9) else none else V0 a0 a1 ((a0.getD 0 0),false) else V0 a0 a1 ((a0.getD 0 0),false) else none
noncomputable def Jds:PF:=PF.of (E2 dS dB) (fun a=>Z6 a.1 a.2) (T2 dI dS)
theorem Jjf:Kt Try.prog 29 Jds:=by
 refine xF mixed [(55,JdO),(51,Jbv),(52,Jb0),(53,Jc6),(54,Jc4)] [] ⟨⟨Juq,Jjw⟩,⟨JoZ,Je1⟩,⟨JpA,Jfu⟩,⟨JuC,JiT⟩,⟨Juf,JiY⟩,trivial⟩ trivial Try.func29 ?_
 rintro ⟨a0,a1⟩ out H
 have G:=True.intro
 have Y:=xZ y_9 <| Try.results29
 simp only[Z6]at H
 refine xS ?_
 refine xr0 ?_
 refine Jn ?_
 refine JC (Zw a0) (fun s=>[(0,.c (.d (.v (str a0))))]) (fun s=>[]) [] out ?_ ?_
 ·refine xS ?_
  obtain⟨hg2,H⟩:=Jg H
  refine xr ?_
  obtain⟨r2,hr2,H⟩:=Je H
  have F:=xC Y (Jdv (a0.getD 0 0) r2 hr2)
  refine xR ?_
  rcases Jc H with⟨hp2,H⟩|⟨hp2,H⟩
  ·obtain⟨F,G,hq2⟩:=xH Y G hp2
   refine xT ?_
   refine xr ?_
   refine KI (Zv a0) (fun s=>[(0,.c (.d (.v (str a0)))),(7,.c (.d (.v (.int .i64 s))))]) (fun s=>[]) [] H (xK ⟨[],[]⟩) ?_
   rintro n1 x1 o1 H hF1
   rw[Zv]at H
   refine XS ?_
   refine JC (Xv a0 x1) (fun s=>[(0,.c (.d (.v (str a0)))),(7,.c (.d (.v (.int .i64 x1)))),(30,.c (.d (.v (.bool s))))]) (fun s=>[]) [] o1 ?_ ?_
   ·rcases Jc H with⟨hp4,H⟩|⟨hp4,H⟩
    ·obtain⟨F,G,hq4⟩:=xH Y G hp4
     obtain⟨hg4,H⟩:=Jg H
     obtain⟨r3,hr3,H⟩:=Je H
     have F:=xCf F (Jdv (a0.getD x1.toNat 0) r3 hr3)
     rcases Jc H with⟨hp5,H⟩|⟨hp5,H⟩
     ·obtain⟨F,G,hq5⟩:=xH F G hp5
      refine xR ?_
      exact Jd H (xK ⟨[],[]⟩)
     ·obtain⟨F,G,hq5⟩:=xH F G hp5
      obtain⟨hg5,H⟩:=Jg H
      obtain⟨r4,hr4,H⟩:=Je H
      have F:=xCf F (Jcq (a0.getD x1.toNat 0) r4 hr4)
      refine xR ?_
      exact Jd H (xK ⟨[],[]⟩)
    ·obtain⟨F,G,hq4⟩:=xH Y G hp4
     refine xR ?_
     exact Jd H (xK ⟨[],[]⟩)
   ·rintro x2 H
    rw[Xv]at H
    rcases Jc H with⟨hp3,H⟩|⟨hp3,H⟩
    ·obtain⟨F,G,hq3⟩:=xH Y G hp3
     refine xT ?_
     refine xr ?_
     exact JJ (J3 H hF1) (xK ⟨[],[]⟩)
    ·obtain⟨F,G,hq3⟩:=xH Y G hp3
     replace H:=Jq H hF1
     refine xE ?_
     obtain⟨hg3,H⟩:=Jg H
     replace H:=Option.some.inj H
     refine xr ?_
     subst H
     exact xN
  ·obtain⟨F,G,hq2⟩:=xH Y G hp2
   refine xE0 ?_
   refine JC (V0 a0 a1) (fun s=>[(0,.c (.d (.v (str a0)))),(1,.c (.d (.v (.bool a1)))),(6,.c (.d (.v (.int .u8 (s.1.toNat:Int))))),(36,.c (.d (.v (.bool s.2))))]) (fun s=>[]) [] out ?_ ?_
   ·obtain⟨r8,hr8,H⟩:=Je H
    have F:=xC Y (Jcq (a0.getD 0 0) r8 hr8)
    rcases Jc H with⟨hp14,H⟩|⟨hp14,H⟩
    ·obtain⟨F,G,hq14⟩:=xH F G hp14
     refine xR ?_
     exact Jd H (xK ⟨[],[]⟩)
    ·obtain⟨F,G,hq14⟩:=xH F G hp14
     rcases Jc H with⟨hp15,H⟩|⟨hp15,H⟩
     ·obtain⟨F,G,hq15⟩:=xH F G hp15
      rcases Jc H with⟨hp16,H⟩|⟨hp16,H⟩
      ·obtain⟨F,G,hq16⟩:=xH F G hp16
       obtain⟨hg9,H⟩:=Jg H
       obtain⟨r9,hr9,H⟩:=Je H
       have F:=xCf F (Jcq (a0.getD 1 0) r9 hr9)
       refine xR ?_
       exact Jd H (xK ⟨[],[]⟩)
      ·obtain⟨F,G,hq16⟩:=xH F G hp16
       refine xR ?_
       exact Jd H (xK ⟨[],[]⟩)
     ·obtain⟨F,G,hq15⟩:=xH F G hp15
      refine xR ?_
      exact Jd H (xK ⟨[],[]⟩)
   ·rintro ⟨x3,x4⟩ H
    rw[V0]at H
    rcases Jc H with⟨hp6,H⟩|⟨hp6,H⟩
    ·obtain⟨F,G,hq6⟩:=xH Y G hp6
     refine xT ?_
     obtain⟨r5,hr5,H⟩:=Je H
     have F:=xC Y (Jjg a0 r5 hr5)
     replace H:=Option.some.inj H
     refine xR ?_
     subst H
     exact xN
    ·obtain⟨F,G,hq6⟩:=xH Y G hp6
     refine xE ?_
     refine xr ?_
     rcases Jc H with⟨hp7,H⟩|⟨hp7,H⟩
     ·obtain⟨F,G,hq7⟩:=xH Y G hp7
      refine xT ?_
      obtain⟨r6,hr6,H⟩:=Je H
      have F:=xC Y (JfD a0 r6 hr6)
      replace H:=Option.some.inj H
      refine xR ?_
      subst H
      exact xN
     ·obtain⟨F,G,hq7⟩:=xH Y G hp7
      refine xE ?_
      refine xr ?_
      rcases Jc H with⟨hp8,H⟩|⟨hp8,H⟩
      ·obtain⟨F,G,hq8⟩:=xH Y G hp8
       refine xT ?_
       obtain⟨r7,hr7,H⟩:=Je H
       have F:=xC Y (JfD a0 r7 hr7)
       replace H:=Option.some.inj H
       refine xR ?_
       subst H
       exact xN
      ·obtain⟨F,G,hq8⟩:=xH Y G hp8
       refine xE0 ?_
       refine JC (VB a0) (fun s=>[(0,.c (.d (.v (str a0)))),(65,.c (.d (.v (.bool s))))]) (fun s=>[]) [] out ?_ ?_
       ·rcases Jc H with⟨hp13,H⟩|⟨hp13,H⟩
        ·obtain⟨F,G,hq13⟩:=xH Y G hp13
         refine xR ?_
         exact Jd H (xK ⟨[],[]⟩)
        ·obtain⟨F,G,hq13⟩:=xH Y G hp13
         refine xR ?_
         exact Jd H (xK ⟨[],[]⟩)
       ·rintro x5 H
        rw[VB]at H
        rcases Jc H with⟨hp9,H⟩|⟨hp9,H⟩
        ·obtain⟨F,G,hq9⟩:=xH Y G hp9
         refine xT ?_
         refine xr ?_
         refine KI (ZA a0) (fun s=>[(0,.c (.d (.v (str a0)))),(8,.c (.d (.v (.int .i64 s))))]) (fun s=>[]) [] H (xK ⟨[],[]⟩) ?_
         rintro n2 x6 o2 H hF2
         rw[ZA]at H
         refine XS ?_
         refine JC (JaI a0 x6) (fun s=>[(0,.c (.d (.v (str a0)))),(8,.c (.d (.v (.int .i64 x6)))),(80,.c (.d (.v (.bool s))))]) (fun s=>[]) [] o2 ?_ ?_
         ·rcases Jc H with⟨hp12,H⟩|⟨hp12,H⟩
          ·obtain⟨F,G,hq12⟩:=xH Y G hp12
           obtain⟨hg8,H⟩:=Jg H
           refine xR ?_
           exact Jd H (xK ⟨[],[]⟩)
          ·obtain⟨F,G,hq12⟩:=xH Y G hp12
           refine xR ?_
           exact Jd H (xK ⟨[],[]⟩)
         ·rintro x7 H
          rw[JaI]at H
          rcases Jc H with⟨hp10,H⟩|⟨hp10,H⟩
          ·obtain⟨F,G,hq10⟩:=xH Y G hp10
           refine xT ?_
           obtain⟨hg6,H⟩:=Jg H
           refine xr ?_
           rcases Jc H with⟨hp11,H⟩|⟨hp11,H⟩
           ·obtain⟨F,G,hq11⟩:=xH Y G hp11
            refine xT ?_
            obtain⟨hg7,H⟩:=Jg H
            replace H:=Jq H hF2
            replace H:=Option.some.inj H
            refine xr ?_
            subst H
            exact xN
           ·obtain⟨F,G,hq11⟩:=xH Y G hp11
            refine xE ?_
            refine xr ?_
            exact JJ (J3 H hF2) (xK ⟨[],[]⟩)
          ·obtain⟨F,G,hq10⟩:=xH Y G hp10
           replace H:=Jq H hF2
           refine xE ?_
           exact Jd H (xK ⟨[],[]⟩)
        ·obtain⟨F,G,hq9⟩:=xH Y G hp9
         refine xE ?_
         exact Jd H (xK ⟨[],[]⟩)
 ·rintro ⟨⟩ H
  rw[Zw]at H
  refine xS ?_
  obtain⟨r1,hr1,H⟩:=Je H
  have F:=xC Y (Jkv a0 r1 hr1)
  refine xR ?_
  refine xr ?_
  rcases Jc H with⟨hp1,H⟩|⟨hp1,H⟩
  ·obtain⟨F,G,hq1⟩:=xH Y G hp1
   refine xT ?_
   replace H:=Option.some.inj H
   refine xr ?_
   subst H
   exact xN
  ·obtain⟨F,G,hq1⟩:=xH Y G hp1
   refine xE ?_
   obtain⟨hg1,H⟩:=Jg H
   replace H:=Option.some.inj H
   refine xr ?_
   subst H
   exact xN
theorem Jj2(a0:List UInt8)(a1:Bool)(r:Int×(List UInt8))(H:Z6 a0 a1=some r):PC Jds [dS a0,dB a1] (T2 dI dS r):=PF.c (a:=(a0,a1)) H
noncomputable def Jbi(x2:Int):Int→Option ((Int×Int) ⊕ Int)
 | x4=>some (.inl (x4,IntKind.i64.wrap (x2+1)))
noncomputable def Jbj(a0:List UInt8)(x1:Int)(x2:Int):Bool→Option ((Int×Int) ⊕ Int)
 | x3=>if x3=true then if(0:Int)≤x2∧x2.toNat<a0.length then if(eqI ((a0.getD x2.toNat 0).toNat:Int) 10)=true then Jbi x2 (IntKind.i64.wrap (x1+1)) else Jbi x2 x1 else none else inrO (some x1)
noncomputable def Ja5(a0:List UInt8)(a1:Int):(Int×Int)→Option ((Int×Int) ⊕ Int)
 | (x1,x2)=>if(ltI x2 a1)=true then Jbj a0 x1 x2 (ltI x2 (a0.length:Int)) else Jbj a0 x1 x2 false
noncomputable def JbH(a0:List UInt8)(a1:Int):Option Int :=
 Jv (Ja5 a0 a1) (1,0)
noncomputable def JdT:PF:=PF.of (E2 dS dI) (fun a=>JbH a.1 a.2) dI
theorem Jkc:Kt Try.prog 30 JdT:=by
 refine xF mixed [] [] trivial trivial Try.func30 ?_
 rintro ⟨a0,a1⟩ out H
 have G:=True.intro
 have Y:=xZ y_9 <| Try.results30
 simp only[JbH]at H
 refine xS ?_
 refine xr ?_
 refine xr ?_
 refine xr ?_
 refine KI (Ja5 a0 a1) (fun s=>[(0,.c (.d (.v (str a0)))),(1,.c (.d (.v (.int .i64 a1)))),(5,.c (.d (.v (.int .i64 s.1)))),(6,.c (.d (.v (.int .i64 s.2))))]) (fun s=>[]) [] H (xK ⟨[],[]⟩) ?_
 rintro n1 ⟨x1,x2⟩ o1 H hF1
 rw[Ja5]at H
 refine XS ?_
 refine JC (Jbj a0 x1 x2) (fun s=>[(0,.c (.d (.v (str a0)))),(1,.c (.d (.v (.int .i64 a1)))),(5,.c (.d (.v (.int .i64 x1)))),(6,.c (.d (.v (.int .i64 x2)))),(15,.c (.d (.v (.bool s))))]) (fun s=>[]) [] o1 ?_ ?_
 ·rcases Jc H with⟨hp3,H⟩|⟨hp3,H⟩
  ·obtain⟨F,G,hq3⟩:=xH Y G hp3
   refine xR ?_
   exact Jd H (xK ⟨[],[]⟩)
  ·obtain⟨F,G,hq3⟩:=xH Y G hp3
   refine xR ?_
   exact Jd H (xK ⟨[],[]⟩)
 ·rintro x3 H
  rw[Jbj]at H
  rcases Jc H with⟨hp1,H⟩|⟨hp1,H⟩
  ·obtain⟨F,G,hq1⟩:=xH Y G hp1
   refine xT0 ?_
   refine JbN ?_
   refine Jn ?_
   refine JC (Jbi x2) (fun s=>[(0,.c (.d (.v (str a0)))),(1,.c (.d (.v (.int .i64 a1)))),(5,.c (.d (.v (.int .i64 s)))),(6,.c (.d (.v (.int .i64 x2))))]) (fun s=>[]) [] o1 ?_ ?_
   ·refine xS ?_
    obtain⟨hg1,H⟩:=Jg H
    refine xr ?_
    rcases Jc H with⟨hp2,H⟩|⟨hp2,H⟩
    ·obtain⟨F,G,hq2⟩:=xH Y G hp2
     refine xT ?_
     refine xr ?_
     exact Jd H (xK ⟨[],[]⟩)
    ·obtain⟨F,G,hq2⟩:=xH Y G hp2
     refine xE ?_
     exact Jd H (xK ⟨[],[]⟩)
   ·rintro x4 H
    rw[Jbi]at H
    refine xr ?_
    exact JJ (J3 H hF1) (xK ⟨[],[]⟩)
  ·obtain⟨F,G,hq1⟩:=xH Y G hp1
   replace H:=Jq H hF1
   refine xE ?_
   replace H:=Option.some.inj H
   refine xr ?_
   subst H
   exact xN
theorem JkH(a0:List UInt8)(a1:Int)(r:Int)(H:JbH a0 a1=some r):PC JdT [dS a0,dI a1] (dI r):=PF.c (a:=(a0,a1)) H
noncomputable def KU(a0:Int)(a1:List UInt8)(r1:Spliced)(x1:List Token)(r2:Int×Bool)(x3:Int)(x4:Bool):Bool→Option (((List Token)×Int) ⊕ ((List Token)×Fault))
 | x5=>if(0:Int)≤x3∧x3≤(r1.Text.length:Int)∧(r1.Text.length:Int)≤(r1.Text.length:Int) then(Z6 (List.drop x3.toNat r1.Text) x5).bind fun r3=>if(eqS r3.2 [])=true then if(0:Int)≤x3∧x3.toNat<r1.At.length then inrO (some (([]:List Token),(⟨9,a0,(r1.At.getD x3.toNat default)⟩:Fault))) else none else if(0:Int)≤x3∧x3.toNat<r1.At.length then if(0:Int)≤(IntKind.i64.wrap ((IntKind.i64.wrap (x3+(r3.2.length:Int)))-1))∧(IntKind.i64.wrap ((IntKind.i64.wrap (x3+(r3.2.length:Int)))-1)).toNat<r1.At.length then if(0:Int)≤x3∧x3.toNat<r1.At.length then(JbH a1 (r1.At.getD x3.toNat default)).bind fun r4=>if(x1.length + [(⟨r3.1,r3.2,ltI 0 r2.1,x4,a0,(r1.At.getD x3.toNat default),IntKind.i64.wrap ((r1.At.getD ((IntKind.i64.wrap ((IntKind.i64.wrap (x3+(r3.2.length:Int)))-1)).toNat) default)+1),r4,([]:List (List UInt8)),([]:List Call),0⟩:Token)].length) * 120≤140737488355328 then some (.inl (x1++[(⟨r3.1,r3.2,ltI 0 r2.1,x4,a0,(r1.At.getD x3.toNat default),IntKind.i64.wrap ((r1.At.getD ((IntKind.i64.wrap ((IntKind.i64.wrap (x3+(r3.2.length:Int)))-1)).toNat) default)+1),r4,([]:List (List UInt8)),([]:List Call),0⟩:Token)],IntKind.i64.wrap (x3+(r3.2.length:Int)))) else none else none else none else none else none
noncomputable def X9(a0:Int)(a1:List UInt8)(r1:Spliced)(x1:List Token)(r2:Int×Bool):(Int×Bool)→Option (((List Token)×Int) ⊕ ((List Token)×Fault))
 | (x3,x4)=>if(!x4)=true then if(leI 2 (x1.length:Int))=true then if(0:Int)≤(IntKind.i64.wrap ((x1.length:Int)-1))∧(IntKind.i64.wrap ((x1.length:Int)-1)).toNat<x1.length then if(eqS ((x1.getD ((IntKind.i64.wrap ((x1.length:Int)-1)).toNat) default).Text) [105,110,99,108,117,100,101])=true then if(0:Int)≤(IntKind.i64.wrap ((x1.length:Int)-1))∧(IntKind.i64.wrap ((x1.length:Int)-1)).toNat<x1.length then if(!((x1.getD ((IntKind.i64.wrap ((x1.length:Int)-1)).toNat) default).First))=true then if(0:Int)≤(IntKind.i64.wrap ((x1.length:Int)-2))∧(IntKind.i64.wrap ((x1.length:Int)-2)).toNat<x1.length then if(eqS ((x1.getD ((IntKind.i64.wrap ((x1.length:Int)-2)).toNat) default).Text) [35])=true then if(0:Int)≤(IntKind.i64.wrap ((x1.length:Int)-2))∧(IntKind.i64.wrap ((x1.length:Int)-2)).toNat<x1.length then KU a0 a1 r1 x1 r2 x3 x4 ((x1.getD ((IntKind.i64.wrap ((x1.length:Int)-2)).toNat) default).First) else none else KU a0 a1 r1 x1 r2 x3 x4 false else none else KU a0 a1 r1 x1 r2 x3 x4 false else none else KU a0 a1 r1 x1 r2 x3 x4 false else none else KU a0 a1 r1 x1 r2 x3 x4 false else KU a0 a1 r1 x1 r2 x3 x4 false
noncomputable def Xk(a0:Int)(a1:List UInt8)(r1:Spliced):((List Token)×Int)→Option (((List Token)×Int) ⊕ ((List Token)×Fault))
 | (x1,x2)=>if(0:Int)≤x2∧x2≤(r1.Text.length:Int)∧(r1.Text.length:Int)≤(r1.Text.length:Int) then(JbC (List.drop x2.toNat r1.Text)).bind fun r2=>if(ltI r2.1 0)=true then if(0:Int)≤(IntKind.i64.wrap ((IntKind.i64.wrap (x2-1))-r2.1))∧(IntKind.i64.wrap ((IntKind.i64.wrap (x2-1))-r2.1)).toNat<r1.At.length then inrO (some (([]:List Token),(⟨9,a0,(r1.At.getD ((IntKind.i64.wrap ((IntKind.i64.wrap (x2-1))-r2.1)).toNat) default)⟩:Fault))) else none else if(leI (r1.Text.length:Int) (IntKind.i64.wrap (x2+r2.1)))=true then inrO (some (x1,(⟨0,(-1),0⟩:Fault))) else if r2.2=true then X9 a0 a1 r1 x1 r2 (IntKind.i64.wrap (x2+r2.1),true) else X9 a0 a1 r1 x1 r2 (IntKind.i64.wrap (x2+r2.1),eqI (x1.length:Int) 0) else none
noncomputable def Zx(a0:Int)(a1:List UInt8):Option ((List Token)×Fault) :=
 if(ltI 3000 (a1.length:Int))=true then some (([]:List Token),(⟨4,a0,0⟩:Fault)) else(Jax a1).bind fun r1=>Jv (Xk a0 a1 r1) (([]:List Token),0)
noncomputable def Jc5:PF:=PF.of (E2 dI dS) (fun a=>Zx a.1 a.2) (T2 (dL 11 Jb) Kh)
theorem JiX:Kt Try.prog 15 Jc5:=by
 refine xF mixed [(27,JcY),(28,JdU),(29,Jds),(30,JdT)] [] ⟨⟨JuB,JiW⟩,⟨JuS,JjT⟩,⟨Juj,Jjf⟩,⟨JuJ,Jkc⟩,trivial⟩ trivial Try.func15 ?_
 rintro ⟨a0,a1⟩ out H
 have G:=True.intro
 have Y:=xZ y_3 <| xZ y_4 <| xZ y_9 <| xZ y_22 <| xZ y_27 <| xZ y_29 <| xZ y_41 <| xZ y_42 <| xZ y_44 <| xZ y_78 <| xZ y_80 <| xZ Try.results15 <| xZ J9.eq_1 <| xZ Jb.eq_1 <| xZ ZM.eq_1 <| Kh.eq_1
 simp only[Zx]at H
 refine xS ?_
 refine xr ?_
 refine xr ?_
 rcases Jc H with⟨hp1,H⟩|⟨hp1,H⟩
 ·obtain⟨F,G,hq1⟩:=xH Y G hp1
  refine xT ?_
  replace H:=Option.some.inj H
  refine xr ?_
  subst H
  exact xN
 ·obtain⟨F,G,hq1⟩:=xH Y G hp1
  refine xE ?_
  obtain⟨r1,hr1,H⟩:=Je H
  have F:=xC Y (Jji a1 r1 hr1)
  refine xR ?_
  refine xr ?_
  refine xr ?_
  refine KI (Xk a0 a1 r1) (fun s=>[(0,.c (.d (.v (.int .i64 a0)))),(1,.c (.d (.v (str a1)))),(5,.c (.pt 1 0)),(6,.c (.pt 2 0)),(7,.c (.sl 11 (List.map Jb s.1) 3)),(8,.c (.d (.v (.int .i64 s.2))))]) (fun s=>[[.d (.v (.int .i64 0)),.d (.v (.int .i64 0)),.d (.v (.int .i64 0))],[.d (.v (str r1.Text)),.d (.sl 1 (List.map dI r1.At))]]) [44] H (xK ⟨[1,2],[0]⟩) ?_
  rintro n1 ⟨x1,x2⟩ o1 H hF1
  rw[Xk]at H
  refine xS ?_
  obtain⟨hg1,H⟩:=Jg H
  obtain⟨r2,hr2,H⟩:=Je H
  have F:=xC Y (Jkw (List.drop x2.toNat r1.Text) r2 hr2)
  refine xR ?_
  refine xr ?_
  rcases Jc H with⟨hp2,H⟩|⟨hp2,H⟩
  ·obtain⟨F,G,hq2⟩:=xH Y G hp2
   refine xT ?_
   obtain⟨hg2,H⟩:=Jg H
   have F:=xZ Y (Jt dI r1.At ((IntKind.i64.wrap ((IntKind.i64.wrap (x2-1))-r2.1)).toNat) default default (by omega))
   replace H:=Jq H hF1
   replace H:=Option.some.inj H
   refine xR ?_
   subst H
   exact xN
  ·obtain⟨F,G,hq2⟩:=xH Y G hp2
   refine xE ?_
   refine xr ?_
   refine xr ?_
   rcases Jc H with⟨hp3,H⟩|⟨hp3,H⟩
   ·obtain⟨F,G,hq3⟩:=xH Y G hp3
    refine xT ?_
    replace H:=Jq H hF1
    replace H:=Option.some.inj H
    refine xr ?_
    subst H
    exact xN
   ·obtain⟨F,G,hq3⟩:=xH Y G hp3
    refine xE0 ?_
    refine JbN ?_
    refine Jn ?_
    refine JC (X9 a0 a1 r1 x1 r2) (fun s=>[(0,.c (.d (.v (.int .i64 a0)))),(1,.c (.d (.v (str a1)))),(5,.c (.pt 1 0)),(6,.c (.pt 2 0)),(7,.c (.sl 11 (List.map Jb x1) 3)),(8,.c (.d (.v (.int .i64 s.1)))),(9,.c (.d (.v (.int .i64 r2.1)))),(11,.c (.d (.v (.bool s.2))))]) (fun s=>[[.d (.v (.int .i64 0)),.d (.v (.int .i64 0)),.d (.v (.int .i64 0))],[.d (.v (str r1.Text)),.d (.sl 1 (List.map dI r1.At))]]) [44] o1 ?_ ?_
    ·rcases Jc H with⟨hp10,H⟩|⟨hp10,H⟩
     ·obtain⟨F,G,hq10⟩:=xH Y G hp10
      refine xR ?_
      exact Jd H (xK ⟨[1,2],[3]⟩)
     ·obtain⟨F,G,hq10⟩:=xH Y G hp10
      refine xR ?_
      exact Jd H (xK ⟨[1,2],[3]⟩)
    ·rintro ⟨x3,x4⟩ H
     rw[X9]at H
     refine xS ?_
     refine xr0 ?_
     refine Jn ?_
     refine JC (KU a0 a1 r1 x1 r2 x3 x4) (fun s=>[(0,.c (.d (.v (.int .i64 a0)))),(1,.c (.d (.v (str a1)))),(5,.c (.pt 1 0)),(6,.c (.pt 2 0)),(7,.c (.sl 11 (List.map Jb x1) 3)),(8,.c (.d (.v (.int .i64 x3)))),(9,.c (.d (.v (.int .i64 r2.1)))),(11,.c (.d (.v (.bool x4)))),(13,.c (.d (.v (.bool s))))]) (fun s=>[[.d (.v (.int .i64 0)),.d (.v (.int .i64 0)),.d (.v (.int .i64 0))],[.d (.v (str r1.Text)),.d (.sl 1 (List.map dI r1.At))]]) [44] o1 ?_ ?_
     ·rcases Jc H with⟨hp5,H⟩|⟨hp5,H⟩
      ·obtain⟨F,G,hq5⟩:=xH Y G hp5
       rcases Jc H with⟨hp6,H⟩|⟨hp6,H⟩
       ·obtain⟨F,G,hq6⟩:=xH F G hp6
        obtain⟨hg9,H⟩:=Jg H
        have F:=xZ F (Jt Jb x1 ((IntKind.i64.wrap ((x1.length:Int)-1)).toNat) default default (by omega))
        rcases Jc H with⟨hp7,H⟩|⟨hp7,H⟩
        ·obtain⟨F,G,hq7⟩:=xH F G hp7
         obtain⟨hg10,H⟩:=Jg H
         have F:=xZ F (Jt Jb x1 ((IntKind.i64.wrap ((x1.length:Int)-1)).toNat) default default (by omega))
         rcases Jc H with⟨hp8,H⟩|⟨hp8,H⟩
         ·obtain⟨F,G,hq8⟩:=xH F G hp8
          obtain⟨hg11,H⟩:=Jg H
          have F:=xZ F (Jt Jb x1 ((IntKind.i64.wrap ((x1.length:Int)-2)).toNat) default default (by omega))
          rcases Jc H with⟨hp9,H⟩|⟨hp9,H⟩
          ·obtain⟨F,G,hq9⟩:=xH F G hp9
           obtain⟨hg12,H⟩:=Jg H
           have F:=xZ F (Jt Jb x1 ((IntKind.i64.wrap ((x1.length:Int)-2)).toNat) default default (by omega))
           refine xR ?_
           exact Jd H (xK ⟨[1,2],[3]⟩)
          ·obtain⟨F,G,hq9⟩:=xH F G hp9
           refine xR ?_
           exact Jd H (xK ⟨[1,2],[3]⟩)
         ·obtain⟨F,G,hq8⟩:=xH F G hp8
          refine xR ?_
          exact Jd H (xK ⟨[1,2],[3]⟩)
        ·obtain⟨F,G,hq7⟩:=xH F G hp7
         refine xR ?_
         exact Jd H (xK ⟨[1,2],[3]⟩)
       ·obtain⟨F,G,hq6⟩:=xH F G hp6
        refine xR ?_
        exact Jd H (xK ⟨[1,2],[3]⟩)
      ·obtain⟨F,G,hq5⟩:=xH Y G hp5
       refine xR ?_
       exact Jd H (xK ⟨[1,2],[3]⟩)
     ·rintro x5 H
      rw[KU]at H
      refine xS ?_
      obtain⟨hg3,H⟩:=Jg H
      obtain⟨r3,hr3,H⟩:=Je H
      have F:=xC Y (Jj2 (List.drop x3.toNat r1.Text) x5 r3 hr3)
      refine xR ?_
      refine xr ?_
      rcases Jc H with⟨hp4,H⟩|⟨hp4,H⟩
      ·obtain⟨F,G,hq4⟩:=xH Y G hp4
       refine xT ?_
       obtain⟨hg4,H⟩:=Jg H
       have F:=xZ Y (Jt dI r1.At x3.toNat default default (by omega))
       replace H:=Jq H hF1
       replace H:=Option.some.inj H
       refine xR ?_
       subst H
       exact xN
      ·obtain⟨F,G,hq4⟩:=xH Y G hp4
       refine xE ?_
       obtain⟨hg5,H⟩:=Jg H
       have F:=xZ Y (Jt dI r1.At x3.toNat default default (by omega))
       obtain⟨hg6,H⟩:=Jg H
       have F:=xZ F (Jt dI r1.At ((IntKind.i64.wrap ((IntKind.i64.wrap (x3+(r3.2.length:Int)))-1)).toNat) default default (by omega))
       obtain⟨hg7,H⟩:=Jg H
       have F:=xZ F (Jt dI r1.At x3.toNat default default (by omega))
       obtain⟨r4,hr4,H⟩:=Je H
       have F:=xCf F (JkH a1 (r1.At.getD x3.toNat default) r4 hr4)
       obtain⟨hg8,H⟩:=Jg H
       have F:=xZ F (XN JrK [(⟨r3.1,r3.2,ltI 0 r2.1,x4,a0,(r1.At.getD x3.toNat default),IntKind.i64.wrap ((r1.At.getD ((IntKind.i64.wrap ((IntKind.i64.wrap (x3+(r3.2.length:Int)))-1)).toNat) default)+1),r4,([]:List (List UInt8)),([]:List Call),0⟩:Token)])
       refine xR ?_
       refine xr ?_
       exact JJ (J3 H hF1) (xK ⟨[1,2],[4]⟩)
theorem Jjh(a0:Int)(a1:List UInt8)(r:(List Token)×Fault)(H:Zx a0 a1=some r):PC Jc5 [dI a0,dS a1] (T2 (dL 11 Jb) Kh r):=PF.c (a:=(a0,a1)) H
noncomputable def Z3(a0:List UInt8):Option (List Token) :=
 (Zx 0 a0).bind fun r1=>some r1.1
noncomputable def Jb2:PF:=PF.of (E1 dS) (fun a=>Z3 a) (dL 11 Jb)
theorem Jfi:Kt Try.prog 6 Jb2:=by
 refine xF mixed [(15,Jc5)] [] ⟨⟨JuT,JiX⟩,trivial⟩ trivial Try.func6 ?_
 rintro a0 out H
 have G:=True.intro
 have Y:=xZ y_29 <| xZ Try.results6 <| xZ J9.eq_1 <| xZ Jb.eq_1 <| Kh.eq_1
 simp only[Z3]at H
 refine xS ?_
 refine xr ?_
 obtain⟨r1,hr1,H⟩:=Je H
 have F:=xC Y (Jjh 0 a0 r1 hr1)
 refine xR ?_
 replace H:=Option.some.inj H
 refine xr ?_
 subst H
 exact xN
theorem JfT(a0:List UInt8)(r:(List Token))(H:Z3 a0=some r):PC Jb2 [dS a0] ((dL 11 Jb) r):=PF.c (a:=a0) H
noncomputable def X6:Bool→Option Bool
 | x1=>some x1
noncomputable def JbB  : Option Bool :=
 (Z3 [105,110,116,32,120,59,32,105,110,116,32,102,40,105,110,116,32,121,41,32,123,32,105,110,116,32,120,59,32,120,32,61,32,121,59,32,114,101,116,117,114,110,32,102,40,120,41,59,32,125]).bind fun r1=>(Z7 r1).bind fun r2=>(Zi r1 r2.1).bind fun r3=>if(eqI r3.2.1 0)=true then if(eqI (r3.1.length:Int) 8)=true then(JcG r3.1 13).bind fun r4=>if(eqI r4 11)=true then(JcG r3.1 0).bind fun r5=>X6 (eqI r5 (-1)) else X6 false else X6 false else X6 false
noncomputable def JcX:PF:=PF.of E0 (fun _=>JbB) dB
theorem Ji0:Kt Try.prog 13 JcX:=by
 refine xF mixed [(6,Jb2),(7,JbT),(11,Jew)] [(8,true,ZY)] ⟨⟨Jr9,Jfi⟩,⟨JrO,JfJ⟩,⟨Jpl,Ji8⟩,trivial⟩ ⟨JfV,trivial⟩ Try.func13 ?_
 rintro _ out H
 have G:=True.intro
 have Y:=xZ y_26 <| xZ y_27 <| xZ y_29 <| xZ y_32 <| xZ y_40 <| xZ Try.results13 <| xZ J9.eq_1 <| xZ Jb.eq_1 <| xZ Kh.eq_1 <| xZ Vn <| xZ Jh.eq_1 <| ZW.eq_1
 simp only[JbB]at H
 refine xS ?_
 refine xr ?_
 obtain⟨r1,hr1,H⟩:=Je H
 have F:=xC Y (JfT [105,110,116,32,120,59,32,105,110,116,32,102,40,105,110,116,32,121,41,32,123,32,105,110,116,32,120,59,32,120,32,61,32,121,59,32,114,101,116,117,114,110,32,102,40,120,41,59,32,125] r1 hr1)
 refine xR ?_
 obtain⟨r2,hr2,H⟩:=Je H
 have F:=xC Y (JfQ r1 r2 hr2)
 refine xR ?_
 obtain⟨r3,hr3,H⟩:=Je H
 have F:=Y
 refine xQ ?_
 refine xs 2 ?_
 refine xc ⟨[],[]⟩ (tabG 0 (Jf3 r1 r2.1 r3 hr3)) ?_
 refine xs 6 ?_
 refine xl ?_
 refine  ?_
 refine Jn ?_
 refine JC X6 (fun s=>[(0,.c (.d (.v (.bool s))))]) (fun s=>[]) [] out ?_ ?_
 ·rcases Jc H with⟨hp1,H⟩|⟨hp1,H⟩
  ·obtain⟨F,G,hq1⟩:=xH Y G hp1
   rcases Jc H with⟨hp2,H⟩|⟨hp2,H⟩
   ·obtain⟨F,G,hq2⟩:=xH F G hp2
    obtain⟨r4,hr4,H⟩:=Je H
    have F:=xCf F (Jhb r3.1 13 r4 hr4)
    rcases Jc H with⟨hp3,H⟩|⟨hp3,H⟩
    ·obtain⟨F,G,hq3⟩:=xH F G hp3
     obtain⟨r5,hr5,H⟩:=Je H
     have F:=xCf F (Jhb r3.1 0 r5 hr5)
     refine xR ?_
     exact Jd H (xK ⟨[],[]⟩)
    ·obtain⟨F,G,hq3⟩:=xH F G hp3
     refine xR ?_
     exact Jd H (xK ⟨[],[]⟩)
   ·obtain⟨F,G,hq2⟩:=xH F G hp2
    refine xR ?_
    exact Jd H (xK ⟨[],[]⟩)
  ·obtain⟨F,G,hq1⟩:=xH Y G hp1
   refine xR ?_
   exact Jd H (xK ⟨[],[]⟩)
 ·rintro x1 H
  rw[X6]at H
  replace H:=Option.some.inj H
  refine xS ?_
  subst H
  exact xN
theorem Jjk  (r:Bool) (H:JbB  = some r):PC JcX [] (dB r):=PF.c (a:=()) H
noncomputable def KF(x3:Int)(x4:Int):(Bool×Int×Int)→Option ((Int×Int×Int) ⊕ Bool)
 | (x5,x6,x7)=>if x5=true then inrO (some false) else some (.inl (x6,x3,IntKind.i64.wrap (x4+1)))
noncomputable def VQ(r2:(List Token))(r4:((List Bind)×Int×Int×Int)):(Int×Int×Int)→Option ((Int×Int×Int) ⊕ Bool)
 | (x2,x3,x4)=>if(ltI x4 x3)=true then if(0:Int)≤x4∧x4.toNat<r4.1.length then if(leI ((r4.1.getD x4.toNat default).Tok) x2)=true then KF x3 x4 (true,(r4.1.getD x4.toNat default).Tok,(r4.1.getD x4.toNat default).Decl) else if(leI (r2.length:Int) ((r4.1.getD x4.toNat default).Tok))=true then KF x3 x4 (true,(r4.1.getD x4.toNat default).Tok,(r4.1.getD x4.toNat default).Decl) else if(ltI ((r4.1.getD x4.toNat default).Decl) 0)=true then KF x3 x4 (true,(r4.1.getD x4.toNat default).Tok,(r4.1.getD x4.toNat default).Decl) else if(ltI ((r4.1.getD x4.toNat default).Tok) ((r4.1.getD x4.toNat default).Decl))=true then KF x3 x4 (true,(r4.1.getD x4.toNat default).Tok,(r4.1.getD x4.toNat default).Decl) else if(0:Int)≤((r4.1.getD x4.toNat default).Tok)∧((r4.1.getD x4.toNat default).Tok).toNat<r2.length then if(0:Int)≤((r4.1.getD x4.toNat default).Decl)∧((r4.1.getD x4.toNat default).Decl).toNat<r2.length then if(!eqS ((r2.getD (((r4.1.getD x4.toNat default).Tok).toNat) default).Text) ((r2.getD (((r4.1.getD x4.toNat default).Decl).toNat) default).Text))=true then KF x3 x4 (true,(r4.1.getD x4.toNat default).Tok,(r4.1.getD x4.toNat default).Decl) else(JcG r4.1 ((r4.1.getD x4.toNat default).Decl)).bind fun r5=>KF x3 x4 (!eqI r5 ((r4.1.getD x4.toNat default).Decl),(r4.1.getD x4.toNat default).Tok,(r4.1.getD x4.toNat default).Decl) else none else none else none else inrO (some true)
noncomputable def Vo(r2:(List Token))(r4:((List Bind)×Int×Int×Int)):Bool→Option Bool
 | x1=>if x1=true then some true else Jv (VQ r2 r4) ((-1),(r4.1.length:Int),0)
noncomputable def Jbn(a0:List UInt8):Option Bool :=
 (JbB).bind fun r1=>if(!r1)=true then some false else(Z3 a0).bind fun r2=>(Z7 r2).bind fun r3=>(Zi r2 r3.1).bind fun r4=>if(!eqI r3.2.Err 0)=true then Vo r2 r4 true else Vo r2 r4 (!eqI r4.2.1 0)
noncomputable def JdD:PF:=PF.of (E1 dS) (fun a=>Jbn a) dB
theorem Jgm:Kt Try.prog 4 JdD:=by
 refine xF mixed [(13,JcX),(6,Jb2),(7,JbT),(11,Jew)] [(8,true,ZY)] ⟨⟨JuG,Ji0⟩,⟨Jr9,Jfi⟩,⟨JrO,JfJ⟩,⟨Jpl,Ji8⟩,trivial⟩ ⟨JfV,trivial⟩ Try.func4 ?_
 rintro a0 out H
 have G:=True.intro
 have Y:=xZ y_3 <| xZ y_9 <| xZ y_22 <| xZ y_26 <| xZ y_27 <| xZ y_29 <| xZ y_32 <| xZ y_40 <| xZ y_44 <| xZ Try.results4 <| xZ J9.eq_1 <| xZ Jb.eq_1 <| xZ Kh.eq_1 <| xZ Vn <| xZ Jh.eq_1 <| ZW.eq_1
 simp only[Jbn]at H
 refine xS ?_
 refine xr ?_
 obtain⟨r1,hr1,H⟩:=Je H
 have F:=xC Y (Jjk  r1 hr1)
 refine xR ?_
 rcases Jc H with⟨hp1,H⟩|⟨hp1,H⟩
 ·obtain⟨F,G,hq1⟩:=xH Y G hp1
  refine xT ?_
  replace H:=Option.some.inj H
  refine xr ?_
  subst H
  exact xN
 ·obtain⟨F,G,hq1⟩:=xH Y G hp1
  refine xE ?_
  obtain⟨r2,hr2,H⟩:=Je H
  have F:=xC Y (JfT a0 r2 hr2)
  refine xR ?_
  obtain⟨r3,hr3,H⟩:=Je H
  have F:=xC Y (JfQ r2 r3 hr3)
  refine xR ?_
  obtain⟨r4,hr4,H⟩:=Je H
  have F:=Y
  refine xQ ?_
  refine xs 2 ?_
  refine xc ⟨[],[]⟩ (tabG 0 (Jf3 r2 r3.1 r4 hr4)) ?_
  refine xs 6 ?_
  refine xl ?_
  refine  ?_
  refine Jn ?_
  refine XS ?_
  refine JC (Vo r2 r4) (fun s=>[(3,.c (.d (.sl 11 (List.map Jb r2)))),(6,.c (.sl 2 (List.map Jh r4.1) 1)),(33,.c (.d (.v (.bool s))))]) (fun s=>[]) [40] out ?_ ?_
  ·rcases Jc H with⟨hp10,H⟩|⟨hp10,H⟩
   ·obtain⟨F,G,hq10⟩:=xH Y G hp10
    refine xR ?_
    exact Jd H (xK ⟨[],[3]⟩)
   ·obtain⟨F,G,hq10⟩:=xH Y G hp10
    refine xR ?_
    exact Jd H (xK ⟨[],[3]⟩)
  ·rintro x1 H
   rw[Vo]at H
   rcases Jc H with⟨hp2,H⟩|⟨hp2,H⟩
   ·obtain⟨F,G,hq2⟩:=xH Y G hp2
    refine xT ?_
    replace H:=Option.some.inj H
    refine xr ?_
    subst H
    exact xN
   ·obtain⟨F,G,hq2⟩:=xH Y G hp2
    refine xE ?_
    refine xr ?_
    refine xr ?_
    refine KI (VQ r2 r4) (fun s=>[(3,.c (.d (.sl 11 (List.map Jb r2)))),(6,.c (.sl 2 (List.map Jh r4.1) 1)),(8,.c (.d (.v (.int .i64 s.1)))),(34,.c (.d (.sl 2 (List.map Jh r4.1)))),(35,.c (.d (.v (.int .i64 s.2.1)))),(36,.c (.d (.v (.int .i64 s.2.2))))]) (fun s=>[]) [40] H (xK ⟨[],[1]⟩) ?_
    rintro n1 ⟨x2,x3,x4⟩ o1 H hF1
    rw[VQ]at H
    refine xS ?_
    refine xr ?_
    rcases Jc H with⟨hp3,H⟩|⟨hp3,H⟩
    ·obtain⟨F,G,hq3⟩:=xH Y G hp3
     refine xT ?_
     obtain⟨hg1,H⟩:=Jg H
     have F:=xZ Y (Jt Jh r4.1 x4.toNat default default (by omega))
     refine xR0 ?_
     refine Jn ?_
     refine XS ?_
     refine JC (KF x3 x4) (fun s=>[(3,.c (.d (.sl 11 (List.map Jb r2)))),(6,.c (.sl 2 (List.map Jh r4.1) 2)),(10,.c (.pt 1 0)),(34,.c (.d (.sl 2 (List.map Jh r4.1)))),(35,.c (.d (.v (.int .i64 x3)))),(36,.c (.d (.v (.int .i64 x4)))),(86,.c (.d (.v (.bool s.1))))]) (fun s=>[[.d (.v (.int .i64 s.2.1)),.d (.v (.int .i64 s.2.2))]]) [40] o1 ?_ ?_
     ·rcases Jc H with⟨hp5,H⟩|⟨hp5,H⟩
      ·obtain⟨F,G,hq5⟩:=xH Y G hp5
       refine xR ?_
       exact Jd H (xK ⟨[2],[1]⟩)
      ·obtain⟨F,G,hq5⟩:=xH Y G hp5
       rcases Jc H with⟨hp6,H⟩|⟨hp6,H⟩
       ·obtain⟨F,G,hq6⟩:=xH F G hp6
        refine xR ?_
        exact Jd H (xK ⟨[2],[1]⟩)
       ·obtain⟨F,G,hq6⟩:=xH F G hp6
        rcases Jc H with⟨hp7,H⟩|⟨hp7,H⟩
        ·obtain⟨F,G,hq7⟩:=xH F G hp7
         refine xR ?_
         exact Jd H (xK ⟨[2],[1]⟩)
        ·obtain⟨F,G,hq7⟩:=xH F G hp7
         rcases Jc H with⟨hp8,H⟩|⟨hp8,H⟩
         ·obtain⟨F,G,hq8⟩:=xH F G hp8
          refine xR ?_
          exact Jd H (xK ⟨[2],[1]⟩)
         ·obtain⟨F,G,hq8⟩:=xH F G hp8
          obtain⟨hg2,H⟩:=Jg H
          have F:=xZ F (Jt Jb r2 (((r4.1.getD x4.toNat default).Tok).toNat) default default (by omega))
          obtain⟨hg3,H⟩:=Jg H
          have F:=xZ F (Jt Jb r2 (((r4.1.getD x4.toNat default).Decl).toNat) default default (by omega))
          rcases Jc H with⟨hp9,H⟩|⟨hp9,H⟩
          ·obtain⟨F,G,hq9⟩:=xH F G hp9
           refine xR ?_
           exact Jd H (xK ⟨[2],[1]⟩)
          ·obtain⟨F,G,hq9⟩:=xH F G hp9
           obtain⟨r5,hr5,H⟩:=Je H
           have F:=xCf F (Jhb r4.1 ((r4.1.getD x4.toNat default).Decl) r5 hr5)
           refine xR ?_
           exact Jd H (xK ⟨[2],[1]⟩)
     ·rintro ⟨x5,x6,x7⟩ H
      rw[KF]at H
      rcases Jc H with⟨hp4,H⟩|⟨hp4,H⟩
      ·obtain⟨F,G,hq4⟩:=xH Y G hp4
       refine xT ?_
       replace H:=Jq H hF1
       replace H:=Option.some.inj H
       refine xr ?_
       subst H
       exact xN
      ·obtain⟨F,G,hq4⟩:=xH Y G hp4
       refine xE ?_
       refine xr ?_
       refine xr ?_
       exact JJ (J3 H hF1) (xK ⟨[],[2]⟩)
    ·obtain⟨F,G,hq3⟩:=xH Y G hp3
     replace H:=Jq H hF1
     refine xE ?_
     replace H:=Option.some.inj H
     refine xr ?_
     subst H
     exact xN
end Go.Proofs.Ytaofbminodhcnaa
