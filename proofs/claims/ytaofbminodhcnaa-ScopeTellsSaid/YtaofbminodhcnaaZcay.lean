/- Functions of data for functions of the program. Written by dec3.py. -/
import Derived.Test.YtaofbminodhcnaaZcar
import Derived.Test.YtaofbminodhcnaaZcav
set_option linter.unusedVariables false
set_option linter.unusedSimpArgs false
set_option maxHeartbeats 4000000
set_option maxRecDepth 100000
namespace Go.Proofs.Ytaofbminodhcnaa
open Go.RowKit
noncomputable def Vy(x2:List UInt8):(Int×(List UInt8)×(List Int))→Option ((Int×(List UInt8)×(List UInt8)×(List Int)) ⊕ Spliced)
 | (x5,x6,x7)=>some (.inl (IntKind.i64.wrap (x5+1),x2,x6,x7))
noncomputable def VZ(x1:Int)(x2:List UInt8)(x3:List UInt8)(x4:List Int)(x8:List UInt8):Bool→Option ((Int×(List UInt8)×(List UInt8)×(List Int)) ⊕ Spliced)
 | x11=>if x11=true then Vy x2 (x1,x3,x4) else if(0:Int)≤0∧0≤1∧1≤(x8.length:Int) then if x3.length+(List.take 1 x8).length≤9223372036854775807 then if(x4.length + [x1].length) * 8≤140737488355328 then Vy x2 (x1,x3++(List.take 1 x8),x4++[x1]) else none else none else none
noncomputable def VA(x1:Int)(x2:List UInt8)(x3:List UInt8)(x4:List Int)(x8:List UInt8):Bool→Option ((Int×(List UInt8)×(List UInt8)×(List Int)) ⊕ Spliced)
 | x10=>if x10=true then Vy x2 (IntKind.i64.wrap (x1+2),x3,x4) else if(ltI 1 (x8.length:Int))=true then if 0<x8.length then if(eqI ((x8.getD 0 0).toNat:Int) 13)=true then if 1<x8.length then VZ x1 x2 x3 x4 x8 (eqI ((x8.getD 1 0).toNat:Int) 10) else none else VZ x1 x2 x3 x4 x8 false else none else VZ x1 x2 x3 x4 x8 false
noncomputable def V2(x1:Int)(x2:List UInt8)(x3:List UInt8)(x4:List Int):((List UInt8)×Bool)→Option ((Int×(List UInt8)×(List UInt8)×(List Int)) ⊕ Spliced)
 | (x8,x9)=>if x9=true then Vy x2 (IntKind.i64.wrap (x1+1),x3,x4) else if(ltI 2 (x8.length:Int))=true then if 0<x8.length then if(eqI ((x8.getD 0 0).toNat:Int) 92)=true then if 1<x8.length then if(eqI ((x8.getD 1 0).toNat:Int) 13)=true then if 2<x8.length then VA x1 x2 x3 x4 x8 (eqI ((x8.getD 2 0).toNat:Int) 10) else none else VA x1 x2 x3 x4 x8 false else none else VA x1 x2 x3 x4 x8 false else none else VA x1 x2 x3 x4 x8 false
noncomputable def JaZ(a0:List UInt8):(Int×(List UInt8)×(List UInt8)×(List Int))→Option ((Int×(List UInt8)×(List UInt8)×(List Int)) ⊕ Spliced)
 | (x1,x2,x3,x4)=>if(ltI x1 (a0.length:Int))=true then if(0:Int)≤x1∧x1≤(a0.length:Int)∧(a0.length:Int)≤(a0.length:Int) then if(ltI 1 ((List.drop x1.toNat a0).length:Int))=true then if 0<(List.drop x1.toNat a0).length then if(eqI (((List.drop x1.toNat a0).getD 0 0).toNat:Int) 92)=true then if 1<(List.drop x1.toNat a0).length then V2 x1 x2 x3 x4 (List.drop x1.toNat a0,eqI (((List.drop x1.toNat a0).getD 1 0).toNat:Int) 10) else none else V2 x1 x2 x3 x4 (List.drop x1.toNat a0,false) else none else V2 x1 x2 x3 x4 (List.drop x1.toNat a0,false) else none else inrO (if(x4.length + [(a0.length:Int)].length) * 8≤140737488355328 then some (⟨x3,x4++[(a0.length:Int)]⟩:Spliced) else none)
noncomputable def Jbg(a0:List UInt8):Option Spliced :=
 Jt (JaZ a0) (0,[],[],([]:List Int))
noncomputable def JdO:PF:=PF.of (E1 dS) (fun a=>Jbg a) Jas
theorem Jj6:Kl Try.prog 27 JdO:=by
 refine xF mixed [] [] trivial trivial Try.func27 ?_
 rintro a0 out H
 have G:=True.intro
 have Y:=xZ y_3 <| xZ y_9 <| xZ y_78 <| xZ y_80 <| xZ Try.results27 <| Jas.eq_1
 simp only[Jbg]at H
 refine xS ?_
 refine xr ?_
 refine xr ?_
 refine xr ?_
 refine Ke (JaZ a0) (fun s=>[(0,.c (.d (.v (str a0)))),(2,.c (.pt 1 0)),(3,.c (.pt 2 0)),(4,.c (.d (.v (.int .i64 s.1))))]) (fun s=>[[.d (.v (str s.2.1)),.sl 1 [] 0],[.d (.v (str s.2.2.1)),.sl 1 (List.map dI s.2.2.2) 3]]) [3] H (xK ⟨[1,2],[0]⟩) ?_
 rintro n1 ⟨x1,x2,x3,x4⟩ o1 H hF1
 rw[JaZ]at H
 refine xS ?_
 refine xr ?_
 rcases Jc H with⟨hp1,H⟩|⟨hp1,H⟩
 ·obtain⟨F,G,hq1⟩:=xH Y G hp1
  refine xT0 ?_
  refine Jbu ?_
  refine Jq ?_
  refine JB (Vy x2) (fun s=>[(0,.c (.d (.v (str a0)))),(2,.c (.pt 1 0)),(3,.c (.pt 2 0)),(4,.c (.d (.v (.int .i64 s.1))))]) (fun s=>[[.d (.v (str x2)),.sl 1 [] 0],[.d (.v (str s.2.1)),.sl 1 (List.map dI s.2.2) 3]]) [3] o1 ?_ ?_
  ·refine xS ?_
   obtain⟨hg1,H⟩:=Jj H
   refine xr0 ?_
   refine Jq ?_
   refine Zn ?_
   refine JB (V2 x1 x2 x3 x4) (fun s=>[(0,.c (.d (.v (str a0)))),(2,.c (.pt 1 0)),(3,.c (.pt 2 0)),(4,.c (.d (.v (.int .i64 x1)))),(5,.c (.d (.v (str s.1)))),(27,.c (.d (.v (.bool s.2))))]) (fun s=>[[.d (.v (str x2)),.sl 1 [] 0],[.d (.v (str x3)),.sl 1 (List.map dI x4) 3]]) [3] o1 ?_ ?_
   ·rcases Jc H with⟨hp10,H⟩|⟨hp10,H⟩
    ·obtain⟨F,G,hq10⟩:=xH Y G hp10
     obtain⟨hg10,H⟩:=Jj H
     rcases Jc H with⟨hp11,H⟩|⟨hp11,H⟩
     ·obtain⟨F,G,hq11⟩:=xH F G hp11
      obtain⟨hg11,H⟩:=Jj H
      refine xR ?_
      exact Jf H (xK ⟨[1,2],[3]⟩)
     ·obtain⟨F,G,hq11⟩:=xH F G hp11
      refine xR ?_
      exact Jf H (xK ⟨[1,2],[3]⟩)
    ·obtain⟨F,G,hq10⟩:=xH Y G hp10
     refine xR ?_
     exact Jf H (xK ⟨[1,2],[3]⟩)
   ·rintro ⟨x8,x9⟩ H
    rw[V2]at H
    rcases Jc H with⟨hp2,H⟩|⟨hp2,H⟩
    ·obtain⟨F,G,hq2⟩:=xH Y G hp2
     refine xT ?_
     refine xr ?_
     exact Jf H (xK ⟨[1,2],[3]⟩)
    ·obtain⟨F,G,hq2⟩:=xH Y G hp2
     refine xE0 ?_
     refine Jbu ?_
     refine Jq ?_
     refine Zn ?_
     refine JB (VA x1 x2 x3 x4 x8) (fun s=>[(0,.c (.d (.v (str a0)))),(2,.c (.pt 1 0)),(3,.c (.pt 2 0)),(4,.c (.d (.v (.int .i64 x1)))),(5,.c (.d (.v (str x8)))),(47,.c (.d (.v (.bool s))))]) (fun s=>[[.d (.v (str x2)),.sl 1 [] 0],[.d (.v (str x3)),.sl 1 (List.map dI x4) 3]]) [3] o1 ?_ ?_
     ·rcases Jc H with⟨hp7,H⟩|⟨hp7,H⟩
      ·obtain⟨F,G,hq7⟩:=xH Y G hp7
       obtain⟨hg7,H⟩:=Jj H
       rcases Jc H with⟨hp8,H⟩|⟨hp8,H⟩
       ·obtain⟨F,G,hq8⟩:=xH F G hp8
        obtain⟨hg8,H⟩:=Jj H
        rcases Jc H with⟨hp9,H⟩|⟨hp9,H⟩
        ·obtain⟨F,G,hq9⟩:=xH F G hp9
         obtain⟨hg9,H⟩:=Jj H
         refine xR ?_
         exact Jf H (xK ⟨[1,2],[3]⟩)
        ·obtain⟨F,G,hq9⟩:=xH F G hp9
         refine xR ?_
         exact Jf H (xK ⟨[1,2],[3]⟩)
       ·obtain⟨F,G,hq8⟩:=xH F G hp8
        refine xR ?_
        exact Jf H (xK ⟨[1,2],[3]⟩)
      ·obtain⟨F,G,hq7⟩:=xH Y G hp7
       refine xR ?_
       exact Jf H (xK ⟨[1,2],[3]⟩)
     ·rintro x10 H
      rw[VA]at H
      rcases Jc H with⟨hp3,H⟩|⟨hp3,H⟩
      ·obtain⟨F,G,hq3⟩:=xH Y G hp3
       refine xT ?_
       refine xr ?_
       exact Jf H (xK ⟨[1,2],[3]⟩)
      ·obtain⟨F,G,hq3⟩:=xH Y G hp3
       refine xE0 ?_
       refine Jbu ?_
       refine Jq ?_
       refine Zn ?_
       refine JB (VZ x1 x2 x3 x4 x8) (fun s=>[(0,.c (.d (.v (str a0)))),(2,.c (.pt 1 0)),(3,.c (.pt 2 0)),(4,.c (.d (.v (.int .i64 x1)))),(5,.c (.d (.v (str x8)))),(62,.c (.d (.v (.bool s))))]) (fun s=>[[.d (.v (str x2)),.sl 1 [] 0],[.d (.v (str x3)),.sl 1 (List.map dI x4) 3]]) [3] o1 ?_ ?_
       ·rcases Jc H with⟨hp5,H⟩|⟨hp5,H⟩
        ·obtain⟨F,G,hq5⟩:=xH Y G hp5
         obtain⟨hg5,H⟩:=Jj H
         rcases Jc H with⟨hp6,H⟩|⟨hp6,H⟩
         ·obtain⟨F,G,hq6⟩:=xH F G hp6
          obtain⟨hg6,H⟩:=Jj H
          refine xR ?_
          exact Jf H (xK ⟨[1,2],[3]⟩)
         ·obtain⟨F,G,hq6⟩:=xH F G hp6
          refine xR ?_
          exact Jf H (xK ⟨[1,2],[3]⟩)
        ·obtain⟨F,G,hq5⟩:=xH Y G hp5
         refine xR ?_
         exact Jf H (xK ⟨[1,2],[3]⟩)
       ·rintro x11 H
        rw[VZ]at H
        rcases Jc H with⟨hp4,H⟩|⟨hp4,H⟩
        ·obtain⟨F,G,hq4⟩:=xH Y G hp4
         refine xT ?_
         exact Jf H (xK ⟨[1,2],[3]⟩)
        ·obtain⟨F,G,hq4⟩:=xH Y G hp4
         refine xE ?_
         obtain⟨hg2,H⟩:=Jj H
         obtain⟨hg3,H⟩:=Jj H
         refine xr ?_
         obtain⟨hg4,H⟩:=Jj H
         have F:=xZ Y (XL Juk [x1])
         refine xR ?_
         exact Jf H (xK ⟨[1,2],[4]⟩)
  ·rintro ⟨x5,x6,x7⟩ H
   rw[Vy]at H
   refine xr ?_
   exact JD (JM H hF1) (xK ⟨[1,2],[3]⟩)
 ·obtain⟨F,G,hq1⟩:=xH Y G hp1
  replace H:=Js H hF1
  refine xE ?_
  obtain⟨hg12,H⟩:=Jj H
  have F:=xZ Y (XL Juk [(a0.length:Int)])
  refine xR ?_
  replace H:=Option.some.inj H
  refine xr ?_
  subst H
  exact xN
theorem Jkx(a0:List UInt8)(r:Spliced)(H:Jbg a0=some r):PC JdO [dS a0] (Jas r):=PF.c (a:=a0) H
noncomputable def JbO(x2:Bool)(x7:Int):Bool→Option (Int ⊕ ((Int×Bool) ⊕ (Int×Bool)))
 | x8=>if x8=true then some (.inl (IntKind.i64.wrap (x7+1))) else inrO (some (.inl (x7,x2)))
noncomputable def Jb7(a0:List UInt8)(x2:Bool):Int→Option (Int ⊕ ((Int×Bool) ⊕ (Int×Bool)))
 | x7=>if(ltI x7 (a0.length:Int))=true then if(0:Int)≤x7∧x7.toNat<a0.length then JbO x2 x7 (!eqI ((a0.getD x7.toNat 0).toNat:Int) 10) else none else JbO x2 x7 false
noncomputable def JbX(a0:List UInt8)(x1:Int)(x2:Bool)(x9:Int):Bool→Option (Int ⊕ ((Int×Bool) ⊕ (Int×Bool)))
 | x10=>if x10=true then some (.inl (IntKind.i64.wrap (x9+1))) else inrO (if(leI (a0.length:Int) (IntKind.i64.wrap (x9+1)))=true then inrO (some (IntKind.i64.wrap ((-1)-x1),x2)) else some (.inl (IntKind.i64.wrap (x9+2),x2)))
noncomputable def Jb5(a0:List UInt8)(x1:Int)(x2:Bool):Int→Option (Int ⊕ ((Int×Bool) ⊕ (Int×Bool)))
 | x9=>if(ltI (IntKind.i64.wrap (x9+1)) (a0.length:Int))=true then if(0:Int)≤x9∧x9≤(IntKind.i64.wrap (x9+2))∧(IntKind.i64.wrap (x9+2))≤(a0.length:Int) then JbX a0 x1 x2 x9 (!eqS (List.take ((IntKind.i64.wrap (x9+2)).toNat-x9.toNat) (List.drop x9.toNat a0)) [42,47]) else none else JbX a0 x1 x2 x9 false
noncomputable def Vg(a0:List UInt8)(x1:Int)(x2:Bool)(x4:List UInt8):(UInt8×Bool)→Option ((Int×Bool) ⊕ (Int×Bool))
 | (x5,x6)=>if x6=true then some (.inl (IntKind.i64.wrap (x1+1),x2)) else if(eqI (x5.toNat:Int) 10)=true then some (.inl (IntKind.i64.wrap (x1+1),true)) else if(eqS x4 [47,47])=true then Jt (Jb7 a0 x2) x1 else if(eqS x4 [47,42])=true then Jt (Jb5 a0 x1 x2) (IntKind.i64.wrap (x1+2)) else inrO (some (x1,x2))
noncomputable def Jay(a0:List UInt8)(x1:Int)(x2:Bool):(UInt8×(List UInt8))→Option ((Int×Bool) ⊕ (Int×Bool))
 | (x3,x4)=>if(eqI (x3.toNat:Int) 32)=true then Vg a0 x1 x2 x4 (x3,true) else if(eqI (x3.toNat:Int) 9)=true then Vg a0 x1 x2 x4 (x3,true) else Vg a0 x1 x2 x4 (x3,eqI (x3.toNat:Int) 13)
noncomputable def VF(a0:List UInt8):(Int×Bool)→Option ((Int×Bool) ⊕ (Int×Bool))
 | (x1,x2)=>if(ltI x1 (a0.length:Int))=true then if(0:Int)≤x1∧x1.toNat<a0.length then if(ltI (IntKind.i64.wrap (x1+1)) (a0.length:Int))=true then if(0:Int)≤x1∧x1≤(IntKind.i64.wrap (x1+2))∧(IntKind.i64.wrap (x1+2))≤(a0.length:Int) then Jay a0 x1 x2 ((a0.getD x1.toNat 0),List.take ((IntKind.i64.wrap (x1+2)).toNat-x1.toNat) (List.drop x1.toNat a0)) else none else Jay a0 x1 x2 ((a0.getD x1.toNat 0),[]) else none else inrO (some (x1,x2))
noncomputable def JcB(a0:List UInt8):Option (Int×Bool) :=
 Jt (VF a0) (0,false)
noncomputable def JeK:PF:=PF.of (E1 dS) (fun a=>JcB a) (T2 dI dB)
theorem Jlt:Kl Try.prog 28 JeK:=by
 refine xF mixed [] [] trivial trivial Try.func28 ?_
 rintro a0 out H
 have G:=True.intro
 have Y:=xZ y_9 <| Try.results28
 simp only[JcB]at H
 refine xS ?_
 refine xr ?_
 refine xr ?_
 refine Ke (VF a0) (fun s=>[(0,.c (.d (.v (str a0)))),(4,.c (.d (.v (.int .i64 s.1)))),(5,.c (.d (.v (.bool s.2))))]) (fun s=>[]) [] H (xK ⟨[],[]⟩) ?_
 rintro n1 ⟨x1,x2⟩ o1 H hF1
 rw[VF]at H
 refine xS ?_
 refine xr ?_
 rcases Jc H with⟨hp1,H⟩|⟨hp1,H⟩
 ·obtain⟨F,G,hq1⟩:=xH Y G hp1
  refine xT ?_
  obtain⟨hg1,H⟩:=Jj H
  refine xr ?_
  refine xr0 ?_
  refine Jq ?_
  refine JB (Jay a0 x1 x2) (fun s=>[(0,.c (.d (.v (str a0)))),(4,.c (.d (.v (.int .i64 x1)))),(5,.c (.d (.v (.bool x2)))),(6,.c (.d (.v (.int .u8 (s.1.toNat:Int))))),(7,.c (.d (.v (str s.2))))]) (fun s=>[]) [] o1 ?_ ?_
  ·refine xS ?_
   refine xr ?_
   rcases Jc H with⟨hp13,H⟩|⟨hp13,H⟩
   ·obtain⟨F,G,hq13⟩:=xH Y G hp13
    refine xT ?_
    obtain⟨hg4,H⟩:=Jj H
    refine xr ?_
    exact Jf H (xK ⟨[],[]⟩)
   ·obtain⟨F,G,hq13⟩:=xH Y G hp13
    refine xE ?_
    exact Jf H (xK ⟨[],[]⟩)
  ·rintro ⟨x3,x4⟩ H
   rw[Jay]at H
   refine Jge ?_
   refine JB (Vg a0 x1 x2 x4) (fun s=>[(0,.c (.d (.v (str a0)))),(4,.c (.d (.v (.int .i64 x1)))),(5,.c (.d (.v (.bool x2)))),(6,.c (.d (.v (.int .u8 (s.1.toNat:Int))))),(7,.c (.d (.v (str x4)))),(28,.c (.d (.v (.bool s.2))))]) (fun s=>[]) [] o1 ?_ ?_
   ·rcases Jc H with⟨hp11,H⟩|⟨hp11,H⟩
    ·obtain⟨F,G,hq11⟩:=xH Y G hp11
     refine xR ?_
     exact Jf H (xK ⟨[],[]⟩)
    ·obtain⟨F,G,hq11⟩:=xH Y G hp11
     rcases Jc H with⟨hp12,H⟩|⟨hp12,H⟩
     ·obtain⟨F,G,hq12⟩:=xH F G hp12
      refine xR ?_
      exact Jf H (xK ⟨[],[]⟩)
     ·obtain⟨F,G,hq12⟩:=xH F G hp12
      refine xR ?_
      exact Jf H (xK ⟨[],[]⟩)
   ·rintro ⟨x5,x6⟩ H
    rw[Vg]at H
    rcases Jc H with⟨hp2,H⟩|⟨hp2,H⟩
    ·obtain⟨F,G,hq2⟩:=xH Y G hp2
     refine xT ?_
     refine xr ?_
     exact JD (JM H hF1) (xK ⟨[],[]⟩)
    ·obtain⟨F,G,hq2⟩:=xH Y G hp2
     refine xE ?_
     refine xr ?_
     rcases Jc H with⟨hp3,H⟩|⟨hp3,H⟩
     ·obtain⟨F,G,hq3⟩:=xH Y G hp3
      refine xT ?_
      refine xr ?_
      refine xr ?_
      exact JD (JM H hF1) (xK ⟨[],[]⟩)
     ·obtain⟨F,G,hq3⟩:=xH Y G hp3
      refine xE ?_
      refine xr ?_
      rcases Jc H with⟨hp4,H⟩|⟨hp4,H⟩
      ·obtain⟨F,G,hq4⟩:=xH Y G hp4
       refine xT ?_
       refine Ke (Jb7 a0 x2) (fun s=>[(0,.c (.d (.v (str a0)))),(4,.c (.d (.v (.int .i64 s)))),(5,.c (.d (.v (.bool x2))))]) (fun s=>[]) [] H (xK ⟨[],[]⟩) ?_
       rintro n2 x7 o2 H hF2
       rw[Jb7]at H
       refine Zn ?_
       refine JB (JbO x2 x7) (fun s=>[(0,.c (.d (.v (str a0)))),(4,.c (.d (.v (.int .i64 x7)))),(5,.c (.d (.v (.bool x2)))),(58,.c (.d (.v (.bool s))))]) (fun s=>[]) [] o2 ?_ ?_
       ·rcases Jc H with⟨hp6,H⟩|⟨hp6,H⟩
        ·obtain⟨F,G,hq6⟩:=xH Y G hp6
         obtain⟨hg2,H⟩:=Jj H
         refine xR ?_
         exact Jf H (xK ⟨[],[]⟩)
        ·obtain⟨F,G,hq6⟩:=xH Y G hp6
         refine xR ?_
         exact Jf H (xK ⟨[],[]⟩)
       ·rintro x8 H
        rw[JbO]at H
        rcases Jc H with⟨hp5,H⟩|⟨hp5,H⟩
        ·obtain⟨F,G,hq5⟩:=xH Y G hp5
         refine xT ?_
         refine xr ?_
         exact JD (JM H hF2) (xK ⟨[],[]⟩)
        ·obtain⟨F,G,hq5⟩:=xH Y G hp5
         replace H:=Js H hF2
         refine xE ?_
         exact JD (JM H hF1) (xK ⟨[],[]⟩)
      ·obtain⟨F,G,hq4⟩:=xH Y G hp4
       refine xE ?_
       refine xr ?_
       rcases Jc H with⟨hp7,H⟩|⟨hp7,H⟩
       ·obtain⟨F,G,hq7⟩:=xH Y G hp7
        refine xT ?_
        refine xr ?_
        refine Ke (Jb5 a0 x1 x2) (fun s=>[(0,.c (.d (.v (str a0)))),(4,.c (.d (.v (.int .i64 x1)))),(5,.c (.d (.v (.bool x2)))),(8,.c (.d (.v (.int .i64 s))))]) (fun s=>[]) [] H (xK ⟨[],[]⟩) ?_
        rintro n3 x9 o3 H hF3
        rw[Jb5]at H
        refine Zn ?_
        refine JB (JbX a0 x1 x2 x9) (fun s=>[(0,.c (.d (.v (str a0)))),(4,.c (.d (.v (.int .i64 x1)))),(5,.c (.d (.v (.bool x2)))),(8,.c (.d (.v (.int .i64 x9)))),(78,.c (.d (.v (.bool s))))]) (fun s=>[]) [] o3 ?_ ?_
        ·rcases Jc H with⟨hp10,H⟩|⟨hp10,H⟩
         ·obtain⟨F,G,hq10⟩:=xH Y G hp10
          obtain⟨hg3,H⟩:=Jj H
          refine xR ?_
          exact Jf H (xK ⟨[],[]⟩)
         ·obtain⟨F,G,hq10⟩:=xH Y G hp10
          refine xR ?_
          exact Jf H (xK ⟨[],[]⟩)
        ·rintro x10 H
         rw[JbX]at H
         rcases Jc H with⟨hp8,H⟩|⟨hp8,H⟩
         ·obtain⟨F,G,hq8⟩:=xH Y G hp8
          refine xT ?_
          refine xr ?_
          exact JD (JM H hF3) (xK ⟨[],[]⟩)
         ·obtain⟨F,G,hq8⟩:=xH Y G hp8
          replace H:=Js H hF3
          refine xE ?_
          refine xr ?_
          rcases Jc H with⟨hp9,H⟩|⟨hp9,H⟩
          ·obtain⟨F,G,hq9⟩:=xH Y G hp9
           refine xT ?_
           replace H:=Js H hF1
           replace H:=Option.some.inj H
           refine xr ?_
           subst H
           exact xN
          ·obtain⟨F,G,hq9⟩:=xH Y G hp9
           refine xE ?_
           refine xr ?_
           exact JD (JM H hF1) (xK ⟨[],[]⟩)
       ·obtain⟨F,G,hq7⟩:=xH Y G hp7
        refine xE ?_
        replace H:=Js H hF1
        replace H:=Option.some.inj H
        refine xr ?_
        subst H
        exact xN
 ·obtain⟨F,G,hq1⟩:=xH Y G hp1
  replace H:=Js H hF1
  refine xE ?_
  replace H:=Option.some.inj H
  refine xr ?_
  subst H
  exact xN
theorem JlI(a0:List UInt8)(r:Int×Bool)(H:JcB a0=some r):PC JeK [dS a0] (T2 dI dB r):=PF.c (a:=a0) H
noncomputable def K5:Bool→Option Bool
 | x1=>some x1
noncomputable def Xt(a0:UInt8):Option Bool :=
 if(leI 97 (a0.toNat:Int))=true then if(leI (a0.toNat:Int) 122)=true then K5 true else if(leI 65 (a0.toNat:Int))=true then if(leI (a0.toNat:Int) 90)=true then K5 true else K5 (eqI (a0.toNat:Int) 95) else K5 (eqI (a0.toNat:Int) 95) else if(leI 65 (a0.toNat:Int))=true then if(leI (a0.toNat:Int) 90)=true then K5 true else K5 (eqI (a0.toNat:Int) 95) else K5 (eqI (a0.toNat:Int) 95)
noncomputable def Jcm:PF:=PF.of (E1 dU) (fun a=>Xt a) dB
theorem JfZ:Kl Try.prog 51 Jcm:=by
 refine xF mixed [] [] trivial trivial Try.func51 ?_
 rintro a0 out H
 have G:=True.intro
 have Y:=Try.results51
 simp only[Xt]at H
 refine xS ?_
 refine xr0 ?_
 refine Jq ?_
 refine JB K5 (fun s=>[(2,.c (.d (.v (.bool s))))]) (fun s=>[]) [] out ?_ ?_
 ·rcases Jc H with⟨hp1,H⟩|⟨hp1,H⟩
  ·obtain⟨F,G,hq1⟩:=xH Y G hp1
   rcases Jc H with⟨hp2,H⟩|⟨hp2,H⟩
   ·obtain⟨F,G,hq2⟩:=xH F G hp2
    refine xR ?_
    exact Jf H (xK ⟨[],[]⟩)
   ·obtain⟨F,G,hq2⟩:=xH F G hp2
    rcases Jc H with⟨hp3,H⟩|⟨hp3,H⟩
    ·obtain⟨F,G,hq3⟩:=xH F G hp3
     rcases Jc H with⟨hp4,H⟩|⟨hp4,H⟩
     ·obtain⟨F,G,hq4⟩:=xH F G hp4
      refine xR ?_
      exact Jf H (xK ⟨[],[]⟩)
     ·obtain⟨F,G,hq4⟩:=xH F G hp4
      refine xR ?_
      exact Jf H (xK ⟨[],[]⟩)
    ·obtain⟨F,G,hq3⟩:=xH F G hp3
     refine xR ?_
     exact Jf H (xK ⟨[],[]⟩)
  ·obtain⟨F,G,hq1⟩:=xH Y G hp1
   rcases Jc H with⟨hp5,H⟩|⟨hp5,H⟩
   ·obtain⟨F,G,hq5⟩:=xH F G hp5
    rcases Jc H with⟨hp6,H⟩|⟨hp6,H⟩
    ·obtain⟨F,G,hq6⟩:=xH F G hp6
     refine xR ?_
     exact Jf H (xK ⟨[],[]⟩)
    ·obtain⟨F,G,hq6⟩:=xH F G hp6
     refine xR ?_
     exact Jf H (xK ⟨[],[]⟩)
   ·obtain⟨F,G,hq5⟩:=xH F G hp5
    refine xR ?_
    exact Jf H (xK ⟨[],[]⟩)
 ·rintro x1 H
  rw[K5]at H
  replace H:=Option.some.inj H
  refine xS ?_
  subst H
  exact xN
theorem Jej(a0:UInt8)(r:Bool)(H:Xt a0=some r):PC Jcm [dU a0] (dB r):=PF.c (a:=a0) H
noncomputable def Jbw:Bool→Option Bool
 | x1=>some x1
noncomputable def Xp(a0:UInt8):Option Bool :=
 if(leI 48 (a0.toNat:Int))=true then Jbw (leI (a0.toNat:Int) 57) else Jbw false
noncomputable def JcJ:PF:=PF.of (E1 dU) (fun a=>Xp a) dB
theorem Jgu:Kl Try.prog 52 JcJ:=by
 refine xF mixed [] [] trivial trivial Try.func52 ?_
 rintro a0 out H
 have G:=True.intro
 have Y:=Try.results52
 simp only[Xp]at H
 refine xS ?_
 refine xr0 ?_
 refine Jq ?_
 refine JB Jbw (fun s=>[(2,.c (.d (.v (.bool s))))]) (fun s=>[]) [] out ?_ ?_
 ·rcases Jc H with⟨hp1,H⟩|⟨hp1,H⟩
  ·obtain⟨F,G,hq1⟩:=xH Y G hp1
   refine xR ?_
   exact Jf H (xK ⟨[],[]⟩)
  ·obtain⟨F,G,hq1⟩:=xH Y G hp1
   refine xR ?_
   exact Jf H (xK ⟨[],[]⟩)
 ·rintro x1 H
  rw[Jbw]at H
  replace H:=Option.some.inj H
  refine xS ?_
  subst H
  exact xN
theorem Jdj(a0:UInt8)(r:Bool)(H:Xp a0=some r):PC JcJ [dU a0] (dB r):=PF.c (a:=a0) H
noncomputable def Zy(a0:List UInt8):Int→Option (List UInt8)
 | x1=>if(0:Int)≤0∧0≤x1∧x1≤(a0.length:Int) then some (List.take x1.toNat a0) else none
noncomputable def XA(a0:List UInt8)(x2:Int):Bool→Option (Int ⊕ (List UInt8))
 | x5=>if x5=true then inrO (Zy a0 x2) else some (.inl (IntKind.i64.wrap (x2+1)))
noncomputable def K7(a0:List UInt8)(x2:Int):(UInt8×Bool)→Option (Int ⊕ (List UInt8))
 | (x3,x4)=>if(!x4)=true then if(!eqI (x3.toNat:Int) 46)=true then(Xt x3).bind fun r1=>if(!r1)=true then(Xp x3).bind fun r2=>XA a0 x2 (!r2) else XA a0 x2 false else XA a0 x2 false else XA a0 x2 false
noncomputable def JaR(a0:List UInt8):Int→Option (Int ⊕ (List UInt8))
 | x2=>if(ltI x2 (a0.length:Int))=true then if(0:Int)≤x2∧x2.toNat<a0.length then if(eqI ((a0.getD x2.toNat 0).toNat:Int) 43)=true then if(ltI 0 x2)=true then if(0:Int)≤(IntKind.i64.wrap (x2-1))∧(IntKind.i64.wrap (x2-1)).toNat<a0.length then if(eqI ((a0.getD ((IntKind.i64.wrap (x2-1)).toNat) 0).toNat:Int) 101)=true then K7 a0 x2 ((a0.getD x2.toNat 0),true) else if(0:Int)≤(IntKind.i64.wrap (x2-1))∧(IntKind.i64.wrap (x2-1)).toNat<a0.length then K7 a0 x2 ((a0.getD x2.toNat 0),eqI ((a0.getD ((IntKind.i64.wrap (x2-1)).toNat) 0).toNat:Int) 69) else none else none else K7 a0 x2 ((a0.getD x2.toNat 0),false) else if(eqI ((a0.getD x2.toNat 0).toNat:Int) 45)=true then if(ltI 0 x2)=true then if(0:Int)≤(IntKind.i64.wrap (x2-1))∧(IntKind.i64.wrap (x2-1)).toNat<a0.length then if(eqI ((a0.getD ((IntKind.i64.wrap (x2-1)).toNat) 0).toNat:Int) 101)=true then K7 a0 x2 ((a0.getD x2.toNat 0),true) else if(0:Int)≤(IntKind.i64.wrap (x2-1))∧(IntKind.i64.wrap (x2-1)).toNat<a0.length then K7 a0 x2 ((a0.getD x2.toNat 0),eqI ((a0.getD ((IntKind.i64.wrap (x2-1)).toNat) 0).toNat:Int) 69) else none else none else K7 a0 x2 ((a0.getD x2.toNat 0),false) else K7 a0 x2 ((a0.getD x2.toNat 0),false) else none else inrO (Zy a0 x2)
noncomputable def Jbd(a0:List UInt8):Option (List UInt8) :=
 Jt (JaR a0) 0
noncomputable def JdS:PF:=PF.of (E1 dS) (fun a=>Jbd a) dS
theorem Jj4:Kl Try.prog 53 JdS:=by
 refine xF mixed [(51,Jcm),(52,JcJ)] [] ⟨⟨JrT,JfZ⟩,⟨Jrn,Jgu⟩,trivial⟩ trivial Try.func53 ?_
 rintro a0 out H
 have G:=True.intro
 have Y:=xZ y_9 <| Try.results53
 simp only[Jbd]at H
 refine xS ?_
 refine xr ?_
 refine xr0 ?_
 refine Jq ?_
 refine JB (Zy a0) (fun s=>[(0,.c (.d (.v (str a0)))),(3,.c (.d (.v (.int .i64 s))))]) (fun s=>[]) [] out ?_ ?_
 ·refine xS ?_
  refine Ke (JaR a0) (fun s=>[(0,.c (.d (.v (str a0)))),(3,.c (.d (.v (.int .i64 s))))]) (fun s=>[]) [] H (xK ⟨[],[]⟩) ?_
  rintro n1 x2 o1 H hF1
  rw[JaR]at H
  refine xS ?_
  refine xr ?_
  rcases Jc H with⟨hp1,H⟩|⟨hp1,H⟩
  ·obtain⟨F,G,hq1⟩:=xH Y G hp1
   refine xT ?_
   obtain⟨hg2,H⟩:=Jj H
   refine xr0 ?_
   refine Jq ?_
   refine JB (K7 a0 x2) (fun s=>[(0,.c (.d (.v (str a0)))),(3,.c (.d (.v (.int .i64 x2)))),(4,.c (.d (.v (.int .u8 (s.1.toNat:Int))))),(5,.c (.d (.v (.bool s.2))))]) (fun s=>[]) [] o1 ?_ ?_
   ·rcases Jc H with⟨hp6,H⟩|⟨hp6,H⟩
    ·obtain⟨F,G,hq6⟩:=xH Y G hp6
     rcases Jc H with⟨hp7,H⟩|⟨hp7,H⟩
     ·obtain⟨F,G,hq7⟩:=xH F G hp7
      obtain⟨hg3,H⟩:=Jj H
      rcases Jc H with⟨hp8,H⟩|⟨hp8,H⟩
      ·obtain⟨F,G,hq8⟩:=xH F G hp8
       refine xR ?_
       exact Jf H (xK ⟨[],[]⟩)
      ·obtain⟨F,G,hq8⟩:=xH F G hp8
       obtain⟨hg4,H⟩:=Jj H
       refine xR ?_
       exact Jf H (xK ⟨[],[]⟩)
     ·obtain⟨F,G,hq7⟩:=xH F G hp7
      refine xR ?_
      exact Jf H (xK ⟨[],[]⟩)
    ·obtain⟨F,G,hq6⟩:=xH Y G hp6
     rcases Jc H with⟨hp9,H⟩|⟨hp9,H⟩
     ·obtain⟨F,G,hq9⟩:=xH F G hp9
      rcases Jc H with⟨hp10,H⟩|⟨hp10,H⟩
      ·obtain⟨F,G,hq10⟩:=xH F G hp10
       obtain⟨hg5,H⟩:=Jj H
       rcases Jc H with⟨hp11,H⟩|⟨hp11,H⟩
       ·obtain⟨F,G,hq11⟩:=xH F G hp11
        refine xR ?_
        exact Jf H (xK ⟨[],[]⟩)
       ·obtain⟨F,G,hq11⟩:=xH F G hp11
        obtain⟨hg6,H⟩:=Jj H
        refine xR ?_
        exact Jf H (xK ⟨[],[]⟩)
      ·obtain⟨F,G,hq10⟩:=xH F G hp10
       refine xR ?_
       exact Jf H (xK ⟨[],[]⟩)
     ·obtain⟨F,G,hq9⟩:=xH F G hp9
      refine xR ?_
      exact Jf H (xK ⟨[],[]⟩)
   ·rintro ⟨x3,x4⟩ H
    rw[K7]at H
    refine Zn ?_
    refine JB (XA a0 x2) (fun s=>[(0,.c (.d (.v (str a0)))),(3,.c (.d (.v (.int .i64 x2)))),(52,.c (.d (.v (.bool s))))]) (fun s=>[]) [] o1 ?_ ?_
    ·rcases Jc H with⟨hp3,H⟩|⟨hp3,H⟩
     ·obtain⟨F,G,hq3⟩:=xH Y G hp3
      rcases Jc H with⟨hp4,H⟩|⟨hp4,H⟩
      ·obtain⟨F,G,hq4⟩:=xH F G hp4
       obtain⟨r1,hr1,H⟩:=Jg H
       have F:=xCf F (Jej x3 r1 hr1)
       rcases Jc H with⟨hp5,H⟩|⟨hp5,H⟩
       ·obtain⟨F,G,hq5⟩:=xH F G hp5
        obtain⟨r2,hr2,H⟩:=Jg H
        have F:=xCf F (Jdj x3 r2 hr2)
        refine xR ?_
        exact Jf H (xK ⟨[],[]⟩)
       ·obtain⟨F,G,hq5⟩:=xH F G hp5
        refine xR ?_
        exact Jf H (xK ⟨[],[]⟩)
      ·obtain⟨F,G,hq4⟩:=xH F G hp4
       refine xR ?_
       exact Jf H (xK ⟨[],[]⟩)
     ·obtain⟨F,G,hq3⟩:=xH Y G hp3
      refine xR ?_
      exact Jf H (xK ⟨[],[]⟩)
    ·rintro x5 H
     rw[XA]at H
     rcases Jc H with⟨hp2,H⟩|⟨hp2,H⟩
     ·obtain⟨F,G,hq2⟩:=xH Y G hp2
      replace H:=Js H hF1
      refine xT ?_
      exact Jf H (xK ⟨[],[]⟩)
     ·obtain⟨F,G,hq2⟩:=xH Y G hp2
      refine xE ?_
      refine xr ?_
      exact JD (JM H hF1) (xK ⟨[],[]⟩)
  ·obtain⟨F,G,hq1⟩:=xH Y G hp1
   replace H:=Js H hF1
   refine xE ?_
   exact Jf H (xK ⟨[],[]⟩)
 ·rintro x1 H
  rw[Zy]at H
  refine xS ?_
  obtain⟨hg1,H⟩:=Jj H
  replace H:=Option.some.inj H
  refine xr ?_
  subst H
  exact xN
theorem Jkm(a0:List UInt8)(r:(List UInt8))(H:Jbd a0=some r):PC JdS [dS a0] (dS r):=PF.c (a:=a0) H
noncomputable def JaX:Int→Option (Int ⊕ (List UInt8))
 | x2=>some (.inl (IntKind.i64.wrap (x2+1)))
noncomputable def ZF(x1:Int):Bool→Option (Int ⊕ (List UInt8))
 | x3=>if x3=true then JaX (IntKind.i64.wrap (x1+1)) else JaX x1
noncomputable def JaQ(a0:List UInt8):Int→Option (Int ⊕ (List UInt8))
 | x1=>if(ltI x1 (a0.length:Int))=true then if(0:Int)≤x1∧x1.toNat<a0.length then if(eqI ((a0.getD x1.toNat 0).toNat:Int) 10)=true then inrO (some []) else if(0:Int)≤x1∧x1.toNat<a0.length then if 0<a0.length then if(eqI ((a0.getD x1.toNat 0).toNat:Int) ((a0.getD 0 0).toNat:Int))=true then if(0:Int)≤0∧0≤(IntKind.i64.wrap (x1+1))∧(IntKind.i64.wrap (x1+1))≤(a0.length:Int) then inrO (some (List.take ((IntKind.i64.wrap (x1+1)).toNat) a0)) else none else if(0:Int)≤x1∧x1.toNat<a0.length then if(eqI ((a0.getD x1.toNat 0).toNat:Int) 92)=true then if(ltI (IntKind.i64.wrap (x1+1)) (a0.length:Int))=true then if(0:Int)≤(IntKind.i64.wrap (x1+1))∧(IntKind.i64.wrap (x1+1)).toNat<a0.length then ZF x1 (!eqI ((a0.getD ((IntKind.i64.wrap (x1+1)).toNat) 0).toNat:Int) 10) else none else ZF x1 false else ZF x1 false else none else none else none else none else inrO (some [])
noncomputable def Jaa(a0:List UInt8):Option (List UInt8) :=
 Jt (JaQ a0) 1
noncomputable def JdQ:PF:=PF.of (E1 dS) (fun a=>Jaa a) dS
theorem JjU:Kl Try.prog 54 JdQ:=by
 refine xF mixed [] [] trivial trivial Try.func54 ?_
 rintro a0 out H
 have G:=True.intro
 have Y:=xZ y_9 <| Try.results54
 simp only[Jaa]at H
 refine xS ?_
 refine xr ?_
 refine xr ?_
 refine Ke (JaQ a0) (fun s=>[(0,.c (.d (.v (str a0)))),(3,.c (.d (.v (.int .i64 s))))]) (fun s=>[]) [] H (xK ⟨[],[]⟩) ?_
 rintro n1 x1 o1 H hF1
 rw[JaQ]at H
 refine xS ?_
 refine xr ?_
 rcases Jc H with⟨hp1,H⟩|⟨hp1,H⟩
 ·obtain⟨F,G,hq1⟩:=xH Y G hp1
  refine xT0 ?_
  refine Jbu ?_
  refine Jq ?_
  refine JB JaX (fun s=>[(0,.c (.d (.v (str a0)))),(3,.c (.d (.v (.int .i64 s))))]) (fun s=>[]) [] o1 ?_ ?_
  ·refine xS ?_
   obtain⟨hg1,H⟩:=Jj H
   refine xr ?_
   rcases Jc H with⟨hp2,H⟩|⟨hp2,H⟩
   ·obtain⟨F,G,hq2⟩:=xH Y G hp2
    refine xT ?_
    replace H:=Js H hF1
    replace H:=Option.some.inj H
    refine xr ?_
    subst H
    exact xN
   ·obtain⟨F,G,hq2⟩:=xH Y G hp2
    refine xE ?_
    obtain⟨hg2,H⟩:=Jj H
    obtain⟨hg3,H⟩:=Jj H
    refine xr ?_
    rcases Jc H with⟨hp3,H⟩|⟨hp3,H⟩
    ·obtain⟨F,G,hq3⟩:=xH Y G hp3
     refine xT ?_
     obtain⟨hg4,H⟩:=Jj H
     replace H:=Js H hF1
     replace H:=Option.some.inj H
     refine xr ?_
     subst H
     exact xN
    ·obtain⟨F,G,hq3⟩:=xH Y G hp3
     refine xE0 ?_
     refine Jbu ?_
     refine Jq ?_
     refine JB (ZF x1) (fun s=>[(0,.c (.d (.v (str a0)))),(3,.c (.d (.v (.int .i64 x1)))),(41,.c (.d (.v (.bool s))))]) (fun s=>[]) [] o1 ?_ ?_
     ·obtain⟨hg5,H⟩:=Jj H
      rcases Jc H with⟨hp5,H⟩|⟨hp5,H⟩
      ·obtain⟨F,G,hq5⟩:=xH Y G hp5
       rcases Jc H with⟨hp6,H⟩|⟨hp6,H⟩
       ·obtain⟨F,G,hq6⟩:=xH F G hp6
        obtain⟨hg6,H⟩:=Jj H
        refine xR ?_
        exact Jf H (xK ⟨[],[]⟩)
       ·obtain⟨F,G,hq6⟩:=xH F G hp6
        refine xR ?_
        exact Jf H (xK ⟨[],[]⟩)
      ·obtain⟨F,G,hq5⟩:=xH Y G hp5
       refine xR ?_
       exact Jf H (xK ⟨[],[]⟩)
     ·rintro x3 H
      rw[ZF]at H
      rcases Jc H with⟨hp4,H⟩|⟨hp4,H⟩
      ·obtain⟨F,G,hq4⟩:=xH Y G hp4
       refine xT ?_
       refine xr ?_
       exact Jf H (xK ⟨[],[]⟩)
      ·obtain⟨F,G,hq4⟩:=xH Y G hp4
       refine xE ?_
       exact Jf H (xK ⟨[],[]⟩)
  ·rintro x2 H
   rw[JaX]at H
   refine xr ?_
   exact JD (JM H hF1) (xK ⟨[],[]⟩)
 ·obtain⟨F,G,hq1⟩:=xH Y G hp1
  replace H:=Js H hF1
  refine xE ?_
  replace H:=Option.some.inj H
  refine xr ?_
  subst H
  exact xN
theorem Jgf(a0:List UInt8)(r:(List UInt8))(H:Jaa a0=some r):PC JdQ [dS a0] (dS r):=PF.c (a:=a0) H
noncomputable def JcW  : Option (List (List UInt8)) :=
 some [[46,46,46],[60,60,61],[62,62,61],[45,62],[43,43],[45,45],[60,60],[62,62],[60,61],[62,61],[61,61],[33,61],[38,38],[124,124],[43,61],[45,61],[42,61],[47,61],[37,61],[38,61],[124,61],[94,61],[35,35],[91],[93],[40],[41],[123],[125],[46],[38],[42],[43],[45],[126],[33],[47],[37],[60],[62],[94],[124],[63],[58],[59],[61],[44],[35]]
noncomputable def Jeg:PF:=PF.of E0 (fun _=>JcW) (dL 1 dS)
theorem Jkj:Kl Try.prog 76 Jeg:=by
 refine xF mixed [] [] trivial trivial Try.func76 ?_
 rintro _ out H
 have G:=True.intro
 have Y:=xZ y_9 <| xZ y_41 <| Try.results76
 simp only[JcW]at H
 refine xS ?_
 refine xr ?_
 replace H:=Option.some.inj H
 refine xr ?_
 subst H
 exact xN
theorem JlE  (r:(List (List UInt8))) (H:JcW  = some r):PC Jeg [] ((dL 1 dS) r):=PF.c (a:=()) H
noncomputable def JbS(x5:Int)(x6:Int):(List UInt8)→Option (((List UInt8)×Int×Int) ⊕ (((List UInt8)×Int) ⊕ (List UInt8)))
 | x7=>some (.inl (x7,x5,IntKind.i64.wrap (x6+1)))
noncomputable def Jaz(a0:List UInt8)(x2:Int)(r1:(List (List UInt8))):((List UInt8)×Int×Int)→Option (((List UInt8)×Int×Int) ⊕ (((List UInt8)×Int) ⊕ (List UInt8)))
 | (x4,x5,x6)=>if(ltI x6 x5)=true then if(0:Int)≤x6∧x6.toNat<r1.length then if(0:Int)≤0∧0≤x2∧x2≤(a0.length:Int) then if(eqS (r1.getD x6.toNat default) (List.take x2.toNat a0))=true then JbS x5 x6 (r1.getD x6.toNat default) else JbS x5 x6 x4 else none else none else inrO (some (.inl (x4,IntKind.i64.wrap (x2+1))))
noncomputable def Jau(a0:List UInt8)(x1:List UInt8)(x2:Int):Bool→Option (((List UInt8)×Int) ⊕ (List UInt8))
 | x3=>if x3=true then(JcW).bind fun r1=>Jt (Jaz a0 x2 r1) (x1,(r1.length:Int),0) else inrO (some x1)
noncomputable def JaA(a0:List UInt8):((List UInt8)×Int)→Option (((List UInt8)×Int) ⊕ (List UInt8))
 | (x1,x2)=>if(leI x2 3)=true then Jau a0 x1 x2 (leI x2 (a0.length:Int)) else Jau a0 x1 x2 false
noncomputable def Jcz(a0:List UInt8):Option (List UInt8) :=
 Jt (JaA a0) ([],1)
noncomputable def Je1:PF:=PF.of (E1 dS) (fun a=>Jcz a) dS
theorem Jlj:Kl Try.prog 55 Je1:=by
 refine xF mixed [(76,Jeg)] [] ⟨⟨Jwf,Jkj⟩,trivial⟩ trivial Try.func55 ?_
 rintro a0 out H
 have G:=True.intro
 have Y:=xZ y_9 <| xZ y_41 <| Try.results55
 simp only[Jcz]at H
 refine xS ?_
 refine xr ?_
 refine xr ?_
 refine xr ?_
 refine Ke (JaA a0) (fun s=>[(0,.c (.d (.v (str a0)))),(3,.c (.d (.v (str s.1)))),(4,.c (.d (.v (.int .i64 s.2))))]) (fun s=>[]) [] H (xK ⟨[],[]⟩) ?_
 rintro n1 ⟨x1,x2⟩ o1 H hF1
 rw[JaA]at H
 refine Zn ?_
 refine JB (Jau a0 x1 x2) (fun s=>[(0,.c (.d (.v (str a0)))),(3,.c (.d (.v (str x1)))),(4,.c (.d (.v (.int .i64 x2)))),(14,.c (.d (.v (.bool s))))]) (fun s=>[]) [] o1 ?_ ?_
 ·rcases Jc H with⟨hp4,H⟩|⟨hp4,H⟩
  ·obtain⟨F,G,hq4⟩:=xH Y G hp4
   refine xR ?_
   exact Jf H (xK ⟨[],[]⟩)
  ·obtain⟨F,G,hq4⟩:=xH Y G hp4
   refine xR ?_
   exact Jf H (xK ⟨[],[]⟩)
 ·rintro x3 H
  rw[Jau]at H
  rcases Jc H with⟨hp1,H⟩|⟨hp1,H⟩
  ·obtain⟨F,G,hq1⟩:=xH Y G hp1
   refine xT ?_
   obtain⟨r1,hr1,H⟩:=Jg H
   have F:=xC Y (JlE  r1 hr1)
   refine xR ?_
   refine Ke (Jaz a0 x2 r1) (fun s=>[(0,.c (.d (.v (str a0)))),(3,.c (.d (.v (str s.1)))),(4,.c (.d (.v (.int .i64 x2)))),(17,.c (.d (.sl 1 (List.map dS r1)))),(18,.c (.d (.v (.int .i64 s.2.1)))),(19,.c (.d (.v (.int .i64 s.2.2))))]) (fun s=>[]) [] H (xK ⟨[],[]⟩) ?_
   rintro n2 ⟨x4,x5,x6⟩ o2 H hF2
   rw[Jaz]at H
   refine xS ?_
   refine xr ?_
   rcases Jc H with⟨hp2,H⟩|⟨hp2,H⟩
   ·obtain⟨F,G,hq2⟩:=xH Y G hp2
    refine xT0 ?_
    refine Jbu ?_
    refine Jq ?_
    refine JB (JbS x5 x6) (fun s=>[(0,.c (.d (.v (str a0)))),(3,.c (.d (.v (str s)))),(4,.c (.d (.v (.int .i64 x2)))),(17,.c (.d (.sl 1 (List.map dS r1)))),(18,.c (.d (.v (.int .i64 x5)))),(19,.c (.d (.v (.int .i64 x6))))]) (fun s=>[]) [] o2 ?_ ?_
    ·refine xS ?_
     obtain⟨hg1,H⟩:=Jj H
     have F:=xZ Y (Jr dS r1 x6.toNat default default (by omega))
     refine xR ?_
     obtain⟨hg2,H⟩:=Jj H
     refine xr ?_
     rcases Jc H with⟨hp3,H⟩|⟨hp3,H⟩
     ·obtain⟨F,G,hq3⟩:=xH Y G hp3
      refine xT ?_
      refine xr ?_
      exact Jf H (xK ⟨[],[]⟩)
     ·obtain⟨F,G,hq3⟩:=xH Y G hp3
      refine xE ?_
      exact Jf H (xK ⟨[],[]⟩)
    ·rintro x7 H
     rw[JbS]at H
     refine xr ?_
     exact JD (JM H hF2) (xK ⟨[],[]⟩)
   ·obtain⟨F,G,hq2⟩:=xH Y G hp2
    replace H:=Js H hF2
    refine xE ?_
    refine xr ?_
    exact JD (JM H hF1) (xK ⟨[],[]⟩)
  ·obtain⟨F,G,hq1⟩:=xH Y G hp1
   replace H:=Js H hF1
   refine xE ?_
   replace H:=Option.some.inj H
   refine xr ?_
   subst H
   exact xN
theorem JlR(a0:List UInt8)(r:(List UInt8))(H:Jcz a0=some r):PC Je1 [dS a0] (dS r):=PF.c (a:=a0) H
noncomputable def ZU(a0:List UInt8):Unit→Option (Int×(List UInt8))
 | ()=>(Jcz a0).bind fun r1=>if(!eqS r1 [])=true then some (5,r1) else if(0:Int)≤0∧0≤1∧1≤(a0.length:Int) then some (6,List.take 1 a0) else none
noncomputable def XX(a0:List UInt8)(x1:Int):Bool→Option (Int ⊕ (Int×(List UInt8)))
 | x2=>if x2=true then some (.inl (IntKind.i64.wrap (x1+1))) else inrO (if(0:Int)≤0∧0≤x1∧x1≤(a0.length:Int) then some (1,List.take x1.toNat a0) else none)
noncomputable def ZZ(a0:List UInt8):Int→Option (Int ⊕ (Int×(List UInt8)))
 | x1=>if(ltI x1 (a0.length:Int))=true then if(0:Int)≤x1∧x1.toNat<a0.length then(Xt (a0.getD x1.toNat 0)).bind fun r3=>if r3=true then XX a0 x1 true else if(0:Int)≤x1∧x1.toNat<a0.length then(Xp (a0.getD x1.toNat 0)).bind fun r4=>XX a0 x1 r4 else none else none else XX a0 x1 false
noncomputable def Jbn(a0:List UInt8)(x6:Int):Bool→Option (Int ⊕ (Int×(List UInt8)))
 | x7=>if x7=true then if(0:Int)≤x6∧x6.toNat<a0.length then if(eqI ((a0.getD x6.toNat 0).toNat:Int) 62)=true then if(0:Int)≤0∧0≤(IntKind.i64.wrap (x6+1))∧(IntKind.i64.wrap (x6+1))≤(a0.length:Int) then inrO (some (7,List.take ((IntKind.i64.wrap (x6+1)).toNat) a0)) else none else some (.inl (IntKind.i64.wrap (x6+1))) else none else inrO (ZU a0 ())
noncomputable def Jac(a0:List UInt8):Int→Option (Int ⊕ (Int×(List UInt8)))
 | x6=>if(ltI x6 (a0.length:Int))=true then if(0:Int)≤x6∧x6.toNat<a0.length then Jbn a0 x6 (!eqI ((a0.getD x6.toNat 0).toNat:Int) 10) else none else Jbn a0 x6 false
noncomputable def VP(a0:List UInt8):Bool→Option (Int×(List UInt8))
 | x5=>if x5=true then Jt (Jac a0) 1 else ZU a0 ()
noncomputable def Xm(a0:List UInt8)(a1:Bool):(UInt8×Bool)→Option (Int×(List UInt8))
 | (x3,x4)=>if x4=true then(Jbd a0).bind fun r5=>some (2,r5) else if(eqI (x3.toNat:Int) 34)=true then(Jaa a0).bind fun r6=>some (4,r6) else if(eqI (x3.toNat:Int) 39)=true then(Jaa a0).bind fun r7=>some (3,r7) else if(eqI (x3.toNat:Int) 60)=true then VP a0 a1 else VP a0 false
noncomputable def JaB(a0:List UInt8)(a1:Bool):Option (Int×(List UInt8)) :=
 if 0<a0.length then(Xt (a0.getD 0 0)).bind fun r2=>if r2=true then Jt (ZZ a0) 0 else(Xp (a0.getD 0 0)).bind fun r8=>if r8=true then Xm a0 a1 ((a0.getD 0 0),true) else if(eqI ((a0.getD 0 0).toNat:Int) 46)=true then if(ltI 1 (a0.length:Int))=true then if 1<a0.length then(Xp (a0.getD 1 0)).bind fun r9=>Xm a0 a1 ((a0.getD 0 0),r9) else none else Xm a0 a1 ((a0.getD 0 0),false) else Xm a0 a1 ((a0.getD 0 0),false) else none
noncomputable def Jei:PF:=PF.of (E2 dS dB) (fun a=>JaB a.1 a.2) (T2 dI dS)
theorem Jkr:Kl Try.prog 29 Jei:=by
 refine xF mixed [(55,Je1),(51,Jcm),(52,JcJ),(53,JdS),(54,JdQ)] [] ⟨⟨Jwd,Jlj⟩,⟨JrT,JfZ⟩,⟨Jrn,Jgu⟩,⟨JwD,Jj4⟩,⟨JwI,JjU⟩,trivial⟩ trivial Try.func29 ?_
 rintro ⟨a0,a1⟩ out H
 have G:=True.intro
 have Y:=xZ y_9 <| Try.results29
 simp only[JaB]at H
 refine xS ?_
 refine xr0 ?_
 refine Jq ?_
 refine JB (ZU a0) (fun s=>[(0,.c (.d (.v (str a0))))]) (fun s=>[]) [] out ?_ ?_
 ·refine xS ?_
  obtain⟨hg2,H⟩:=Jj H
  refine xr ?_
  obtain⟨r2,hr2,H⟩:=Jg H
  have F:=xC Y (Jej (a0.getD 0 0) r2 hr2)
  refine xR ?_
  rcases Jc H with⟨hp2,H⟩|⟨hp2,H⟩
  ·obtain⟨F,G,hq2⟩:=xH Y G hp2
   refine xT ?_
   refine xr ?_
   refine Ke (ZZ a0) (fun s=>[(0,.c (.d (.v (str a0)))),(7,.c (.d (.v (.int .i64 s))))]) (fun s=>[]) [] H (xK ⟨[],[]⟩) ?_
   rintro n1 x1 o1 H hF1
   rw[ZZ]at H
   refine Zn ?_
   refine JB (XX a0 x1) (fun s=>[(0,.c (.d (.v (str a0)))),(7,.c (.d (.v (.int .i64 x1)))),(30,.c (.d (.v (.bool s))))]) (fun s=>[]) [] o1 ?_ ?_
   ·rcases Jc H with⟨hp4,H⟩|⟨hp4,H⟩
    ·obtain⟨F,G,hq4⟩:=xH Y G hp4
     obtain⟨hg4,H⟩:=Jj H
     obtain⟨r3,hr3,H⟩:=Jg H
     have F:=xCf F (Jej (a0.getD x1.toNat 0) r3 hr3)
     rcases Jc H with⟨hp5,H⟩|⟨hp5,H⟩
     ·obtain⟨F,G,hq5⟩:=xH F G hp5
      refine xR ?_
      exact Jf H (xK ⟨[],[]⟩)
     ·obtain⟨F,G,hq5⟩:=xH F G hp5
      obtain⟨hg5,H⟩:=Jj H
      obtain⟨r4,hr4,H⟩:=Jg H
      have F:=xCf F (Jdj (a0.getD x1.toNat 0) r4 hr4)
      refine xR ?_
      exact Jf H (xK ⟨[],[]⟩)
    ·obtain⟨F,G,hq4⟩:=xH Y G hp4
     refine xR ?_
     exact Jf H (xK ⟨[],[]⟩)
   ·rintro x2 H
    rw[XX]at H
    rcases Jc H with⟨hp3,H⟩|⟨hp3,H⟩
    ·obtain⟨F,G,hq3⟩:=xH Y G hp3
     refine xT ?_
     refine xr ?_
     exact JD (JM H hF1) (xK ⟨[],[]⟩)
    ·obtain⟨F,G,hq3⟩:=xH Y G hp3
     replace H:=Js H hF1
     refine xE ?_
     obtain⟨hg3,H⟩:=Jj H
     replace H:=Option.some.inj H
     refine xr ?_
     subst H
     exact xN
  ·obtain⟨F,G,hq2⟩:=xH Y G hp2
   refine xE0 ?_
   refine JB (Xm a0 a1) (fun s=>[(0,.c (.d (.v (str a0)))),(1,.c (.d (.v (.bool a1)))),(6,.c (.d (.v (.int .u8 (s.1.toNat:Int))))),(36,.c (.d (.v (.bool s.2))))]) (fun s=>[]) [] out ?_ ?_
   ·obtain⟨r8,hr8,H⟩:=Jg H
    have F:=xC Y (Jdj (a0.getD 0 0) r8 hr8)
    rcases Jc H with⟨hp14,H⟩|⟨hp14,H⟩
    ·obtain⟨F,G,hq14⟩:=xH F G hp14
     refine xR ?_
     exact Jf H (xK ⟨[],[]⟩)
    ·obtain⟨F,G,hq14⟩:=xH F G hp14
     rcases Jc H with⟨hp15,H⟩|⟨hp15,H⟩
     ·obtain⟨F,G,hq15⟩:=xH F G hp15
      rcases Jc H with⟨hp16,H⟩|⟨hp16,H⟩
      ·obtain⟨F,G,hq16⟩:=xH F G hp16
       obtain⟨hg9,H⟩:=Jj H
       obtain⟨r9,hr9,H⟩:=Jg H
       have F:=xCf F (Jdj (a0.getD 1 0) r9 hr9)
       refine xR ?_
       exact Jf H (xK ⟨[],[]⟩)
      ·obtain⟨F,G,hq16⟩:=xH F G hp16
       refine xR ?_
       exact Jf H (xK ⟨[],[]⟩)
     ·obtain⟨F,G,hq15⟩:=xH F G hp15
      refine xR ?_
      exact Jf H (xK ⟨[],[]⟩)
   ·rintro ⟨x3,x4⟩ H
    rw[Xm]at H
    rcases Jc H with⟨hp6,H⟩|⟨hp6,H⟩
    ·obtain⟨F,G,hq6⟩:=xH Y G hp6
     refine xT ?_
     obtain⟨r5,hr5,H⟩:=Jg H
     have F:=xC Y (Jkm a0 r5 hr5)
     replace H:=Option.some.inj H
     refine xR ?_
     subst H
     exact xN
    ·obtain⟨F,G,hq6⟩:=xH Y G hp6
     refine xE ?_
     refine xr ?_
     rcases Jc H with⟨hp7,H⟩|⟨hp7,H⟩
     ·obtain⟨F,G,hq7⟩:=xH Y G hp7
      refine xT ?_
      obtain⟨r6,hr6,H⟩:=Jg H
      have F:=xC Y (Jgf a0 r6 hr6)
      replace H:=Option.some.inj H
      refine xR ?_
      subst H
      exact xN
     ·obtain⟨F,G,hq7⟩:=xH Y G hp7
      refine xE ?_
      refine xr ?_
      rcases Jc H with⟨hp8,H⟩|⟨hp8,H⟩
      ·obtain⟨F,G,hq8⟩:=xH Y G hp8
       refine xT ?_
       obtain⟨r7,hr7,H⟩:=Jg H
       have F:=xC Y (Jgf a0 r7 hr7)
       replace H:=Option.some.inj H
       refine xR ?_
       subst H
       exact xN
      ·obtain⟨F,G,hq8⟩:=xH Y G hp8
       refine xE0 ?_
       refine JB (VP a0) (fun s=>[(0,.c (.d (.v (str a0)))),(65,.c (.d (.v (.bool s))))]) (fun s=>[]) [] out ?_ ?_
       ·rcases Jc H with⟨hp13,H⟩|⟨hp13,H⟩
        ·obtain⟨F,G,hq13⟩:=xH Y G hp13
         refine xR ?_
         exact Jf H (xK ⟨[],[]⟩)
        ·obtain⟨F,G,hq13⟩:=xH Y G hp13
         refine xR ?_
         exact Jf H (xK ⟨[],[]⟩)
       ·rintro x5 H
        rw[VP]at H
        rcases Jc H with⟨hp9,H⟩|⟨hp9,H⟩
        ·obtain⟨F,G,hq9⟩:=xH Y G hp9
         refine xT ?_
         refine xr ?_
         refine Ke (Jac a0) (fun s=>[(0,.c (.d (.v (str a0)))),(8,.c (.d (.v (.int .i64 s))))]) (fun s=>[]) [] H (xK ⟨[],[]⟩) ?_
         rintro n2 x6 o2 H hF2
         rw[Jac]at H
         refine Zn ?_
         refine JB (Jbn a0 x6) (fun s=>[(0,.c (.d (.v (str a0)))),(8,.c (.d (.v (.int .i64 x6)))),(80,.c (.d (.v (.bool s))))]) (fun s=>[]) [] o2 ?_ ?_
         ·rcases Jc H with⟨hp12,H⟩|⟨hp12,H⟩
          ·obtain⟨F,G,hq12⟩:=xH Y G hp12
           obtain⟨hg8,H⟩:=Jj H
           refine xR ?_
           exact Jf H (xK ⟨[],[]⟩)
          ·obtain⟨F,G,hq12⟩:=xH Y G hp12
           refine xR ?_
           exact Jf H (xK ⟨[],[]⟩)
         ·rintro x7 H
          rw[Jbn]at H
          rcases Jc H with⟨hp10,H⟩|⟨hp10,H⟩
          ·obtain⟨F,G,hq10⟩:=xH Y G hp10
           refine xT ?_
           obtain⟨hg6,H⟩:=Jj H
           refine xr ?_
           rcases Jc H with⟨hp11,H⟩|⟨hp11,H⟩
           ·obtain⟨F,G,hq11⟩:=xH Y G hp11
            refine xT ?_
            obtain⟨hg7,H⟩:=Jj H
            replace H:=Js H hF2
            replace H:=Option.some.inj H
            refine xr ?_
            subst H
            exact xN
           ·obtain⟨F,G,hq11⟩:=xH Y G hp11
            refine xE ?_
            refine xr ?_
            exact JD (JM H hF2) (xK ⟨[],[]⟩)
          ·obtain⟨F,G,hq10⟩:=xH Y G hp10
           replace H:=Js H hF2
           refine xE ?_
           exact Jf H (xK ⟨[],[]⟩)
        ·obtain⟨F,G,hq9⟩:=xH Y G hp9
         refine xE ?_
         exact Jf H (xK ⟨[],[]⟩)
 ·rintro ⟨⟩ H
  rw[ZU]at H
  refine xS ?_
  obtain⟨r1,hr1,H⟩:=Jg H
  have F:=xC Y (JlR a0 r1 hr1)
  refine xR ?_
  refine xr ?_
  rcases Jc H with⟨hp1,H⟩|⟨hp1,H⟩
  ·obtain⟨F,G,hq1⟩:=xH Y G hp1
   refine xT ?_
   replace H:=Option.some.inj H
   refine xr ?_
   subst H
   exact xN
  ·obtain⟨F,G,hq1⟩:=xH Y G hp1
   refine xE ?_
   obtain⟨hg1,H⟩:=Jj H
   replace H:=Option.some.inj H
   refine xr ?_
   subst H
   exact xN
theorem JkZ(a0:List UInt8)(a1:Bool)(r:Int×(List UInt8))(H:JaB a0 a1=some r):PC Jei [dS a0,dB a1] (T2 dI dS r):=PF.c (a:=(a0,a1)) H
noncomputable def JbV(x2:Int):Int→Option ((Int×Int) ⊕ Int)
 | x4=>some (.inl (x4,IntKind.i64.wrap (x2+1)))
noncomputable def JbQ(a0:List UInt8)(x1:Int)(x2:Int):Bool→Option ((Int×Int) ⊕ Int)
 | x3=>if x3=true then if(0:Int)≤x2∧x2.toNat<a0.length then if(eqI ((a0.getD x2.toNat 0).toNat:Int) 10)=true then JbV x2 (IntKind.i64.wrap (x1+1)) else JbV x2 x1 else none else inrO (some x1)
noncomputable def JbY(a0:List UInt8)(a1:Int):(Int×Int)→Option ((Int×Int) ⊕ Int)
 | (x1,x2)=>if(ltI x2 a1)=true then JbQ a0 x1 x2 (ltI x2 (a0.length:Int)) else JbQ a0 x1 x2 false
noncomputable def JcA(a0:List UInt8)(a1:Int):Option Int :=
 Jt (JbY a0 a1) (1,0)
noncomputable def JeR:PF:=PF.of (E2 dS dI) (fun a=>JcA a.1 a.2) dI
theorem Jlb:Kl Try.prog 30 JeR:=by
 refine xF mixed [] [] trivial trivial Try.func30 ?_
 rintro ⟨a0,a1⟩ out H
 have G:=True.intro
 have Y:=xZ y_9 <| Try.results30
 simp only[JcA]at H
 refine xS ?_
 refine xr ?_
 refine xr ?_
 refine xr ?_
 refine Ke (JbY a0 a1) (fun s=>[(0,.c (.d (.v (str a0)))),(1,.c (.d (.v (.int .i64 a1)))),(5,.c (.d (.v (.int .i64 s.1)))),(6,.c (.d (.v (.int .i64 s.2))))]) (fun s=>[]) [] H (xK ⟨[],[]⟩) ?_
 rintro n1 ⟨x1,x2⟩ o1 H hF1
 rw[JbY]at H
 refine Zn ?_
 refine JB (JbQ a0 x1 x2) (fun s=>[(0,.c (.d (.v (str a0)))),(1,.c (.d (.v (.int .i64 a1)))),(5,.c (.d (.v (.int .i64 x1)))),(6,.c (.d (.v (.int .i64 x2)))),(15,.c (.d (.v (.bool s))))]) (fun s=>[]) [] o1 ?_ ?_
 ·rcases Jc H with⟨hp3,H⟩|⟨hp3,H⟩
  ·obtain⟨F,G,hq3⟩:=xH Y G hp3
   refine xR ?_
   exact Jf H (xK ⟨[],[]⟩)
  ·obtain⟨F,G,hq3⟩:=xH Y G hp3
   refine xR ?_
   exact Jf H (xK ⟨[],[]⟩)
 ·rintro x3 H
  rw[JbQ]at H
  rcases Jc H with⟨hp1,H⟩|⟨hp1,H⟩
  ·obtain⟨F,G,hq1⟩:=xH Y G hp1
   refine xT0 ?_
   refine Jbu ?_
   refine Jq ?_
   refine JB (JbV x2) (fun s=>[(0,.c (.d (.v (str a0)))),(1,.c (.d (.v (.int .i64 a1)))),(5,.c (.d (.v (.int .i64 s)))),(6,.c (.d (.v (.int .i64 x2))))]) (fun s=>[]) [] o1 ?_ ?_
   ·refine xS ?_
    obtain⟨hg1,H⟩:=Jj H
    refine xr ?_
    rcases Jc H with⟨hp2,H⟩|⟨hp2,H⟩
    ·obtain⟨F,G,hq2⟩:=xH Y G hp2
     refine xT ?_
     refine xr ?_
     exact Jf H (xK ⟨[],[]⟩)
    ·obtain⟨F,G,hq2⟩:=xH Y G hp2
     refine xE ?_
     exact Jf H (xK ⟨[],[]⟩)
   ·rintro x4 H
    rw[JbV]at H
    refine xr ?_
    exact JD (JM H hF1) (xK ⟨[],[]⟩)
  ·obtain⟨F,G,hq1⟩:=xH Y G hp1
   replace H:=Js H hF1
   refine xE ?_
   replace H:=Option.some.inj H
   refine xr ?_
   subst H
   exact xN
theorem JlU(a0:List UInt8)(a1:Int)(r:Int)(H:JcA a0 a1=some r):PC JeR [dS a0,dI a1] (dI r):=PF.c (a:=(a0,a1)) H
noncomputable def K6(a0:Int)(a1:List UInt8)(r1:Spliced)(x1:List Token)(r2:Int×Bool)(x3:Int)(x4:Bool):Bool→Option (((List Token)×Int) ⊕ ((List Token)×Fault))
 | x5=>if(0:Int)≤x3∧x3≤(r1.Text.length:Int)∧(r1.Text.length:Int)≤(r1.Text.length:Int) then(JaB (List.drop x3.toNat r1.Text) x5).bind fun r3=>if(eqS r3.2 [])=true then if(0:Int)≤x3∧x3.toNat<r1.At.length then inrO (some (([]:List Token),(⟨9,a0,(r1.At.getD x3.toNat default)⟩:Fault))) else none else if(0:Int)≤x3∧x3.toNat<r1.At.length then if(0:Int)≤(IntKind.i64.wrap ((IntKind.i64.wrap (x3+(r3.2.length:Int)))-1))∧(IntKind.i64.wrap ((IntKind.i64.wrap (x3+(r3.2.length:Int)))-1)).toNat<r1.At.length then if(0:Int)≤x3∧x3.toNat<r1.At.length then(JcA a1 (r1.At.getD x3.toNat default)).bind fun r4=>if(x1.length + [(⟨r3.1,r3.2,ltI 0 r2.1,x4,a0,(r1.At.getD x3.toNat default),IntKind.i64.wrap ((r1.At.getD ((IntKind.i64.wrap ((IntKind.i64.wrap (x3+(r3.2.length:Int)))-1)).toNat) default)+1),r4,([]:List (List UInt8)),([]:List Call),0⟩:Token)].length) * 120≤140737488355328 then some (.inl (x1++[(⟨r3.1,r3.2,ltI 0 r2.1,x4,a0,(r1.At.getD x3.toNat default),IntKind.i64.wrap ((r1.At.getD ((IntKind.i64.wrap ((IntKind.i64.wrap (x3+(r3.2.length:Int)))-1)).toNat) default)+1),r4,([]:List (List UInt8)),([]:List Call),0⟩:Token)],IntKind.i64.wrap (x3+(r3.2.length:Int)))) else none else none else none else none else none
noncomputable def ZB(a0:Int)(a1:List UInt8)(r1:Spliced)(x1:List Token)(r2:Int×Bool):(Int×Bool)→Option (((List Token)×Int) ⊕ ((List Token)×Fault))
 | (x3,x4)=>if(!x4)=true then if(leI 2 (x1.length:Int))=true then if(0:Int)≤(IntKind.i64.wrap ((x1.length:Int)-1))∧(IntKind.i64.wrap ((x1.length:Int)-1)).toNat<x1.length then if(eqS ((x1.getD ((IntKind.i64.wrap ((x1.length:Int)-1)).toNat) default).Text) [105,110,99,108,117,100,101])=true then if(0:Int)≤(IntKind.i64.wrap ((x1.length:Int)-1))∧(IntKind.i64.wrap ((x1.length:Int)-1)).toNat<x1.length then if(!((x1.getD ((IntKind.i64.wrap ((x1.length:Int)-1)).toNat) default).First))=true then if(0:Int)≤(IntKind.i64.wrap ((x1.length:Int)-2))∧(IntKind.i64.wrap ((x1.length:Int)-2)).toNat<x1.length then if(eqS ((x1.getD ((IntKind.i64.wrap ((x1.length:Int)-2)).toNat) default).Text) [35])=true then if(0:Int)≤(IntKind.i64.wrap ((x1.length:Int)-2))∧(IntKind.i64.wrap ((x1.length:Int)-2)).toNat<x1.length then K6 a0 a1 r1 x1 r2 x3 x4 ((x1.getD ((IntKind.i64.wrap ((x1.length:Int)-2)).toNat) default).First) else none else K6 a0 a1 r1 x1 r2 x3 x4 false else none else K6 a0 a1 r1 x1 r2 x3 x4 false else none else K6 a0 a1 r1 x1 r2 x3 x4 false else none else K6 a0 a1 r1 x1 r2 x3 x4 false else K6 a0 a1 r1 x1 r2 x3 x4 false
noncomputable def Xy(a0:Int)(a1:List UInt8)(r1:Spliced):((List Token)×Int)→Option (((List Token)×Int) ⊕ ((List Token)×Fault))
 | (x1,x2)=>if(0:Int)≤x2∧x2≤(r1.Text.length:Int)∧(r1.Text.length:Int)≤(r1.Text.length:Int) then(JcB (List.drop x2.toNat r1.Text)).bind fun r2=>if(ltI r2.1 0)=true then if(0:Int)≤(IntKind.i64.wrap ((IntKind.i64.wrap (x2-1))-r2.1))∧(IntKind.i64.wrap ((IntKind.i64.wrap (x2-1))-r2.1)).toNat<r1.At.length then inrO (some (([]:List Token),(⟨9,a0,(r1.At.getD ((IntKind.i64.wrap ((IntKind.i64.wrap (x2-1))-r2.1)).toNat) default)⟩:Fault))) else none else if(leI (r1.Text.length:Int) (IntKind.i64.wrap (x2+r2.1)))=true then inrO (some (x1,(⟨0,(-1),0⟩:Fault))) else if r2.2=true then ZB a0 a1 r1 x1 r2 (IntKind.i64.wrap (x2+r2.1),true) else ZB a0 a1 r1 x1 r2 (IntKind.i64.wrap (x2+r2.1),eqI (x1.length:Int) 0) else none
noncomputable def Z7(a0:Int)(a1:List UInt8):Option ((List Token)×Fault) :=
 if(ltI 3000 (a1.length:Int))=true then some (([]:List Token),(⟨4,a0,0⟩:Fault)) else(Jbg a1).bind fun r1=>Jt (Xy a0 a1 r1) (([]:List Token),0)
noncomputable def JdV:PF:=PF.of (E2 dI dS) (fun a=>Z7 a.1 a.2) (T2 (dL 11 Jb) JW)
theorem JjX:Kl Try.prog 15 JdV:=by
 refine xF mixed [(27,JdO),(28,JeK),(29,Jei),(30,JeR)] [] ⟨⟨Jxa,Jj6⟩,⟨JvX,Jlt⟩,⟨Jw1,Jkr⟩,⟨Jwl,Jlb⟩,trivial⟩ trivial Try.func15 ?_
 rintro ⟨a0,a1⟩ out H
 have G:=True.intro
 have Y:=xZ y_3 <| xZ y_4 <| xZ y_9 <| xZ y_22 <| xZ y_27 <| xZ y_29 <| xZ y_41 <| xZ y_42 <| xZ y_44 <| xZ y_78 <| xZ y_80 <| xZ Try.results15 <| xZ J2.eq_1 <| xZ Jb.eq_1 <| xZ Jas.eq_1 <| JW.eq_1
 simp only[Z7]at H
 refine xS ?_
 refine xr ?_
 refine xr ?_
 rcases Jc H with⟨hp1,H⟩|⟨hp1,H⟩
 ·obtain⟨F,G,hq1⟩:=xH Y G hp1
  refine xT ?_
  replace H:=Option.some.inj H
  refine xr ?_
  subst H
  exact xN
 ·obtain⟨F,G,hq1⟩:=xH Y G hp1
  refine xE ?_
  obtain⟨r1,hr1,H⟩:=Jg H
  have F:=xC Y (Jkx a1 r1 hr1)
  refine xR ?_
  refine xr ?_
  refine xr ?_
  refine Ke (Xy a0 a1 r1) (fun s=>[(0,.c (.d (.v (.int .i64 a0)))),(1,.c (.d (.v (str a1)))),(5,.c (.pt 1 0)),(6,.c (.pt 2 0)),(7,.c (.sl 11 (List.map Jb s.1) 3)),(8,.c (.d (.v (.int .i64 s.2))))]) (fun s=>[[.d (.v (.int .i64 0)),.d (.v (.int .i64 0)),.d (.v (.int .i64 0))],[.d (.v (str r1.Text)),.d (.sl 1 (List.map dI r1.At))]]) [44] H (xK ⟨[1,2],[0]⟩) ?_
  rintro n1 ⟨x1,x2⟩ o1 H hF1
  rw[Xy]at H
  refine xS ?_
  obtain⟨hg1,H⟩:=Jj H
  obtain⟨r2,hr2,H⟩:=Jg H
  have F:=xC Y (JlI (List.drop x2.toNat r1.Text) r2 hr2)
  refine xR ?_
  refine xr ?_
  rcases Jc H with⟨hp2,H⟩|⟨hp2,H⟩
  ·obtain⟨F,G,hq2⟩:=xH Y G hp2
   refine xT ?_
   obtain⟨hg2,H⟩:=Jj H
   have F:=xZ Y (Jr dI r1.At ((IntKind.i64.wrap ((IntKind.i64.wrap (x2-1))-r2.1)).toNat) default default (by omega))
   replace H:=Js H hF1
   replace H:=Option.some.inj H
   refine xR ?_
   subst H
   exact xN
  ·obtain⟨F,G,hq2⟩:=xH Y G hp2
   refine xE ?_
   refine xr ?_
   refine xr ?_
   rcases Jc H with⟨hp3,H⟩|⟨hp3,H⟩
   ·obtain⟨F,G,hq3⟩:=xH Y G hp3
    refine xT ?_
    replace H:=Js H hF1
    replace H:=Option.some.inj H
    refine xr ?_
    subst H
    exact xN
   ·obtain⟨F,G,hq3⟩:=xH Y G hp3
    refine xE0 ?_
    refine Jbu ?_
    refine Jq ?_
    refine JB (ZB a0 a1 r1 x1 r2) (fun s=>[(0,.c (.d (.v (.int .i64 a0)))),(1,.c (.d (.v (str a1)))),(5,.c (.pt 1 0)),(6,.c (.pt 2 0)),(7,.c (.sl 11 (List.map Jb x1) 3)),(8,.c (.d (.v (.int .i64 s.1)))),(9,.c (.d (.v (.int .i64 r2.1)))),(11,.c (.d (.v (.bool s.2))))]) (fun s=>[[.d (.v (.int .i64 0)),.d (.v (.int .i64 0)),.d (.v (.int .i64 0))],[.d (.v (str r1.Text)),.d (.sl 1 (List.map dI r1.At))]]) [44] o1 ?_ ?_
    ·rcases Jc H with⟨hp10,H⟩|⟨hp10,H⟩
     ·obtain⟨F,G,hq10⟩:=xH Y G hp10
      refine xR ?_
      exact Jf H (xK ⟨[1,2],[3]⟩)
     ·obtain⟨F,G,hq10⟩:=xH Y G hp10
      refine xR ?_
      exact Jf H (xK ⟨[1,2],[3]⟩)
    ·rintro ⟨x3,x4⟩ H
     rw[ZB]at H
     refine xS ?_
     refine xr0 ?_
     refine Jq ?_
     refine JB (K6 a0 a1 r1 x1 r2 x3 x4) (fun s=>[(0,.c (.d (.v (.int .i64 a0)))),(1,.c (.d (.v (str a1)))),(5,.c (.pt 1 0)),(6,.c (.pt 2 0)),(7,.c (.sl 11 (List.map Jb x1) 3)),(8,.c (.d (.v (.int .i64 x3)))),(9,.c (.d (.v (.int .i64 r2.1)))),(11,.c (.d (.v (.bool x4)))),(13,.c (.d (.v (.bool s))))]) (fun s=>[[.d (.v (.int .i64 0)),.d (.v (.int .i64 0)),.d (.v (.int .i64 0))],[.d (.v (str r1.Text)),.d (.sl 1 (List.map dI r1.At))]]) [44] o1 ?_ ?_
     ·rcases Jc H with⟨hp5,H⟩|⟨hp5,H⟩
      ·obtain⟨F,G,hq5⟩:=xH Y G hp5
       rcases Jc H with⟨hp6,H⟩|⟨hp6,H⟩
       ·obtain⟨F,G,hq6⟩:=xH F G hp6
        obtain⟨hg9,H⟩:=Jj H
        have F:=xZ F (Jr Jb x1 ((IntKind.i64.wrap ((x1.length:Int)-1)).toNat) default default (by omega))
        rcases Jc H with⟨hp7,H⟩|⟨hp7,H⟩
        ·obtain⟨F,G,hq7⟩:=xH F G hp7
         obtain⟨hg10,H⟩:=Jj H
         have F:=xZ F (Jr Jb x1 ((IntKind.i64.wrap ((x1.length:Int)-1)).toNat) default default (by omega))
         rcases Jc H with⟨hp8,H⟩|⟨hp8,H⟩
         ·obtain⟨F,G,hq8⟩:=xH F G hp8
          obtain⟨hg11,H⟩:=Jj H
          have F:=xZ F (Jr Jb x1 ((IntKind.i64.wrap ((x1.length:Int)-2)).toNat) default default (by omega))
          rcases Jc H with⟨hp9,H⟩|⟨hp9,H⟩
          ·obtain⟨F,G,hq9⟩:=xH F G hp9
           obtain⟨hg12,H⟩:=Jj H
           have F:=xZ F (Jr Jb x1 ((IntKind.i64.wrap ((x1.length:Int)-2)).toNat) default default (by omega))
           refine xR ?_
           exact Jf H (xK ⟨[1,2],[3]⟩)
          ·obtain⟨F,G,hq9⟩:=xH F G hp9
           refine xR ?_
           exact Jf H (xK ⟨[1,2],[3]⟩)
         ·obtain⟨F,G,hq8⟩:=xH F G hp8
          refine xR ?_
          exact Jf H (xK ⟨[1,2],[3]⟩)
        ·obtain⟨F,G,hq7⟩:=xH F G hp7
         refine xR ?_
         exact Jf H (xK ⟨[1,2],[3]⟩)
       ·obtain⟨F,G,hq6⟩:=xH F G hp6
        refine xR ?_
        exact Jf H (xK ⟨[1,2],[3]⟩)
      ·obtain⟨F,G,hq5⟩:=xH Y G hp5
       refine xR ?_
       exact Jf H (xK ⟨[1,2],[3]⟩)
     ·rintro x5 H
      rw[K6]at H
      refine xS ?_
      obtain⟨hg3,H⟩:=Jj H
      obtain⟨r3,hr3,H⟩:=Jg H
      have F:=xC Y (JkZ (List.drop x3.toNat r1.Text) x5 r3 hr3)
      refine xR ?_
      refine xr ?_
      rcases Jc H with⟨hp4,H⟩|⟨hp4,H⟩
      ·obtain⟨F,G,hq4⟩:=xH Y G hp4
       refine xT ?_
       obtain⟨hg4,H⟩:=Jj H
       have F:=xZ Y (Jr dI r1.At x3.toNat default default (by omega))
       replace H:=Js H hF1
       replace H:=Option.some.inj H
       refine xR ?_
       subst H
       exact xN
      ·obtain⟨F,G,hq4⟩:=xH Y G hp4
       refine xE ?_
       obtain⟨hg5,H⟩:=Jj H
       have F:=xZ Y (Jr dI r1.At x3.toNat default default (by omega))
       obtain⟨hg6,H⟩:=Jj H
       have F:=xZ F (Jr dI r1.At ((IntKind.i64.wrap ((IntKind.i64.wrap (x3+(r3.2.length:Int)))-1)).toNat) default default (by omega))
       obtain⟨hg7,H⟩:=Jj H
       have F:=xZ F (Jr dI r1.At x3.toNat default default (by omega))
       obtain⟨r4,hr4,H⟩:=Jg H
       have F:=xCf F (JlU a1 (r1.At.getD x3.toNat default) r4 hr4)
       obtain⟨hg8,H⟩:=Jj H
       have F:=xZ F (XL Jtv [(⟨r3.1,r3.2,ltI 0 r2.1,x4,a0,(r1.At.getD x3.toNat default),IntKind.i64.wrap ((r1.At.getD ((IntKind.i64.wrap ((IntKind.i64.wrap (x3+(r3.2.length:Int)))-1)).toNat) default)+1),r4,([]:List (List UInt8)),([]:List Call),0⟩:Token)])
       refine xR ?_
       refine xr ?_
       exact JD (JM H hF1) (xK ⟨[1,2],[4]⟩)
theorem JkI(a0:Int)(a1:List UInt8)(r:(List Token)×Fault)(H:Z7 a0 a1=some r):PC JdV [dI a0,dS a1] (T2 (dL 11 Jb) JW r):=PF.c (a:=(a0,a1)) H
noncomputable def JbJ(a0:List UInt8):Option (List Token) :=
 (Z7 0 a0).bind fun r1=>some r1.1
noncomputable def Jes:PF:=PF.of (E1 dS) (fun a=>JbJ a) (dL 11 Jb)
theorem Jku:Kl Try.prog 6 Jes:=by
 refine xF mixed [(15,JdV)] [] ⟨⟨JwH,JjX⟩,trivial⟩ trivial Try.func6 ?_
 rintro a0 out H
 have G:=True.intro
 have Y:=xZ y_29 <| xZ Try.results6 <| xZ J2.eq_1 <| xZ Jb.eq_1 <| JW.eq_1
 simp only[JbJ]at H
 refine xS ?_
 refine xr ?_
 obtain⟨r1,hr1,H⟩:=Jg H
 have F:=xC Y (JkI 0 a0 r1 hr1)
 refine xR ?_
 replace H:=Option.some.inj H
 refine xr ?_
 subst H
 exact xN
theorem JkU(a0:List UInt8)(r:(List Token))(H:JbJ a0=some r):PC Jes [dS a0] ((dL 11 Jb) r):=PF.c (a:=a0) H
end Go.Proofs.Ytaofbminodhcnaa
