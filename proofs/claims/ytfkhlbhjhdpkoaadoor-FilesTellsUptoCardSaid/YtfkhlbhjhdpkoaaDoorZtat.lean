/- Functions of data for functions of the program. Written by dec3.py. -/
import Derived.Test.YtfkhlbhjhdpkoaaDoorZtak
import Derived.Test.YtfkhlbhjhdpkoaaDoorZtar
set_option linter.unusedVariables false
set_option linter.unusedSimpArgs false
set_option maxHeartbeats 4000000
set_option maxRecDepth 100000
namespace Go.Proofs.YtfkhlbhjhdpkoaaDoor
open Go.RowKit
noncomputable def Xn(x1:Int)(x2:Int):(List (List UInt8))→Option ((Int×Int×(List (List UInt8))) ⊕ (List (List UInt8)))
 | x4=>some (.inl (x1,IntKind.i64.wrap (x2+1),x4))
noncomputable def K4(a0:List UInt8):(Int×Int×(List (List UInt8)))→Option ((Int×Int×(List (List UInt8))) ⊕ (List (List UInt8)))
 | (x1,x2,x3)=>if(ltI x2 x1)=true then if(0:Int)≤x2∧x2.toNat<a0.length then if(eqI ((a0.getD x2.toNat 0).toNat:Int) 47)=true then if(x3.length+([[]]:List (List UInt8)).length) * 16≤140737488355328 then Xn x1 x2 (x3++([[]]:List (List UInt8))) else none else if(0:Int)≤(IntKind.i64.wrap (((x3.length:Nat):Int)-1))∧(IntKind.i64.wrap (((x3.length:Nat):Int)-1)).toNat<x3.length then if(IntKind.i64.wrap (((x3.length:Nat):Int)-1)).toNat<x3.length then if(0:Int)≤x2∧x2≤(IntKind.i64.wrap (x2+1))∧(IntKind.i64.wrap (x2+1))≤(a0.length:Int) then if(x3.getD ((IntKind.i64.wrap (((x3.length:Nat):Int)-1)).toNat) default).length+(List.take ((IntKind.i64.wrap (x2+1)).toNat-x2.toNat) (List.drop x2.toNat a0)).length≤9223372036854775807 then if(0:Int)≤(IntKind.i64.wrap (((x3.length:Nat):Int)-1))∧(IntKind.i64.wrap (((x3.length:Nat):Int)-1)).toNat<x3.length then if(IntKind.i64.wrap (((x3.length:Nat):Int)-1)).toNat<x3.length then Xn x1 x2 (List.set x3 ((IntKind.i64.wrap (((x3.length:Nat):Int)-1)).toNat) ((x3.getD ((IntKind.i64.wrap (((x3.length:Nat):Int)-1)).toNat) default)++(List.take ((IntKind.i64.wrap (x2+1)).toNat-x2.toNat) (List.drop x2.toNat a0)))) else none else none else none else none else none else none else none else inrO (some x3)
noncomputable def VY(a0:List UInt8):Option (List (List UInt8)) :=
 Ji (K4 a0) ((a0.length:Int),0,([[]]:List (List UInt8)))
noncomputable def X9:PF:=PF.of (E1 dS) (fun a=>VY a) (dL 1 dS)
theorem Jb3:J7 Tryd.prog 22 X9:=by
 refine xFl mixed [1000037] [] [] trivial trivial Tryd.func22 ?_
 rintro a0 out H
 have G:=True.intro
 have Y:=xZ y_9 <| xZ y_49 <| Tryd.results22
 simp only[VY]at H
 refine xS ?_
 refine xr ?_
 refine Jmg [] 5 3 ?_
 refine xS ?_
 refine xr ?_
 refine Kc (K4 a0) (fun s=>[(0,.c (.d (.v (str a0)))),(3,.c (.os 1 1 0 s.2.2.length)),(7,.c (.d (.v (.int .i64 s.1)))),(8,.c (.d (.v (.int .i64 s.2.1))))]) (fun s=>[[.arr 1 (List.map dS s.2.2)]]) [] H (xK ⟨[1],[]⟩) ?_
 rintro n1 ⟨x1,x2,x3⟩ o1 H hF1
 rw[K4]at H
 refine xS ?_
 refine xr ?_
 rcases Jc H with⟨hp1,H⟩|⟨hp1,H⟩
 ·obtain⟨F,G,hq1⟩:=xH Y G hp1
  refine xT0 ?_
  refine Jby ?_
  refine JF ?_
  refine KE (Xn x1 x2) (fun s=>[(0,.c (.d (.v (str a0)))),(3,.c (.os 1 1 0 s.length)),(7,.c (.d (.v (.int .i64 x1)))),(8,.c (.d (.v (.int .i64 x2))))]) (fun s=>[[.arr 1 (List.map dS s)]]) [] o1 ?_ ?_
  ·refine xS ?_
   refine xr ?_
   obtain⟨hg1,H⟩:=Jd H
   refine xr ?_
   rcases Jc H with⟨hp2,H⟩|⟨hp2,H⟩
   ·obtain⟨F,G,hq2⟩:=xH Y G hp2
    refine xT ?_
    obtain⟨hg2,H⟩:=Jd H
    have F:=xZ Y (VF Jb0 ([[]]:List (List UInt8)))
    have A:=VF Jb0 ([[]]:List (List UInt8))
    have L:([[]]:List (List UInt8)).length=1:=rfl
    refine xR ?_
    exact Je H (xK ⟨[2],[]⟩)
   ·obtain⟨F,G,hq2⟩:=xH Y G hp2
    refine xE ?_
    obtain⟨hg3,H⟩:=Jd H
    obtain⟨hg,H⟩:=Jd H
    have F:=xZ Y (Jf dS x3 ((IntKind.i64.wrap (((x3.length:Nat):Int)-1)).toNat) default default (by omega))
    obtain⟨hg4,H⟩:=Jd H
    obtain⟨hg5,H⟩:=Jd H
    obtain⟨hg6,H⟩:=Jd H
    obtain⟨hg,H⟩:=Jd H
    have F:=xZ F (Jf dS x3 ((IntKind.i64.wrap (((x3.length:Nat):Int)-1)).toNat) default default (by omega))
    have F:=xZ F (Zt dS x3 ((IntKind.i64.wrap (((x3.length:Nat):Int)-1)).toNat))
    have F:=xZ F (Zv dS x3 (show(IntKind.i64.wrap (((x3.length:Nat):Int)-1)).toNat<x3.length by omega))
    have F:=xZ F (Zp dS x3 ((IntKind.i64.wrap (((x3.length:Nat):Int)-1)).toNat))
    refine xR ?_
    exact Je H (xK ⟨[1],[]⟩)
  ·rintro x4 H
   rw[Xn]at H
   refine xr ?_
   exact JE (JL H hF1) (xK ⟨[1],[]⟩)
 ·obtain⟨F,G,hq1⟩:=xH Y G hp1
  replace H:=Jj H hF1
  refine xE ?_
  replace H:=Option.some.inj H
  refine xr ?_
  subst H
  refine xNf 1 1 (List.map dS x3) [] ?_
  exact xN
theorem JaM(a0:List UInt8)(r:(List (List UInt8)))(H:VY a0=some r):PC X9 [dS a0] ((dL 1 dS) r):=PF.c (a:=a0) H
noncomputable def Kv:Bool→Option Bool
 | x1=>some x1
noncomputable def Xh(a0:UInt8):Option Bool :=
 if(leI 97 (a0.toNat:Int))=true then if(leI (a0.toNat:Int) 122)=true then Kv true else if(leI 65 (a0.toNat:Int))=true then if(leI (a0.toNat:Int) 90)=true then Kv true else Kv (eqI (a0.toNat:Int) 95) else Kv (eqI (a0.toNat:Int) 95) else if(leI 65 (a0.toNat:Int))=true then if(leI (a0.toNat:Int) 90)=true then Kv true else Kv (eqI (a0.toNat:Int) 95) else Kv (eqI (a0.toNat:Int) 95)
noncomputable def Z4:PF:=PF.of (E1 dU) (fun a=>Xh a) dB
theorem Jet:J7 Tryd.prog 23 Z4:=by
 refine xF mixed [] [] trivial trivial Tryd.func23 ?_
 rintro a0 out H
 have G:=True.intro
 have Y:=Tryd.results23
 simp only[Xh]at H
 refine xS ?_
 refine xr0 ?_
 refine JF ?_
 refine KE Kv (fun s=>[(2,.c (.d (.v (.bool s))))]) (fun s=>[]) [] out ?_ ?_
 ·rcases Jc H with⟨hp1,H⟩|⟨hp1,H⟩
  ·obtain⟨F,G,hq1⟩:=xH Y G hp1
   rcases Jc H with⟨hp2,H⟩|⟨hp2,H⟩
   ·obtain⟨F,G,hq2⟩:=xH F G hp2
    refine xR ?_
    exact Je H (xK ⟨[],[]⟩)
   ·obtain⟨F,G,hq2⟩:=xH F G hp2
    rcases Jc H with⟨hp3,H⟩|⟨hp3,H⟩
    ·obtain⟨F,G,hq3⟩:=xH F G hp3
     rcases Jc H with⟨hp4,H⟩|⟨hp4,H⟩
     ·obtain⟨F,G,hq4⟩:=xH F G hp4
      refine xR ?_
      exact Je H (xK ⟨[],[]⟩)
     ·obtain⟨F,G,hq4⟩:=xH F G hp4
      refine xR ?_
      exact Je H (xK ⟨[],[]⟩)
    ·obtain⟨F,G,hq3⟩:=xH F G hp3
     refine xR ?_
     exact Je H (xK ⟨[],[]⟩)
  ·obtain⟨F,G,hq1⟩:=xH Y G hp1
   rcases Jc H with⟨hp5,H⟩|⟨hp5,H⟩
   ·obtain⟨F,G,hq5⟩:=xH F G hp5
    rcases Jc H with⟨hp6,H⟩|⟨hp6,H⟩
    ·obtain⟨F,G,hq6⟩:=xH F G hp6
     refine xR ?_
     exact Je H (xK ⟨[],[]⟩)
    ·obtain⟨F,G,hq6⟩:=xH F G hp6
     refine xR ?_
     exact Je H (xK ⟨[],[]⟩)
   ·obtain⟨F,G,hq5⟩:=xH F G hp5
    refine xR ?_
    exact Je H (xK ⟨[],[]⟩)
 ·rintro x1 H
  rw[Kv]at H
  replace H:=Option.some.inj H
  refine xS ?_
  subst H
  exact xN
theorem JeF(a0:UInt8)(r:Bool)(H:Xh a0=some r):PC Z4 [dU a0] (dB r):=PF.c (a:=a0) H
noncomputable def Xr:Bool→Option Bool
 | x1=>some x1
noncomputable def Xv(a0:UInt8):Option Bool :=
 if(leI 48 (a0.toNat:Int))=true then Xr (leI (a0.toNat:Int) 57) else Xr false
noncomputable def Jao:PF:=PF.of (E1 dU) (fun a=>Xv a) dB
theorem JeR:J7 Tryd.prog 24 Jao:=by
 refine xF mixed [] [] trivial trivial Tryd.func24 ?_
 rintro a0 out H
 have G:=True.intro
 have Y:=Tryd.results24
 simp only[Xv]at H
 refine xS ?_
 refine xr0 ?_
 refine JF ?_
 refine KE Xr (fun s=>[(2,.c (.d (.v (.bool s))))]) (fun s=>[]) [] out ?_ ?_
 ·rcases Jc H with⟨hp1,H⟩|⟨hp1,H⟩
  ·obtain⟨F,G,hq1⟩:=xH Y G hp1
   refine xR ?_
   exact Je H (xK ⟨[],[]⟩)
  ·obtain⟨F,G,hq1⟩:=xH Y G hp1
   refine xR ?_
   exact Je H (xK ⟨[],[]⟩)
 ·rintro x1 H
  rw[Xr]at H
  replace H:=Option.some.inj H
  refine xS ?_
  subst H
  exact xN
theorem Jfb(a0:UInt8)(r:Bool)(H:Xv a0=some r):PC Jao [dU a0] (dB r):=PF.c (a:=a0) H
noncomputable def VD(x5:Int)(x6:Int):Bool→Option ((Int×Int) ⊕ ((Int×Int) ⊕ Bool))
 | x7=>if x7=true then inrO (inrO (some false)) else some (.inl (x5,IntKind.i64.wrap (x6+1)))
noncomputable def VI(x1:Int)(x2:Int)(x3:List UInt8):(Int×Int)→Option ((Int×Int) ⊕ ((Int×Int) ⊕ Bool))
 | (x5,x6)=>if(ltI x6 x5)=true then if(0:Int)≤x6∧x6.toNat<x3.length then(Xh (x3.getD x6.toNat 0)).bind fun r2=>if(!r2)=true then(Xv (x3.getD x6.toNat 0)).bind fun r3=>if(!r3)=true then VD x5 x6 (!eqI ((x3.getD x6.toNat 0).toNat:Int) 46) else VD x5 x6 false else VD x5 x6 false else none else inrO (some (.inl (x1,IntKind.i64.wrap (x2+1))))
noncomputable def VH(x1:Int)(x2:Int):((List UInt8)×Bool)→Option ((Int×Int) ⊕ Bool)
 | (x3,x4)=>if x4=true then inrO (some false) else Ji (VI x1 x2 x3) ((x3.length:Int),0)
noncomputable def Xo(r1:(List (List UInt8))):(Int×Int)→Option ((Int×Int) ⊕ Bool)
 | (x1,x2)=>if(ltI x2 x1)=true then if(0:Int)≤x2∧x2.toNat<r1.length then if(eqS (r1.getD x2.toNat default) [])=true then VH x1 x2 ((r1.getD x2.toNat default),true) else if(eqS (r1.getD x2.toNat default) [46])=true then VH x1 x2 ((r1.getD x2.toNat default),true) else VH x1 x2 ((r1.getD x2.toNat default),eqS (r1.getD x2.toNat default) [46,46]) else none else inrO (some true)
noncomputable def Vx(a0:List UInt8):Option Bool :=
 if(ltI 40 (a0.length:Int))=true then some false else(VY a0).bind fun r1=>Ji (Xo r1) ((r1.length:Int),0)
noncomputable def Xl:PF:=PF.of (E1 dS) (fun a=>Vx a) dB
theorem Jav:J7 Tryd.prog 8 Xl:=by
 refine xF mixed [(22,X9),(23,Z4),(24,Jao)] [] ⟨⟨Jjb,Jb3⟩,⟨JmK,Jet⟩,⟨Jmi,JeR⟩,trivial⟩ trivial Tryd.func8 ?_
 rintro a0 out H
 have G:=True.intro
 have Y:=xZ y_9 <| xZ y_49 <| Tryd.results8
 simp only[Vx]at H
 refine xS ?_
 refine xr ?_
 refine xr ?_
 rcases Jc H with⟨hp1,H⟩|⟨hp1,H⟩
 ·obtain⟨F,G,hq1⟩:=xH Y G hp1
  refine xT ?_
  replace H:=Option.some.inj H
  refine xr ?_
  subst H
  exact xN
 ·obtain⟨F,G,hq1⟩:=xH Y G hp1
  refine xE ?_
  obtain⟨r1,hr1,H⟩:=Jr H
  have F:=xC Y (JaM a0 r1 hr1)
  refine xR ?_
  refine Kc (Xo r1) (fun s=>[(11,.c (.d (.sl 1 (List.map dS r1)))),(12,.c (.d (.v (.int .i64 s.1)))),(13,.c (.d (.v (.int .i64 s.2))))]) (fun s=>[]) [] H (xK ⟨[],[]⟩) ?_
  rintro n1 ⟨x1,x2⟩ o1 H hF1
  rw[Xo]at H
  refine xS ?_
  refine xr ?_
  rcases Jc H with⟨hp2,H⟩|⟨hp2,H⟩
  ·obtain⟨F,G,hq2⟩:=xH Y G hp2
   refine xT ?_
   obtain⟨hg1,H⟩:=Jd H
   have F:=xZ Y (Jf dS r1 x2.toNat default default (by omega))
   refine xR0 ?_
   refine JF ?_
   refine Jak ?_
   refine KE (VH x1 x2) (fun s=>[(4,.c (.d (.v (str s.1)))),(11,.c (.d (.sl 1 (List.map dS r1)))),(12,.c (.d (.v (.int .i64 x1)))),(13,.c (.d (.v (.int .i64 x2)))),(26,.c (.d (.v (.bool s.2))))]) (fun s=>[]) [] o1 ?_ ?_
   ·rcases Jc H with⟨hp8,H⟩|⟨hp8,H⟩
    ·obtain⟨F,G,hq8⟩:=xH Y G hp8
     refine xR ?_
     exact Je H (xK ⟨[],[]⟩)
    ·obtain⟨F,G,hq8⟩:=xH Y G hp8
     rcases Jc H with⟨hp9,H⟩|⟨hp9,H⟩
     ·obtain⟨F,G,hq9⟩:=xH F G hp9
      refine xR ?_
      exact Je H (xK ⟨[],[]⟩)
     ·obtain⟨F,G,hq9⟩:=xH F G hp9
      refine xR ?_
      exact Je H (xK ⟨[],[]⟩)
   ·rintro ⟨x3,x4⟩ H
    rw[VH]at H
    rcases Jc H with⟨hp3,H⟩|⟨hp3,H⟩
    ·obtain⟨F,G,hq3⟩:=xH Y G hp3
     refine xT ?_
     replace H:=Jj H hF1
     replace H:=Option.some.inj H
     refine xr ?_
     subst H
     exact xN
    ·obtain⟨F,G,hq3⟩:=xH Y G hp3
     refine xE ?_
     refine xr ?_
     refine Kc (VI x1 x2 x3) (fun s=>[(4,.c (.d (.v (str x3)))),(11,.c (.d (.sl 1 (List.map dS r1)))),(12,.c (.d (.v (.int .i64 x1)))),(13,.c (.d (.v (.int .i64 x2)))),(28,.c (.d (.v (.int .i64 s.1)))),(29,.c (.d (.v (.int .i64 s.2))))]) (fun s=>[]) [] H (xK ⟨[],[]⟩) ?_
     rintro n2 ⟨x5,x6⟩ o2 H hF2
     rw[VI]at H
     refine xS ?_
     refine xr ?_
     rcases Jc H with⟨hp4,H⟩|⟨hp4,H⟩
     ·obtain⟨F,G,hq4⟩:=xH Y G hp4
      refine xT ?_
      refine xr ?_
      obtain⟨hg2,H⟩:=Jd H
      refine xr0 ?_
      refine JF ?_
      refine KE (VD x5 x6) (fun s=>[(4,.c (.d (.v (str x3)))),(11,.c (.d (.sl 1 (List.map dS r1)))),(12,.c (.d (.v (.int .i64 x1)))),(13,.c (.d (.v (.int .i64 x2)))),(28,.c (.d (.v (.int .i64 x5)))),(29,.c (.d (.v (.int .i64 x6)))),(46,.c (.d (.v (.bool s))))]) (fun s=>[]) [] o2 ?_ ?_
      ·obtain⟨r2,hr2,H⟩:=Jr H
       have F:=xC Y (JeF (x3.getD x6.toNat 0) r2 hr2)
       rcases Jc H with⟨hp6,H⟩|⟨hp6,H⟩
       ·obtain⟨F,G,hq6⟩:=xH F G hp6
        obtain⟨r3,hr3,H⟩:=Jr H
        have F:=xCf F (Jfb (x3.getD x6.toNat 0) r3 hr3)
        rcases Jc H with⟨hp7,H⟩|⟨hp7,H⟩
        ·obtain⟨F,G,hq7⟩:=xH F G hp7
         refine xR ?_
         exact Je H (xK ⟨[],[]⟩)
        ·obtain⟨F,G,hq7⟩:=xH F G hp7
         refine xR ?_
         exact Je H (xK ⟨[],[]⟩)
       ·obtain⟨F,G,hq6⟩:=xH F G hp6
        refine xR ?_
        exact Je H (xK ⟨[],[]⟩)
      ·rintro x7 H
       rw[VD]at H
       rcases Jc H with⟨hp5,H⟩|⟨hp5,H⟩
       ·obtain⟨F,G,hq5⟩:=xH Y G hp5
        refine xT ?_
        replace H:=Jj H hF2
        replace H:=Jj H hF1
        replace H:=Option.some.inj H
        refine xr ?_
        subst H
        exact xN
       ·obtain⟨F,G,hq5⟩:=xH Y G hp5
        refine xE ?_
        refine xr ?_
        exact JE (JL H hF2) (xK ⟨[],[]⟩)
     ·obtain⟨F,G,hq4⟩:=xH Y G hp4
      replace H:=Jj H hF2
      refine xE ?_
      refine xr ?_
      exact JE (JL H hF1) (xK ⟨[],[]⟩)
  ·obtain⟨F,G,hq2⟩:=xH Y G hp2
   replace H:=Jj H hF1
   refine xE ?_
   replace H:=Option.some.inj H
   refine xr ?_
   subst H
   exact xN
theorem JaQ(a0:List UInt8)(r:Bool)(H:Vx a0=some r):PC Xl [dS a0] (dB r):=PF.c (a:=a0) H
noncomputable def KZ(x1:Int)(x2:Int):Int→Option ((Int×Int) ⊕ Fault)
 | x3=>if(!eqI x3 0)=true then inrO (some (⟨x3,x2,0⟩:Fault)) else some (.inl (x1,IntKind.i64.wrap (x2+1)))
noncomputable def Vk(x1:Int)(x2:Int):Bool→Option ((Int×Int) ⊕ Fault)
 | x4=>if x4=true then KZ x1 x2 2 else KZ x1 x2 0
noncomputable def Zb(a0:List Source):(Int×Int)→Option ((Int×Int) ⊕ Fault)
 | (x1,x2)=>if(ltI x2 x1)=true then if(0:Int)≤x2∧x2.toNat<a0.length then(Vx ((a0.getD x2.toNat default).Path)).bind fun r1=>if(!r1)=true then KZ x1 x2 7 else if(ltI 3000 (((a0.getD x2.toNat default).Text).length:Int))=true then KZ x1 x2 4 else if(ltI 0 x2)=true then if(0:Int)≤(IntKind.i64.wrap (x2-1))∧(IntKind.i64.wrap (x2-1)).toNat<a0.length then Vk x1 x2 (Op.bytesLess ((a0.getD x2.toNat default).Path) ((a0.getD ((IntKind.i64.wrap (x2-1)).toNat) default).Path) || eqS ((a0.getD x2.toNat default).Path) ((a0.getD ((IntKind.i64.wrap (x2-1)).toNat) default).Path)) else none else Vk x1 x2 false else none else inrO (some (⟨0,(-1),0⟩:Fault))
noncomputable def V0(a0:List Source):Option Fault :=
 if(ltI 8 (a0.length:Int))=true then some (⟨5,(-1),0⟩:Fault) else Ji (Zb a0) ((a0.length:Int),0)
noncomputable def Za:PF:=PF.of (E1 (dL 2 Ja)) (fun a=>V0 a) Vw
theorem Jb7:J7 Tryd.prog 10 Za:=by
 refine xF mixed [(8,Xl)] [] ⟨⟨Jhv,Jav⟩,trivial⟩ trivial Tryd.func10 ?_
 rintro a0 out H
 have G:=True.intro
 have Y:=xZ y_3 <| xZ y_9 <| xZ y_23 <| xZ y_26 <| xZ y_28 <| xZ y_33 <| xZ Tryd.results10 <| xZ Ja.eq_1 <| Vw.eq_1
 simp only[V0]at H
 refine xS ?_
 refine xr ?_
 refine xr ?_
 rcases Jc H with⟨hp1,H⟩|⟨hp1,H⟩
 ·obtain⟨F,G,hq1⟩:=xH Y G hp1
  refine xT ?_
  replace H:=Option.some.inj H
  refine xr ?_
  subst H
  exact xN
 ·obtain⟨F,G,hq1⟩:=xH Y G hp1
  refine xE ?_
  refine xr ?_
  refine Kc (Zb a0) (fun s=>[(0,.c (.d (.sl 2 (List.map Ja a0)))),(2,.c (.pt 1 0)),(10,.c (.d (.sl 2 (List.map Ja a0)))),(11,.c (.d (.v (.int .i64 s.1)))),(12,.c (.d (.v (.int .i64 s.2))))]) (fun s=>[[.d (.v (.int .i64 0)),.d (.v (.int .i64 0)),.d (.v (.int .i64 0))]]) [] H (xK ⟨[1],[]⟩) ?_
  rintro n1 ⟨x1,x2⟩ o1 H hF1
  rw[Zb]at H
  refine xS ?_
  refine xr ?_
  rcases Jc H with⟨hp2,H⟩|⟨hp2,H⟩
  ·obtain⟨F,G,hq2⟩:=xH Y G hp2
   refine xT ?_
   obtain⟨hg1,H⟩:=Jd H
   have F:=xZ Y (Jf Ja a0 x2.toNat default default (by omega))
   refine xR ?_
   refine xr0 ?_
   refine JF ?_
   refine KE (KZ x1 x2) (fun s=>[(0,.c (.d (.sl 2 (List.map Ja a0)))),(2,.c (.pt 1 0)),(3,.c (.d (.v (.int .i64 x2)))),(5,.c (.d (.v (.int .i64 s)))),(10,.c (.d (.sl 2 (List.map Ja a0)))),(11,.c (.d (.v (.int .i64 x1)))),(12,.c (.d (.v (.int .i64 x2))))]) (fun s=>[[.d (.v (.int .i64 0)),.d (.v (.int .i64 0)),.d (.v (.int .i64 0))]]) [] o1 ?_ ?_
   ·refine xS ?_
    obtain⟨r1,hr1,H⟩:=Jr H
    have F:=xC Y (JaQ ((a0.getD x2.toNat default).Path) r1 hr1)
    refine xR ?_
    rcases Jc H with⟨hp4,H⟩|⟨hp4,H⟩
    ·obtain⟨F,G,hq4⟩:=xH Y G hp4
     refine xT ?_
     refine xr ?_
     exact Je H (xK ⟨[1],[]⟩)
    ·obtain⟨F,G,hq4⟩:=xH Y G hp4
     refine xE ?_
     refine xr ?_
     rcases Jc H with⟨hp5,H⟩|⟨hp5,H⟩
     ·obtain⟨F,G,hq5⟩:=xH Y G hp5
      refine xT ?_
      refine xr ?_
      exact Je H (xK ⟨[1],[]⟩)
     ·obtain⟨F,G,hq5⟩:=xH Y G hp5
      refine xE0 ?_
      refine KE (Vk x1 x2) (fun s=>[(0,.c (.d (.sl 2 (List.map Ja a0)))),(2,.c (.pt 1 0)),(3,.c (.d (.v (.int .i64 x2)))),(5,.c (.d (.v (.int .i64 0)))),(10,.c (.d (.sl 2 (List.map Ja a0)))),(11,.c (.d (.v (.int .i64 x1)))),(12,.c (.d (.v (.int .i64 x2)))),(37,.c (.d (.v (.bool s))))]) (fun s=>[[.d (.v (.int .i64 0)),.d (.v (.int .i64 0)),.d (.v (.int .i64 0))]]) [] o1 ?_ ?_
      ·rcases Jc H with⟨hp7,H⟩|⟨hp7,H⟩
       ·obtain⟨F,G,hq7⟩:=xH Y G hp7
        obtain⟨hg2,H⟩:=Jd H
        have F:=xZ F (Jf Ja a0 ((IntKind.i64.wrap (x2-1)).toNat) default default (by omega))
        refine xR ?_
        exact Je H (xK ⟨[1],[]⟩)
       ·obtain⟨F,G,hq7⟩:=xH Y G hp7
        refine xR ?_
        exact Je H (xK ⟨[1],[]⟩)
      ·rintro x4 H
       rw[Vk]at H
       rcases Jc H with⟨hp6,H⟩|⟨hp6,H⟩
       ·obtain⟨F,G,hq6⟩:=xH Y G hp6
        refine xT ?_
        refine xr ?_
        exact Je H (xK ⟨[1],[]⟩)
       ·obtain⟨F,G,hq6⟩:=xH Y G hp6
        refine xE ?_
        exact Je H (xK ⟨[1],[]⟩)
   ·rintro x3 H
    rw[KZ]at H
    refine xS ?_
    refine xr ?_
    rcases Jc H with⟨hp3,H⟩|⟨hp3,H⟩
    ·obtain⟨F,G,hq3⟩:=xH Y G hp3
     refine xT ?_
     replace H:=Jj H hF1
     replace H:=Option.some.inj H
     refine xr ?_
     subst H
     exact xN
    ·obtain⟨F,G,hq3⟩:=xH Y G hp3
     refine xE ?_
     refine xr ?_
     exact JE (JL H hF1) (xK ⟨[1],[]⟩)
  ·obtain⟨F,G,hq2⟩:=xH Y G hp2
   replace H:=Jj H hF1
   refine xE ?_
   replace H:=Option.some.inj H
   refine xr ?_
   subst H
   exact xN
theorem Jb9(a0:List Source)(r:Fault)(H:V0 a0=some r):PC Za [(dL 2 Ja) a0] (Vw r):=PF.c (a:=a0) H
noncomputable def Zz(a0:List Source)(a1:List UInt8):(Int×Int)→Option ((Int×Int) ⊕ Int)
 | (x1,x2)=>if(ltI x2 x1)=true then if(0:Int)≤x2∧x2.toNat<a0.length then if(eqS ((a0.getD x2.toNat default).Path) a1)=true then inrO (some x2) else some (.inl (x1,IntKind.i64.wrap (x2+1))) else none else inrO (some (-1))
noncomputable def Vr(a0:List Source)(a1:List UInt8):Option Int :=
 Ji (Zz a0 a1) ((a0.length:Int),0)
noncomputable def ZB:PF:=PF.of (E2 (dL 2 Ja) dS) (fun a=>Vr a.1 a.2) dI
theorem Jcd:J7 Tryd.prog 12 ZB:=by
 refine xF mixed [] [] trivial trivial Tryd.func12 ?_
 rintro ⟨a0,a1⟩ out H
 have G:=True.intro
 have Y:=xZ y_9 <| xZ y_23 <| xZ y_33 <| xZ Tryd.results12 <| Ja.eq_1
 simp only[Vr]at H
 refine xS ?_
 refine xr ?_
 refine xr ?_
 refine Kc (Zz a0 a1) (fun s=>[(1,.c (.d (.v (str a1)))),(7,.c (.d (.sl 2 (List.map Ja a0)))),(8,.c (.d (.v (.int .i64 s.1)))),(9,.c (.d (.v (.int .i64 s.2))))]) (fun s=>[]) [] H (xK ⟨[],[]⟩) ?_
 rintro n1 ⟨x1,x2⟩ o1 H hF1
 rw[Zz]at H
 refine xS ?_
 refine xr ?_
 rcases Jc H with⟨hp1,H⟩|⟨hp1,H⟩
 ·obtain⟨F,G,hq1⟩:=xH Y G hp1
  refine xT ?_
  obtain⟨hg1,H⟩:=Jd H
  have F:=xZ Y (Jf Ja a0 x2.toNat default default (by omega))
  refine xR ?_
  refine xr ?_
  rcases Jc H with⟨hp2,H⟩|⟨hp2,H⟩
  ·obtain⟨F,G,hq2⟩:=xH Y G hp2
   refine xT ?_
   replace H:=Jj H hF1
   replace H:=Option.some.inj H
   refine xr ?_
   subst H
   exact xN
  ·obtain⟨F,G,hq2⟩:=xH Y G hp2
   refine xE ?_
   refine xr ?_
   exact JE (JL H hF1) (xK ⟨[],[]⟩)
 ·obtain⟨F,G,hq1⟩:=xH Y G hp1
  replace H:=Jj H hF1
  refine xE ?_
  replace H:=Option.some.inj H
  refine xr ?_
  subst H
  exact xN
theorem ZY(a0:List Source)(a1:List UInt8)(r:Int)(H:Vr a0 a1=some r):PC ZB [(dL 2 Ja) a0,dS a1] (dI r):=PF.c (a:=(a0,a1)) H
noncomputable def Kh(x2:Int)(x3:Int):(Nat×(List (List UInt8)))→Option ((Nat×Int×Int×(List (List UInt8))) ⊕ (List UInt8))
 | (x5,x6)=>some (.inl (x5,x2,IntKind.i64.wrap (x3+1),x6))
noncomputable def V3(x9:Int)(x10:Int):((List UInt8)×(List UInt8)×Nat)→Option (((List UInt8)×Nat×Int×Int) ⊕ (List UInt8))
 | (x11,x12,x13)=>if x11.length+x12.length≤9223372036854775807 then some (.inl (x11++x12,x13,x9,IntKind.i64.wrap (x10+1))) else none
noncomputable def Kw(x4:List (List UInt8)):((List UInt8)×Nat×Int×Int)→Option (((List UInt8)×Nat×Int×Int) ⊕ (List UInt8))
 | (x7,x8,x9,x10)=>if(ltI x10 x9)=true then if(0:Int)≤x10∧x10.toNat<x8 then if x10.toNat<x4.length then if(ltI 0 x10)=true then if x7.length+1≤9223372036854775807 then V3 x9 x10 (x7++[47],(x4.getD x10.toNat default),x8) else none else V3 x9 x10 (x7,(x4.getD x10.toNat default),x8) else none else none else inrO ((Vx x7).bind fun r3=>if(!r3)=true then some [] else some x7)
noncomputable def J5(r2:(List (List UInt8))):(Nat×Int×Int×(List (List UInt8)))→Option ((Nat×Int×Int×(List (List UInt8))) ⊕ (List UInt8))
 | (x1,x2,x3,x4)=>if(ltI x3 x2)=true then if(0:Int)≤x3∧x3.toNat<r2.length then if(eqS (r2.getD x3.toNat default) [46,46])=true then if(eqI ((x1:Nat):Int) 0)=true then inrO (some []) else if(0:Int)≤0∧0≤(IntKind.i64.wrap (((x1:Nat):Int)-1))∧(IntKind.i64.wrap (((x1:Nat):Int)-1))≤((x1:Nat):Int) then Kh x2 x3 ((IntKind.i64.wrap (((x1:Nat):Int)-1)).toNat,x4) else none else if(!eqS (r2.getD x3.toNat default) [46])=true then if x1≤x4.length∧(x1 + [(r2.getD x3.toNat default)].length) * 16≤140737488355328 then Kh x2 x3 (x1 + [(r2.getD x3.toNat default)].length,(List.take x1 x4)++[(r2.getD x3.toNat default)]) else none else Kh x2 x3 (x1,x4) else none else inrO (Ji (Kw x4) ([],x1,((x1:Nat):Int),0))
noncomputable def K7(a0:List UInt8)(a1:List UInt8):Option (List UInt8) :=
 (VY a0).bind fun r1=>if(0:Int)≤0∧0≤(IntKind.i64.wrap ((r1.length:Int)-1))∧(IntKind.i64.wrap ((r1.length:Int)-1))≤(r1.length:Int) then if(List.take ((IntKind.i64.wrap ((r1.length:Int)-1)).toNat) r1).length * 16≤140737488355328 then(VY a1).bind fun r2=>Ji (J5 r2) ((List.take ((IntKind.i64.wrap ((r1.length:Int)-1)).toNat) r1).length,(r2.length:Int),0,List.take ((IntKind.i64.wrap ((r1.length:Int)-1)).toNat) r1) else none else none
noncomputable def XW:PF:=PF.of (E2 dS dS) (fun a=>K7 a.1 a.2) dS
theorem JbB:J7 Tryd.prog 16 XW:=by
 refine xF mixed [(22,X9),(8,Xl)] [] ⟨⟨Jjb,Jb3⟩,⟨Jhv,Jav⟩,trivial⟩ trivial Tryd.func16 ?_
 rintro ⟨a0,a1⟩ out H
 have G:=True.intro
 have Y:=xZ y_9 <| xZ y_49 <| Tryd.results16
 simp only[K7]at H
 refine xS ?_
 refine xr ?_
 obtain⟨r1,hr1,H⟩:=Jr H
 have F:=xC Y (JaM a0 r1 hr1)
 refine xR ?_
 obtain⟨hg1,H⟩:=Jd H
 obtain⟨hg2,H⟩:=Jd H
 have F:=xZ Y (VF Jb0 (List.take ((IntKind.i64.wrap ((r1.length:Int)-1)).toNat) r1))
 have A:=VF Jb0 (List.take ((IntKind.i64.wrap ((r1.length:Int)-1)).toNat) r1)
 refine xR ?_
 obtain⟨r2,hr2,H⟩:=Jr H
 have F:=xC Y (JaM a1 r2 hr2)
 refine xR ?_
 refine Kc (J5 r2) (fun s=>[(5,.c (.os 1 1 0 s.1)),(21,.c (.d (.sl 1 (List.map dS r2)))),(22,.c (.d (.v (.int .i64 s.2.1)))),(23,.c (.d (.v (.int .i64 s.2.2.1))))]) (fun s=>[[.arr 1 (List.map dS s.2.2.2)]]) [] H (xK ⟨[1],[]⟩) ?_
 rintro n1 ⟨x1,x2,x3,x4⟩ o1 H hF1
 rw[J5]at H
 refine xS ?_
 refine xr ?_
 rcases Jc H with⟨hp1,H⟩|⟨hp1,H⟩
 ·obtain⟨F,G,hq1⟩:=xH Y G hp1
  refine xT0 ?_
  refine Jby ?_
  refine JF ?_
  refine KE (Kh x2 x3) (fun s=>[(5,.c (.os 1 1 0 s.1)),(21,.c (.d (.sl 1 (List.map dS r2)))),(22,.c (.d (.v (.int .i64 x2)))),(23,.c (.d (.v (.int .i64 x3))))]) (fun s=>[[.arr 1 (List.map dS s.2)]]) [] o1 ?_ ?_
  ·refine xS ?_
   obtain⟨hg3,H⟩:=Jd H
   have F:=xZ Y (Jf dS r2 x3.toNat default default (by omega))
   refine xR ?_
   refine xr ?_
   rcases Jc H with⟨hp2,H⟩|⟨hp2,H⟩
   ·obtain⟨F,G,hq2⟩:=xH Y G hp2
    refine xT ?_
    refine xr ?_
    rcases Jc H with⟨hp3,H⟩|⟨hp3,H⟩
    ·obtain⟨F,G,hq3⟩:=xH Y G hp3
     refine xT ?_
     replace H:=Jj H hF1
     replace H:=Option.some.inj H
     refine xr ?_
     subst H
     exact xN
    ·obtain⟨F,G,hq3⟩:=xH Y G hp3
     refine xE ?_
     obtain⟨hg4,H⟩:=Jd H
     refine xr ?_
     exact Je H (xK ⟨[1],[]⟩)
   ·obtain⟨F,G,hq2⟩:=xH Y G hp2
    refine xE ?_
    refine xr ?_
    rcases Jc H with⟨hp4,H⟩|⟨hp4,H⟩
    ·obtain⟨F,G,hq4⟩:=xH Y G hp4
     refine xT ?_
     obtain⟨hg5,H⟩:=Jd H
     have F:=xZ Y (VF Jb0 [(r2.getD x3.toNat default)])
     have T:=Jbc x4 x1 (by omega)
     have F:=xZ F (Nat.min_eq_left (show x1≤x4.length by omega))
     have G:=xZ G (Nat.min_eq_left (show x1≤x4.length by omega))
     have F:=xZ F (Jaw dS T)
     have G:=xZ G (Jaw dS T)
     have L:[(r2.getD x3.toNat default)].length=1:=rfl
     refine xR ?_
     exact Je H (xK ⟨[2],[]⟩)
    ·obtain⟨F,G,hq4⟩:=xH Y G hp4
     refine xE ?_
     exact Je H (xK ⟨[1],[]⟩)
  ·rintro ⟨x5,x6⟩ H
   rw[Kh]at H
   refine xr ?_
   exact JE (JL H hF1) (xK ⟨[1],[]⟩)
 ·obtain⟨F,G,hq1⟩:=xH Y G hp1
  replace H:=Jj H hF1
  refine xE ?_
  refine xr ?_
  refine xr ?_
  refine Kc (Kw x4) (fun s=>[(8,.c (.d (.v (str s.1)))),(44,.c (.os 1 1 0 s.2.1)),(45,.c (.d (.v (.int .i64 s.2.2.1)))),(46,.c (.d (.v (.int .i64 s.2.2.2))))]) (fun s=>[[.arr 1 (List.map dS x4)]]) [] H (xK ⟨[1],[]⟩) ?_
  rintro n2 ⟨x7,x8,x9,x10⟩ o2 H hF2
  rw[Kw]at H
  refine xS ?_
  refine xr ?_
  rcases Jc H with⟨hp5,H⟩|⟨hp5,H⟩
  ·obtain⟨F,G,hq5⟩:=xH Y G hp5
   refine xT ?_
   obtain⟨hg6,H⟩:=Jd H
   obtain⟨hg,H⟩:=Jd H
   have F:=xZ Y (Jf dS x4 x10.toNat default default (by omega))
   refine xR0 ?_
   refine JF ?_
   refine KE (V3 x9 x10) (fun s=>[(8,.c (.d (.v (str s.1)))),(10,.c (.d (.v (str s.2.1)))),(44,.c (.os 1 1 0 s.2.2)),(45,.c (.d (.v (.int .i64 x9)))),(46,.c (.d (.v (.int .i64 x10))))]) (fun s=>[[.arr 1 (List.map dS x4)]]) [] o2 ?_ ?_
   ·refine xS ?_
    refine xr ?_
    rcases Jc H with⟨hp6,H⟩|⟨hp6,H⟩
    ·obtain⟨F,G,hq6⟩:=xH Y G hp6
     refine xT ?_
     obtain⟨hg8,H⟩:=Jd H
     refine xr ?_
     exact Je H (xK ⟨[1],[]⟩)
    ·obtain⟨F,G,hq6⟩:=xH Y G hp6
     refine xE ?_
     exact Je H (xK ⟨[1],[]⟩)
   ·rintro ⟨x11,x12,x13⟩ H
    rw[V3]at H
    obtain⟨hg7,H⟩:=Jd H
    refine xr ?_
    refine xr ?_
    exact JE (JL H hF2) (xK ⟨[1],[]⟩)
  ·obtain⟨F,G,hq5⟩:=xH Y G hp5
   replace H:=Jj H hF2
   refine xE ?_
   obtain⟨r3,hr3,H⟩:=Jr H
   have F:=xC Y (JaQ x7 r3 hr3)
   refine xR ?_
   rcases Jc H with⟨hp7,H⟩|⟨hp7,H⟩
   ·obtain⟨F,G,hq7⟩:=xH Y G hp7
    refine xT ?_
    replace H:=Option.some.inj H
    refine xr ?_
    subst H
    exact xN
   ·obtain⟨F,G,hq7⟩:=xH Y G hp7
    refine xE ?_
    replace H:=Option.some.inj H
    refine xr ?_
    subst H
    exact xN
theorem X8(a0:List UInt8)(a1:List UInt8)(r:(List UInt8))(H:K7 a0 a1=some r):PC XW [dS a0,dS a1] (dS r):=PF.c (a:=(a0,a1)) H
noncomputable def VM:Int→Option Int
 | x2=>some x2
noncomputable def VP(a0:List Source)(a1:Int)(a2:List UInt8)(a3:Bool):Bool→Option Int
 | x1=>if x1=true then some (-1) else if(!a3)=true then(K7 [108,105,98,47,120] a2).bind fun r1=>(Vr a0 r1).bind fun r2=>some r2 else if(0:Int)≤a1∧a1.toNat<a0.length then(K7 ((a0.getD a1.toNat default).Path) a2).bind fun r3=>(Vr a0 r3).bind fun r4=>if(ltI r4 0)=true then(K7 [120] a2).bind fun r5=>(Vr a0 r5).bind fun r6=>VM r6 else VM r4 else none
noncomputable def VS(a0:List Source)(a1:Int)(a2:List UInt8)(a3:Bool):Option Int :=
 if(ltI a1 0)=true then VP a0 a1 a2 a3 true else VP a0 a1 a2 a3 (leI (a0.length:Int) a1)
noncomputable def ZK:PF:=PF.of (E4 (dL 2 Ja) dI dS dB) (fun a=>VS a.1 a.2.1 a.2.2.1 a.2.2.2) dI
theorem JdA:J7 Tryd.prog 14 ZK:=by
 refine xF mixed [(16,XW),(12,ZB)] [] ⟨⟨Ji3,JbB⟩,⟨Jja,Jcd⟩,trivial⟩ trivial Tryd.func14 ?_
 rintro ⟨a0,a1,a2,a3⟩ out H
 have G:=True.intro
 have Y:=xZ y_9 <| xZ y_23 <| xZ y_33 <| xZ Tryd.results14 <| Ja.eq_1
 simp only[VS]at H
 refine xS ?_
 refine xr0 ?_
 refine JF ?_
 refine Jak ?_
 refine KE (VP a0 a1 a2 a3) (fun s=>[(0,.c (.d (.sl 2 (List.map Ja a0)))),(1,.c (.d (.v (.int .i64 a1)))),(2,.c (.d (.v (str a2)))),(3,.c (.d (.v (.bool a3)))),(17,.c (.d (.v (.bool s))))]) (fun s=>[]) [] out ?_ ?_
 ·rcases Jc H with⟨hp4,H⟩|⟨hp4,H⟩
  ·obtain⟨F,G,hq4⟩:=xH Y G hp4
   refine xR ?_
   exact Je H (xK ⟨[],[]⟩)
  ·obtain⟨F,G,hq4⟩:=xH Y G hp4
   refine xR ?_
   exact Je H (xK ⟨[],[]⟩)
 ·rintro x1 H
  rw[VP]at H
  rcases Jc H with⟨hp1,H⟩|⟨hp1,H⟩
  ·obtain⟨F,G,hq1⟩:=xH Y G hp1
   refine xT ?_
   replace H:=Option.some.inj H
   refine xr ?_
   subst H
   exact xN
  ·obtain⟨F,G,hq1⟩:=xH Y G hp1
   refine xE ?_
   refine xr ?_
   rcases Jc H with⟨hp2,H⟩|⟨hp2,H⟩
   ·obtain⟨F,G,hq2⟩:=xH Y G hp2
    refine xT ?_
    obtain⟨r1,hr1,H⟩:=Jr H
    have F:=xC Y (X8 [108,105,98,47,120] a2 r1 hr1)
    obtain⟨r2,hr2,H⟩:=Jr H
    have F:=xCf F (ZY a0 r1 r2 hr2)
    replace H:=Option.some.inj H
    refine xR ?_
    subst H
    exact xN
   ·obtain⟨F,G,hq2⟩:=xH Y G hp2
    refine xE ?_
    obtain⟨hg1,H⟩:=Jd H
    have F:=xZ Y (Jf Ja a0 a1.toNat default default (by omega))
    obtain⟨r3,hr3,H⟩:=Jr H
    have F:=xCf F (X8 ((a0.getD a1.toNat default).Path) a2 r3 hr3)
    obtain⟨r4,hr4,H⟩:=Jr H
    have F:=xCf F (ZY a0 r3 r4 hr4)
    refine xR0 ?_
    refine JF ?_
    refine KE VM (fun s=>[(9,.c (.d (.v (.int .i64 s))))]) (fun s=>[]) [] out ?_ ?_
    ·refine xS ?_
     refine xr ?_
     rcases Jc H with⟨hp3,H⟩|⟨hp3,H⟩
     ·obtain⟨F,G,hq3⟩:=xH Y G hp3
      refine xT ?_
      obtain⟨r5,hr5,H⟩:=Jr H
      have F:=xC Y (X8 [120] a2 r5 hr5)
      obtain⟨r6,hr6,H⟩:=Jr H
      have F:=xCf F (ZY a0 r5 r6 hr6)
      refine xR ?_
      exact Je H (xK ⟨[],[]⟩)
     ·obtain⟨F,G,hq3⟩:=xH Y G hp3
      refine xE ?_
      exact Je H (xK ⟨[],[]⟩)
    ·rintro x2 H
     rw[VM]at H
     refine xS ?_
     replace H:=Option.some.inj H
     refine xr ?_
     subst H
     exact xN
theorem Jes(a0:List Source)(a1:Int)(a2:List UInt8)(a3:Bool)(r:Int)(H:VS a0 a1 a2 a3=some r):PC ZK [(dL 2 Ja) a0,dI a1,dS a2,dB a3] (dI r):=PF.c (a:=(a0,a1,a2,a3)) H
noncomputable def JS(x1:Int)(x2:Int)(x3:List Edit)(x4:Int)(x5:Int)(x6:Int)(x7:Int)(x8:List UInt8):Bool→Option ((Int×Int×Int×Int×(List UInt8)) ⊕ ((Int×Int×(List Edit)) ⊕ ((List Source)×Int)))
 | x9=>if x9=true then some (.inl (IntKind.i64.wrap (x4+1),x5,x6,x7,x8)) else inrO (if(0:Int)≤0∧0≤x4∧x4≤((x3.length:Nat):Int) then if(0:Int)≤x4∧x4≤((x3.length:Nat):Int)∧((x3.length:Nat):Int)≤((x3.length:Nat):Int) then if 0+x4.toNat≤x3.length∧(List.take x4.toNat x3).length * 40≤140737488355328 then if((List.take x4.toNat x3).length + [(⟨x5,x6,x7,x8⟩:Edit)].length) * 40≤140737488355328 then if x4.toNat+(x3.length-x4.toNat)≤x3.length∧((List.take x4.toNat x3).length + [(⟨x5,x6,x7,x8⟩:Edit)].length+(List.drop x4.toNat x3).length) * 40≤140737488355328 then some (.inl (x1,IntKind.i64.wrap (x2+1),((List.take x4.toNat x3)++[(⟨x5,x6,x7,x8⟩:Edit)])++(List.drop x4.toNat x3))) else none else none else none else none else none)
noncomputable def KS(x1:Int)(x2:Int)(x3:List Edit):(Int×Int×Int×Int×(List UInt8))→Option ((Int×Int×Int×Int×(List UInt8)) ⊕ ((Int×Int×(List Edit)) ⊕ ((List Source)×Int)))
 | (x4,x5,x6,x7,x8)=>if(ltI x4 ((x3.length:Nat):Int))=true then if(0:Int)≤x4∧x4.toNat<x3.length then if x4.toNat<x3.length then if(ltI ((x3.getD x4.toNat default).File) x5)=true then JS x1 x2 x3 x4 x5 x6 x7 x8 true else if(0:Int)≤x4∧x4.toNat<x3.length then if x4.toNat<x3.length then if(eqI ((x3.getD x4.toNat default).File) x5)=true then if(0:Int)≤x4∧x4.toNat<x3.length then if x4.toNat<x3.length then if(ltI ((x3.getD x4.toNat default).From) x6)=true then JS x1 x2 x3 x4 x5 x6 x7 x8 true else if(0:Int)≤x4∧x4.toNat<x3.length then if x4.toNat<x3.length then if(eqI ((x3.getD x4.toNat default).From) x6)=true then if(0:Int)≤x4∧x4.toNat<x3.length then if x4.toNat<x3.length then JS x1 x2 x3 x4 x5 x6 x7 x8 (leI ((x3.getD x4.toNat default).To) x7) else none else none else JS x1 x2 x3 x4 x5 x6 x7 x8 false else none else none else none else none else JS x1 x2 x3 x4 x5 x6 x7 x8 false else none else none else none else none else JS x1 x2 x3 x4 x5 x6 x7 x8 false
noncomputable def Ky(x10:Int)(x11:Int):Bool→Option ((Int×Int) ⊕ ((List Source)×Int))
 | x18=>if x18=true then inrO (some (([]:List Source),8)) else some (.inl (x10,IntKind.i64.wrap (x11+1)))
noncomputable def KT(x3:List Edit)(x10:Int)(x11:Int)(x13:Int)(x14:Int):Bool→Option ((Int×Int) ⊕ ((List Source)×Int))
 | x17=>if x17=true then inrO (some (([]:List Source),3)) else if(ltI 0 x11)=true then if(0:Int)≤(IntKind.i64.wrap (x11-1))∧(IntKind.i64.wrap (x11-1)).toNat<x3.length then if(IntKind.i64.wrap (x11-1)).toNat<x3.length then if(eqI ((x3.getD ((IntKind.i64.wrap (x11-1)).toNat) default).File) x13)=true then if(0:Int)≤(IntKind.i64.wrap (x11-1))∧(IntKind.i64.wrap (x11-1)).toNat<x3.length then if(IntKind.i64.wrap (x11-1)).toNat<x3.length then if(ltI x14 ((x3.getD ((IntKind.i64.wrap (x11-1)).toNat) default).To))=true then Ky x10 x11 true else if(0:Int)≤(IntKind.i64.wrap (x11-1))∧(IntKind.i64.wrap (x11-1)).toNat<x3.length then if(IntKind.i64.wrap (x11-1)).toNat<x3.length then Ky x10 x11 (eqI x14 ((x3.getD ((IntKind.i64.wrap (x11-1)).toNat) default).From)) else none else none else none else none else Ky x10 x11 false else none else none else Ky x10 x11 false
noncomputable def Vu(a0:List Source)(x3:List Edit)(x10:Int)(x11:Int):(Bool×Int×Int×Int×(List UInt8))→Option ((Int×Int) ⊕ ((List Source)×Int))
 | (x12,x13,x14,x15,x16)=>if x12=true then inrO (some (([]:List Source),6)) else if(ltI x14 0)=true then KT x3 x10 x11 x13 x14 true else if(ltI x15 x14)=true then KT x3 x10 x11 x13 x14 true else if(0:Int)≤x13∧x13.toNat<a0.length then KT x3 x10 x11 x13 x14 (ltI (((a0.getD x13.toNat default).Text).length:Int) x15) else none
noncomputable def K5(x26:Int)(x27:Int)(x28:List UInt8)(x29:List UInt8):(Bool×(List UInt8)×Int)→Option ((Bool×(List UInt8)×Int×Int×Int×(List UInt8)×(List UInt8)) ⊕ ((Bool×Int×Int×(List Source)) ⊕ ((List Source)×Int)))
 | (x30,x31,x32)=>some (.inl (x30,x31,x32,x26,IntKind.i64.wrap (x27+1),x28,x29))
noncomputable def KN(x24:List UInt8)(x25:Int)(x26:Int)(x27:Int)(x28:List UInt8)(x29:List UInt8):(Bool×Int×Int×Int×(List UInt8))→Option ((Bool×(List UInt8)×Int×Int×Int×(List UInt8)×(List UInt8)) ⊕ ((Bool×Int×Int×(List Source)) ⊕ ((List Source)×Int)))
 | (x33,x34,x35,x36,x37)=>if(0:Int)≤x25∧x25≤x35∧x35≤(x29.length:Int) then if x24.length+(List.take (x35.toNat-x25.toNat) (List.drop x25.toNat x29)).length≤9223372036854775807 then if x24.length+(List.take (x35.toNat-x25.toNat) (List.drop x25.toNat x29)).length+x37.length≤9223372036854775807 then K5 x26 x27 x28 x29 (x33,(x24++(List.take (x35.toNat-x25.toNat) (List.drop x25.toNat x29)))++x37,x36) else none else none else none
noncomputable def Vm(x20:Int)(x21:Int)(x22:List Source)(x28:List UInt8):(Bool×(List UInt8))→Option ((Bool×Int×Int×(List Source)) ⊕ ((List Source)×Int))
 | (x38,x39)=>if(x22.length + [(⟨x28,x39⟩:Source)].length) * 32≤140737488355328 then some (.inl (x38,x20,IntKind.i64.wrap (x21+1),x22++[(⟨x28,x39⟩:Source)])) else none
noncomputable def Kx(x3:List Edit)(x20:Int)(x21:Int)(x22:List Source):(Bool×(List UInt8)×Int×Int×Int×(List UInt8)×(List UInt8))→Option ((Bool×(List UInt8)×Int×Int×Int×(List UInt8)×(List UInt8)) ⊕ ((Bool×Int×Int×(List Source)) ⊕ ((List Source)×Int)))
 | (x23,x24,x25,x26,x27,x28,x29)=>if(ltI x27 x26)=true then if(0:Int)≤x27∧x27.toNat<x3.length then if x27.toNat<x3.length then if(eqI ((x3.getD x27.toNat default).File) x21)=true then if x23=true then KN x24 x25 x26 x27 x28 x29 (true,(x3.getD x27.toNat default).File,(x3.getD x27.toNat default).From,(x3.getD x27.toNat default).To,(x3.getD x27.toNat default).Text) else KN x24 x25 x26 x27 x28 x29 (ltI 3000 (((x3.getD x27.toNat default).Text).length:Int),(x3.getD x27.toNat default).File,(x3.getD x27.toNat default).From,(x3.getD x27.toNat default).To,(x3.getD x27.toNat default).Text) else K5 x26 x27 x28 x29 (x23,x24,x25) else none else none else inrO (if(0:Int)≤x25∧x25≤(x29.length:Int)∧(x29.length:Int)≤(x29.length:Int) then if x24.length+(List.drop x25.toNat x29).length≤9223372036854775807 then if x23=true then Vm x20 x21 x22 x28 (true,x24++(List.drop x25.toNat x29)) else Vm x20 x21 x22 x28 (ltI 3000 ((x24++(List.drop x25.toNat x29)).length:Int),x24++(List.drop x25.toNat x29)) else none else none)
noncomputable def Kf(a0:List Source)(x3:List Edit):(Bool×Int×Int×(List Source))→Option ((Bool×Int×Int×(List Source)) ⊕ ((List Source)×Int))
 | (x19,x20,x21,x22)=>if(ltI x21 x20)=true then if(0:Int)≤x21∧x21.toNat<a0.length then Ji (Kx x3 x20 x21 x22) (x19,[],0,((x3.length:Nat):Int),0,(a0.getD x21.toNat default).Path,(a0.getD x21.toNat default).Text) else none else inrO (if x19=true then some (([]:List Source),4) else some (x22,0))
noncomputable def KU(a0:List Source)(x3:List Edit):(Int×Int)→Option ((Int×Int) ⊕ ((List Source)×Int))
 | (x10,x11)=>if(ltI x11 x10)=true then if(0:Int)≤x11∧x11.toNat<x3.length then if x11.toNat<x3.length then if(ltI ((x3.getD x11.toNat default).File) 0)=true then Vu a0 x3 x10 x11 (true,(x3.getD x11.toNat default).File,(x3.getD x11.toNat default).From,(x3.getD x11.toNat default).To,(x3.getD x11.toNat default).Text) else Vu a0 x3 x10 x11 (leI (a0.length:Int) ((x3.getD x11.toNat default).File),(x3.getD x11.toNat default).File,(x3.getD x11.toNat default).From,(x3.getD x11.toNat default).To,(x3.getD x11.toNat default).Text) else none else none else inrO (Ji (Kf a0 x3) (false,(a0.length:Int),0,([]:List Source)))
noncomputable def KH(a0:List Source)(a1:List Edit):(Int×Int×(List Edit))→Option ((Int×Int×(List Edit)) ⊕ ((List Source)×Int))
 | (x1,x2,x3)=>if(ltI x2 x1)=true then if(0:Int)≤x2∧x2.toNat<a1.length then Ji (KS x1 x2 x3) (0,(a1.getD x2.toNat default).File,(a1.getD x2.toNat default).From,(a1.getD x2.toNat default).To,(a1.getD x2.toNat default).Text) else none else inrO (Ji (KU a0 x3) (((x3.length:Nat):Int),0))
noncomputable def Xi(a0:List Source)(a1:List Edit):Option ((List Source)×Int) :=
 (V0 a0).bind fun r1=>if(!eqI r1.Err 0)=true then some (([]:List Source),r1.Err) else Ji (KH a0 a1) ((a1.length:Int),0,([]:List Edit))
noncomputable def Z7:PF:=PF.of (E2 (dL 2 Ja) (dL 4 Jb)) (fun a=>Xi a.1 a.2) (T2 (dL 2 Ja) dI)
theorem Jeq:J7 Tryd.prog 18 Z7:=by
 refine xFl mixed [11] [(10,Za)] [] ⟨⟨JiV,Jb7⟩,trivial⟩ trivial Tryd.func18 ?_
 rintro ⟨a0,a1⟩ out H
 have G:=True.intro
 have Y:=xZ y_3 <| xZ y_9 <| xZ y_23 <| xZ y_24 <| xZ y_26 <| xZ y_28 <| xZ y_33 <| xZ y_41 <| xZ Tryd.results18 <| xZ Ja.eq_1 <| xZ Vw.eq_1 <| Jb.eq_1
 simp only[Xi]at H
 refine xS ?_
 refine xr ?_
 obtain⟨r1,hr1,H⟩:=Jr H
 have F:=xC Y (Jb9 a0 r1 hr1)
 refine xR ?_
 refine xr ?_
 rcases Jc H with⟨hp1,H⟩|⟨hp1,H⟩
 ·obtain⟨F,G,hq1⟩:=xH Y G hp1
  refine xT ?_
  replace H:=Option.some.inj H
  refine xr ?_
  subst H
  exact xN
 ·obtain⟨F,G,hq1⟩:=xH Y G hp1
  refine xE ?_
  refine xr ?_
  refine xr ?_
  refine Kc (KH a0 a1) (fun s=>[(0,.c (.d (.sl 2 (List.map Ja a0)))),(7,.c (.os 1 4 0 s.2.2.length)),(28,.c (.d (.sl 4 (List.map Jb a1)))),(29,.c (.d (.v (.int .i64 s.1)))),(30,.c (.d (.v (.int .i64 s.2.1))))]) (fun s=>[[.arr 4 (List.map Jb s.2.2)]]) [] H (xK ⟨[0],[]⟩) ?_
  rintro n1 ⟨x1,x2,x3⟩ o1 H hF1
  rw[KH]at H
  refine xS ?_
  refine xr ?_
  rcases Jc H with⟨hp2,H⟩|⟨hp2,H⟩
  ·obtain⟨F,G,hq2⟩:=xH Y G hp2
   refine xT ?_
   obtain⟨hg1,H⟩:=Jd H
   have F:=xZ Y (Jf Jb a1 x2.toNat default default (by omega))
   refine xR ?_
   refine xr ?_
   refine Kc (KS x1 x2 x3) (fun s=>[(0,.c (.d (.sl 2 (List.map Ja a0)))),(7,.c (.os 1 4 0 x3.length)),(9,.c (.pt 2 0)),(10,.c (.d (.v (.int .i64 s.1)))),(28,.c (.d (.sl 4 (List.map Jb a1)))),(29,.c (.d (.v (.int .i64 x1)))),(30,.c (.d (.v (.int .i64 x2))))]) (fun s=>[[.arr 4 (List.map Jb x3)],[.d (.v (.int .i64 s.2.1)),.d (.v (.int .i64 s.2.2.1)),.d (.v (.int .i64 s.2.2.2.1)),.d (.v (str s.2.2.2.2))]]) [] H (xK ⟨[1,2],[]⟩) ?_
   rintro n2 ⟨x4,x5,x6,x7,x8⟩ o2 H hF2
   rw[KS]at H
   refine Jak ?_
   refine KE (JS x1 x2 x3 x4 x5 x6 x7 x8) (fun s=>[(0,.c (.d (.sl 2 (List.map Ja a0)))),(7,.c (.os 1 4 0 x3.length)),(9,.c (.pt 2 0)),(10,.c (.d (.v (.int .i64 x4)))),(28,.c (.d (.sl 4 (List.map Jb a1)))),(29,.c (.d (.v (.int .i64 x1)))),(30,.c (.d (.v (.int .i64 x2)))),(87,.c (.d (.v (.bool s))))]) (fun s=>[[.arr 4 (List.map Jb x3)],[.d (.v (.int .i64 x5)),.d (.v (.int .i64 x6)),.d (.v (.int .i64 x7)),.d (.v (str x8))]]) [] o2 ?_ ?_
   ·rcases Jc H with⟨hp4,H⟩|⟨hp4,H⟩
    ·obtain⟨F,G,hq4⟩:=xH Y G hp4
     obtain⟨hg7,H⟩:=Jd H
     obtain⟨hg,H⟩:=Jd H
     have F:=xZ F (Jf Jb x3 x4.toNat default default (by omega))
     rcases Jc H with⟨hp5,H⟩|⟨hp5,H⟩
     ·obtain⟨F,G,hq5⟩:=xH F G hp5
      refine xR ?_
      exact Je H (xK ⟨[1,2],[]⟩)
     ·obtain⟨F,G,hq5⟩:=xH F G hp5
      obtain⟨hg8,H⟩:=Jd H
      obtain⟨hg,H⟩:=Jd H
      have F:=xZ F (Jf Jb x3 x4.toNat default default (by omega))
      rcases Jc H with⟨hp6,H⟩|⟨hp6,H⟩
      ·obtain⟨F,G,hq6⟩:=xH F G hp6
       obtain⟨hg9,H⟩:=Jd H
       obtain⟨hg,H⟩:=Jd H
       have F:=xZ F (Jf Jb x3 x4.toNat default default (by omega))
       rcases Jc H with⟨hp7,H⟩|⟨hp7,H⟩
       ·obtain⟨F,G,hq7⟩:=xH F G hp7
        refine xR ?_
        exact Je H (xK ⟨[1,2],[]⟩)
       ·obtain⟨F,G,hq7⟩:=xH F G hp7
        obtain⟨hg10,H⟩:=Jd H
        obtain⟨hg,H⟩:=Jd H
        have F:=xZ F (Jf Jb x3 x4.toNat default default (by omega))
        rcases Jc H with⟨hp8,H⟩|⟨hp8,H⟩
        ·obtain⟨F,G,hq8⟩:=xH F G hp8
         obtain⟨hg11,H⟩:=Jd H
         obtain⟨hg,H⟩:=Jd H
         have F:=xZ F (Jf Jb x3 x4.toNat default default (by omega))
         refine xR ?_
         exact Je H (xK ⟨[1,2],[]⟩)
        ·obtain⟨F,G,hq8⟩:=xH F G hp8
         refine xR ?_
         exact Je H (xK ⟨[1,2],[]⟩)
      ·obtain⟨F,G,hq6⟩:=xH F G hp6
       refine xR ?_
       exact Je H (xK ⟨[1,2],[]⟩)
    ·obtain⟨F,G,hq4⟩:=xH Y G hp4
     refine xR ?_
     exact Je H (xK ⟨[1,2],[]⟩)
   ·rintro x9 H
    rw[JS]at H
    rcases Jc H with⟨hp3,H⟩|⟨hp3,H⟩
    ·obtain⟨F,G,hq3⟩:=xH Y G hp3
     refine xT ?_
     refine xr ?_
     exact JE (JL H hF2) (xK ⟨[1,2],[]⟩)
    ·obtain⟨F,G,hq3⟩:=xH Y G hp3
     replace H:=Jj H hF2
     refine xE ?_
     obtain⟨hg2,H⟩:=Jd H
     obtain⟨hg3,H⟩:=Jd H
     obtain⟨hg4,H⟩:=Jd H
     have F:=xZ Y (VF Jbi (List.take x4.toNat x3))
     have A:=VF Jbi (List.take x4.toNat x3)
     have T:=Jbc x3 x4.toNat (by omega)
     obtain⟨hg5,H⟩:=Jd H
     have F:=xZ F (VF Jbi [(⟨x5,x6,x7,x8⟩:Edit)])
     have L:[(⟨x5,x6,x7,x8⟩:Edit)].length=1:=rfl
     obtain⟨hg6,H⟩:=Jd H
     have F:=xZ F (VF Jbi (List.drop x4.toNat x3))
     have A:=VF Jbi (List.drop x4.toNat x3)
     refine xP [0,1,2,3,5,6,8,9,10,4,7,11,12] [95] trivial ?_
     refine xsX 4 ?_
     refine xaX ?_
     refine xsX 4 ?_
     refine xbX ?_
     refine xbX ?_
     refine xbX ?_
     refine xsX 1 ?_
     refine xlX ?_
     refine xS ?_
     refine xr ?_
     exact JE (JL H hF1) (xK ⟨[5],[]⟩)
  ·obtain⟨F,G,hq2⟩:=xH Y G hp2
   replace H:=Jj H hF1
   refine xE ?_
   refine xr ?_
   refine Kc (KU a0 x3) (fun s=>[(0,.c (.d (.sl 2 (List.map Ja a0)))),(7,.c (.os 1 4 0 x3.length)),(103,.c (.os 1 4 0 x3.length)),(104,.c (.d (.v (.int .i64 s.1)))),(105,.c (.d (.v (.int .i64 s.2))))]) (fun s=>[[.arr 4 (List.map Jb x3)]]) [] H (xK ⟨[1],[]⟩) ?_
   rintro n3 ⟨x10,x11⟩ o3 H hF3
   rw[KU]at H
   refine xS ?_
   refine xr ?_
   rcases Jc H with⟨hp9,H⟩|⟨hp9,H⟩
   ·obtain⟨F,G,hq9⟩:=xH Y G hp9
    refine xT ?_
    obtain⟨hg12,H⟩:=Jd H
    obtain⟨hg,H⟩:=Jd H
    have F:=xZ Y (Jf Jb x3 x11.toNat default default (by omega))
    refine xR0 ?_
    refine JF ?_
    refine Jak ?_
    refine KE (Vu a0 x3 x10 x11) (fun s=>[(0,.c (.d (.sl 2 (List.map Ja a0)))),(7,.c (.os 1 4 0 x3.length)),(11,.c (.d (.v (.int .i64 x11)))),(12,.c (.pt 2 0)),(103,.c (.os 1 4 0 x3.length)),(104,.c (.d (.v (.int .i64 x10)))),(105,.c (.d (.v (.int .i64 x11)))),(119,.c (.d (.v (.bool s.1))))]) (fun s=>[[.arr 4 (List.map Jb x3)],[.d (.v (.int .i64 s.2.1)),.d (.v (.int .i64 s.2.2.1)),.d (.v (.int .i64 s.2.2.2.1)),.d (.v (str s.2.2.2.2))]]) [] o3 ?_ ?_
    ·rcases Jc H with⟨hp18,H⟩|⟨hp18,H⟩
     ·obtain⟨F,G,hq18⟩:=xH Y G hp18
      refine xR ?_
      exact Je H (xK ⟨[1,2],[]⟩)
     ·obtain⟨F,G,hq18⟩:=xH Y G hp18
      refine xR ?_
      exact Je H (xK ⟨[1,2],[]⟩)
    ·rintro ⟨x12,x13,x14,x15,x16⟩ H
     rw[Vu]at H
     rcases Jc H with⟨hp10,H⟩|⟨hp10,H⟩
     ·obtain⟨F,G,hq10⟩:=xH Y G hp10
      refine xT ?_
      replace H:=Jj H hF3
      replace H:=Option.some.inj H
      refine xr ?_
      subst H
      exact xN
     ·obtain⟨F,G,hq10⟩:=xH Y G hp10
      refine xE0 ?_
      refine Jby ?_
      refine JF ?_
      refine Jak ?_
      refine KE (KT x3 x10 x11 x13 x14) (fun s=>[(0,.c (.d (.sl 2 (List.map Ja a0)))),(7,.c (.os 1 4 0 x3.length)),(11,.c (.d (.v (.int .i64 x11)))),(12,.c (.pt 2 0)),(103,.c (.os 1 4 0 x3.length)),(104,.c (.d (.v (.int .i64 x10)))),(105,.c (.d (.v (.int .i64 x11)))),(141,.c (.d (.v (.bool s))))]) (fun s=>[[.arr 4 (List.map Jb x3)],[.d (.v (.int .i64 x13)),.d (.v (.int .i64 x14)),.d (.v (.int .i64 x15)),.d (.v (str x16))]]) [] o3 ?_ ?_
      ·rcases Jc H with⟨hp16,H⟩|⟨hp16,H⟩
       ·obtain⟨F,G,hq16⟩:=xH Y G hp16
        refine xR ?_
        exact Je H (xK ⟨[1,2],[]⟩)
       ·obtain⟨F,G,hq16⟩:=xH Y G hp16
        rcases Jc H with⟨hp17,H⟩|⟨hp17,H⟩
        ·obtain⟨F,G,hq17⟩:=xH F G hp17
         refine xR ?_
         exact Je H (xK ⟨[1,2],[]⟩)
        ·obtain⟨F,G,hq17⟩:=xH F G hp17
         obtain⟨hg16,H⟩:=Jd H
         have F:=xZ F (Jf Ja a0 x13.toNat default default (by omega))
         refine xR ?_
         exact Je H (xK ⟨[1,2],[]⟩)
      ·rintro x17 H
       rw[KT]at H
       rcases Jc H with⟨hp11,H⟩|⟨hp11,H⟩
       ·obtain⟨F,G,hq11⟩:=xH Y G hp11
        refine xT ?_
        replace H:=Jj H hF3
        replace H:=Option.some.inj H
        refine xr ?_
        subst H
        exact xN
       ·obtain⟨F,G,hq11⟩:=xH Y G hp11
        refine xE0 ?_
        refine Jby ?_
        refine JF ?_
        refine KE (Ky x10 x11) (fun s=>[(0,.c (.d (.sl 2 (List.map Ja a0)))),(7,.c (.os 1 4 0 x3.length)),(103,.c (.os 1 4 0 x3.length)),(104,.c (.d (.v (.int .i64 x10)))),(105,.c (.d (.v (.int .i64 x11)))),(176,.c (.d (.v (.bool s))))]) (fun s=>[[.arr 4 (List.map Jb x3)]]) [] o3 ?_ ?_
        ·rcases Jc H with⟨hp13,H⟩|⟨hp13,H⟩
         ·obtain⟨F,G,hq13⟩:=xH Y G hp13
          obtain⟨hg13,H⟩:=Jd H
          obtain⟨hg,H⟩:=Jd H
          have F:=xZ F (Jf Jb x3 ((IntKind.i64.wrap (x11-1)).toNat) default default (by omega))
          rcases Jc H with⟨hp14,H⟩|⟨hp14,H⟩
          ·obtain⟨F,G,hq14⟩:=xH F G hp14
           obtain⟨hg14,H⟩:=Jd H
           obtain⟨hg,H⟩:=Jd H
           have F:=xZ F (Jf Jb x3 ((IntKind.i64.wrap (x11-1)).toNat) default default (by omega))
           rcases Jc H with⟨hp15,H⟩|⟨hp15,H⟩
           ·obtain⟨F,G,hq15⟩:=xH F G hp15
            refine xR ?_
            exact Je H (xK ⟨[1],[]⟩)
           ·obtain⟨F,G,hq15⟩:=xH F G hp15
            obtain⟨hg15,H⟩:=Jd H
            obtain⟨hg,H⟩:=Jd H
            have F:=xZ F (Jf Jb x3 ((IntKind.i64.wrap (x11-1)).toNat) default default (by omega))
            refine xR ?_
            exact Je H (xK ⟨[1],[]⟩)
          ·obtain⟨F,G,hq14⟩:=xH F G hp14
           refine xR ?_
           exact Je H (xK ⟨[1],[]⟩)
         ·obtain⟨F,G,hq13⟩:=xH Y G hp13
          refine xR ?_
          exact Je H (xK ⟨[1],[]⟩)
        ·rintro x18 H
         rw[Ky]at H
         rcases Jc H with⟨hp12,H⟩|⟨hp12,H⟩
         ·obtain⟨F,G,hq12⟩:=xH Y G hp12
          refine xT ?_
          replace H:=Jj H hF3
          replace H:=Option.some.inj H
          refine xr ?_
          subst H
          exact xN
         ·obtain⟨F,G,hq12⟩:=xH Y G hp12
          refine xE ?_
          refine xr ?_
          exact JE (JL H hF3) (xK ⟨[1],[]⟩)
   ·obtain⟨F,G,hq9⟩:=xH Y G hp9
    replace H:=Jj H hF3
    refine xE ?_
    refine xr ?_
    refine xr ?_
    refine xr ?_
    refine Kc (Kf a0 x3) (fun s=>[(7,.c (.os 1 4 0 x3.length)),(13,.c (.os 2 2 0 s.2.2.2.length)),(14,.c (.d (.v (.bool s.1)))),(178,.c (.d (.sl 2 (List.map Ja a0)))),(179,.c (.d (.v (.int .i64 s.2.1)))),(180,.c (.d (.v (.int .i64 s.2.2.1))))]) (fun s=>[[.arr 4 (List.map Jb x3)],[.arr 2 (List.map Ja s.2.2.2)]]) [] H (xK ⟨[1,0],[]⟩) ?_
    rintro n4 ⟨x19,x20,x21,x22⟩ o4 H hF4
    rw[Kf]at H
    refine xS ?_
    refine xr ?_
    rcases Jc H with⟨hp19,H⟩|⟨hp19,H⟩
    ·obtain⟨F,G,hq19⟩:=xH Y G hp19
     refine xT ?_
     obtain⟨hg17,H⟩:=Jd H
     have F:=xZ Y (Jf Ja a0 x21.toNat default default (by omega))
     refine xR ?_
     refine xr ?_
     refine xr ?_
     refine Kc (Kx x3 x20 x21 x22) (fun s=>[(7,.c (.os 1 4 0 x3.length)),(13,.c (.os 2 2 0 x22.length)),(14,.c (.d (.v (.bool s.1)))),(15,.c (.d (.v (.int .i64 x21)))),(16,.c (.pt 3 0)),(17,.c (.d (.v (str s.2.1)))),(18,.c (.d (.v (.int .i64 s.2.2.1)))),(178,.c (.d (.sl 2 (List.map Ja a0)))),(179,.c (.d (.v (.int .i64 x20)))),(180,.c (.d (.v (.int .i64 x21)))),(185,.c (.os 1 4 0 x3.length)),(186,.c (.d (.v (.int .i64 s.2.2.2.1)))),(187,.c (.d (.v (.int .i64 s.2.2.2.2.1))))]) (fun s=>[[.arr 4 (List.map Jb x3)],[.arr 2 (List.map Ja x22)],[.d (.v (str s.2.2.2.2.2.1)),.d (.v (str s.2.2.2.2.2.2))]]) [] H (xK ⟨[1,2,3],[]⟩) ?_
     rintro n5 ⟨x23,x24,x25,x26,x27,x28,x29⟩ o5 H hF5
     rw[Kx]at H
     refine xS ?_
     refine xr ?_
     rcases Jc H with⟨hp20,H⟩|⟨hp20,H⟩
     ·obtain⟨F,G,hq20⟩:=xH Y G hp20
      refine xT0 ?_
      refine Jby ?_
      refine JF ?_
      refine KE (K5 x26 x27 x28 x29) (fun s=>[(7,.c (.os 1 4 0 x3.length)),(13,.c (.os 2 2 0 x22.length)),(14,.c (.d (.v (.bool s.1)))),(15,.c (.d (.v (.int .i64 x21)))),(16,.c (.pt 3 0)),(17,.c (.d (.v (str s.2.1)))),(18,.c (.d (.v (.int .i64 s.2.2)))),(178,.c (.d (.sl 2 (List.map Ja a0)))),(179,.c (.d (.v (.int .i64 x20)))),(180,.c (.d (.v (.int .i64 x21)))),(185,.c (.os 1 4 0 x3.length)),(186,.c (.d (.v (.int .i64 x26)))),(187,.c (.d (.v (.int .i64 x27))))]) (fun s=>[[.arr 4 (List.map Jb x3)],[.arr 2 (List.map Ja x22)],[.d (.v (str x28)),.d (.v (str x29))]]) [] o5 ?_ ?_
      ·refine xS ?_
       obtain⟨hg18,H⟩:=Jd H
       obtain⟨hg,H⟩:=Jd H
       have F:=xZ Y (Jf Jb x3 x27.toNat default default (by omega))
       refine xR ?_
       refine xr ?_
       rcases Jc H with⟨hp21,H⟩|⟨hp21,H⟩
       ·obtain⟨F,G,hq21⟩:=xH Y G hp21
        refine xT0 ?_
        refine KE (KN x24 x25 x26 x27 x28 x29) (fun s=>[(7,.c (.os 1 4 0 x3.length)),(13,.c (.os 2 2 0 x22.length)),(14,.c (.d (.v (.bool s.1)))),(15,.c (.d (.v (.int .i64 x21)))),(16,.c (.pt 3 0)),(17,.c (.d (.v (str x24)))),(18,.c (.d (.v (.int .i64 x25)))),(20,.c (.pt 4 0)),(178,.c (.d (.sl 2 (List.map Ja a0)))),(179,.c (.d (.v (.int .i64 x20)))),(180,.c (.d (.v (.int .i64 x21)))),(185,.c (.os 1 4 0 x3.length)),(186,.c (.d (.v (.int .i64 x26)))),(187,.c (.d (.v (.int .i64 x27))))]) (fun s=>[[.arr 4 (List.map Jb x3)],[.arr 2 (List.map Ja x22)],[.d (.v (str x28)),.d (.v (str x29))],[.d (.v (.int .i64 s.2.1)),.d (.v (.int .i64 s.2.2.1)),.d (.v (.int .i64 s.2.2.2.1)),.d (.v (str s.2.2.2.2))]]) [] o5 ?_ ?_
        ·rcases Jc H with⟨hp22,H⟩|⟨hp22,H⟩
         ·obtain⟨F,G,hq22⟩:=xH Y G hp22
          refine xR ?_
          exact Je H (xK ⟨[1,2,3,4],[]⟩)
         ·obtain⟨F,G,hq22⟩:=xH Y G hp22
          refine xR ?_
          exact Je H (xK ⟨[1,2,3,4],[]⟩)
        ·rintro ⟨x33,x34,x35,x36,x37⟩ H
         rw[KN]at H
         refine xS ?_
         obtain⟨hg19,H⟩:=Jd H
         obtain⟨hg20,H⟩:=Jd H
         obtain⟨hg21,H⟩:=Jd H
         refine xr ?_
         refine xr ?_
         exact Je H (xK ⟨[1,2,3],[]⟩)
       ·obtain⟨F,G,hq21⟩:=xH Y G hp21
        refine xE ?_
        exact Je H (xK ⟨[1,2,3],[]⟩)
      ·rintro ⟨x30,x31,x32⟩ H
       rw[K5]at H
       refine xr ?_
       exact JE (JL H hF5) (xK ⟨[1,2,3],[]⟩)
     ·obtain⟨F,G,hq20⟩:=xH Y G hp20
      replace H:=Jj H hF5
      refine xE ?_
      obtain⟨hg22,H⟩:=Jd H
      obtain⟨hg23,H⟩:=Jd H
      refine xr0 ?_
      refine JF ?_
      refine KE (Vm x20 x21 x22 x28) (fun s=>[(7,.c (.os 1 4 0 x3.length)),(13,.c (.os 2 2 0 x22.length)),(14,.c (.d (.v (.bool s.1)))),(16,.c (.pt 3 0)),(17,.c (.d (.v (str s.2)))),(178,.c (.d (.sl 2 (List.map Ja a0)))),(179,.c (.d (.v (.int .i64 x20)))),(180,.c (.d (.v (.int .i64 x21))))]) (fun s=>[[.arr 4 (List.map Jb x3)],[.arr 2 (List.map Ja x22)],[.d (.v (str x28)),.d (.v (str x29))]]) [] o4 ?_ ?_
      ·rcases Jc H with⟨hp23,H⟩|⟨hp23,H⟩
       ·obtain⟨F,G,hq23⟩:=xH Y G hp23
        refine xR ?_
        exact Je H (xK ⟨[1,2,3],[]⟩)
       ·obtain⟨F,G,hq23⟩:=xH Y G hp23
        refine xR ?_
        exact Je H (xK ⟨[1,2,3],[]⟩)
      ·rintro ⟨x38,x39⟩ H
       rw[Vm]at H
       obtain⟨hg24,H⟩:=Jd H
       have F:=xZ Y (VF Je1 [(⟨x28,x39⟩:Source)])
       have L:[(⟨x28,x39⟩:Source)].length=1:=rfl
       refine xR ?_
       refine xr ?_
       exact JE (JL H hF4) (xK ⟨[1,4],[]⟩)
    ·obtain⟨F,G,hq19⟩:=xH Y G hp19
     replace H:=Jj H hF4
     refine xE ?_
     refine xr ?_
     rcases Jc H with⟨hp24,H⟩|⟨hp24,H⟩
     ·obtain⟨F,G,hq24⟩:=xH Y G hp24
      refine xT ?_
      replace H:=Option.some.inj H
      refine xr ?_
      subst H
      exact xN
     ·obtain⟨F,G,hq24⟩:=xH Y G hp24
      refine xE ?_
      replace H:=Option.some.inj H
      refine xr ?_
      subst H
      refine xNf 2 2 (List.map Ja x22) [] ?_
      exact xN
theorem JeG(a0:List Source)(a1:List Edit)(r:(List Source)×Int)(H:Xi a0 a1=some r):PC Z7 [(dL 2 Ja) a0,(dL 4 Jb) a1] (T2 (dL 2 Ja) dI r):=PF.c (a:=(a0,a1)) H
end Go.Proofs.YtfkhlbhjhdpkoaaDoor
