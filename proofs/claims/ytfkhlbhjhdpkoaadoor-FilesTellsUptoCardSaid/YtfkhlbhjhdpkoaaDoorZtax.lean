/- Functions of data for functions of the program. Written by dec3.py. -/
import Derived.Test.YtfkhlbhjhdpkoaaDoorZtat
import Derived.Test.YtfkhlbhjhdpkoaaDoorZtaw
set_option linter.unusedVariables false
set_option linter.unusedSimpArgs false
set_option maxHeartbeats 4000000
set_option maxRecDepth 100000
namespace Go.Proofs.YtfkhlbhjhdpkoaaDoor
open Go.RowKit
noncomputable def VU:Bool→Option Bool
 | x4=>some x4
noncomputable def Ku(a0:List Source)(a1:List Edit)(a3:List UInt8):(Int×Int)→Option ((Int×Int) ⊕ Bool)
 | (x2,x3)=>if(ltI x3 x2)=true then if(0:Int)≤x3∧x3.toNat<a0.length then(Vt ((a0.getD x3.toNat default).Path) a3).bind fun r1=>(K7 ((a0.getD x3.toNat default).Path) a3).bind fun r2=>if(!eqS r1 r2)=true then inrO (some false) else some (.inl (x2,IntKind.i64.wrap (x3+1))) else none else inrO ((Xk a0 a1).bind fun r3=>(Xi a0 a1).bind fun r4=>if(eqI r3.2 r4.2)=true then(Vb r3.1 r4.1).bind fun r5=>VU r5 else VU false)
noncomputable def KJ(a0:List Source)(a1:List Edit)(a3:List UInt8):Bool→Option Bool
 | x1=>if x1=true then some false else Ji (Ku a0 a1 a3) ((a0.length:Int),0)
noncomputable def XJ(a0:List Source)(a1:List Edit)(a2:Int)(a3:List UInt8)(a4:Bool):Option Bool :=
 (Xa a3).bind fun r6=>(Vx a3).bind fun r7=>if(!eqB r6 r7)=true then KJ a0 a1 a3 true else(XR a0).bind fun r8=>(V0 a0).bind fun r9=>if(!(eqI r8.Err r9.Err && (eqI r8.File r9.File && (eqI r8.At r9.At))))=true then KJ a0 a1 a3 true else(V5 a0 a3).bind fun r10=>(Vr a0 a3).bind fun r11=>if(!eqI r10 r11)=true then KJ a0 a1 a3 true else(Xy a0 a2 a3 a4).bind fun r12=>(VS a0 a2 a3 a4).bind fun r13=>KJ a0 a1 a3 (!eqI r12 r13)
noncomputable def JaC:PF:=PF.of (E5 (dL 2 Ja) (dL 4 Jb) dI dS dB) (fun a=>XJ a.1 a.2.1 a.2.2.1 a.2.2.2.1 a.2.2.2.2) dB
theorem Jcw:J7 Tryd.prog 3 JaC:=by
 refine xF mixed [(15,Zy),(16,XW),(17,Ja5),(18,Z7),(19,Zc),(7,XZ),(8,Xl),(9,ZW),(10,Za),(11,Jam),(12,ZB),(13,Jaq),(14,ZK)] [] ⟨⟨Jjv,Jcf⟩,⟨Ji3,JbB⟩,⟨Jl4,Jfh⟩,⟨Jl6,Jeq⟩,⟨JmM,Jc5⟩,⟨Jhz,Ja9⟩,⟨Jhv,Jav⟩,⟨JkT,JcF⟩,⟨JiV,Jb7⟩,⟨Jju,Jdt⟩,⟨Jja,Jcd⟩,⟨JmO,JeO⟩,⟨Jl8,JdA⟩,trivial⟩ trivial Tryd.func3 ?_
 rintro ⟨a0,a1,a2,a3,a4⟩ out H
 have G:=True.intro
 have Y:=xZ y_4 <| xZ y_9 <| xZ y_23 <| xZ y_28 <| xZ y_33 <| xZ Tryd.results3 <| xZ Ja.eq_1 <| xZ Jb.eq_1 <| Vw.eq_1
 simp only[XJ]at H
 refine xS ?_
 refine xr0 ?_
 refine JF ?_
 refine Jak ?_
 refine KE (KJ a0 a1 a3) (fun s=>[(0,.c (.d (.sl 2 (List.map Ja a0)))),(1,.c (.d (.sl 4 (List.map Jb a1)))),(3,.c (.d (.v (str a3)))),(50,.c (.d (.v (.bool s))))]) (fun s=>[]) [] out ?_ ?_
 ·obtain⟨r6,hr6,H⟩:=Jr H
  have F:=xC Y (Jag a3 r6 hr6)
  obtain⟨r7,hr7,H⟩:=Jr H
  have F:=xCf F (JaQ a3 r7 hr7)
  rcases Jc H with⟨hp5,H⟩|⟨hp5,H⟩
  ·obtain⟨F,G,hq5⟩:=xH F G hp5
   refine xR ?_
   exact Je H (xK ⟨[],[]⟩)
  ·obtain⟨F,G,hq5⟩:=xH F G hp5
   obtain⟨r8,hr8,H⟩:=Jr H
   have F:=xCf F (Jdq a0 r8 hr8)
   obtain⟨r9,hr9,H⟩:=Jr H
   have F:=xCf F (Jb9 a0 r9 hr9)
   rcases Jc H with⟨hp6,H⟩|⟨hp6,H⟩
   ·obtain⟨F,G,hq6⟩:=xH F G hp6
    refine xR ?_
    exact Je H (xK ⟨[],[]⟩)
   ·obtain⟨F,G,hq6⟩:=xH F G hp6
    obtain⟨r10,hr10,H⟩:=Jr H
    have F:=xCf F (JaK a0 a3 r10 hr10)
    obtain⟨r11,hr11,H⟩:=Jr H
    have F:=xCf F (ZY a0 a3 r11 hr11)
    rcases Jc H with⟨hp7,H⟩|⟨hp7,H⟩
    ·obtain⟨F,G,hq7⟩:=xH F G hp7
     refine xR ?_
     exact Je H (xK ⟨[],[]⟩)
    ·obtain⟨F,G,hq7⟩:=xH F G hp7
     obtain⟨r12,hr12,H⟩:=Jr H
     have F:=xCf F (Je3 a0 a2 a3 a4 r12 hr12)
     obtain⟨r13,hr13,H⟩:=Jr H
     have F:=xCf F (Jes a0 a2 a3 a4 r13 hr13)
     refine xR ?_
     exact Je H (xK ⟨[],[]⟩)
 ·rintro x1 H
  rw[KJ]at H
  rcases Jc H with⟨hp1,H⟩|⟨hp1,H⟩
  ·obtain⟨F,G,hq1⟩:=xH Y G hp1
   refine xT ?_
   replace H:=Option.some.inj H
   refine xr ?_
   subst H
   exact xN
  ·obtain⟨F,G,hq1⟩:=xH Y G hp1
   refine xE ?_
   refine xr ?_
   refine Kc (Ku a0 a1 a3) (fun s=>[(0,.c (.d (.sl 2 (List.map Ja a0)))),(1,.c (.d (.sl 4 (List.map Jb a1)))),(3,.c (.d (.v (str a3)))),(51,.c (.d (.sl 2 (List.map Ja a0)))),(52,.c (.d (.v (.int .i64 s.1)))),(53,.c (.d (.v (.int .i64 s.2))))]) (fun s=>[]) [] H (xK ⟨[],[]⟩) ?_
   rintro n1 ⟨x2,x3⟩ o1 H hF1
   rw[Ku]at H
   refine xS ?_
   refine xr ?_
   rcases Jc H with⟨hp2,H⟩|⟨hp2,H⟩
   ·obtain⟨F,G,hq2⟩:=xH Y G hp2
    refine xT ?_
    obtain⟨hg1,H⟩:=Jd H
    have F:=xZ Y (Jf Ja a0 x3.toNat default default (by omega))
    refine xR ?_
    obtain⟨r1,hr1,H⟩:=Jr H
    have F:=xC Y (ZM ((a0.getD x3.toNat default).Path) a3 r1 hr1)
    obtain⟨r2,hr2,H⟩:=Jr H
    have F:=xCf F (X8 ((a0.getD x3.toNat default).Path) a3 r2 hr2)
    refine xR ?_
    rcases Jc H with⟨hp3,H⟩|⟨hp3,H⟩
    ·obtain⟨F,G,hq3⟩:=xH Y G hp3
     refine xT ?_
     replace H:=Jj H hF1
     replace H:=Option.some.inj H
     refine xr ?_
     subst H
     exact xN
    ·obtain⟨F,G,hq3⟩:=xH Y G hp3
     refine xE ?_
     refine xr ?_
     exact JE (JL H hF1) (xK ⟨[],[]⟩)
   ·obtain⟨F,G,hq2⟩:=xH Y G hp2
    replace H:=Jj H hF1
    refine xE ?_
    obtain⟨r3,hr3,H⟩:=Jr H
    have F:=xC Y (JfO a0 a1 r3 hr3)
    refine xR ?_
    obtain⟨r4,hr4,H⟩:=Jr H
    have F:=xC Y (JeG a0 a1 r4 hr4)
    refine xR0 ?_
    refine JF ?_
    refine KE VU (fun s=>[(10,.c (.d (.v (.bool s))))]) (fun s=>[]) [] out ?_ ?_
    ·rcases Jc H with⟨hp4,H⟩|⟨hp4,H⟩
     ·obtain⟨F,G,hq4⟩:=xH Y G hp4
      obtain⟨r5,hr5,H⟩:=Jr H
      have F:=xCf F (Jdu r3.1 r4.1 r5 hr5)
      refine xR ?_
      exact Je H (xK ⟨[],[]⟩)
     ·obtain⟨F,G,hq4⟩:=xH Y G hp4
      refine xR ?_
      exact Je H (xK ⟨[],[]⟩)
    ·rintro x4 H
     rw[VU]at H
     replace H:=Option.some.inj H
     refine xS ?_
     subst H
     exact xN
end Go.Proofs.YtfkhlbhjhdpkoaaDoor
