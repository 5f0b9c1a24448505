/- files.Clean: a loop over a text's parts. The round is dec3's (printed for one part). -/
import Derived.Test.YtfkhlbhjhdpkoaaGreatDoorZraq
set_option linter.unusedVariables false
set_option linter.unusedSimpArgs false
set_option maxHeartbeats 4000000
set_option maxRecDepth 100000
namespace Go.Proofs.YtfkhlbhjhdpkoaaGreatDoor
open Go.RowKit
noncomputable def Jc4(x2 x3:Int):Bool→Option YJ
 | x6=>if x6=true then inrO (some false) else some (.inl (x2,IntKind.i64.wrap (x3+1)))
noncomputable def Kx(x2 x3:Int):YT→Option YJ
 | (x4,x5)=>if(!x5)=true then if(!eqI (x4.toNat:Int) 46)=true then Jc4 x2 x3 (!eqI (x4.toNat:Int) 95) else Jc4 x2 x3 false else Jc4 x2 x3 false
noncomputable def Jgy(a0:List UInt8):(Int×Int)→Option YJ
 | (x2,x3)=>if(ltI x3 x2)=true then if(0:Int)≤x3∧x3.toNat<a0.length then if(leI 97 ((a0.getD x3.toNat default).toNat:Int))=true then if(leI ((a0.getD x3.toNat default).toNat:Int) 122)=true then Kx x2 x3 ((a0.getD x3.toNat default),true) else if(leI 65 ((a0.getD x3.toNat default).toNat:Int))=true then if(leI ((a0.getD x3.toNat default).toNat:Int) 90)=true then Kx x2 x3 ((a0.getD x3.toNat default),true) else if(leI 48 ((a0.getD x3.toNat default).toNat:Int))=true then Kx x2 x3 ((a0.getD x3.toNat default),leI ((a0.getD x3.toNat default).toNat:Int) 57) else Kx x2 x3 ((a0.getD x3.toNat default),false) else if(leI 48 ((a0.getD x3.toNat default).toNat:Int))=true then Kx x2 x3 ((a0.getD x3.toNat default),leI ((a0.getD x3.toNat default).toNat:Int) 57) else Kx x2 x3 ((a0.getD x3.toNat default),false) else if(leI 65 ((a0.getD x3.toNat default).toNat:Int))=true then if(leI ((a0.getD x3.toNat default).toNat:Int) 90)=true then Kx x2 x3 ((a0.getD x3.toNat default),true) else if(leI 48 ((a0.getD x3.toNat default).toNat:Int))=true then Kx x2 x3 ((a0.getD x3.toNat default),leI ((a0.getD x3.toNat default).toNat:Int) 57) else Kx x2 x3 ((a0.getD x3.toNat default),false) else if(leI 48 ((a0.getD x3.toNat default).toNat:Int))=true then Kx x2 x3 ((a0.getD x3.toNat default),leI ((a0.getD x3.toNat default).toNat:Int) 57) else Kx x2 x3 ((a0.getD x3.toNat default),false) else none else inrO (some true)
noncomputable def JcT(a0:List UInt8):Bool→Option Bool
 | x1=>if x1=true then some false else Jt (Jgy a0) ((a0.length:Int),0)
noncomputable def Jjp(a:List UInt8):Option Bool :=
 if(eqS a [])=true then JcT a true else if(eqS a [46])=true then JcT a true else JcT a (eqS a [46,46])
noncomputable def JbW(a0:List UInt8):Option Bool :=
 if(ltI 40 (a0.length:Int))=true then some false else if a0.length≤4611686018427387904 then Jiy Jjp (splV 47 a0) else none
noncomputable def Jeb:PF:=PF.of (E1 dS) (fun a=>JbW a) dB
theorem Jil:JF Tryz.prog 31 Jeb:=by
 refine xFL mixed [] [] [(46,true,Xe)] trivial ⟨Jgt,trivial⟩ Tryz.func31 ?_
 rintro a0 out H
 have G:=True.intro
 have Y:=xZ y_4 <| xZ y_5 <| xZ y_9 <| xZ y_55 <| xZ V7.eq_1 <| Tryz.results31
 simp only[JbW]at H
 refine JiI ?_
 refine xr ?_
 refine JeN ?_
 refine JiI ?_
 refine xS ?_
 refine xr ?_
 rcases xB Y G H with⟨p,H,F,G,q⟩|⟨p,H,F,G,q⟩
 ·refine xT ?_
  replace H:=oI H
  refine xr ?_
  refine JC1 ?_
  subst H
  exact xN
 refine xE ?_
 refine JeN ?_
 obtain⟨hlen,H⟩:=Jd H
 refine JxN ?_
 refine JiI ?_
 have F:=Y
 refine xQ ?_
 refine xs 1 ?_
 refine xc ⟨[],[]⟩ (tabG 0 (Jgp a0 [47])) ?_
 refine xl ?_
 refine JeN ?_
 refine JvK ?_
 refine Jv9 97 4 3 2 4 47 a0 [(2,.c (.pt 1 0)),(11,.c (.clo 97 [3,2,4]))] [(2,.c (.pt 1 0))] [[kB false],[kS a0],[kS [47]],[kI 0]]
  (fun k bs=>bs=[[kB false],[],[],[]]∧Jiy Jjp ((splV 47 a0).drop k)=some out) JwP (xK ⟨[1,2,3,4],[]⟩) rfl rfl rfl ?_ rfl rfl rfl hlen ⟨by decide,by decide,by decide⟩ rfl
  [[kB false],[],[],[]] ?_ ⟨rfl,H⟩ ?_ ?_
 ·intro i _
  by_cases hi:i=2
  ·subst hi; exact⟨rfl,.inl rfl⟩
  simp[sigL,hi,nzA]
 ·unfold Jea hpL
  congr 1
  funext n
  match n with
  | 0=>rfl
  | 1=>rfl
  | 2=>rfl
  | 3=>rfl
  | 4=>rfl
  | n+5=>simp[upd,hpH]
 ·rintro k a _ hk ⟨rfl,Hk⟩
  obtain⟨o0,H,Hn⟩:=Jze hk Hk
  simp only[Jjp]at H
  refine xr ?_
  refine⟨rfl,?_⟩
  refine JaS ?_
  refine Vl ?_
  refine Jp (JcT a) (fun s=>[(2,.c (.pt 1 0)),(3,cS a),(22,cB s)]) (fun s=>[[kB false],[],[],[]]) [] o0 ?_ ?_
  ·rcases xB Y G H with⟨p,H,F,G,q⟩|⟨p,H,F,G,q⟩
   ·refine xR ?_
    exact Jb H (xK ⟨[1,2,3,4],[]⟩)
   rcases xB F G H with⟨p,H,F,G,q⟩|⟨p,H,F,G,q⟩
   ·refine xR ?_
    exact Jb H (xK ⟨[1,2,3,4],[]⟩)
   refine xR ?_
   exact Jb H (xK ⟨[1,2,3,4],[]⟩)
  rintro x1 H
  rw[JcT]at H
  rcases xB Y G H with⟨p,H,F,G,q⟩|⟨p,H,F,G,q⟩
  ·refine xT ?_
   replace H:=oI H
   refine xr ?_
   subst H
   replace Hn:=Option.some.inj Hn
   refine Jnb ?_
   refine xS ?_
   subst Hn
   exact xN
  refine xE ?_
  refine xr ?_
  refine JZ (Jgy a) (fun s=>[(2,.c (.pt 1 0)),(24,.c (.d (.sl 1 (List.map dU a)))),(25,cI s.1),(26,cI s.2)]) (fun s=>[[kB false],[],[],[]]) [] H (xK ⟨[1,2,3,4],[]⟩) ?_
  rintro n1 ⟨x2,x3⟩ o1 H hF1
  rw[Jgy]at H
  refine xS ?_
  refine xr ?_
  rcases xB Y G H with⟨p,H,F,G,q⟩|⟨p,H,F,G,q⟩
  ·refine xT ?_
   obtain⟨g,H⟩:=Jd H
   have F:=xZ Y (Jh dU a x3.toNat default default (by omega))
   refine xR0 ?_
   refine Jl ?_
   refine Jp (Kx x2 x3) (fun s=>[(2,.c (.pt 1 0)),(5,.c (.d (.v (.int .u8 (s.1.toNat:Int))))),(6,cB s.2),(24,.c (.d (.sl 1 (List.map dU a)))),(25,cI x2),(26,cI x3)]) (fun s=>[[kB false],[],[],[]]) [] o1 ?_ ?_
   ·rcases xB Y G H with⟨p,H,F,G,q⟩|⟨p,H,F,G,q⟩
    ·rcases xB F G H with⟨p,H,F,G,q⟩|⟨p,H,F,G,q⟩
     ·refine xR ?_
      exact Jb H (xK ⟨[1,2,3,4],[]⟩)
     rcases xB F G H with⟨p,H,F,G,q⟩|⟨p,H,F,G,q⟩
     ·rcases xB F G H with⟨p,H,F,G,q⟩|⟨p,H,F,G,q⟩
      ·refine xR ?_
       exact Jb H (xK ⟨[1,2,3,4],[]⟩)
      rcases xB F G H with⟨p,H,F,G,q⟩|⟨p,H,F,G,q⟩
      ·refine xR ?_
       exact Jb H (xK ⟨[1,2,3,4],[]⟩)
      refine xR ?_
      exact Jb H (xK ⟨[1,2,3,4],[]⟩)
     rcases xB F G H with⟨p,H,F,G,q⟩|⟨p,H,F,G,q⟩
     ·refine xR ?_
      exact Jb H (xK ⟨[1,2,3,4],[]⟩)
     refine xR ?_
     exact Jb H (xK ⟨[1,2,3,4],[]⟩)
    rcases xB F G H with⟨p,H,F,G,q⟩|⟨p,H,F,G,q⟩
    ·rcases xB F G H with⟨p,H,F,G,q⟩|⟨p,H,F,G,q⟩
     ·refine xR ?_
      exact Jb H (xK ⟨[1,2,3,4],[]⟩)
     rcases xB F G H with⟨p,H,F,G,q⟩|⟨p,H,F,G,q⟩
     ·refine xR ?_
      exact Jb H (xK ⟨[1,2,3,4],[]⟩)
     refine xR ?_
     exact Jb H (xK ⟨[1,2,3,4],[]⟩)
    rcases xB F G H with⟨p,H,F,G,q⟩|⟨p,H,F,G,q⟩
    ·refine xR ?_
     exact Jb H (xK ⟨[1,2,3,4],[]⟩)
    refine xR ?_
    exact Jb H (xK ⟨[1,2,3,4],[]⟩)
   rintro ⟨x4,x5⟩ H
   rw[Kx]at H
   refine Jp (Jc4 x2 x3) (fun s=>[(2,.c (.pt 1 0)),(24,.c (.d (.sl 1 (List.map dU a)))),(25,cI x2),(26,cI x3),(61,cB s)]) (fun s=>[[kB false],[],[],[]]) [] o1 ?_ ?_
   ·rcases xB Y G H with⟨p,H,F,G,q⟩|⟨p,H,F,G,q⟩
    ·rcases xB F G H with⟨p,H,F,G,q⟩|⟨p,H,F,G,q⟩
     ·refine xR ?_
      exact Jb H (xK ⟨[1,2,3,4],[]⟩)
     refine xR ?_
     exact Jb H (xK ⟨[1,2,3,4],[]⟩)
    refine xR ?_
    exact Jb H (xK ⟨[1,2,3,4],[]⟩)
   rintro x6 H
   rw[Jc4]at H
   rcases xB Y G H with⟨p,H,F,G,q⟩|⟨p,H,F,G,q⟩
   ·refine xT ?_
    replace H:=Js H hF1
    replace H:=oI H
    refine xr ?_
    subst H
    replace Hn:=Option.some.inj Hn
    refine Jnb ?_
    refine xS ?_
    subst Hn
    exact xN
   refine xE ?_
   refine xr ?_
   exact JB (JG H hF1) (xK ⟨[1,2,3,4],[]⟩)
  replace H:=Js H hF1
  refine xE ?_
  replace H:=oI H
  subst H
  exact JB8 ⟨rfl,Hn⟩
 rintro _ ⟨rfl,Hk⟩
 replace Hk:=Jyk Hk
 refine xS ?_
 refine xr ?_
 subst Hk
 exact xN
theorem JgE(a0:List UInt8)(r:Bool)(H:JbW a0=some r):PC Jeb [dS a0] (dB r):=PF.c (a:=a0) H
end Go.Proofs.YtfkhlbhjhdpkoaaGreatDoor
