/- files.Clean: a loop over a text's parts. The round is dec3's (printed for one part). -/
import Derived.Test.YtfkhlbhjhdpkoaaGreatDoorZoaq
set_option linter.unusedVariables false
set_option linter.unusedSimpArgs false
set_option maxHeartbeats 4000000
set_option maxRecDepth 100000
namespace Go.Proofs.YtfkhlbhjhdpkoaaGreatDoor
open Go.RowKit
noncomputable def JdW(x2 x3:Int):Bool→Option YT
 | x6=>if x6=true then inrO (some false) else some (.inl (x2,IntKind.i64.wrap (x3+1)))
noncomputable def KG(x2 x3:Int):Yc1→Option YT
 | (x4,x5)=>if(!x5)=true then if(!eqI (x4.toNat:Int) 46)=true then JdW x2 x3 (!eqI (x4.toNat:Int) 95) else JdW x2 x3 false else JdW x2 x3 false
noncomputable def JhO(a0:List UInt8):(Int×Int)→Option YT
 | (x2,x3)=>if(ltI x3 x2)=true then if(0:Int)≤x3∧x3.toNat<a0.length then if(leI 97 ((a0.getD x3.toNat default).toNat:Int))=true then if(leI ((a0.getD x3.toNat default).toNat:Int) 122)=true then KG x2 x3 ((a0.getD x3.toNat default),true) else if(leI 65 ((a0.getD x3.toNat default).toNat:Int))=true then if(leI ((a0.getD x3.toNat default).toNat:Int) 90)=true then KG x2 x3 ((a0.getD x3.toNat default),true) else if(leI 48 ((a0.getD x3.toNat default).toNat:Int))=true then KG x2 x3 ((a0.getD x3.toNat default),leI ((a0.getD x3.toNat default).toNat:Int) 57) else KG x2 x3 ((a0.getD x3.toNat default),false) else if(leI 48 ((a0.getD x3.toNat default).toNat:Int))=true then KG x2 x3 ((a0.getD x3.toNat default),leI ((a0.getD x3.toNat default).toNat:Int) 57) else KG x2 x3 ((a0.getD x3.toNat default),false) else if(leI 65 ((a0.getD x3.toNat default).toNat:Int))=true then if(leI ((a0.getD x3.toNat default).toNat:Int) 90)=true then KG x2 x3 ((a0.getD x3.toNat default),true) else if(leI 48 ((a0.getD x3.toNat default).toNat:Int))=true then KG x2 x3 ((a0.getD x3.toNat default),leI ((a0.getD x3.toNat default).toNat:Int) 57) else KG x2 x3 ((a0.getD x3.toNat default),false) else if(leI 48 ((a0.getD x3.toNat default).toNat:Int))=true then KG x2 x3 ((a0.getD x3.toNat default),leI ((a0.getD x3.toNat default).toNat:Int) 57) else KG x2 x3 ((a0.getD x3.toNat default),false) else none else inrO (some true)
noncomputable def JdZ(a0:List UInt8):Bool→Option Bool
 | x1=>if x1=true then some false else Jt (JhO a0) ((a0.length:Int),0)
noncomputable def JkK(a:List UInt8):Option Bool :=
 if(eqS a [])=true then JdZ a true else if(eqS a [46])=true then JdZ a true else JdZ a (eqS a [46,46])
noncomputable def Jby(a0:List UInt8):Option Bool :=
 if(ltI 40 (a0.length:Int))=true then some false else if a0.length≤4611686018427387904 then Jks JkK (splV 47 a0) else none
noncomputable def JeR:PF:=PF.of (E1 dS) (fun a=>Jby a) dB
theorem JjL:JC Tryz.prog 31 JeR:=by
 refine xFL mixed [] [] [(46,true,Xx)] trivial ⟨Jhy,trivial⟩ Tryz.func31 ?_
 rintro a0 out H
 have G:=True.intro
 have Y:=xZ y_4 <| xZ y_5 <| xZ y_9 <| xZ y_55 <| xZ XD.eq_1 <| Tryz.results31
 simp only[Jby]at H
 refine JkI ?_
 refine xr ?_
 refine JfW ?_
 refine JkI ?_
 refine xS ?_
 refine xr ?_
 rcases xB Y G H with⟨p,H,F,G,q⟩|⟨p,H,F,G,q⟩
 ·refine xT ?_
  replace H:=oI H
  refine xr ?_
  refine JFG ?_
  subst H
  exact xN
 refine xE ?_
 refine JfW ?_
 obtain⟨hlen,H⟩:=Jc H
 refine JA1 ?_
 refine JkI ?_
 have F:=Y
 refine xQ ?_
 refine xs 1 ?_
 refine xc ⟨[],[]⟩ (tabG 0 (JhC a0 [47])) ?_
 refine xl ?_
 refine JfW ?_
 refine Jy3 ?_
 refine JyI 97 4 3 2 4 47 a0 [(2,.c (.pt 1 0)),(11,.c (.clo 97 [3,2,4]))] [(2,.c (.pt 1 0))] [[kB false],[kS a0],[kS [47]],[kI 0]]
  (fun k bs=>bs=[[kB false],[],[],[]]∧Jks JkK ((splV 47 a0).drop k)=some out) Jy0 (xK ⟨[1,2,3,4],[]⟩) rfl rfl rfl ?_ rfl rfl rfl hlen ⟨by decide,by decide,by decide⟩ rfl
  [[kB false],[],[],[]] ?_ ⟨rfl,H⟩ ?_ ?_
 ·intro i _
  by_cases hi:i=2
  ·subst hi; exact⟨rfl,.inl rfl⟩
  simp[sigL,hi,nzA]
 ·unfold JeY hpL
  congr 1
  funext n
  match n with
  | 0=>rfl
  | 1=>rfl
  | 2=>rfl
  | 3=>rfl
  | 4=>rfl
  | n+5=>simp[upd,hpH]
 ·rintro k a _ hk ⟨rfl,Hk⟩
  obtain⟨o0,H,Hn⟩:=JCu hk Hk
  simp only[JkK]at H
  refine xr ?_
  refine⟨rfl,?_⟩
  refine Jas ?_
  refine Kv ?_
  refine Jo (JdZ a) (fun s=>[(2,.c (.pt 1 0)),(3,cS a),(22,cB s)]) (fun s=>[[kB false],[],[],[]]) [] o0 ?_ ?_
  ·rcases xB Y G H with⟨p,H,F,G,q⟩|⟨p,H,F,G,q⟩
   ·refine xR ?_
    exact Jb H (xK ⟨[1,2,3,4],[]⟩)
   rcases xB F G H with⟨p,H,F,G,q⟩|⟨p,H,F,G,q⟩
   ·refine xR ?_
    exact Jb H (xK ⟨[1,2,3,4],[]⟩)
   refine xR ?_
   exact Jb H (xK ⟨[1,2,3,4],[]⟩)
  rintro x1 H
  rw[JdZ]at H
  rcases xB Y G H with⟨p,H,F,G,q⟩|⟨p,H,F,G,q⟩
  ·refine xT ?_
   replace H:=oI H
   refine xr ?_
   subst H
   replace Hn:=Option.some.inj Hn
   refine Jqp ?_
   refine xS ?_
   subst Hn
   exact xN
  refine xE ?_
  refine xr ?_
  refine JK (JhO a) (fun s=>[(2,.c (.pt 1 0)),(24,.c (.d (.sl 1 (List.map dU a)))),(25,cI s.1),(26,cI s.2)]) (fun s=>[[kB false],[],[],[]]) [] H (xK ⟨[1,2,3,4],[]⟩) ?_
  rintro n1 ⟨x2,x3⟩ o1 H hF1
  rw[JhO]at H
  refine xS ?_
  refine xr ?_
  rcases xB Y G H with⟨p,H,F,G,q⟩|⟨p,H,F,G,q⟩
  ·refine xT ?_
   obtain⟨g,H⟩:=Jc H
   have F:=xZ Y (Jh dU a x3.toNat default default (by omega))
   refine xR0 ?_
   refine Jk ?_
   refine Jo (KG x2 x3) (fun s=>[(2,.c (.pt 1 0)),(5,.c (.d (.v (.int .u8 (s.1.toNat:Int))))),(6,cB s.2),(24,.c (.d (.sl 1 (List.map dU a)))),(25,cI x2),(26,cI x3)]) (fun s=>[[kB false],[],[],[]]) [] o1 ?_ ?_
   ·rcases xB Y G H with⟨p,H,F,G,q⟩|⟨p,H,F,G,q⟩
    ·rcases xB F G H with⟨p,H,F,G,q⟩|⟨p,H,F,G,q⟩
     ·refine xR ?_
      exact Jb H (xK ⟨[1,2,3,4],[]⟩)
     rcases xB F G H with⟨p,H,F,G,q⟩|⟨p,H,F,G,q⟩
     ·rcases xB F G H with⟨p,H,F,G,q⟩|⟨p,H,F,G,q⟩
      ·refine xR ?_
       exact Jb H (xK ⟨[1,2,3,4],[]⟩)
      rcases xB F G H with⟨p,H,F,G,q⟩|⟨p,H,F,G,q⟩
      ·refine xR ?_
       exact Jb H (xK ⟨[1,2,3,4],[]⟩)
      refine xR ?_
      exact Jb H (xK ⟨[1,2,3,4],[]⟩)
     rcases xB F G H with⟨p,H,F,G,q⟩|⟨p,H,F,G,q⟩
     ·refine xR ?_
      exact Jb H (xK ⟨[1,2,3,4],[]⟩)
     refine xR ?_
     exact Jb H (xK ⟨[1,2,3,4],[]⟩)
    rcases xB F G H with⟨p,H,F,G,q⟩|⟨p,H,F,G,q⟩
    ·rcases xB F G H with⟨p,H,F,G,q⟩|⟨p,H,F,G,q⟩
     ·refine xR ?_
      exact Jb H (xK ⟨[1,2,3,4],[]⟩)
     rcases xB F G H with⟨p,H,F,G,q⟩|⟨p,H,F,G,q⟩
     ·refine xR ?_
      exact Jb H (xK ⟨[1,2,3,4],[]⟩)
     refine xR ?_
     exact Jb H (xK ⟨[1,2,3,4],[]⟩)
    rcases xB F G H with⟨p,H,F,G,q⟩|⟨p,H,F,G,q⟩
    ·refine xR ?_
     exact Jb H (xK ⟨[1,2,3,4],[]⟩)
    refine xR ?_
    exact Jb H (xK ⟨[1,2,3,4],[]⟩)
   rintro ⟨x4,x5⟩ H
   rw[KG]at H
   refine Jo (JdW x2 x3) (fun s=>[(2,.c (.pt 1 0)),(24,.c (.d (.sl 1 (List.map dU a)))),(25,cI x2),(26,cI x3),(61,cB s)]) (fun s=>[[kB false],[],[],[]]) [] o1 ?_ ?_
   ·rcases xB Y G H with⟨p,H,F,G,q⟩|⟨p,H,F,G,q⟩
    ·rcases xB F G H with⟨p,H,F,G,q⟩|⟨p,H,F,G,q⟩
     ·refine xR ?_
      exact Jb H (xK ⟨[1,2,3,4],[]⟩)
     refine xR ?_
     exact Jb H (xK ⟨[1,2,3,4],[]⟩)
    refine xR ?_
    exact Jb H (xK ⟨[1,2,3,4],[]⟩)
   rintro x6 H
   rw[JdW]at H
   rcases xB Y G H with⟨p,H,F,G,q⟩|⟨p,H,F,G,q⟩
   ·refine xT ?_
    replace H:=Jq H hF1
    replace H:=oI H
    refine xr ?_
    subst H
    replace Hn:=Option.some.inj Hn
    refine Jqp ?_
    refine xS ?_
    subst Hn
    exact xN
   refine xE ?_
   refine xr ?_
   exact Jw (JA H hF1) (xK ⟨[1,2,3,4],[]⟩)
  replace H:=Jq H hF1
  refine xE ?_
  replace H:=oI H
  subst H
  exact JDx ⟨rfl,Hn⟩
 rintro _ ⟨rfl,Hk⟩
 replace Hk:=JA7 Hk
 refine xS ?_
 refine xr ?_
 subst Hk
 exact xN
theorem JhI(a0:List UInt8)(r:Bool)(H:Jby a0=some r):PC JeR [dS a0] (dB r):=PF.c (a:=a0) H
end Go.Proofs.YtfkhlbhjhdpkoaaGreatDoor
