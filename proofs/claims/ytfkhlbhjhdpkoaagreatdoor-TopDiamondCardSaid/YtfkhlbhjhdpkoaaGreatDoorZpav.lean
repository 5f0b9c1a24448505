/- files.Clean: a loop over a text's parts. The round is dec3's (printed for one part). -/
import Derived.Test.YtfkhlbhjhdpkoaaGreatDoorZpaq
set_option linter.unusedVariables false
set_option linter.unusedSimpArgs false
set_option maxHeartbeats 4000000
set_option maxRecDepth 100000
namespace Go.Proofs.YtfkhlbhjhdpkoaaGreatDoor
open Go.RowKit
noncomputable def Jc8(x2 x3:Int):Bool→Option YM
 | x6=>if x6=true then inrO (some false) else some (.inl (x2,IntKind.i64.wrap (x3+1)))
noncomputable def KA(x2 x3:Int):YW→Option YM
 | (x4,x5)=>if(!x5)=true then if(!eqI (x4.toNat:Int) 46)=true then Jc8 x2 x3 (!eqI (x4.toNat:Int) 95) else Jc8 x2 x3 false else Jc8 x2 x3 false
noncomputable def JgF(a0:List UInt8):(Int×Int)→Option YM
 | (x2,x3)=>if(ltI x3 x2)=true then if(0:Int)≤x3∧x3.toNat<a0.length then if(leI 97 ((a0.getD x3.toNat default).toNat:Int))=true then if(leI ((a0.getD x3.toNat default).toNat:Int) 122)=true then KA x2 x3 ((a0.getD x3.toNat default),true) else if(leI 65 ((a0.getD x3.toNat default).toNat:Int))=true then if(leI ((a0.getD x3.toNat default).toNat:Int) 90)=true then KA x2 x3 ((a0.getD x3.toNat default),true) else if(leI 48 ((a0.getD x3.toNat default).toNat:Int))=true then KA x2 x3 ((a0.getD x3.toNat default),leI ((a0.getD x3.toNat default).toNat:Int) 57) else KA x2 x3 ((a0.getD x3.toNat default),false) else if(leI 48 ((a0.getD x3.toNat default).toNat:Int))=true then KA x2 x3 ((a0.getD x3.toNat default),leI ((a0.getD x3.toNat default).toNat:Int) 57) else KA x2 x3 ((a0.getD x3.toNat default),false) else if(leI 65 ((a0.getD x3.toNat default).toNat:Int))=true then if(leI ((a0.getD x3.toNat default).toNat:Int) 90)=true then KA x2 x3 ((a0.getD x3.toNat default),true) else if(leI 48 ((a0.getD x3.toNat default).toNat:Int))=true then KA x2 x3 ((a0.getD x3.toNat default),leI ((a0.getD x3.toNat default).toNat:Int) 57) else KA x2 x3 ((a0.getD x3.toNat default),false) else if(leI 48 ((a0.getD x3.toNat default).toNat:Int))=true then KA x2 x3 ((a0.getD x3.toNat default),leI ((a0.getD x3.toNat default).toNat:Int) 57) else KA x2 x3 ((a0.getD x3.toNat default),false) else none else inrO (some true)
noncomputable def Jdg(a0:List UInt8):Bool→Option Bool
 | x1=>if x1=true then some false else Jy (JgF a0) ((a0.length:Int),0)
noncomputable def JjI(a:List UInt8):Option Bool :=
 if(eqS a [])=true then Jdg a true else if(eqS a [46])=true then Jdg a true else Jdg a (eqS a [46,46])
noncomputable def Jcc(a0:List UInt8):Option Bool :=
 if(ltI 40 (a0.length:Int))=true then some false else if a0.length≤4611686018427387904 then Jje JjI (splV 47 a0) else none
noncomputable def Jd5:PF:=PF.of (E1 dS) (fun a=>Jcc a) dB
theorem Jis:JE Tryz.prog 31 Jd5:=by
 refine xFL mixed [] [] [(46,true,Xg)] trivial ⟨JgC,trivial⟩ Tryz.func31 ?_
 rintro a0 out H
 have G:=True.intro
 have Y:=xZ y_4 <| xZ y_5 <| xZ y_9 <| xZ y_55 <| xZ Xi.eq_1 <| Tryz.results31
 simp only[Jcc]at H
 refine Jjm ?_
 refine xr ?_
 refine JeS ?_
 refine Jjm ?_
 refine xS ?_
 refine xr ?_
 rcases xB Y G H with⟨p,H,F,G,q⟩|⟨p,H,F,G,q⟩
 ·refine xT ?_
  replace H:=oI H
  refine xr ?_
  refine JD2 ?_
  subst H
  exact xN
 refine xE ?_
 refine JeS ?_
 obtain⟨hlen,H⟩:=Jd H
 refine Jzx ?_
 refine Jjm ?_
 have F:=Y
 refine xQ ?_
 refine xs 1 ?_
 refine xc ⟨[],[]⟩ (tabG 0 (Jgv a0 [47])) ?_
 refine xl ?_
 refine JeS ?_
 refine Jxt ?_
 refine Jxj 97 4 3 2 4 47 a0 [(2,.c (.pt 1 0)),(11,.c (.clo 97 [3,2,4]))] [(2,.c (.pt 1 0))] [[kB false],[kS a0],[kS [47]],[kI 0]]
  (fun k bs=>bs=[[kB false],[],[],[]]∧Jje JjI ((splV 47 a0).drop k)=some out) Jxg (xK ⟨[1,2,3,4],[]⟩) rfl rfl rfl ?_ rfl rfl rfl hlen ⟨by decide,by decide,by decide⟩ rfl
  [[kB false],[],[],[]] ?_ ⟨rfl,H⟩ ?_ ?_
 ·intro i _
  by_cases hi:i=2
  ·subst hi; exact⟨rfl,.inl rfl⟩
  simp[sigL,hi,nzA]
 ·unfold Jee hpL
  congr 1
  funext n
  match n with
  | 0=>rfl
  | 1=>rfl
  | 2=>rfl
  | 3=>rfl
  | 4=>rfl
  | n+5=>simp[upd,hpH]
 ·rintro k a _ hk ⟨rfl,Hk⟩
  obtain⟨o0,H,Hn⟩:=JBl hk Hk
  simp only[JjI]at H
  refine xr ?_
  refine⟨rfl,?_⟩
  refine Ja3 ?_
  refine Vi ?_
  refine Jp (Jdg a) (fun s=>[(2,.c (.pt 1 0)),(3,cS a),(22,cB s)]) (fun s=>[[kB false],[],[],[]]) [] o0 ?_ ?_
  ·rcases xB Y G H with⟨p,H,F,G,q⟩|⟨p,H,F,G,q⟩
   ·refine xR ?_
    exact Jb H (xK ⟨[1,2,3,4],[]⟩)
   rcases xB F G H with⟨p,H,F,G,q⟩|⟨p,H,F,G,q⟩
   ·refine xR ?_
    exact Jb H (xK ⟨[1,2,3,4],[]⟩)
   refine xR ?_
   exact Jb H (xK ⟨[1,2,3,4],[]⟩)
  rintro x1 H
  rw[Jdg]at H
  rcases xB Y G H with⟨p,H,F,G,q⟩|⟨p,H,F,G,q⟩
  ·refine xT ?_
   replace H:=oI H
   refine xr ?_
   subst H
   replace Hn:=Option.some.inj Hn
   refine Jnu ?_
   refine xS ?_
   subst Hn
   exact xN
  refine xE ?_
  refine xr ?_
  refine JZ (JgF a) (fun s=>[(2,.c (.pt 1 0)),(24,.c (.d (.sl 1 (List.map dU a)))),(25,cI s.1),(26,cI s.2)]) (fun s=>[[kB false],[],[],[]]) [] H (xK ⟨[1,2,3,4],[]⟩) ?_
  rintro n1 ⟨x2,x3⟩ o1 H hF1
  rw[JgF]at H
  refine xS ?_
  refine xr ?_
  rcases xB Y G H with⟨p,H,F,G,q⟩|⟨p,H,F,G,q⟩
  ·refine xT ?_
   obtain⟨g,H⟩:=Jd H
   have F:=xZ Y (Ji dU a x3.toNat default default (by omega))
   refine xR0 ?_
   refine Jm ?_
   refine Jp (KA x2 x3) (fun s=>[(2,.c (.pt 1 0)),(5,.c (.d (.v (.int .u8 (s.1.toNat:Int))))),(6,cB s.2),(24,.c (.d (.sl 1 (List.map dU a)))),(25,cI x2),(26,cI x3)]) (fun s=>[[kB false],[],[],[]]) [] o1 ?_ ?_
   ·rcases xB Y G H with⟨p,H,F,G,q⟩|⟨p,H,F,G,q⟩
    ·rcases xB F G H with⟨p,H,F,G,q⟩|⟨p,H,F,G,q⟩
     ·refine xR ?_
      exact Jb H (xK ⟨[1,2,3,4],[]⟩)
     rcases xB F G H with⟨p,H,F,G,q⟩|⟨p,H,F,G,q⟩
     ·rcases xB F G H with⟨p,H,F,G,q⟩|⟨p,H,F,G,q⟩
      ·refine xR ?_
       exact Jb H (xK ⟨[1,2,3,4],[]⟩)
      rcases xB F G H with⟨p,H,F,G,q⟩|⟨p,H,F,G,q⟩
      ·refine xR ?_
       exact Jb H (xK ⟨[1,2,3,4],[]⟩)
      refine xR ?_
      exact Jb H (xK ⟨[1,2,3,4],[]⟩)
     rcases xB F G H with⟨p,H,F,G,q⟩|⟨p,H,F,G,q⟩
     ·refine xR ?_
      exact Jb H (xK ⟨[1,2,3,4],[]⟩)
     refine xR ?_
     exact Jb H (xK ⟨[1,2,3,4],[]⟩)
    rcases xB F G H with⟨p,H,F,G,q⟩|⟨p,H,F,G,q⟩
    ·rcases xB F G H with⟨p,H,F,G,q⟩|⟨p,H,F,G,q⟩
     ·refine xR ?_
      exact Jb H (xK ⟨[1,2,3,4],[]⟩)
     rcases xB F G H with⟨p,H,F,G,q⟩|⟨p,H,F,G,q⟩
     ·refine xR ?_
      exact Jb H (xK ⟨[1,2,3,4],[]⟩)
     refine xR ?_
     exact Jb H (xK ⟨[1,2,3,4],[]⟩)
    rcases xB F G H with⟨p,H,F,G,q⟩|⟨p,H,F,G,q⟩
    ·refine xR ?_
     exact Jb H (xK ⟨[1,2,3,4],[]⟩)
    refine xR ?_
    exact Jb H (xK ⟨[1,2,3,4],[]⟩)
   rintro ⟨x4,x5⟩ H
   rw[KA]at H
   refine Jp (Jc8 x2 x3) (fun s=>[(2,.c (.pt 1 0)),(24,.c (.d (.sl 1 (List.map dU a)))),(25,cI x2),(26,cI x3),(61,cB s)]) (fun s=>[[kB false],[],[],[]]) [] o1 ?_ ?_
   ·rcases xB Y G H with⟨p,H,F,G,q⟩|⟨p,H,F,G,q⟩
    ·rcases xB F G H with⟨p,H,F,G,q⟩|⟨p,H,F,G,q⟩
     ·refine xR ?_
      exact Jb H (xK ⟨[1,2,3,4],[]⟩)
     refine xR ?_
     exact Jb H (xK ⟨[1,2,3,4],[]⟩)
    refine xR ?_
    exact Jb H (xK ⟨[1,2,3,4],[]⟩)
   rintro x6 H
   rw[Jc8]at H
   rcases xB Y G H with⟨p,H,F,G,q⟩|⟨p,H,F,G,q⟩
   ·refine xT ?_
    replace H:=Js H hF1
    replace H:=oI H
    refine xr ?_
    subst H
    replace Hn:=Option.some.inj Hn
    refine Jnu ?_
    refine xS ?_
    subst Hn
    exact xN
   refine xE ?_
   refine xr ?_
   exact JA (JF H hF1) (xK ⟨[1,2,3,4],[]⟩)
  replace H:=Js H hF1
  refine xE ?_
  replace H:=oI H
  subst H
  exact JC2 ⟨rfl,Hn⟩
 rintro _ ⟨rfl,Hk⟩
 replace Hk:=JzX Hk
 refine xS ?_
 refine xr ?_
 subst Hk
 exact xN
theorem JgG(a0:List UInt8)(r:Bool)(H:Jcc a0=some r):PC Jd5 [dS a0] (dB r):=PF.c (a:=a0) H
end Go.Proofs.YtfkhlbhjhdpkoaaGreatDoor
