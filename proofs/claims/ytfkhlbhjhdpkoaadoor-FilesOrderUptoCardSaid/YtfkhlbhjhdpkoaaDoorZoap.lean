/- files.Clean: a loop over a text's parts. The round is dec3's (printed for one part). -/
import Derived.Test.YtfkhlbhjhdpkoaaDoorZoal
set_option linter.unusedVariables false
set_option linter.unusedSimpArgs false
set_option maxHeartbeats 4000000
set_option maxRecDepth 100000
namespace Go.Proofs.YtfkhlbhjhdpkoaaDoor
open Go.RowKit
noncomputable def VF(x2:Int)(x3:Int):Bool→Option ((Int×Int) ⊕ Bool)
 | x6=>if x6=true then inrO (some false) else some (.inl (x2,IntKind.i64.wrap (x3+1)))
noncomputable def Kc(x2:Int)(x3:Int):(UInt8×Bool)→Option ((Int×Int) ⊕ Bool)
 | (x4,x5)=>if(!x5)=true then if(!eqI (x4.toNat:Int) 46)=true then VF x2 x3 (!eqI (x4.toNat:Int) 95) else VF x2 x3 false else VF x2 x3 false
noncomputable def VH(a0:List UInt8):(Int×Int)→Option ((Int×Int) ⊕ Bool)
 | (x2,x3)=>if(ltI x3 x2)=true then if(0:Int)≤x3∧x3.toNat<a0.length then if(leI 97 ((a0.getD x3.toNat default).toNat:Int))=true then if(leI ((a0.getD x3.toNat default).toNat:Int) 122)=true then Kc x2 x3 ((a0.getD x3.toNat default),true) else if(leI 65 ((a0.getD x3.toNat default).toNat:Int))=true then if(leI ((a0.getD x3.toNat default).toNat:Int) 90)=true then Kc x2 x3 ((a0.getD x3.toNat default),true) else if(leI 48 ((a0.getD x3.toNat default).toNat:Int))=true then Kc x2 x3 ((a0.getD x3.toNat default),leI ((a0.getD x3.toNat default).toNat:Int) 57) else Kc x2 x3 ((a0.getD x3.toNat default),false) else if(leI 48 ((a0.getD x3.toNat default).toNat:Int))=true then Kc x2 x3 ((a0.getD x3.toNat default),leI ((a0.getD x3.toNat default).toNat:Int) 57) else Kc x2 x3 ((a0.getD x3.toNat default),false) else if(leI 65 ((a0.getD x3.toNat default).toNat:Int))=true then if(leI ((a0.getD x3.toNat default).toNat:Int) 90)=true then Kc x2 x3 ((a0.getD x3.toNat default),true) else if(leI 48 ((a0.getD x3.toNat default).toNat:Int))=true then Kc x2 x3 ((a0.getD x3.toNat default),leI ((a0.getD x3.toNat default).toNat:Int) 57) else Kc x2 x3 ((a0.getD x3.toNat default),false) else if(leI 48 ((a0.getD x3.toNat default).toNat:Int))=true then Kc x2 x3 ((a0.getD x3.toNat default),leI ((a0.getD x3.toNat default).toNat:Int) 57) else Kc x2 x3 ((a0.getD x3.toNat default),false) else none else inrO (some true)
noncomputable def VG(a0:List UInt8):Bool→Option Bool
 | x1=>if x1=true then some false else Ju (VH a0) ((a0.length:Int),0)
noncomputable def ZB(a:List UInt8):Option Bool :=
 if(eqS a [])=true then VG a true else if(eqS a [46])=true then VG a true else VG a (eqS a [46,46])
noncomputable def Vr(a0:List UInt8):Option Bool :=
 if(ltI 40 (a0.length:Int))=true then some false else if a0.length≤4611686018427387904 then Jaj ZB (splV 47 a0) else none
noncomputable def V1:PF:=PF.of (E1 dS) (fun a=>Vr a) dB
theorem ZT:Ks Tryd.prog 7 V1:=by
 refine xFL mixed [] [] [(21,true,KZ)] trivial ⟨Jaa,trivial⟩ Tryd.func7 ?_
 rintro a0 out H
 have G:=True.intro
 have Y:=xZ y_4 <| xZ y_5 <| xZ y_9 <| xZ y_48 <| xZ KW.eq_1 <| Tryd.results7
 simp only[Vr]at H
 refine Jbo ?_
 refine xr ?_
 refine Zf ?_
 refine Jbo ?_
 refine xS ?_
 refine xr ?_
 rcases Jc H with⟨hp1,H⟩|⟨hp1,H⟩
 ·obtain⟨F,G,hq1⟩:=xH Y G hp1
  refine xT ?_
  replace H:=Option.some.inj H
  refine xr ?_
  refine JkV ?_
  subst H
  exact xN
 ·obtain⟨F,G,hq1⟩:=xH Y G hp1
  refine xE ?_
  refine Zf ?_
  obtain⟨hlen,H⟩:=Jd H
  refine Jix ?_
  refine Jbo ?_
  have F:=Y
  refine xQ ?_
  refine xs 1 ?_
  refine xc ⟨[],[]⟩ (tabG 0 (Jac a0 [47])) ?_
  refine xl ?_
  refine Zf ?_
  refine JgS ?_
  refine Jhl 41 4 3 2 4 47 a0 [(2,.c (.pt 1 0)),(11,.c (.clo 41 [3,2,4]))] [(2,.c (.pt 1 0))] [[.d (.v (.bool false))],[.d (.v (str a0))],[.d (.v (str [47]))],[.d (.v (.int .i64 0))]]
   (fun k bs=>bs=[[.d (.v (.bool false))],[],[],[]]∧Jaj ZB ((splV 47 a0).drop k)=some out) Jg7 (xK ⟨[1,2,3,4],[]⟩) rfl rfl rfl ?_ rfl rfl rfl hlen ⟨by decide,by decide,by decide⟩ rfl
   [[.d (.v (.bool false))],[],[],[]] ?_ ⟨rfl,H⟩ ?_ ?_
  ·intro i _
   by_cases hi:i=2
   ·subst hi; exact⟨rfl,.inl rfl⟩
   ·simp[sigL,hi,nzA]
  ·unfold XM hpL
   congr 1
   funext n
   match n with
   | 0=>rfl
   | 1=>rfl
   | 2=>rfl
   | 3=>rfl
   | 4=>rfl
   | n+5=>simp[upd,hpH]
  ·rintro k a _ hk ⟨rfl,Hk⟩
   obtain⟨o0,H,Hn⟩:=Ji5 hk Hk
   simp only[ZB]at H
   refine xr ?_
   refine⟨rfl,?_⟩
   refine JgY ?_
   refine Jbf ?_
   refine Vq (VG a) (fun s=>[(2,.c (.pt 1 0)),(3,.c (.d (.v (str a)))),(22,.c (.d (.v (.bool s))))]) (fun s=>[[.d (.v (.bool false))],[],[],[]]) [] o0 ?_ ?_
   ·rcases Jc H with⟨hp17,H⟩|⟨hp17,H⟩
    ·obtain⟨F,G,hq17⟩:=xH Y G hp17
     refine xR ?_
     exact Jn H (xK ⟨[1,2,3,4],[]⟩)
    ·obtain⟨F,G,hq17⟩:=xH Y G hp17
     rcases Jc H with⟨hp18,H⟩|⟨hp18,H⟩
     ·obtain⟨F,G,hq18⟩:=xH F G hp18
      refine xR ?_
      exact Jn H (xK ⟨[1,2,3,4],[]⟩)
     ·obtain⟨F,G,hq18⟩:=xH F G hp18
      refine xR ?_
      exact Jn H (xK ⟨[1,2,3,4],[]⟩)
   ·rintro x1 H
    rw[VG]at H
    rcases Jc H with⟨hp2,H⟩|⟨hp2,H⟩
    ·obtain⟨F,G,hq2⟩:=xH Y G hp2
     refine xT ?_
     replace H:=Option.some.inj H
     refine xr ?_
     subst H
     replace Hn:=Option.some.inj Hn
     refine Jdy ?_
     refine xS ?_
     subst Hn
     exact xN
    ·obtain⟨F,G,hq2⟩:=xH Y G hp2
     refine xE ?_
     refine xr ?_
     refine KS (VH a) (fun s=>[(2,.c (.pt 1 0)),(24,.c (.d (.sl 1 (List.map dU a)))),(25,.c (.d (.v (.int .i64 s.1)))),(26,.c (.d (.v (.int .i64 s.2))))]) (fun s=>[[.d (.v (.bool false))],[],[],[]]) [] H (xK ⟨[1,2,3,4],[]⟩) ?_
     rintro n1 ⟨x2,x3⟩ o1 H hF1
     rw[VH]at H
     refine xS ?_
     refine xr ?_
     rcases Jc H with⟨hp3,H⟩|⟨hp3,H⟩
     ·obtain⟨F,G,hq3⟩:=xH Y G hp3
      refine xT ?_
      obtain⟨hg1,H⟩:=Jd H
      have F:=xZ Y (Jp dU a x3.toNat default default (by omega))
      refine xR0 ?_
      refine KH ?_
      refine Vq (Kc x2 x3) (fun s=>[(2,.c (.pt 1 0)),(5,.c (.d (.v (.int .u8 (s.1.toNat:Int))))),(6,.c (.d (.v (.bool s.2)))),(24,.c (.d (.sl 1 (List.map dU a)))),(25,.c (.d (.v (.int .i64 x2)))),(26,.c (.d (.v (.int .i64 x3))))]) (fun s=>[[.d (.v (.bool false))],[],[],[]]) [] o1 ?_ ?_
      ·rcases Jc H with⟨hp7,H⟩|⟨hp7,H⟩
       ·obtain⟨F,G,hq7⟩:=xH Y G hp7
        rcases Jc H with⟨hp8,H⟩|⟨hp8,H⟩
        ·obtain⟨F,G,hq8⟩:=xH F G hp8
         refine xR ?_
         exact Jn H (xK ⟨[1,2,3,4],[]⟩)
        ·obtain⟨F,G,hq8⟩:=xH F G hp8
         rcases Jc H with⟨hp9,H⟩|⟨hp9,H⟩
         ·obtain⟨F,G,hq9⟩:=xH F G hp9
          rcases Jc H with⟨hp10,H⟩|⟨hp10,H⟩
          ·obtain⟨F,G,hq10⟩:=xH F G hp10
           refine xR ?_
           exact Jn H (xK ⟨[1,2,3,4],[]⟩)
          ·obtain⟨F,G,hq10⟩:=xH F G hp10
           rcases Jc H with⟨hp11,H⟩|⟨hp11,H⟩
           ·obtain⟨F,G,hq11⟩:=xH F G hp11
            refine xR ?_
            exact Jn H (xK ⟨[1,2,3,4],[]⟩)
           ·obtain⟨F,G,hq11⟩:=xH F G hp11
            refine xR ?_
            exact Jn H (xK ⟨[1,2,3,4],[]⟩)
         ·obtain⟨F,G,hq9⟩:=xH F G hp9
          rcases Jc H with⟨hp12,H⟩|⟨hp12,H⟩
          ·obtain⟨F,G,hq12⟩:=xH F G hp12
           refine xR ?_
           exact Jn H (xK ⟨[1,2,3,4],[]⟩)
          ·obtain⟨F,G,hq12⟩:=xH F G hp12
           refine xR ?_
           exact Jn H (xK ⟨[1,2,3,4],[]⟩)
       ·obtain⟨F,G,hq7⟩:=xH Y G hp7
        rcases Jc H with⟨hp13,H⟩|⟨hp13,H⟩
        ·obtain⟨F,G,hq13⟩:=xH F G hp13
         rcases Jc H with⟨hp14,H⟩|⟨hp14,H⟩
         ·obtain⟨F,G,hq14⟩:=xH F G hp14
          refine xR ?_
          exact Jn H (xK ⟨[1,2,3,4],[]⟩)
         ·obtain⟨F,G,hq14⟩:=xH F G hp14
          rcases Jc H with⟨hp15,H⟩|⟨hp15,H⟩
          ·obtain⟨F,G,hq15⟩:=xH F G hp15
           refine xR ?_
           exact Jn H (xK ⟨[1,2,3,4],[]⟩)
          ·obtain⟨F,G,hq15⟩:=xH F G hp15
           refine xR ?_
           exact Jn H (xK ⟨[1,2,3,4],[]⟩)
        ·obtain⟨F,G,hq13⟩:=xH F G hp13
         rcases Jc H with⟨hp16,H⟩|⟨hp16,H⟩
         ·obtain⟨F,G,hq16⟩:=xH F G hp16
          refine xR ?_
          exact Jn H (xK ⟨[1,2,3,4],[]⟩)
         ·obtain⟨F,G,hq16⟩:=xH F G hp16
          refine xR ?_
          exact Jn H (xK ⟨[1,2,3,4],[]⟩)
      ·rintro ⟨x4,x5⟩ H
       rw[Kc]at H
       refine Vq (VF x2 x3) (fun s=>[(2,.c (.pt 1 0)),(24,.c (.d (.sl 1 (List.map dU a)))),(25,.c (.d (.v (.int .i64 x2)))),(26,.c (.d (.v (.int .i64 x3)))),(61,.c (.d (.v (.bool s))))]) (fun s=>[[.d (.v (.bool false))],[],[],[]]) [] o1 ?_ ?_
       ·rcases Jc H with⟨hp5,H⟩|⟨hp5,H⟩
        ·obtain⟨F,G,hq5⟩:=xH Y G hp5
         rcases Jc H with⟨hp6,H⟩|⟨hp6,H⟩
         ·obtain⟨F,G,hq6⟩:=xH F G hp6
          refine xR ?_
          exact Jn H (xK ⟨[1,2,3,4],[]⟩)
         ·obtain⟨F,G,hq6⟩:=xH F G hp6
          refine xR ?_
          exact Jn H (xK ⟨[1,2,3,4],[]⟩)
        ·obtain⟨F,G,hq5⟩:=xH Y G hp5
         refine xR ?_
         exact Jn H (xK ⟨[1,2,3,4],[]⟩)
       ·rintro x6 H
        rw[VF]at H
        rcases Jc H with⟨hp4,H⟩|⟨hp4,H⟩
        ·obtain⟨F,G,hq4⟩:=xH Y G hp4
         refine xT ?_
         replace H:=JF H hF1
         replace H:=Option.some.inj H
         refine xr ?_
         subst H
         replace Hn:=Option.some.inj Hn
         refine Jdy ?_
         refine xS ?_
         subst Hn
         exact xN
        ·obtain⟨F,G,hq4⟩:=xH Y G hp4
         refine xE ?_
         refine xr ?_
         exact J0 (Km H hF1) (xK ⟨[1,2,3,4],[]⟩)
     ·obtain⟨F,G,hq3⟩:=xH Y G hp3
      replace H:=JF H hF1
      refine xE ?_
      replace H:=Option.some.inj H
      subst H
      exact JjS ⟨rfl,Hn⟩
  ·rintro _ ⟨rfl,Hk⟩
   replace Hk:=JiQ Hk
   refine xS ?_
   refine xr ?_
   subst Hk
   exact xN
theorem X8(a0:List UInt8)(r:Bool)(H:Vr a0=some r):PC V1 [dS a0] (dB r):=PF.c (a:=a0) H
end Go.Proofs.YtfkhlbhjhdpkoaaDoor
