/- files.Clean: a loop over a text's parts. The round is dec3's (printed for one part). -/
import Derived.Test.YtfkhlbhjhdpkoaaDoorZtal
set_option linter.unusedVariables false
set_option linter.unusedSimpArgs false
set_option maxHeartbeats 4000000
set_option maxRecDepth 100000
namespace Go.Proofs.YtfkhlbhjhdpkoaaDoor
open Go.RowKit
noncomputable def XA(x2:Int)(x3:Int):Bool→Option ((Int×Int) ⊕ Bool)
 | x6=>if x6=true then inrO (some false) else some (.inl (x2,IntKind.i64.wrap (x3+1)))
noncomputable def Kr(x2:Int)(x3:Int):(UInt8×Bool)→Option ((Int×Int) ⊕ Bool)
 | (x4,x5)=>if(!x5)=true then if(!eqI (x4.toNat:Int) 46)=true then XA x2 x3 (!eqI (x4.toNat:Int) 95) else XA x2 x3 false else XA x2 x3 false
noncomputable def Xw(a0:List UInt8):(Int×Int)→Option ((Int×Int) ⊕ Bool)
 | (x2,x3)=>if(ltI x3 x2)=true then if(0:Int)≤x3∧x3.toNat<a0.length then if(leI 97 ((a0.getD x3.toNat default).toNat:Int))=true then if(leI ((a0.getD x3.toNat default).toNat:Int) 122)=true then Kr x2 x3 ((a0.getD x3.toNat default),true) else if(leI 65 ((a0.getD x3.toNat default).toNat:Int))=true then if(leI ((a0.getD x3.toNat default).toNat:Int) 90)=true then Kr x2 x3 ((a0.getD x3.toNat default),true) else if(leI 48 ((a0.getD x3.toNat default).toNat:Int))=true then Kr x2 x3 ((a0.getD x3.toNat default),leI ((a0.getD x3.toNat default).toNat:Int) 57) else Kr x2 x3 ((a0.getD x3.toNat default),false) else if(leI 48 ((a0.getD x3.toNat default).toNat:Int))=true then Kr x2 x3 ((a0.getD x3.toNat default),leI ((a0.getD x3.toNat default).toNat:Int) 57) else Kr x2 x3 ((a0.getD x3.toNat default),false) else if(leI 65 ((a0.getD x3.toNat default).toNat:Int))=true then if(leI ((a0.getD x3.toNat default).toNat:Int) 90)=true then Kr x2 x3 ((a0.getD x3.toNat default),true) else if(leI 48 ((a0.getD x3.toNat default).toNat:Int))=true then Kr x2 x3 ((a0.getD x3.toNat default),leI ((a0.getD x3.toNat default).toNat:Int) 57) else Kr x2 x3 ((a0.getD x3.toNat default),false) else if(leI 48 ((a0.getD x3.toNat default).toNat:Int))=true then Kr x2 x3 ((a0.getD x3.toNat default),leI ((a0.getD x3.toNat default).toNat:Int) 57) else Kr x2 x3 ((a0.getD x3.toNat default),false) else none else inrO (some true)
noncomputable def Xu(a0:List UInt8):Bool→Option Bool
 | x1=>if x1=true then some false else Ji (Xw a0) ((a0.length:Int),0)
noncomputable def JaJ(a:List UInt8):Option Bool :=
 if(eqS a [])=true then Xu a true else if(eqS a [46])=true then Xu a true else Xu a (eqS a [46,46])
noncomputable def Xa(a0:List UInt8):Option Bool :=
 if(ltI 40 (a0.length:Int))=true then some false else if a0.length≤4611686018427387904 then JbH JaJ (splV 47 a0) else none
noncomputable def XZ:PF:=PF.of (E1 dS) (fun a=>Xa a) dB
theorem Ja9:J7 Tryd.prog 7 XZ:=by
 refine xFL mixed [] [] [(21,true,Vq)] trivial ⟨Jbx,trivial⟩ Tryd.func7 ?_
 rintro a0 out H
 have G:=True.intro
 have Y:=xZ y_4 <| xZ y_5 <| xZ y_9 <| xZ y_48 <| xZ Vp.eq_1 <| Tryd.results7
 simp only[Xa]at H
 refine Jc0 ?_
 refine xr ?_
 refine Jap ?_
 refine Jc0 ?_
 refine xS ?_
 refine xr ?_
 rcases Jc H with⟨hp1,H⟩|⟨hp1,H⟩
 ·obtain⟨F,G,hq1⟩:=xH Y G hp1
  refine xT ?_
  replace H:=Option.some.inj H
  refine xr ?_
  refine Jnq ?_
  subst H
  exact xN
 ·obtain⟨F,G,hq1⟩:=xH Y G hp1
  refine xE ?_
  refine Jap ?_
  obtain⟨hlen,H⟩:=Jd H
  refine Jk8 ?_
  refine Jc0 ?_
  have F:=Y
  refine xQ ?_
  refine xs 1 ?_
  refine xc ⟨[],[]⟩ (tabG 0 (Jbw a0 [47])) ?_
  refine xl ?_
  refine Jap ?_
  refine Jjk ?_
  refine Ji0 41 4 3 2 4 47 a0 [(2,.c (.pt 1 0)),(11,.c (.clo 41 [3,2,4]))] [(2,.c (.pt 1 0))] [[.d (.v (.bool false))],[.d (.v (str a0))],[.d (.v (str [47]))],[.d (.v (.int .i64 0))]]
   (fun k bs=>bs=[[.d (.v (.bool false))],[],[],[]]∧JbH JaJ ((splV 47 a0).drop k)=some out) Jjm (xK ⟨[1,2,3,4],[]⟩) rfl rfl rfl ?_ rfl rfl rfl hlen ⟨by decide,by decide,by decide⟩ rfl
   [[.d (.v (.bool false))],[],[],[]] ?_ ⟨rfl,H⟩ ?_ ?_
  ·intro i _
   by_cases hi:i=2
   ·subst hi; exact⟨rfl,.inl rfl⟩
   ·simp[sigL,hi,nzA]
  ·unfold Z1 hpL
   congr 1
   funext n
   match n with
   | 0=>rfl
   | 1=>rfl
   | 2=>rfl
   | 3=>rfl
   | 4=>rfl
   | n+5=>simp[upd,hpH]
  ·rintro k a _ hk ⟨rfl,Hk⟩
   obtain⟨o0,H,Hn⟩:=JlM hk Hk
   simp only[JaJ]at H
   refine xr ?_
   refine⟨rfl,?_⟩
   refine Jjf ?_
   refine Jak ?_
   refine KE (Xu a) (fun s=>[(2,.c (.pt 1 0)),(3,.c (.d (.v (str a)))),(22,.c (.d (.v (.bool s))))]) (fun s=>[[.d (.v (.bool false))],[],[],[]]) [] o0 ?_ ?_
   ·rcases Jc H with⟨hp17,H⟩|⟨hp17,H⟩
    ·obtain⟨F,G,hq17⟩:=xH Y G hp17
     refine xR ?_
     exact Je H (xK ⟨[1,2,3,4],[]⟩)
    ·obtain⟨F,G,hq17⟩:=xH Y G hp17
     rcases Jc H with⟨hp18,H⟩|⟨hp18,H⟩
     ·obtain⟨F,G,hq18⟩:=xH F G hp18
      refine xR ?_
      exact Je H (xK ⟨[1,2,3,4],[]⟩)
     ·obtain⟨F,G,hq18⟩:=xH F G hp18
      refine xR ?_
      exact Je H (xK ⟨[1,2,3,4],[]⟩)
   ·rintro x1 H
    rw[Xu]at H
    rcases Jc H with⟨hp2,H⟩|⟨hp2,H⟩
    ·obtain⟨F,G,hq2⟩:=xH Y G hp2
     refine xT ?_
     replace H:=Option.some.inj H
     refine xr ?_
     subst H
     replace Hn:=Option.some.inj Hn
     refine JfA ?_
     refine xS ?_
     subst Hn
     exact xN
    ·obtain⟨F,G,hq2⟩:=xH Y G hp2
     refine xE ?_
     refine xr ?_
     refine Kc (Xw a) (fun s=>[(2,.c (.pt 1 0)),(24,.c (.d (.sl 1 (List.map dU a)))),(25,.c (.d (.v (.int .i64 s.1)))),(26,.c (.d (.v (.int .i64 s.2))))]) (fun s=>[[.d (.v (.bool false))],[],[],[]]) [] H (xK ⟨[1,2,3,4],[]⟩) ?_
     rintro n1 ⟨x2,x3⟩ o1 H hF1
     rw[Xw]at H
     refine xS ?_
     refine xr ?_
     rcases Jc H with⟨hp3,H⟩|⟨hp3,H⟩
     ·obtain⟨F,G,hq3⟩:=xH Y G hp3
      refine xT ?_
      obtain⟨hg1,H⟩:=Jd H
      have F:=xZ Y (Jf dU a x3.toNat default default (by omega))
      refine xR0 ?_
      refine JF ?_
      refine KE (Kr x2 x3) (fun s=>[(2,.c (.pt 1 0)),(5,.c (.d (.v (.int .u8 (s.1.toNat:Int))))),(6,.c (.d (.v (.bool s.2)))),(24,.c (.d (.sl 1 (List.map dU a)))),(25,.c (.d (.v (.int .i64 x2)))),(26,.c (.d (.v (.int .i64 x3))))]) (fun s=>[[.d (.v (.bool false))],[],[],[]]) [] o1 ?_ ?_
      ·rcases Jc H with⟨hp7,H⟩|⟨hp7,H⟩
       ·obtain⟨F,G,hq7⟩:=xH Y G hp7
        rcases Jc H with⟨hp8,H⟩|⟨hp8,H⟩
        ·obtain⟨F,G,hq8⟩:=xH F G hp8
         refine xR ?_
         exact Je H (xK ⟨[1,2,3,4],[]⟩)
        ·obtain⟨F,G,hq8⟩:=xH F G hp8
         rcases Jc H with⟨hp9,H⟩|⟨hp9,H⟩
         ·obtain⟨F,G,hq9⟩:=xH F G hp9
          rcases Jc H with⟨hp10,H⟩|⟨hp10,H⟩
          ·obtain⟨F,G,hq10⟩:=xH F G hp10
           refine xR ?_
           exact Je H (xK ⟨[1,2,3,4],[]⟩)
          ·obtain⟨F,G,hq10⟩:=xH F G hp10
           rcases Jc H with⟨hp11,H⟩|⟨hp11,H⟩
           ·obtain⟨F,G,hq11⟩:=xH F G hp11
            refine xR ?_
            exact Je H (xK ⟨[1,2,3,4],[]⟩)
           ·obtain⟨F,G,hq11⟩:=xH F G hp11
            refine xR ?_
            exact Je H (xK ⟨[1,2,3,4],[]⟩)
         ·obtain⟨F,G,hq9⟩:=xH F G hp9
          rcases Jc H with⟨hp12,H⟩|⟨hp12,H⟩
          ·obtain⟨F,G,hq12⟩:=xH F G hp12
           refine xR ?_
           exact Je H (xK ⟨[1,2,3,4],[]⟩)
          ·obtain⟨F,G,hq12⟩:=xH F G hp12
           refine xR ?_
           exact Je H (xK ⟨[1,2,3,4],[]⟩)
       ·obtain⟨F,G,hq7⟩:=xH Y G hp7
        rcases Jc H with⟨hp13,H⟩|⟨hp13,H⟩
        ·obtain⟨F,G,hq13⟩:=xH F G hp13
         rcases Jc H with⟨hp14,H⟩|⟨hp14,H⟩
         ·obtain⟨F,G,hq14⟩:=xH F G hp14
          refine xR ?_
          exact Je H (xK ⟨[1,2,3,4],[]⟩)
         ·obtain⟨F,G,hq14⟩:=xH F G hp14
          rcases Jc H with⟨hp15,H⟩|⟨hp15,H⟩
          ·obtain⟨F,G,hq15⟩:=xH F G hp15
           refine xR ?_
           exact Je H (xK ⟨[1,2,3,4],[]⟩)
          ·obtain⟨F,G,hq15⟩:=xH F G hp15
           refine xR ?_
           exact Je H (xK ⟨[1,2,3,4],[]⟩)
        ·obtain⟨F,G,hq13⟩:=xH F G hp13
         rcases Jc H with⟨hp16,H⟩|⟨hp16,H⟩
         ·obtain⟨F,G,hq16⟩:=xH F G hp16
          refine xR ?_
          exact Je H (xK ⟨[1,2,3,4],[]⟩)
         ·obtain⟨F,G,hq16⟩:=xH F G hp16
          refine xR ?_
          exact Je H (xK ⟨[1,2,3,4],[]⟩)
      ·rintro ⟨x4,x5⟩ H
       rw[Kr]at H
       refine KE (XA x2 x3) (fun s=>[(2,.c (.pt 1 0)),(24,.c (.d (.sl 1 (List.map dU a)))),(25,.c (.d (.v (.int .i64 x2)))),(26,.c (.d (.v (.int .i64 x3)))),(61,.c (.d (.v (.bool s))))]) (fun s=>[[.d (.v (.bool false))],[],[],[]]) [] o1 ?_ ?_
       ·rcases Jc H with⟨hp5,H⟩|⟨hp5,H⟩
        ·obtain⟨F,G,hq5⟩:=xH Y G hp5
         rcases Jc H with⟨hp6,H⟩|⟨hp6,H⟩
         ·obtain⟨F,G,hq6⟩:=xH F G hp6
          refine xR ?_
          exact Je H (xK ⟨[1,2,3,4],[]⟩)
         ·obtain⟨F,G,hq6⟩:=xH F G hp6
          refine xR ?_
          exact Je H (xK ⟨[1,2,3,4],[]⟩)
        ·obtain⟨F,G,hq5⟩:=xH Y G hp5
         refine xR ?_
         exact Je H (xK ⟨[1,2,3,4],[]⟩)
       ·rintro x6 H
        rw[XA]at H
        rcases Jc H with⟨hp4,H⟩|⟨hp4,H⟩
        ·obtain⟨F,G,hq4⟩:=xH Y G hp4
         refine xT ?_
         replace H:=Jj H hF1
         replace H:=Option.some.inj H
         refine xr ?_
         subst H
         replace Hn:=Option.some.inj Hn
         refine JfA ?_
         refine xS ?_
         subst Hn
         exact xN
        ·obtain⟨F,G,hq4⟩:=xH Y G hp4
         refine xE ?_
         refine xr ?_
         exact JE (JL H hF1) (xK ⟨[1,2,3,4],[]⟩)
     ·obtain⟨F,G,hq3⟩:=xH Y G hp3
      replace H:=Jj H hF1
      refine xE ?_
      replace H:=Option.some.inj H
      subst H
      exact Jmm ⟨rfl,Hn⟩
  ·rintro _ ⟨rfl,Hk⟩
   replace Hk:=JkV Hk
   refine xS ?_
   refine xr ?_
   subst Hk
   exact xN
theorem Jag(a0:List UInt8)(r:Bool)(H:Xa a0=some r):PC XZ [dS a0] (dB r):=PF.c (a:=a0) H
end Go.Proofs.YtfkhlbhjhdpkoaaDoor
