/- files.Beside: a loop over a text's parts that adds to an array. The rounds are dec3's (printed for one part). -/
import Derived.Test.YtfkhlbhjhdpkoaaDoorZtap
import Derived.Test.YtfkhlbhjhdpkoaaDoorZtaq
set_option linter.unusedVariables false
set_option linter.unusedSimpArgs false
set_option maxHeartbeats 4000000
set_option maxRecDepth 100000
namespace Go.Proofs.YtfkhlbhjhdpkoaaDoor
open Go.RowKit
noncomputable def VV:(Nat×(List (List UInt8)))→Option (List UInt8)
 | (x2,x3)=>(Xp (List.take x2 x3) [47]).bind fun r2=>(Xa r2).bind fun r3=>if(!r3)=true then some [] else some r2
noncomputable def VJ:(Nat×List (List UInt8))→List UInt8→Option ((Nat×List (List UInt8)) ⊕ List UInt8)
 | (n,l),x=>if(eqS x [46])=true then some (.inl (n,l)) else if(eqS x [46,46])=true then if(eqI ((n:Nat):Int) 0)=true then some (.inr []) else
   if(0:Int)≤0∧0≤(IntKind.i64.wrap ((n:Int)-1))∧(IntKind.i64.wrap ((n:Int)-1))≤(n:Int) then some (.inl ((IntKind.i64.wrap ((n:Int)-1)).toNat,l)) else none
  else if n≤l.length∧(n + [x].length) * 16≤140737488355328 then some (.inl (n + [x].length,List.take n l++[x])) else none
noncomputable def JcE:(Nat×List (List UInt8)) ⊕ List UInt8→Option (List UInt8)
 | .inl s=>VV s
 | .inr r=>some r
noncomputable def Vt(a0:List UInt8)(a1:List UInt8):Option (List UInt8) :=
 (Xx a0 [47]).bind fun r1=>if(0:Int)≤0∧0≤(IntKind.i64.wrap ((((splV 47 a0).length:Nat):Int)-1))∧(IntKind.i64.wrap ((((splV 47 a0).length:Nat):Int)-1))≤(((splV 47 a0).length:Nat):Int) then if a1.length≤4611686018427387904 then(Jbj VJ ((IntKind.i64.wrap ((((splV 47 a0).length:Nat):Int)-1)).toNat,splV 47 a0) (splV 47 a1)).bind JcE else none else none
noncomputable def Zy:PF:=PF.of (E2 dS dS) (fun a=>Vt a.1 a.2) dS
theorem Jcf:J7 Tryd.prog 15 Zy:=by
 refine xFL mixed [] [(28,Zx),(7,XZ)] [(27,true,XF),(21,true,Vq)] ⟨⟨Jmo,JfB⟩,⟨Jhz,Ja9⟩,trivial⟩ ⟨Jfm,Jbx,trivial⟩ Tryd.func15 ?_
 rintro ⟨a0,a1⟩ out H
 have G:=True.intro
 have Y:=xZ y_9 <| xZ y_49 <| xZ Tryd.results15 <| xZ Vp.eq_1 <| JaW.eq_1
 simp only[Vt]at H
 refine Jc0 ?_
 refine xr ?_
 refine Jap ?_
 refine Jc0 ?_
 obtain⟨r1,hr1,H⟩:=Jr H
 have F:=Y
 refine xQ ?_
 refine xs 1 ?_
 refine xc ⟨[],[]⟩ (tabG 0 (JeW a0 [47] r1 hr1)) ?_
 refine xs 2 ?_
 refine xl ?_
 refine Jap ?_
 obtain⟨hg1,H⟩:=Jd H
 obtain⟨hlen,H⟩:=Jd H
 obtain⟨o,Hk,Ho⟩:=Jr H
 refine Jc0 ?_
 refine xr ?_
 refine Jap ?_
 refine Jk8 ?_
 refine Jc0 ?_
 have F:=Y
 refine xQ ?_
 refine xs 1 ?_
 refine xc ⟨[],[]⟩ (tabG 1 (Jbw a1 [47])) ?_
 refine xl ?_
 refine Jap ?_
 refine Jjk ?_
 refine Ji0 41 6 5 4 6 47 a1 [(4,.c (.pt 1 0)),(5,.c (.pt 2 0)),(16,.c (.clo 41 [5,4,6]))] [(4,.c (.pt 1 0)),(5,.c (.pt 2 0))]
  [[.d (.v (str []))],[.os 3 1 0 (IntKind.i64.wrap ((((splV 47 a0).length:Nat):Int)-1)).toNat],[.arr 1 (List.map dS (splV 47 a0))],[.d (.v (str a1))],[.d (.v (str [47]))],[.d (.v (.int .i64 0))]]
  (fun k bs=>∃ s:Nat×List (List UInt8),Jbj VJ s ((splV 47 a1).drop k)=some o∧s.1≤s.2.length∧(bs=[[.d (.v (str []))],[.os 3 1 0 s.1],[.arr 1 (List.map dS s.2)],[],[],[]]∨bs=[[.d (.v (str []))],[.os 7 1 0 s.1],[],[],[],[],[.arr 1 (List.map dS s.2)]]))
  Jjm (xK ⟨[1,3,2,4,5,6],[]⟩) rfl rfl rfl ?_ rfl rfl rfl hlen ⟨by decide,by decide,by decide⟩ rfl
  [[.d (.v (str []))],[.os 3 1 0 (IntKind.i64.wrap ((((splV 47 a0).length:Nat):Int)-1)).toNat],[.arr 1 (List.map dS (splV 47 a0))],[],[],[]] ?_ ⟨_,Hk,by show Int.toNat _≤(splV 47 a0).length; omega,.inl rfl⟩ ?_ ?_
 ·intro i _
  by_cases hi:i=4
  ·subst hi; exact⟨rfl,.inl rfl⟩
  ·by_cases hj:i=5
   ·subst hj; exact⟨rfl,.inl rfl⟩
   ·simp[sigL,hi,hj,nzA]
 ·unfold Z1 hpL
  congr 1
  funext n
  match n with
  | 0=>rfl
  | 1=>rfl
  | 2=>rfl
  | 3=>rfl
  | 4=>rfl
  | 5=>rfl
  | 6=>rfl
  | n+7=>simp[upd,hpH]
 ·rintro k x _ hk ⟨⟨n,l⟩,Hk,hle,hbs⟩
  obtain⟨o1,H,Hn⟩:∃ o1,VJ (n,l) x=some o1∧((∃ s',o1=.inl s'∧Jbj VJ s' ((splV 47 a1).drop (k+1))=some o)∨∃ r,o1=.inr r∧o=.inr r):=by
   rcases Jlx hk Hk with⟨s',h1,h2⟩|⟨r,h1,h2⟩
   ·exact⟨_,h1,.inl ⟨s',rfl,h2⟩⟩
   ·exact⟨_,h1,.inr ⟨r,rfl,h2⟩⟩
  rw[VJ]at H
  replace hle:n≤l.length:=hle
  rcases hbs with rfl | rfl
  ·refine xr ?_
   refine⟨rfl,?_⟩
   refine xS ?_
   refine xr ?_
   refine xr ?_
   rcases Jc H with⟨hp2,H⟩|⟨hp2,H⟩
   ·obtain⟨F,G,hq2⟩:=xH Y G hp2
    refine xT ?_
    obtain rfl:=Option.some.inj H
    rcases Hn with⟨s',he,Hn⟩|⟨r,he,_⟩
    ·cases he
     exact Jec [[.d (.v (str []))],[.os 3 1 0 n],[.arr 1 (List.map dS l)],[],[],[]] (xK ⟨[1,2,3,4,5,6],[]⟩) ⟨(n,l),Hn,hle,.inl rfl⟩
    ·cases he
   ·obtain⟨F,G,hq2⟩:=xH Y G hp2
    refine xE ?_
    refine xr ?_
    rcases Jc H with⟨hp3,H⟩|⟨hp3,H⟩
    ·obtain⟨F,G,hq3⟩:=xH Y G hp3
     refine xT ?_
     refine xr ?_
     rcases Jc H with⟨hp4,H⟩|⟨hp4,H⟩
     ·obtain⟨F,G,hq4⟩:=xH Y G hp4
      refine xT ?_
      obtain rfl:=Option.some.inj H
      rcases Hn with⟨s',he,_⟩|⟨r,he,ho⟩
      ·cases he
      ·cases he
       subst ho
       refine xr ?_
       refine JfA ?_
       refine xS ?_
       obtain rfl:=Option.some.inj Ho
       exact xN
     ·obtain⟨F,G,hq4⟩:=xH Y G hp4
      refine xE ?_
      obtain⟨hg2,H⟩:=Jd H
      obtain rfl:=Option.some.inj H
      rcases Hn with⟨s',he,Hn⟩|⟨r,he,_⟩
      ·cases he
       refine xr ?_
       exact Jec [[.d (.v (str []))],[.os 3 1 0 (IntKind.i64.wrap ((n:Int)-1)).toNat],[.arr 1 (List.map dS l)],[],[],[]] (xK ⟨[1,2,3,4,5,6],[]⟩) ⟨((IntKind.i64.wrap ((n:Int)-1)).toNat,l),Hn,by show Int.toNat _≤l.length; omega,.inl rfl⟩
      ·cases he
    ·obtain⟨F,G,hq3⟩:=xH Y G hp3
     refine xE ?_
     obtain⟨hg3,H⟩:=Jd H
     obtain rfl:=Option.some.inj H
     rcases Hn with⟨s',he,Hn⟩|⟨r,he,_⟩
     ·cases he
      have F:=xZ Y (VF Jb0 [x])
      have T:=Jbc l n (by omega)
      have F:=xZ F (Nat.min_eq_left (show n≤l.length by omega))
      have G:=xZ G (Nat.min_eq_left (show n≤l.length by omega))
      have F:=xZ F (Jaw dS T)
      have G:=xZ G (Jaw dS T)
      have L:[x].length=1:=rfl
      refine xR ?_
      exact Jec [[.d (.v (str []))],[.os 7 1 0 (n + [x].length)],[],[],[],[],[.arr 1 (List.map dS (List.take n l++[x]))]] (xK ⟨[1,2,3,4,5,6,7],[]⟩) ⟨(n + [x].length,List.take n l++[x]),Hn,by show n+1≤(List.take n l++[x]).length; rw[List.length_append,T]; exact Nat.le_refl _,.inr rfl⟩
     ·cases he
  ·refine xr ?_
   refine⟨rfl,?_⟩
   refine xS ?_
   refine xr ?_
   refine xr ?_
   rcases Jc H with⟨hp2,H⟩|⟨hp2,H⟩
   ·obtain⟨F,G,hq2⟩:=xH Y G hp2
    refine xT ?_
    obtain rfl:=Option.some.inj H
    rcases Hn with⟨s',he,Hn⟩|⟨r,he,_⟩
    ·cases he
     exact Jec [[.d (.v (str []))],[.os 7 1 0 n],[],[],[],[],[.arr 1 (List.map dS l)]] (xK ⟨[1,2,3,4,5,6,7],[]⟩) ⟨(n,l),Hn,hle,.inr rfl⟩
    ·cases he
   ·obtain⟨F,G,hq2⟩:=xH Y G hp2
    refine xE ?_
    refine xr ?_
    rcases Jc H with⟨hp3,H⟩|⟨hp3,H⟩
    ·obtain⟨F,G,hq3⟩:=xH Y G hp3
     refine xT ?_
     refine xr ?_
     rcases Jc H with⟨hp4,H⟩|⟨hp4,H⟩
     ·obtain⟨F,G,hq4⟩:=xH Y G hp4
      refine xT ?_
      obtain rfl:=Option.some.inj H
      rcases Hn with⟨s',he,_⟩|⟨r,he,ho⟩
      ·cases he
      ·cases he
       subst ho
       refine xr ?_
       refine JfA ?_
       refine xS ?_
       obtain rfl:=Option.some.inj Ho
       exact xN
     ·obtain⟨F,G,hq4⟩:=xH Y G hp4
      refine xE ?_
      obtain⟨hg2,H⟩:=Jd H
      obtain rfl:=Option.some.inj H
      rcases Hn with⟨s',he,Hn⟩|⟨r,he,_⟩
      ·cases he
       refine xr ?_
       exact Jec [[.d (.v (str []))],[.os 7 1 0 (IntKind.i64.wrap ((n:Int)-1)).toNat],[],[],[],[],[.arr 1 (List.map dS l)]] (xK ⟨[1,2,3,4,5,6,7],[]⟩) ⟨((IntKind.i64.wrap ((n:Int)-1)).toNat,l),Hn,by show Int.toNat _≤l.length; omega,.inr rfl⟩
      ·cases he
    ·obtain⟨F,G,hq3⟩:=xH Y G hp3
     refine xE ?_
     obtain⟨hg3,H⟩:=Jd H
     obtain rfl:=Option.some.inj H
     rcases Hn with⟨s',he,Hn⟩|⟨r,he,_⟩
     ·cases he
      have F:=xZ Y (VF Jb0 [x])
      have T:=Jbc l n (by omega)
      have F:=xZ F (Nat.min_eq_left (show n≤l.length by omega))
      have G:=xZ G (Nat.min_eq_left (show n≤l.length by omega))
      have F:=xZ F (Jaw dS T)
      have G:=xZ G (Jaw dS T)
      have L:[x].length=1:=rfl
      refine xR ?_
      exact Jec [[.d (.v (str []))],[.os 7 1 0 (n + [x].length)],[],[],[],[],[.arr 1 (List.map dS (List.take n l++[x]))]] (xK ⟨[1,2,3,4,5,6,8],[]⟩) ⟨(n + [x].length,List.take n l++[x]),Hn,by show n+1≤(List.take n l++[x]).length; rw[List.length_append,T]; exact Nat.le_refl _,.inr rfl⟩
     ·cases he
 ·rintro _ ⟨⟨n,l⟩,Hk,hle,rfl | rfl⟩
  ·obtain rfl:=JgK Hk
   replace hle:n≤l.length:=hle
   replace Ho:VV (n,l)=some out:=Ho
   rw[VV]at Ho
   refine xS ?_
   refine xft 3 n ?_
   refine xfz 3 1 (List.map dS (List.take n l)) [] ?_
   obtain⟨r2,hr2,Ho⟩:=Jr Ho
   have Y:=xZ Y (Jbc l n hle)
   have F:=xC Y (Jct (List.take n l) [47] r2 hr2)
   refine xR ?_
   obtain⟨r3,hr3,Ho⟩:=Jr Ho
   have F:=xC Y (Jag r2 r3 hr3)
   refine xR ?_
   rcases Jc Ho with⟨hp1,Ho⟩|⟨hp1,Ho⟩
   ·obtain⟨F,G,hq1⟩:=xH Y G hp1
    refine xT ?_
    replace Ho:=Option.some.inj Ho
    refine xr ?_
    subst Ho
    exact xN
   ·obtain⟨F,G,hq1⟩:=xH Y G hp1
    refine xE ?_
    replace Ho:=Option.some.inj Ho
    refine xr ?_
    subst Ho
    exact xN
  ·obtain rfl:=JgK Hk
   replace hle:n≤l.length:=hle
   replace Ho:VV (n,l)=some out:=Ho
   rw[VV]at Ho
   refine xS ?_
   refine xft 7 n ?_
   refine xfz 7 1 (List.map dS (List.take n l)) [] ?_
   obtain⟨r2,hr2,Ho⟩:=Jr Ho
   have Y:=xZ Y (Jbc l n hle)
   have F:=xC Y (Jct (List.take n l) [47] r2 hr2)
   refine xR ?_
   obtain⟨r3,hr3,Ho⟩:=Jr Ho
   have F:=xC Y (Jag r2 r3 hr3)
   refine xR ?_
   rcases Jc Ho with⟨hp1,Ho⟩|⟨hp1,Ho⟩
   ·obtain⟨F,G,hq1⟩:=xH Y G hp1
    refine xT ?_
    replace Ho:=Option.some.inj Ho
    refine xr ?_
    subst Ho
    exact xN
   ·obtain⟨F,G,hq1⟩:=xH Y G hp1
    refine xE ?_
    replace Ho:=Option.some.inj Ho
    refine xr ?_
    subst Ho
    exact xN
theorem ZM(a0:List UInt8)(a1:List UInt8)(r:(List UInt8))(H:Vt a0 a1=some r):PC Zy [dS a0,dS a1] (dS r):=PF.c (a:=(a0,a1)) H
end Go.Proofs.YtfkhlbhjhdpkoaaDoor
