/- Functions of data for functions of the program. Written by dec3.py. -/
import Derived.Test.YtaofbminodhcnaaZcaq
import Derived.Test.YtaofbminodhcnaaZcas
set_option linter.unusedVariables false
set_option linter.unusedSimpArgs false
set_option maxHeartbeats 4000000
set_option maxRecDepth 100000
namespace Go.Proofs.Ytaofbminodhcnaa
open Go.RowKit
noncomputable def K0(a0:Int)(a1:List Token)(a2:List KD)(a3:List Bind):Int→Option (Int ⊕ (GR (Int×Int) (List Bind)))
 | x1=>if(leI 0 x1)=true then if 0≤x1∧x1.toNat<a2.length∧0≤a0∧a0.toNat<a1.length∧(tokT a1 a0).length≤9223372036854775807 then if(kHas a2 x1 (tokT a1 a0))=true then if(a3.length + [(⟨a0,kVal a2 x1 (tokT a1 a0)⟩:Bind)].length) * 16≤140737488355328 then inrO (some (.ok (a3++[(⟨a0,kVal a2 x1 (tokT a1 a0)⟩:Bind)]))) else none else some (.inl (IntKind.i64.wrap (x1-1))) else none else inrO ((Xz 6 a0 a1 a2 a3).bind fun e1=>some (.er ((a1.getD a0.toNat default).File,(a1.getD a0.toNat default).At)))
noncomputable def Vn(a0:Int)(a1:List Token)(a2:List KD)(a3:List Bind):Option (GR (Int×Int) (List Bind)) :=
 Jt (K0 a0 a1 a2 a3) ((a2.length:Int)-1)
noncomputable def Ji5(a0:Int)(a1:List Token)(a2:List KD)(a3:List Bind):GR (Int×Int) (List Bind)→GOut
 | .ok r=>.ret (.tu []) [[.d (.sl 11 (List.map Jb a1)),.kc (KSK a2),.sl 2 (List.map Jm r) 2]] [40]
 | .er r=>.pan (.iface 56 (.agg ⟨[.int .i64 6,.int .i64 r.1,.int .i64 r.2]⟩)) [[.d (.sl 11 (List.map Jb a1)),.kc (KSK a2),.sl 2 (List.map Jm a3) 2]] [40]
noncomputable def Jan(a0:Int)(a1:List Token)(a2:List KD)(a3:List Bind)(r:GR (Int×Int) (List Bind)):GI :=
 ⟨[.c (.pt 1 0),.c (.d (.v (.int .i64 a0)))],[[.d (.sl 11 (List.map Jb a1)),.kc (KSK a2),.sl 2 (List.map Jm a3) 2]],[40],Ji5 a0 a1 a2 a3 r⟩
def Jap:GI→Prop:=fun g=>∃ (a0:Int) (a1:List Token) (a2:List KD) (a3:List Bind) (r:GR (Int×Int) (List Bind)),Vn a0 a1 a2 a3=some r∧g=Jan a0 a1 a2 a3 r
theorem Jca(a0:Int)(a1:List Token)(a2:List KD)(a3:List Bind)(r:GR (Int×Int) (List Bind))(H:Vn a0 a1 a2 a3=some r):Jap (Jan a0 a1 a2 a3 r):=⟨a0,a1,a2,a3,r,H,rfl⟩
theorem Jin:∀ g,Jap g→Jx Try.prog 38 g:=by
 rintro _ ⟨a0,a1,a2,a3,r,H,rfl⟩
 refine xGnl mixed [1000052] [] [(63,false,XN)] [] trivial ⟨Je8,trivial⟩ trivial Try.func38 _ ?_
 have G:=True.intro
 have Y:=xZ y_3 <| xZ y_9 <| xZ y_22 <| xZ y_32 <| xZ y_40 <| xZ y_44 <| xZ y_58 <| xZ y_59 <| xZ y_61 <| xZ Try.results38 <| xZ J2.eq_1 <| xZ Jb.eq_1 <| xZ Jm.eq_1 <| xZ V6.eq_1 <| xZ Jan.eq_1 <| xZ JbH <| xZ JaH <| xZ JaE <| xZ JbF <| xZ JbL <| xZ JaG <| xZ JaF <| JbM
 dsimp only[Jan]
 simp only[Vn]at H
 refine xS ?_
 refine Jxw a2 ?_
 refine xS ?_
 refine Ke (K0 a0 a1 a2 a3) (fun s=>[(0,.c (.pt 1 0)),(1,.c (.d (.v (.int .i64 a0)))),(4,.c (.d (.v (.int .i64 s))))]) (fun s=>[[.d (.sl 11 (List.map Jb a1)),.kc (KSK a2),.sl 2 (List.map Jm a3) 2]]) [40] H (xK ⟨[1],[2]⟩) ?_
 rintro n1 x1 o1 H hF1
 rw[K0]at H
 refine xS ?_
 refine xr ?_
 rcases Jc H with⟨hp1,H⟩|⟨hp1,H⟩
 ·obtain⟨F,G,hq1⟩:=xH Y G hp1
  refine xT ?_
  obtain⟨hgh,H⟩:=Jj H
  refine JxR a2 a1 x1 a0 hgh ?_
  refine xS ?_
  refine xr ?_
  rcases Jc H with⟨hp2,H⟩|⟨hp2,H⟩
  ·obtain⟨F,G,hq2⟩:=xH Y G hp2
   refine xT ?_
   obtain⟨hg1,H⟩:=Jj H
   have F:=xZ Y (XL Jkw [(⟨a0,kVal a2 x1 (tokT a1 a0)⟩:Bind)])
   replace H:=Js H hF1
   replace H:=Option.some.inj H
   refine xR ?_
   subst H
   refine xrD [] ?_
   exact xO ⟨[1],[3]⟩
  ·obtain⟨F,G,hq2⟩:=xH Y G hp2
   refine xE ?_
   refine xr ?_
   exact JD (JM H hF1) (xK ⟨[1],[2]⟩)
 ·obtain⟨F,G,hq1⟩:=xH Y G hp1
  replace H:=Js H hF1
  refine xE ?_
  obtain⟨e1,hr2,H⟩:=Jg H
  have F:=Y
  refine xQp [49,50,51] ?_
  refine xs 2 ?_
  refine xp ⟨[1],[2]⟩ (tabG 0 (Je6 6 a0 a1 a2 a3 e1 hr2)) ?_
  replace H:=Option.some.inj H
  refine xS ?_
  subst H
  refine xpD [] ?_
  exact xOv ⟨[1],[4]⟩
theorem JiJ:Jh Try.prog 38∧(∀ g,Jap g→Jx Try.prog 38 g)∧(false=true→∀ g,Jap g→∃ val bs ts,g.out=.ret val bs ts) :=
 ⟨Jxi,Jin,nofun⟩
noncomputable def KO(a0:Int)(a1:List Token)(a2:List KD)(a3:List Bind):Option (GR (Int×Int) ((List KD)×(List Bind))) :=
 if 0<a2.length∧(kTop a2).length<9223372036854775807∧0≤a0∧a0.toNat<a1.length∧(tokT a1 a0).length≤9223372036854775807 then if(JeF a2 a1 a0)=true then(Xz 7 a0 a1 a2 a3).bind fun e1=>some (.er ((a1.getD a0.toNat default).File,(a1.getD a0.toNat default).At)) else if(a3.length + [(⟨a0,a0⟩:Bind)].length) * 16≤140737488355328 then some (.ok (kPut a2 (tokT a1 a0) a0,a3++[(⟨a0,a0⟩:Bind)])) else none else none
noncomputable def Jir(a0:Int)(a1:List Token)(a2:List KD)(a3:List Bind):GR (Int×Int) ((List KD)×(List Bind))→GOut
 | .ok r=>.ret (.tu []) [[.d (.sl 11 (List.map Jb a1)),.kc (KSK r.1),.sl 2 (List.map Jm r.2) 2]] [40]
 | .er r=>.pan (.iface 56 (.agg ⟨[.int .i64 7,.int .i64 r.1,.int .i64 r.2]⟩)) [[.d (.sl 11 (List.map Jb a1)),.kc (KSK a2),.sl 2 (List.map Jm a3) 2]] [40]
noncomputable def ZR(a0:Int)(a1:List Token)(a2:List KD)(a3:List Bind)(r:GR (Int×Int) ((List KD)×(List Bind))):GI :=
 ⟨[.c (.pt 1 0),.c (.d (.v (.int .i64 a0)))],[[.d (.sl 11 (List.map Jb a1)),.kc (KSK a2),.sl 2 (List.map Jm a3) 2]],[40],Jir a0 a1 a2 a3 r⟩
def ZS:GI→Prop:=fun g=>∃ (a0:Int) (a1:List Token) (a2:List KD) (a3:List Bind) (r:GR (Int×Int) ((List KD)×(List Bind))),KO a0 a1 a2 a3=some r∧g=ZR a0 a1 a2 a3 r
theorem JbA(a0:Int)(a1:List Token)(a2:List KD)(a3:List Bind)(r:GR (Int×Int) ((List KD)×(List Bind)))(H:KO a0 a1 a2 a3=some r):ZS (ZR a0 a1 a2 a3 r):=⟨a0,a1,a2,a3,r,H,rfl⟩
theorem Jh7:∀ g,ZS g→Jx Try.prog 39 g:=by
 rintro _ ⟨a0,a1,a2,a3,r,H,rfl⟩
 refine xGnl mixed [1000053] [] [(63,false,XN)] [] trivial ⟨Je8,trivial⟩ trivial Try.func39 _ ?_
 have G:=True.intro
 have Y:=xZ y_3 <| xZ y_9 <| xZ y_22 <| xZ y_32 <| xZ y_40 <| xZ y_44 <| xZ y_58 <| xZ y_59 <| xZ y_61 <| xZ Try.results39 <| xZ J2.eq_1 <| xZ Jb.eq_1 <| xZ Jm.eq_1 <| xZ V6.eq_1 <| xZ ZR.eq_1 <| xZ JbH <| xZ JaH <| xZ JaE <| xZ JbF <| xZ JbL <| xZ JaG <| xZ JaF <| JbM
 dsimp only[ZR]
 simp only[KO]at H
 obtain⟨hgh,H⟩:=Jj H
 rcases Jc H with⟨hp1,H⟩|⟨hp1,H⟩
 ·obtain⟨F,G,hq1⟩:=xH Y G hp1
  refine Jyh a2 a1 a0 hgh hp1 ?_
  obtain⟨e1,hr2,H⟩:=Jg H
  have F:=Y
  refine xQp [35,36,37] ?_
  refine xs 2 ?_
  refine xp ⟨[1],[2]⟩ (tabG 0 (Je6 7 a0 a1 a2 a3 e1 hr2)) ?_
  replace H:=Option.some.inj H
  refine xS ?_
  subst H
  refine xpD [] ?_
  exact xOv ⟨[1],[4]⟩
 ·obtain⟨F,G,hq1⟩:=xH Y G hp1
  refine Jyi a2 a1 a0 hgh hp1 ?_
  obtain⟨hg1,H⟩:=Jj H
  have F:=xZ Y (XL Jkw [(⟨a0,a0⟩:Bind)])
  replace H:=Option.some.inj H
  refine xR ?_
  subst H
  refine xnD [] ?_
  exact xO ⟨[1],[3]⟩
theorem Jih:Jh Try.prog 39∧(∀ g,ZS g→Jx Try.prog 39 g)∧(false=true→∀ g,ZS g→∃ val bs ts,g.out=.ret val bs ts) :=
 ⟨Jw7,Jh7,nofun⟩
noncomputable def Jim(a0:Node)(a1:List Token)(a2:List KD)(a3:List Bind):GR (Int×Int×Int×(List KD)×(List Bind)) ((List KD)×(List Bind))→GOut
 | .ok r=>.ret (.tu []) [[.d (.sl 11 (List.map Jb a1)),.kc (KSK r.1),.sl 2 (List.map Jm r.2) 2]] [40]
 | .er r=>.pan (.iface 56 (.agg ⟨[.int .i64 r.1,.int .i64 r.2.1,.int .i64 r.2.2.1]⟩)) [[.d (.sl 11 (List.map Jb a1)),.kc (KSK r.2.2.2.1),.sl 2 (List.map Jm r.2.2.2.2) 2]] [40]
noncomputable def K3(a0:Node)(a1:List Token)(a2:List KD)(a3:List Bind)(r:GR (Int×Int×Int×(List KD)×(List Bind)) ((List KD)×(List Bind))):GI :=
 ⟨[.c (.pt 1 0),.c (.pp (List.drop 0 (Jp a0).cells))],[[.d (.sl 11 (List.map Jb a1)),.kc (KSK a2),.sl 2 (List.map Jm a3) 2]],[40],Jim a0 a1 a2 a3 r⟩
def JX(q:Node→(List Token)→(List KD)→(List Bind)→Option (GR (Int×Int×Int×(List KD)×(List Bind)) ((List KD)×(List Bind)))):GI→Prop:=fun g=>∃ (a0:Node) (a1:List Token) (a2:List KD) (a3:List Bind) (r:GR (Int×Int×Int×(List KD)×(List Bind)) ((List KD)×(List Bind))),q a0 a1 a2 a3=some r∧g=K3 a0 a1 a2 a3 r
theorem VQ(q:Node→(List Token)→(List KD)→(List Bind)→Option (GR (Int×Int×Int×(List KD)×(List Bind)) ((List KD)×(List Bind))))(a0:Node)(a1:List Token)(a2:List KD)(a3:List Bind)(r:GR (Int×Int×Int×(List KD)×(List Bind)) ((List KD)×(List Bind)))(H:q a0 a1 a2 a3=some r):JX q (K3 a0 a1 a2 a3 r):=⟨a0,a1,a2,a3,r,H,rfl⟩
noncomputable def Jiq(a0:Node)(a1:List Token)(a2:List KD)(a3:List Bind):GR (Int×Int×Int×(List KD)×(List Bind)) ((List KD)×(List Bind))→GOut
 | .ok r=>.ret (.tu []) [[.d (.sl 11 (List.map Jb a1)),.kc (KSK r.1),.sl 2 (List.map Jm r.2) 2]] [40]
 | .er r=>.pan (.iface 56 (.agg ⟨[.int .i64 r.1,.int .i64 r.2.1,.int .i64 r.2.2.1]⟩)) [[.d (.sl 11 (List.map Jb a1)),.kc (KSK r.2.2.2.1),.sl 2 (List.map Jm r.2.2.2.2) 2]] [40]
noncomputable def V5(a0:Node)(a1:List Token)(a2:List KD)(a3:List Bind)(r:GR (Int×Int×Int×(List KD)×(List Bind)) ((List KD)×(List Bind))):GI :=
 ⟨[.c (.pt 1 0),.c (.pp (List.drop 0 (Jp a0).cells))],[[.d (.sl 11 (List.map Jb a1)),.kc (KSK a2),.sl 2 (List.map Jm a3) 2]],[40],Jiq a0 a1 a2 a3 r⟩
def J7(q:Node→(List Token)→(List KD)→(List Bind)→Option (GR (Int×Int×Int×(List KD)×(List Bind)) ((List KD)×(List Bind)))):GI→Prop:=fun g=>∃ (a0:Node) (a1:List Token) (a2:List KD) (a3:List Bind) (r:GR (Int×Int×Int×(List KD)×(List Bind)) ((List KD)×(List Bind))),q a0 a1 a2 a3=some r∧g=V5 a0 a1 a2 a3 r
theorem Vj(q:Node→(List Token)→(List KD)→(List Bind)→Option (GR (Int×Int×Int×(List KD)×(List Bind)) ((List KD)×(List Bind))))(a0:Node)(a1:List Token)(a2:List KD)(a3:List Bind)(r:GR (Int×Int×Int×(List KD)×(List Bind)) ((List KD)×(List Bind)))(H:q a0 a1 a2 a3=some r):J7 q (V5 a0 a1 a2 a3 r):=⟨a0,a1,a2,a3,r,H,rfl⟩
noncomputable def Jhm(a0:List Token)(a1:List KD)(a2:List Bind)(a3:Node):GR (Int×Int×Int×(List KD)×(List Bind)) ((List KD)×(List Bind))→GOut
 | .ok r=>.ret (.tu []) [[.d (.sl 11 (List.map Jb a0)),.kc (KSK r.1),.sl 2 (List.map Jm r.2) 4],[.pt 1 0],[.pp (List.drop 0 (Jp a3).cells)]] [40]
 | .er r=>.pan (.iface 56 (.agg ⟨[.int .i64 r.1,.int .i64 r.2.1,.int .i64 r.2.2.1]⟩)) [[.d (.sl 11 (List.map Jb a0)),.kc (KSK r.2.2.2.1),.sl 2 (List.map Jm r.2.2.2.2) 4],[.pt 1 0],[.pp (List.drop 0 (Jp a3).cells)]] [40]
noncomputable def Zf(a0:List Token)(a1:List KD)(a2:List Bind)(a3:Node)(r:GR (Int×Int×Int×(List KD)×(List Bind)) ((List KD)×(List Bind))):GI :=
 ⟨[.c (.pt 1 0),.c (.clo 43 [2,3])],[[.d (.sl 11 (List.map Jb a0)),.kc (KSK a1),.sl 2 (List.map Jm a2) 4],[.pt 1 0],[.pp (List.drop 0 (Jp a3).cells)]],[40],Jhm a0 a1 a2 a3 r⟩
def Kh(q:(List Token)→(List KD)→(List Bind)→Node→Option (GR (Int×Int×Int×(List KD)×(List Bind)) ((List KD)×(List Bind)))):GI→Prop:=fun g=>∃ (a0:List Token) (a1:List KD) (a2:List Bind) (a3:Node) (r:GR (Int×Int×Int×(List KD)×(List Bind)) ((List KD)×(List Bind))),q a0 a1 a2 a3=some r∧g=Zf a0 a1 a2 a3 r
theorem JdZ(q:(List Token)→(List KD)→(List Bind)→Node→Option (GR (Int×Int×Int×(List KD)×(List Bind)) ((List KD)×(List Bind))))(a0:List Token)(a1:List KD)(a2:List Bind)(a3:Node)(r:GR (Int×Int×Int×(List KD)×(List Bind)) ((List KD)×(List Bind)))(H:q a0 a1 a2 a3=some r):Kh q (Zf a0 a1 a2 a3 r):=⟨a0,a1,a2,a3,r,H,rfl⟩
noncomputable def Jgz(a0:List Token)(a1:List KD)(a2:List Bind)(a3:Node):GR (Int×Int×Int×(List KD)×(List Bind)) ((List KD)×(List Bind))→GOut
 | .ok r=>.ret (.tu []) [[.d (.sl 11 (List.map Jb a0)),.kc (KSK r.1),.sl 2 (List.map Jm r.2) 4],[.pp (List.drop 0 (Jp a3).cells)],[.pt 1 0]] [40]
 | .er r=>.pan (.iface 56 (.agg ⟨[.int .i64 r.1,.int .i64 r.2.1,.int .i64 r.2.2.1]⟩)) [[.d (.sl 11 (List.map Jb a0)),.kc (KSK r.2.2.2.1),.sl 2 (List.map Jm r.2.2.2.2) 4],[.pp (List.drop 0 (Jp a3).cells)],[.pt 1 0]] [40]
noncomputable def Xl(a0:List Token)(a1:List KD)(a2:List Bind)(a3:Node)(r:GR (Int×Int×Int×(List KD)×(List Bind)) ((List KD)×(List Bind))):GI :=
 ⟨[.c (.pt 1 0),.c (.clo 42 [2,3])],[[.d (.sl 11 (List.map Jb a0)),.kc (KSK a1),.sl 2 (List.map Jm a2) 4],[.pp (List.drop 0 (Jp a3).cells)],[.pt 1 0]],[40],Jgz a0 a1 a2 a3 r⟩
def JY(q:(List Token)→(List KD)→(List Bind)→Node→Option (GR (Int×Int×Int×(List KD)×(List Bind)) ((List KD)×(List Bind)))):GI→Prop:=fun g=>∃ (a0:List Token) (a1:List KD) (a2:List Bind) (a3:Node) (r:GR (Int×Int×Int×(List KD)×(List Bind)) ((List KD)×(List Bind))),q a0 a1 a2 a3=some r∧g=Xl a0 a1 a2 a3 r
theorem Jdh(q:(List Token)→(List KD)→(List Bind)→Node→Option (GR (Int×Int×Int×(List KD)×(List Bind)) ((List KD)×(List Bind))))(a0:List Token)(a1:List KD)(a2:List Bind)(a3:Node)(r:GR (Int×Int×Int×(List KD)×(List Bind)) ((List KD)×(List Bind)))(H:q a0 a1 a2 a3=some r):JY q (Xl a0 a1 a2 a3 r):=⟨a0,a1,a2,a3,r,H,rfl⟩
noncomputable def Jhi(a0:Node)(a1:List Token)(a2:List KD)(a3:List Bind):GR (Int×Int×Int×(List KD)×(List Bind)) ((List KD)×(List Bind))→GOut
 | .ok r=>.ret (.tu []) [[.pt 3 0],[.pp (List.drop 0 (Jp a0).cells)],[.d (.sl 11 (List.map Jb a1)),.kc (KSK r.1),.sl 2 (List.map Jm r.2) 4]] [40]
 | .er r=>.pan (.iface 56 (.agg ⟨[.int .i64 r.1,.int .i64 r.2.1,.int .i64 r.2.2.1]⟩)) [[.pt 3 0],[.pp (List.drop 0 (Jp a0).cells)],[.d (.sl 11 (List.map Jb a1)),.kc (KSK r.2.2.2.1),.sl 2 (List.map Jm r.2.2.2.2) 4]] [40]
noncomputable def Zb(a0:Node)(a1:List Token)(a2:List KD)(a3:List Bind)(r:GR (Int×Int×Int×(List KD)×(List Bind)) ((List KD)×(List Bind))):GI :=
 ⟨[.c (.pt 1 0),.c (.pt 2 0)],[[.pt 3 0],[.pp (List.drop 0 (Jp a0).cells)],[.d (.sl 11 (List.map Jb a1)),.kc (KSK a2),.sl 2 (List.map Jm a3) 4]],[40],Jhi a0 a1 a2 a3 r⟩
def Ki(q:Node→(List Token)→(List KD)→(List Bind)→Option (GR (Int×Int×Int×(List KD)×(List Bind)) ((List KD)×(List Bind)))):GI→Prop:=fun g=>∃ (a0:Node) (a1:List Token) (a2:List KD) (a3:List Bind) (r:GR (Int×Int×Int×(List KD)×(List Bind)) ((List KD)×(List Bind))),q a0 a1 a2 a3=some r∧g=Zb a0 a1 a2 a3 r
theorem Jd3(q:Node→(List Token)→(List KD)→(List Bind)→Option (GR (Int×Int×Int×(List KD)×(List Bind)) ((List KD)×(List Bind))))(a0:Node)(a1:List Token)(a2:List KD)(a3:List Bind)(r:GR (Int×Int×Int×(List KD)×(List Bind)) ((List KD)×(List Bind)))(H:q a0 a1 a2 a3=some r):Ki q (Zb a0 a1 a2 a3 r):=⟨a0,a1,a2,a3,r,H,rfl⟩
noncomputable def Jhw(a0:Node)(a1:List Token)(a2:List KD)(a3:List Bind):GR (Int×Int×Int×(List KD)×(List Bind)) ((List KD)×(List Bind))→GOut
 | .ok r=>.ret (.tu []) [[.pp (List.drop 0 (Jp a0).cells)],[.pt 3 0],[.d (.sl 11 (List.map Jb a1)),.kc (KSK r.1),.sl 2 (List.map Jm r.2) 4]] [40]
 | .er r=>.pan (.iface 56 (.agg ⟨[.int .i64 r.1,.int .i64 r.2.1,.int .i64 r.2.2.1]⟩)) [[.pp (List.drop 0 (Jp a0).cells)],[.pt 3 0],[.d (.sl 11 (List.map Jb a1)),.kc (KSK r.2.2.2.1),.sl 2 (List.map Jm r.2.2.2.2) 4]] [40]
noncomputable def X0(a0:Node)(a1:List Token)(a2:List KD)(a3:List Bind)(r:GR (Int×Int×Int×(List KD)×(List Bind)) ((List KD)×(List Bind))):GI :=
 ⟨[.c (.pt 1 0),.c (.pt 2 0)],[[.pp (List.drop 0 (Jp a0).cells)],[.pt 3 0],[.d (.sl 11 (List.map Jb a1)),.kc (KSK a2),.sl 2 (List.map Jm a3) 4]],[40],Jhw a0 a1 a2 a3 r⟩
def Kg(q:Node→(List Token)→(List KD)→(List Bind)→Option (GR (Int×Int×Int×(List KD)×(List Bind)) ((List KD)×(List Bind)))):GI→Prop:=fun g=>∃ (a0:Node) (a1:List Token) (a2:List KD) (a3:List Bind) (r:GR (Int×Int×Int×(List KD)×(List Bind)) ((List KD)×(List Bind))),q a0 a1 a2 a3=some r∧g=X0 a0 a1 a2 a3 r
theorem JdX(q:Node→(List Token)→(List KD)→(List Bind)→Option (GR (Int×Int×Int×(List KD)×(List Bind)) ((List KD)×(List Bind))))(a0:Node)(a1:List Token)(a2:List KD)(a3:List Bind)(r:GR (Int×Int×Int×(List KD)×(List Bind)) ((List KD)×(List Bind)))(H:q a0 a1 a2 a3=some r):Kg q (X0 a0 a1 a2 a3 r):=⟨a0,a1,a2,a3,r,H,rfl⟩
noncomputable def KR(a0:Node)(a1:List Token)(a2:List KD)(a3:List Bind):Bool→Option (GR (Int×Int×Int×(List KD)×(List Bind)) ((List KD)×(List Bind)))
 | x1=>if x1=true then some (.ok (a2,a3)) else grB (Vn a0.Tok a1 a2 a3) (fun r1=>some (.ok (a2,r1))) (fun e1=>some (.er (6,e1.1,e1.2,a2,a3)))
noncomputable def Vv(q1:Node→(List Token)→(List KD)→(List Bind)→Option (GR (Int×Int×Int×(List KD)×(List Bind)) ((List KD)×(List Bind))))(q2:Node→(List Token)→(List KD)→(List Bind)→Option (GR (Int×Int×Int×(List KD)×(List Bind)) ((List KD)×(List Bind))))(q3:(List Token)→(List KD)→(List Bind)→Node→Option (GR (Int×Int×Int×(List KD)×(List Bind)) ((List KD)×(List Bind))))(q4:(List Token)→(List KD)→(List Bind)→Node→Option (GR (Int×Int×Int×(List KD)×(List Bind)) ((List KD)×(List Bind))))(q5:Node→(List Token)→(List KD)→(List Bind)→Option (GR (Int×Int×Int×(List KD)×(List Bind)) ((List KD)×(List Bind))))(q6:Node→(List Token)→(List KD)→(List Bind)→Option (GR (Int×Int×Int×(List KD)×(List Bind)) ((List KD)×(List Bind))))(a0:Node)(a1:List Token)(a2:List KD)(a3:List Bind):Option (GR (Int×Int×Int×(List KD)×(List Bind)) ((List KD)×(List Bind))) :=
 if(eqI a0.Kind 16)=true then if(0:Int)≤a0.Tok∧a0.Tok.toNat<a1.length then if(eqS ((a1.getD a0.Tok.toNat default).Text) [105,110,116])=true then KR a0 a1 a2 a3 true else if(eqS ((a1.getD a0.Tok.toNat default).Text) [99,104,97,114])=true then KR a0 a1 a2 a3 true else if(eqS ((a1.getD a0.Tok.toNat default).Text) [108,111,110,103])=true then KR a0 a1 a2 a3 true else KR a0 a1 a2 a3 (eqS ((a1.getD a0.Tok.toNat default).Text) [118,111,105,100]) else none else if(eqI a0.Kind 10)=true then grB (Vn a0.Tok a1 a2 a3) (fun r2=>some (.ok (a2,r2))) (fun e2=>some (.er (6,e2.1,e2.2,a2,a3))) else if(eqI a0.Kind 4)=true then grB (KO a0.Tok a1 a2 a3) (fun r3=>grB (q2 a0 a1 r3.1 r3.2) (fun r4=>some (.ok (r4.1,r4.2))) (fun e4=>some (.er (e4.1,e4.2.1,e4.2.2.1,e4.2.2.2.1,e4.2.2.2.2)))) (fun e3=>some (.er (7,e3.1,e3.2,a2,a3))) else if(eqI a0.Kind 3)=true then if 0<a0.Kids.length then grB (q1 (a0.Kids.getD 0 default) a1 a2 a3) (fun r5=>if 1<a0.Kids.length then grB (KO ((a0.Kids.getD 1 default).Tok) a1 r5.1 r5.2) (fun r6=>grB (q4 a1 r6.1 r6.2 a0) (fun r7=>some (.ok (r7.1,r7.2))) (fun e7=>some (.er (e7.1,e7.2.1,e7.2.2.1,e7.2.2.2.1,e7.2.2.2.2)))) (fun e6=>some (.er (7,e6.1,e6.2,r5.1,r5.2))) else none) (fun e5=>some (.er (e5.1,e5.2.1,e5.2.2.1,e5.2.2.2.1,e5.2.2.2.2))) else none else if(eqI a0.Kind 5)=true then grB (q3 a1 a2 a3 a0) (fun r8=>some (.ok (r8.1,r8.2))) (fun e8=>some (.er (e8.1,e8.2.1,e8.2.2.1,e8.2.2.2.1,e8.2.2.2.2))) else grB (q2 a0 a1 a2 a3) (fun r9=>some (.ok (r9.1,r9.2))) (fun e9=>some (.er (e9.1,e9.2.1,e9.2.2.1,e9.2.2.2.1,e9.2.2.2.2)))
theorem Jhn(q1:Node→(List Token)→(List KD)→(List Bind)→Option (GR (Int×Int×Int×(List KD)×(List Bind)) ((List KD)×(List Bind))))(q2:Node→(List Token)→(List KD)→(List Bind)→Option (GR (Int×Int×Int×(List KD)×(List Bind)) ((List KD)×(List Bind))))(q3:(List Token)→(List KD)→(List Bind)→Node→Option (GR (Int×Int×Int×(List KD)×(List Bind)) ((List KD)×(List Bind))))(q4:(List Token)→(List KD)→(List Bind)→Node→Option (GR (Int×Int×Int×(List KD)×(List Bind)) ((List KD)×(List Bind))))(q5:Node→(List Token)→(List KD)→(List Bind)→Option (GR (Int×Int×Int×(List KD)×(List Bind)) ((List KD)×(List Bind))))(q6:Node→(List Token)→(List KD)→(List Bind)→Option (GR (Int×Int×Int×(List KD)×(List Bind)) ((List KD)×(List Bind))))(kq1:Kok Try.prog 19 false (JX q1))(kq2:Kok Try.prog 40 false (J7 q2))(kq3:Kok Try.prog 41 false (Kh q3))(kq4:Kok Try.prog 41 false (JY q4))(kq5:Kok Try.prog 43 false (Ki q5))(kq6:Kok Try.prog 42 false (Kg q6)):∀ g,JX (Vv q1 q2 q3 q4 q5 q6) g→Jx Try.prog 19 g:=by
 rintro _ ⟨a0,a1,a2,a3,r,H,rfl⟩
 refine xGn mixed [] [(38,false,Jap),(39,false,ZS),(40,false,(J7 q2)),(19,false,(JX q1)),(41,false,(JY q4)),(41,false,(Kh q3))] [] trivial ⟨JiJ,Jih,kq2,kq1,kq4,kq3,trivial⟩ trivial Try.func19 _ ?_
 have G:=True.intro
 have Y:=xZ y_3 <| xZ y_9 <| xZ y_22 <| xZ y_24 <| xZ y_26 <| xZ y_44 <| xZ y_57 <| xZ y_61 <| xZ y_63 <| xZ Try.results19 <| xZ J2.eq_1 <| xZ Jb.eq_1 <| xZ Vu <| xZ Jm.eq_1 <| xZ Jan.eq_1 <| xZ ZR.eq_1 <| xZ V5.eq_1 <| xZ K3.eq_1 <| xZ Xl.eq_1 <| xZ Zf.eq_1 <| K3.eq_1
 dsimp only[K3]
 simp only[Vv]at H
 refine xS ?_
 refine xr ?_
 refine xr ?_
 refine xr ?_
 rcases Jc H with⟨hp1,H⟩|⟨hp1,H⟩
 ·obtain⟨F,G,hq1⟩:=xH Y G hp1
  refine xT ?_
  obtain⟨hg1,H⟩:=Jj H
  have F:=xZ Y (Jr Jb a1 a0.Tok.toNat default default (by omega))
  refine xR0 ?_
  refine Jq ?_
  refine Jge ?_
  refine JB (KR a0 a1 a2 a3) (fun s=>[(2,.c (.pt 2 0)),(3,.c (.pt 3 0)),(24,.c (.d (.v (.bool s))))]) (fun s=>[[.d (.sl 11 (List.map Jb a1)),.kc (KSK a2),.sl 2 (List.map Jm a3) 4],[.pt 1 0],[.pp (List.drop 0 (Jp a0).cells)]]) [40] r ?_ ?_
  ·refine xS ?_
   refine xr ?_
   rcases Jc H with⟨hp3,H⟩|⟨hp3,H⟩
   ·obtain⟨F,G,hq3⟩:=xH Y G hp3
    refine xT ?_
    exact Jf H (xK ⟨[1,3,4],[2]⟩)
   ·obtain⟨F,G,hq3⟩:=xH Y G hp3
    refine xE ?_
    refine xr ?_
    rcases Jc H with⟨hp4,H⟩|⟨hp4,H⟩
    ·obtain⟨F,G,hq4⟩:=xH Y G hp4
     refine xT ?_
     exact Jf H (xK ⟨[1,3,4],[2]⟩)
    ·obtain⟨F,G,hq4⟩:=xH Y G hp4
     refine xE ?_
     refine xr ?_
     rcases Jc H with⟨hp5,H⟩|⟨hp5,H⟩
     ·obtain⟨F,G,hq5⟩:=xH Y G hp5
      refine xT ?_
      exact Jf H (xK ⟨[1,3,4],[2]⟩)
     ·obtain⟨F,G,hq5⟩:=xH Y G hp5
      refine xE ?_
      refine xr ?_
      exact Jf H (xK ⟨[1,3,4],[2]⟩)
  ·rintro x1 H
   rw[KR]at H
   rcases Jc H with⟨hp2,H⟩|⟨hp2,H⟩
   ·obtain⟨F,G,hq2⟩:=xH Y G hp2
    replace H:=Option.some.inj H
    refine xT ?_
    subst H
    refine xrD [] ?_
    exact xO ⟨[1],[4]⟩
   ·obtain⟨F,G,hq2⟩:=xH Y G hp2
    refine xE ?_
    rcases Ja0 H with⟨r1,hr1,H⟩|⟨e1,hr2,H⟩
    ·have F:=Y
     refine xQ ?_
     refine xs 5 ?_
     refine xc ⟨[1],[4]⟩ (tabG 0 (Jca a0.Tok a1 a2 a3 (.ok r1) hr1)) ?_
     refine xl ?_
     replace H:=Option.some.inj H
     refine xS ?_
     subst H
     refine xnD [] ?_
     exact xO ⟨[1],[6]⟩
    ·have F:=Y
     refine xQp [29,30,31,32,33,34] ?_
     refine xs 5 ?_
     refine xp ⟨[1],[4]⟩ (tabG 0 (Jca a0.Tok a1 a2 a3 (.er e1) hr2)) ?_
     replace H:=Option.some.inj H
     refine xS ?_
     subst H
     refine xpD [] ?_
     exact xOv ⟨[1],[6]⟩
 ·obtain⟨F,G,hq1⟩:=xH Y G hp1
  refine xE ?_
  refine xr ?_
  rcases Jc H with⟨hp6,H⟩|⟨hp6,H⟩
  ·obtain⟨F,G,hq6⟩:=xH Y G hp6
   refine xT ?_
   rcases Ja0 H with⟨r2,hr3,H⟩|⟨e2,hr4,H⟩
   ·have F:=Y
    refine xQ ?_
    refine xs 5 ?_
    refine xc ⟨[1],[2]⟩ (tabG 0 (Jca a0.Tok a1 a2 a3 (.ok r2) hr3)) ?_
    refine xl ?_
    replace H:=Option.some.inj H
    refine xS ?_
    subst H
    refine xnD [] ?_
    exact xO ⟨[1],[6]⟩
   ·have F:=Y
    refine xQp [37,38,39,40,41,42] ?_
    refine xs 5 ?_
    refine xp ⟨[1],[2]⟩ (tabG 0 (Jca a0.Tok a1 a2 a3 (.er e2) hr4)) ?_
    replace H:=Option.some.inj H
    refine xS ?_
    subst H
    refine xpD [] ?_
    exact xOv ⟨[1],[6]⟩
  ·obtain⟨F,G,hq6⟩:=xH Y G hp6
   refine xE ?_
   refine xr ?_
   rcases Jc H with⟨hp7,H⟩|⟨hp7,H⟩
   ·obtain⟨F,G,hq7⟩:=xH Y G hp7
    refine xT ?_
    rcases Ja0 H with⟨r3,hr5,H⟩|⟨e3,hr6,H⟩
    ·have F:=Y
     refine xQ ?_
     refine xs 5 ?_
     refine xc ⟨[1],[2]⟩ (tabG 1 (JbA a0.Tok a1 a2 a3 (.ok r3) hr5)) ?_
     refine xl ?_
     refine xS ?_
     rcases Ja0 H with⟨r4,hr7,H⟩|⟨e4,hr8,H⟩
     ·have F:=Y
      refine xQ ?_
      refine xs 2 ?_
      refine xc ⟨[1],[6]⟩ (tabG 2 (Vj q2 a0 a1 r3.1 r3.2 (.ok r4) hr7)) ?_
      refine xl ?_
      replace H:=Option.some.inj H
      refine xS ?_
      subst H
      refine xnD [] ?_
      exact xO ⟨[1],[8]⟩
     ·have F:=Y
      refine xQp [51,52,53] ?_
      refine xs 2 ?_
      refine xp ⟨[1],[6]⟩ (tabG 2 (Vj q2 a0 a1 r3.1 r3.2 (.er e4) hr8)) ?_
      replace H:=Option.some.inj H
      refine xS ?_
      subst H
      refine xpD [] ?_
      exact xOv ⟨[1],[8]⟩
    ·have F:=Y
     refine xQp [45,46,47,48,49,50] ?_
     refine xs 5 ?_
     refine xp ⟨[1],[2]⟩ (tabG 1 (JbA a0.Tok a1 a2 a3 (.er e3) hr6)) ?_
     replace H:=Option.some.inj H
     refine xS ?_
     subst H
     refine xpD [] ?_
     exact xOv ⟨[1],[6]⟩
   ·obtain⟨F,G,hq7⟩:=xH Y G hp7
    refine xE ?_
    refine xr ?_
    rcases Jc H with⟨hp8,H⟩|⟨hp8,H⟩
    ·obtain⟨F,G,hq8⟩:=xH Y G hp8
     refine xT ?_
     obtain⟨hg2,H⟩:=Jj H
     have F:=xZ Y (Jr Jp a0.Kids 0 default default (by omega))
     rcases Ja0 H with⟨r5,hr9,H⟩|⟨e5,hr10,H⟩
     ·have F:=F
      refine xQ ?_
      refine xs 6 ?_
      refine xc ⟨[1],[2]⟩ (tabG 3 (VQ q1 (a0.Kids.getD 0 default) a1 a2 a3 (.ok r5) hr9)) ?_
      refine xl ?_
      refine xS ?_
      obtain⟨hg3,H⟩:=Jj H
      have F:=xZ Y (Jr Jp a0.Kids 1 default default (by omega))
      rcases Ja0 H with⟨r6,hr11,H⟩|⟨e6,hr12,H⟩
      ·have F:=F
       refine xQ ?_
       refine xs 8 ?_
       refine xc ⟨[1],[6]⟩ (tabG 1 (JbA ((a0.Kids.getD 1 default).Tok) a1 r5.1 r5.2 (.ok r6) hr11)) ?_
       refine xl ?_
       refine xS ?_
       rcases Ja0 H with⟨r7,hr13,H⟩|⟨e7,hr14,H⟩
       ·have F:=Y
        refine xQ ?_
        refine xs 2 ?_
        refine xc ⟨[1,4,3],[8]⟩ (tabG 4 (Jdh q4 a1 r6.1 r6.2 a0 (.ok r7) hr13)) ?_
        refine xl ?_
        replace H:=Option.some.inj H
        refine xS ?_
        subst H
        refine xnD [] ?_
        exact xO ⟨[1],[12]⟩
       ·have F:=Y
        refine xQp [72,73,74] ?_
        refine xs 2 ?_
        refine xp ⟨[1,4,3],[8]⟩ (tabG 4 (Jdh q4 a1 r6.1 r6.2 a0 (.er e7) hr14)) ?_
        replace H:=Option.some.inj H
        refine xS ?_
        subst H
        refine xpD [] ?_
        exact xOv ⟨[1],[12]⟩
      ·have F:=F
       refine xQp [63,64,65,66,67,68,69,70,71] ?_
       refine xs 8 ?_
       refine xp ⟨[1],[6]⟩ (tabG 1 (JbA ((a0.Kids.getD 1 default).Tok) a1 r5.1 r5.2 (.er e6) hr12)) ?_
       replace H:=Option.some.inj H
       refine xS ?_
       subst H
       refine xpD [] ?_
       exact xOv ⟨[1],[8]⟩
     ·have F:=F
      refine xQp [56,57,58,59,60,61,62] ?_
      refine xs 6 ?_
      refine xp ⟨[1],[2]⟩ (tabG 3 (VQ q1 (a0.Kids.getD 0 default) a1 a2 a3 (.er e5) hr10)) ?_
      replace H:=Option.some.inj H
      refine xS ?_
      subst H
      refine xpD [] ?_
      exact xOv ⟨[1],[6]⟩
    ·obtain⟨F,G,hq8⟩:=xH Y G hp8
     refine xE ?_
     refine xr ?_
     rcases Jc H with⟨hp9,H⟩|⟨hp9,H⟩
     ·obtain⟨F,G,hq9⟩:=xH Y G hp9
      refine xT ?_
      rcases Ja0 H with⟨r8,hr15,H⟩|⟨e8,hr16,H⟩
      ·have F:=Y
       refine xQ ?_
       refine xs 2 ?_
       refine xc ⟨[1,3,4],[2]⟩ (tabG 5 (JdZ q3 a1 a2 a3 a0 (.ok r8) hr15)) ?_
       refine xl ?_
       replace H:=Option.some.inj H
       refine xS ?_
       subst H
       refine xnD [] ?_
       exact xO ⟨[1],[8]⟩
      ·have F:=Y
       refine xQp [77,78,79] ?_
       refine xs 2 ?_
       refine xp ⟨[1,3,4],[2]⟩ (tabG 5 (JdZ q3 a1 a2 a3 a0 (.er e8) hr16)) ?_
       replace H:=Option.some.inj H
       refine xS ?_
       subst H
       refine xpD [] ?_
       exact xOv ⟨[1],[8]⟩
     ·obtain⟨F,G,hq9⟩:=xH Y G hp9
      refine xE ?_
      rcases Ja0 H with⟨r9,hr17,H⟩|⟨e9,hr18,H⟩
      ·have F:=Y
       refine xQ ?_
       refine xs 2 ?_
       refine xc ⟨[1],[2]⟩ (tabG 2 (Vj q2 a0 a1 a2 a3 (.ok r9) hr17)) ?_
       refine xl ?_
       replace H:=Option.some.inj H
       refine xS ?_
       subst H
       refine xnD [] ?_
       exact xO ⟨[1],[6]⟩
      ·have F:=Y
       refine xQp [8,9,10] ?_
       refine xs 2 ?_
       refine xp ⟨[1],[2]⟩ (tabG 2 (Vj q2 a0 a1 a2 a3 (.er e9) hr18)) ?_
       replace H:=Option.some.inj H
       refine xS ?_
       subst H
       refine xpD [] ?_
       exact xOv ⟨[1],[6]⟩
noncomputable def Xw(q1:Node→(List Token)→(List KD)→(List Bind)→Option (GR (Int×Int×Int×(List KD)×(List Bind)) ((List KD)×(List Bind))))(a0:Node)(a1:List Token):(Int×Int×(List KD)×(List Bind))→Option ((Int×Int×(List KD)×(List Bind)) ⊕ (GR (Int×Int×Int×(List KD)×(List Bind)) ((List KD)×(List Bind))))
 | (x1,x2,x3,x4)=>if(ltI x2 x1)=true then if(0:Int)≤x2∧x2.toNat<a0.Kids.length then grB (q1 (a0.Kids.getD x2.toNat default) a1 x3 x4) (fun r1=>some (.inl (x1,IntKind.i64.wrap (x2+1),r1.1,r1.2))) (fun e1=>inrO (some (.er (e1.1,e1.2.1,e1.2.2.1,e1.2.2.2.1,e1.2.2.2.2)))) else none else inrO (some (.ok (x3,x4)))
noncomputable def Jdc(q1:Node→(List Token)→(List KD)→(List Bind)→Option (GR (Int×Int×Int×(List KD)×(List Bind)) ((List KD)×(List Bind))))(q2:Node→(List Token)→(List KD)→(List Bind)→Option (GR (Int×Int×Int×(List KD)×(List Bind)) ((List KD)×(List Bind))))(q3:(List Token)→(List KD)→(List Bind)→Node→Option (GR (Int×Int×Int×(List KD)×(List Bind)) ((List KD)×(List Bind))))(q4:(List Token)→(List KD)→(List Bind)→Node→Option (GR (Int×Int×Int×(List KD)×(List Bind)) ((List KD)×(List Bind))))(q5:Node→(List Token)→(List KD)→(List Bind)→Option (GR (Int×Int×Int×(List KD)×(List Bind)) ((List KD)×(List Bind))))(q6:Node→(List Token)→(List KD)→(List Bind)→Option (GR (Int×Int×Int×(List KD)×(List Bind)) ((List KD)×(List Bind))))(a0:Node)(a1:List Token)(a2:List KD)(a3:List Bind):Option (GR (Int×Int×Int×(List KD)×(List Bind)) ((List KD)×(List Bind))) :=
 Jt (Xw q1 a0 a1) ((a0.Kids.length:Int),0,a2,a3)
theorem Jhl(q1:Node→(List Token)→(List KD)→(List Bind)→Option (GR (Int×Int×Int×(List KD)×(List Bind)) ((List KD)×(List Bind))))(q2:Node→(List Token)→(List KD)→(List Bind)→Option (GR (Int×Int×Int×(List KD)×(List Bind)) ((List KD)×(List Bind))))(q3:(List Token)→(List KD)→(List Bind)→Node→Option (GR (Int×Int×Int×(List KD)×(List Bind)) ((List KD)×(List Bind))))(q4:(List Token)→(List KD)→(List Bind)→Node→Option (GR (Int×Int×Int×(List KD)×(List Bind)) ((List KD)×(List Bind))))(q5:Node→(List Token)→(List KD)→(List Bind)→Option (GR (Int×Int×Int×(List KD)×(List Bind)) ((List KD)×(List Bind))))(q6:Node→(List Token)→(List KD)→(List Bind)→Option (GR (Int×Int×Int×(List KD)×(List Bind)) ((List KD)×(List Bind))))(kq1:Kok Try.prog 19 false (JX q1))(kq2:Kok Try.prog 40 false (J7 q2))(kq3:Kok Try.prog 41 false (Kh q3))(kq4:Kok Try.prog 41 false (JY q4))(kq5:Kok Try.prog 43 false (Ki q5))(kq6:Kok Try.prog 42 false (Kg q6)):∀ g,J7 (Jdc q1 q2 q3 q4 q5 q6) g→Jx Try.prog 40 g:=by
 rintro _ ⟨a0,a1,a2,a3,r,H,rfl⟩
 refine xGn mixed [] [(19,false,(JX q1))] [] trivial ⟨kq1,trivial⟩ trivial Try.func40 _ ?_
 have G:=True.intro
 have Y:=xZ y_24 <| xZ y_26 <| xZ Try.results40 <| xZ J2.eq_1 <| xZ Jb.eq_1 <| xZ Vu <| xZ Jm.eq_1 <| xZ K3.eq_1 <| V5.eq_1
 dsimp only[V5]
 simp only[Jdc]at H
 refine xS ?_
 refine xr ?_
 refine Ke (Xw q1 a0 a1) (fun s=>[(0,.c (.pt 1 0)),(1,.c (.pp (List.drop 0 (Jp a0).cells))),(9,.c (.d (.v (.int .i64 s.1)))),(10,.c (.d (.v (.int .i64 s.2.1))))]) (fun s=>[[.d (.sl 11 (List.map Jb a1)),.kc (KSK s.2.2.1),.sl 2 (List.map Jm s.2.2.2) 2]]) [40] H (xK ⟨[1],[2]⟩) ?_
 rintro n1 ⟨x1,x2,x3,x4⟩ o1 H hF1
 rw[Xw]at H
 refine xS ?_
 refine xr ?_
 rcases Jc H with⟨hp1,H⟩|⟨hp1,H⟩
 ·obtain⟨F,G,hq1⟩:=xH Y G hp1
  refine xT ?_
  refine xr ?_
  obtain⟨hg1,H⟩:=Jj H
  have F:=xZ Y (Jr Jp a0.Kids x2.toNat default default (by omega))
  rcases Ja0 H with⟨r1,hr1,H⟩|⟨e1,hr2,H⟩
  ·have F:=F
   refine xQ ?_
   refine xs 7 ?_
   refine xc ⟨[1],[2]⟩ (tabG 0 (VQ q1 (a0.Kids.getD x2.toNat default) a1 x3 x4 (.ok r1) hr1)) ?_
   refine xl ?_
   refine xS ?_
   refine xr ?_
   exact JD (JM H hF1) (xK ⟨[1],[4]⟩)
  ·have F:=F
   refine xQp [13,14,15,16,17,18,19,20] ?_
   refine xs 7 ?_
   refine xp ⟨[1],[2]⟩ (tabG 0 (VQ q1 (a0.Kids.getD x2.toNat default) a1 x3 x4 (.er e1) hr2)) ?_
   replace H:=Js H hF1
   replace H:=Option.some.inj H
   refine xS ?_
   subst H
   refine xpD [] ?_
   exact xOv ⟨[1],[4]⟩
 ·obtain⟨F,G,hq1⟩:=xH Y G hp1
  replace H:=Js H hF1
  replace H:=Option.some.inj H
  refine xE ?_
  subst H
  refine xnD [] ?_
  exact xO ⟨[1],[2]⟩
noncomputable def X1(q1:Node→(List Token)→(List KD)→(List Bind)→Option (GR (Int×Int×Int×(List KD)×(List Bind)) ((List KD)×(List Bind))))(q2:Node→(List Token)→(List KD)→(List Bind)→Option (GR (Int×Int×Int×(List KD)×(List Bind)) ((List KD)×(List Bind))))(q3:(List Token)→(List KD)→(List Bind)→Node→Option (GR (Int×Int×Int×(List KD)×(List Bind)) ((List KD)×(List Bind))))(q4:(List Token)→(List KD)→(List Bind)→Node→Option (GR (Int×Int×Int×(List KD)×(List Bind)) ((List KD)×(List Bind))))(q5:Node→(List Token)→(List KD)→(List Bind)→Option (GR (Int×Int×Int×(List KD)×(List Bind)) ((List KD)×(List Bind))))(q6:Node→(List Token)→(List KD)→(List Bind)→Option (GR (Int×Int×Int×(List KD)×(List Bind)) ((List KD)×(List Bind))))(a0:List Token)(a1:List KD)(a2:List Bind)(a3:Node):Option (GR (Int×Int×Int×(List KD)×(List Bind)) ((List KD)×(List Bind))) :=
 if a1.length<17592186044416 then grB (q5 a3 a0 (a1++[[]]) a2) (fun r1=>if 0<r1.1.length then some (.ok (List.dropLast r1.1,r1.2)) else none) (fun e1=>some (.er (e1.1,e1.2.1,e1.2.2.1,e1.2.2.2.1,e1.2.2.2.2))) else none
theorem JgN(q1:Node→(List Token)→(List KD)→(List Bind)→Option (GR (Int×Int×Int×(List KD)×(List Bind)) ((List KD)×(List Bind))))(q2:Node→(List Token)→(List KD)→(List Bind)→Option (GR (Int×Int×Int×(List KD)×(List Bind)) ((List KD)×(List Bind))))(q3:(List Token)→(List KD)→(List Bind)→Node→Option (GR (Int×Int×Int×(List KD)×(List Bind)) ((List KD)×(List Bind))))(q4:(List Token)→(List KD)→(List Bind)→Node→Option (GR (Int×Int×Int×(List KD)×(List Bind)) ((List KD)×(List Bind))))(q5:Node→(List Token)→(List KD)→(List Bind)→Option (GR (Int×Int×Int×(List KD)×(List Bind)) ((List KD)×(List Bind))))(q6:Node→(List Token)→(List KD)→(List Bind)→Option (GR (Int×Int×Int×(List KD)×(List Bind)) ((List KD)×(List Bind))))(kq1:Kok Try.prog 19 false (JX q1))(kq2:Kok Try.prog 40 false (J7 q2))(kq3:Kok Try.prog 41 false (Kh q3))(kq4:Kok Try.prog 41 false (JY q4))(kq5:Kok Try.prog 43 false (Ki q5))(kq6:Kok Try.prog 42 false (Kg q6)):∀ g,Kh (X1 q1 q2 q3 q4 q5 q6) g→Jx Try.prog 41 g:=by
 rintro _ ⟨a0,a1,a2,a3,r,H,rfl⟩
 refine xGnl mixed [1000030] [] [(43,false,(Ki q5))] [] trivial ⟨kq5,trivial⟩ trivial Try.func41 _ ?_
 have G:=True.intro
 have Y:=xZ y_58 <| xZ y_59 <| xZ y_61 <| xZ Try.results41 <| xZ J2.eq_1 <| xZ Jb.eq_1 <| xZ Vu <| xZ Jm.eq_1 <| xZ Zb.eq_1 <| xZ Zf.eq_1 <| xZ JbH <| xZ JaH <| xZ JaE <| xZ JbF <| xZ JbL <| xZ JaG <| xZ JaF <| JbM
 dsimp only[Zf]
 simp only[X1]at H
 refine xS ?_
 obtain⟨hgh,H⟩:=Jj H
 refine JqM a1 hgh ?_
 refine xS ?_
 rcases Ja0 H with⟨r1,hr1,H⟩|⟨e1,hr2,H⟩
 ·have F:=Y
  refine xQ ?_
  refine xs 1 ?_
  refine xc ⟨[2,3,1],[4]⟩ (tabG 0 (Jd3 q5 a3 a0 (a1++[[]]) a2 (.ok r1) hr1)) ?_
  refine xl ?_
  refine xS ?_
  obtain⟨hgh,H⟩:=Jj H
  refine Jtl r1.1 hgh ?_
  replace H:=Option.some.inj H
  subst H
  refine xnD [] ?_
  exact xO ⟨[1,2,3],[8]⟩
 ·have F:=Y
  refine xQp [14,15] ?_
  refine xs 1 ?_
  refine xp ⟨[2,3,1],[4]⟩ (tabG 0 (Jd3 q5 a3 a0 (a1++[[]]) a2 (.er e1) hr2)) ?_
  replace H:=Option.some.inj H
  refine xS ?_
  subst H
  refine xpD [] ?_
  exact xOv ⟨[1,2,3],[8]⟩
noncomputable def Xd(q1:Node→(List Token)→(List KD)→(List Bind)→Option (GR (Int×Int×Int×(List KD)×(List Bind)) ((List KD)×(List Bind))))(q2:Node→(List Token)→(List KD)→(List Bind)→Option (GR (Int×Int×Int×(List KD)×(List Bind)) ((List KD)×(List Bind))))(q3:(List Token)→(List KD)→(List Bind)→Node→Option (GR (Int×Int×Int×(List KD)×(List Bind)) ((List KD)×(List Bind))))(q4:(List Token)→(List KD)→(List Bind)→Node→Option (GR (Int×Int×Int×(List KD)×(List Bind)) ((List KD)×(List Bind))))(q5:Node→(List Token)→(List KD)→(List Bind)→Option (GR (Int×Int×Int×(List KD)×(List Bind)) ((List KD)×(List Bind))))(q6:Node→(List Token)→(List KD)→(List Bind)→Option (GR (Int×Int×Int×(List KD)×(List Bind)) ((List KD)×(List Bind))))(a0:List Token)(a1:List KD)(a2:List Bind)(a3:Node):Option (GR (Int×Int×Int×(List KD)×(List Bind)) ((List KD)×(List Bind))) :=
 if a1.length<17592186044416 then grB (q6 a3 a0 (a1++[[]]) a2) (fun r1=>if 0<r1.1.length then some (.ok (List.dropLast r1.1,r1.2)) else none) (fun e1=>some (.er (e1.1,e1.2.1,e1.2.2.1,e1.2.2.2.1,e1.2.2.2.2))) else none
theorem JfV(q1:Node→(List Token)→(List KD)→(List Bind)→Option (GR (Int×Int×Int×(List KD)×(List Bind)) ((List KD)×(List Bind))))(q2:Node→(List Token)→(List KD)→(List Bind)→Option (GR (Int×Int×Int×(List KD)×(List Bind)) ((List KD)×(List Bind))))(q3:(List Token)→(List KD)→(List Bind)→Node→Option (GR (Int×Int×Int×(List KD)×(List Bind)) ((List KD)×(List Bind))))(q4:(List Token)→(List KD)→(List Bind)→Node→Option (GR (Int×Int×Int×(List KD)×(List Bind)) ((List KD)×(List Bind))))(q5:Node→(List Token)→(List KD)→(List Bind)→Option (GR (Int×Int×Int×(List KD)×(List Bind)) ((List KD)×(List Bind))))(q6:Node→(List Token)→(List KD)→(List Bind)→Option (GR (Int×Int×Int×(List KD)×(List Bind)) ((List KD)×(List Bind))))(kq1:Kok Try.prog 19 false (JX q1))(kq2:Kok Try.prog 40 false (J7 q2))(kq3:Kok Try.prog 41 false (Kh q3))(kq4:Kok Try.prog 41 false (JY q4))(kq5:Kok Try.prog 43 false (Ki q5))(kq6:Kok Try.prog 42 false (Kg q6)):∀ g,JY (Xd q1 q2 q3 q4 q5 q6) g→Jx Try.prog 41 g:=by
 rintro _ ⟨a0,a1,a2,a3,r,H,rfl⟩
 refine xGnl mixed [1000030] [] [(42,false,(Kg q6))] [] trivial ⟨kq6,trivial⟩ trivial Try.func41 _ ?_
 have G:=True.intro
 have Y:=xZ y_58 <| xZ y_59 <| xZ y_61 <| xZ Try.results41 <| xZ J2.eq_1 <| xZ Jb.eq_1 <| xZ Vu <| xZ Jm.eq_1 <| xZ X0.eq_1 <| xZ Xl.eq_1 <| xZ JbH <| xZ JaH <| xZ JaE <| xZ JbF <| xZ JbL <| xZ JaG <| xZ JaF <| JbM
 dsimp only[Xl]
 simp only[Xd]at H
 refine xS ?_
 obtain⟨hgh,H⟩:=Jj H
 refine JqM a1 hgh ?_
 refine xS ?_
 rcases Ja0 H with⟨r1,hr1,H⟩|⟨e1,hr2,H⟩
 ·have F:=Y
  refine xQ ?_
  refine xs 1 ?_
  refine xc ⟨[2,3,1],[4]⟩ (tabG 0 (JdX q6 a3 a0 (a1++[[]]) a2 (.ok r1) hr1)) ?_
  refine xl ?_
  refine xS ?_
  obtain⟨hgh,H⟩:=Jj H
  refine Jtl r1.1 hgh ?_
  replace H:=Option.some.inj H
  subst H
  refine xnD [] ?_
  exact xO ⟨[1,2,3],[8]⟩
 ·have F:=Y
  refine xQp [14,15] ?_
  refine xs 1 ?_
  refine xp ⟨[2,3,1],[4]⟩ (tabG 0 (JdX q6 a3 a0 (a1++[[]]) a2 (.er e1) hr2)) ?_
  replace H:=Option.some.inj H
  refine xS ?_
  subst H
  refine xpD [] ?_
  exact xOv ⟨[1,2,3],[8]⟩
noncomputable def Jcu(q1:Node→(List Token)→(List KD)→(List Bind)→Option (GR (Int×Int×Int×(List KD)×(List Bind)) ((List KD)×(List Bind))))(q2:Node→(List Token)→(List KD)→(List Bind)→Option (GR (Int×Int×Int×(List KD)×(List Bind)) ((List KD)×(List Bind))))(q3:(List Token)→(List KD)→(List Bind)→Node→Option (GR (Int×Int×Int×(List KD)×(List Bind)) ((List KD)×(List Bind))))(q4:(List Token)→(List KD)→(List Bind)→Node→Option (GR (Int×Int×Int×(List KD)×(List Bind)) ((List KD)×(List Bind))))(q5:Node→(List Token)→(List KD)→(List Bind)→Option (GR (Int×Int×Int×(List KD)×(List Bind)) ((List KD)×(List Bind))))(q6:Node→(List Token)→(List KD)→(List Bind)→Option (GR (Int×Int×Int×(List KD)×(List Bind)) ((List KD)×(List Bind))))(a0:Node)(a1:List Token)(a2:List KD)(a3:List Bind):Option (GR (Int×Int×Int×(List KD)×(List Bind)) ((List KD)×(List Bind))) :=
 grB (q2 a0 a1 a2 a3) (fun r1=>some (.ok (r1.1,r1.2))) (fun e1=>some (.er (e1.1,e1.2.1,e1.2.2.1,e1.2.2.2.1,e1.2.2.2.2)))
theorem JgL(q1:Node→(List Token)→(List KD)→(List Bind)→Option (GR (Int×Int×Int×(List KD)×(List Bind)) ((List KD)×(List Bind))))(q2:Node→(List Token)→(List KD)→(List Bind)→Option (GR (Int×Int×Int×(List KD)×(List Bind)) ((List KD)×(List Bind))))(q3:(List Token)→(List KD)→(List Bind)→Node→Option (GR (Int×Int×Int×(List KD)×(List Bind)) ((List KD)×(List Bind))))(q4:(List Token)→(List KD)→(List Bind)→Node→Option (GR (Int×Int×Int×(List KD)×(List Bind)) ((List KD)×(List Bind))))(q5:Node→(List Token)→(List KD)→(List Bind)→Option (GR (Int×Int×Int×(List KD)×(List Bind)) ((List KD)×(List Bind))))(q6:Node→(List Token)→(List KD)→(List Bind)→Option (GR (Int×Int×Int×(List KD)×(List Bind)) ((List KD)×(List Bind))))(kq1:Kok Try.prog 19 false (JX q1))(kq2:Kok Try.prog 40 false (J7 q2))(kq3:Kok Try.prog 41 false (Kh q3))(kq4:Kok Try.prog 41 false (JY q4))(kq5:Kok Try.prog 43 false (Ki q5))(kq6:Kok Try.prog 42 false (Kg q6)):∀ g,Ki (Jcu q1 q2 q3 q4 q5 q6) g→Jx Try.prog 43 g:=by
 rintro _ ⟨a0,a1,a2,a3,r,H,rfl⟩
 refine xGn mixed [] [(40,false,(J7 q2))] [] trivial ⟨kq2,trivial⟩ trivial Try.func43 _ ?_
 have G:=True.intro
 have Y:=xZ y_57 <| xZ y_63 <| xZ Try.results43 <| xZ J2.eq_1 <| xZ Jb.eq_1 <| xZ Vu <| xZ Jm.eq_1 <| xZ V5.eq_1 <| Zb.eq_1
 dsimp only[Zb]
 simp only[Jcu]at H
 rcases Ja0 H with⟨r1,hr1,H⟩|⟨e1,hr2,H⟩
 ·have F:=Y
  refine xQ ?_
  refine xs 2 ?_
  refine xc ⟨[3],[4]⟩ (tabG 0 (Vj q2 a0 a1 a2 a3 (.ok r1) hr1)) ?_
  refine xl ?_
  replace H:=Option.some.inj H
  refine xS ?_
  subst H
  refine xnD [] ?_
  exact xO ⟨[1,2,3],[6]⟩
 ·have F:=Y
  refine xQp [2,3,4] ?_
  refine xs 2 ?_
  refine xp ⟨[3],[4]⟩ (tabG 0 (Vj q2 a0 a1 a2 a3 (.er e1) hr2)) ?_
  replace H:=Option.some.inj H
  refine xS ?_
  subst H
  refine xpD [] ?_
  exact xOv ⟨[1,2,3],[6]⟩
noncomputable def VY(q2:Node→(List Token)→(List KD)→(List Bind)→Option (GR (Int×Int×Int×(List KD)×(List Bind)) ((List KD)×(List Bind))))(q1:Node→(List Token)→(List KD)→(List Bind)→Option (GR (Int×Int×Int×(List KD)×(List Bind)) ((List KD)×(List Bind))))(a0:Node)(a1:List Token):(Int×(List KD)×(List Bind))→Option ((Int×(List KD)×(List Bind)) ⊕ (GR (Int×Int×Int×(List KD)×(List Bind)) ((List KD)×(List Bind))))
 | (x1,x2,x3)=>if(ltI x1 (IntKind.i64.wrap ((a0.Kids.length:Int)-1)))=true then if(0:Int)≤x1∧x1.toNat<a0.Kids.length then grB (q1 (a0.Kids.getD x1.toNat default) a1 x2 x3) (fun r1=>some (.inl (IntKind.i64.wrap (x1+1),r1.1,r1.2))) (fun e1=>inrO (some (.er (e1.1,e1.2.1,e1.2.2.1,e1.2.2.2.1,e1.2.2.2.2)))) else none else inrO (if(0:Int)≤(IntKind.i64.wrap ((a0.Kids.length:Int)-1))∧(IntKind.i64.wrap ((a0.Kids.length:Int)-1)).toNat<a0.Kids.length then grB (q2 (a0.Kids.getD ((IntKind.i64.wrap ((a0.Kids.length:Int)-1)).toNat) default) a1 x2 x3) (fun r2=>some (.ok (r2.1,r2.2))) (fun e2=>some (.er (e2.1,e2.2.1,e2.2.2.1,e2.2.2.2.1,e2.2.2.2.2))) else none)
noncomputable def JcC(q1:Node→(List Token)→(List KD)→(List Bind)→Option (GR (Int×Int×Int×(List KD)×(List Bind)) ((List KD)×(List Bind))))(q2:Node→(List Token)→(List KD)→(List Bind)→Option (GR (Int×Int×Int×(List KD)×(List Bind)) ((List KD)×(List Bind))))(q3:(List Token)→(List KD)→(List Bind)→Node→Option (GR (Int×Int×Int×(List KD)×(List Bind)) ((List KD)×(List Bind))))(q4:(List Token)→(List KD)→(List Bind)→Node→Option (GR (Int×Int×Int×(List KD)×(List Bind)) ((List KD)×(List Bind))))(q5:Node→(List Token)→(List KD)→(List Bind)→Option (GR (Int×Int×Int×(List KD)×(List Bind)) ((List KD)×(List Bind))))(q6:Node→(List Token)→(List KD)→(List Bind)→Option (GR (Int×Int×Int×(List KD)×(List Bind)) ((List KD)×(List Bind))))(a0:Node)(a1:List Token)(a2:List KD)(a3:List Bind):Option (GR (Int×Int×Int×(List KD)×(List Bind)) ((List KD)×(List Bind))) :=
 Jt (VY q2 q1 a0 a1) (2,a2,a3)
theorem JgM(q1:Node→(List Token)→(List KD)→(List Bind)→Option (GR (Int×Int×Int×(List KD)×(List Bind)) ((List KD)×(List Bind))))(q2:Node→(List Token)→(List KD)→(List Bind)→Option (GR (Int×Int×Int×(List KD)×(List Bind)) ((List KD)×(List Bind))))(q3:(List Token)→(List KD)→(List Bind)→Node→Option (GR (Int×Int×Int×(List KD)×(List Bind)) ((List KD)×(List Bind))))(q4:(List Token)→(List KD)→(List Bind)→Node→Option (GR (Int×Int×Int×(List KD)×(List Bind)) ((List KD)×(List Bind))))(q5:Node→(List Token)→(List KD)→(List Bind)→Option (GR (Int×Int×Int×(List KD)×(List Bind)) ((List KD)×(List Bind))))(q6:Node→(List Token)→(List KD)→(List Bind)→Option (GR (Int×Int×Int×(List KD)×(List Bind)) ((List KD)×(List Bind))))(kq1:Kok Try.prog 19 false (JX q1))(kq2:Kok Try.prog 40 false (J7 q2))(kq3:Kok Try.prog 41 false (Kh q3))(kq4:Kok Try.prog 41 false (JY q4))(kq5:Kok Try.prog 43 false (Ki q5))(kq6:Kok Try.prog 42 false (Kg q6)):∀ g,Kg (JcC q1 q2 q3 q4 q5 q6) g→Jx Try.prog 42 g:=by
 rintro _ ⟨a0,a1,a2,a3,r,H,rfl⟩
 refine xGn mixed [] [(19,false,(JX q1)),(40,false,(J7 q2))] [] trivial ⟨kq1,kq2,trivial⟩ trivial Try.func42 _ ?_
 have G:=True.intro
 have Y:=xZ y_24 <| xZ y_26 <| xZ y_57 <| xZ y_63 <| xZ Try.results42 <| xZ J2.eq_1 <| xZ Jb.eq_1 <| xZ Vu <| xZ Jm.eq_1 <| xZ K3.eq_1 <| xZ V5.eq_1 <| X0.eq_1
 dsimp only[X0]
 simp only[JcC]at H
 refine xS ?_
 refine xr ?_
 refine Ke (VY q2 q1 a0 a1) (fun s=>[(0,.c (.pt 1 0)),(1,.c (.pt 2 0)),(2,.c (.d (.v (.int .i64 s.1))))]) (fun s=>[[.pp (List.drop 0 (Jp a0).cells)],[.pt 3 0],[.d (.sl 11 (List.map Jb a1)),.kc (KSK s.2.1),.sl 2 (List.map Jm s.2.2) 4]]) [40] H (xK ⟨[1,2,3],[4]⟩) ?_
 rintro n1 ⟨x1,x2,x3⟩ o1 H hF1
 rw[VY]at H
 refine xS ?_
 refine xr ?_
 rcases Jc H with⟨hp1,H⟩|⟨hp1,H⟩
 ·obtain⟨F,G,hq1⟩:=xH Y G hp1
  refine xT ?_
  obtain⟨hg1,H⟩:=Jj H
  have F:=xZ Y (Jr Jp a0.Kids x1.toNat default default (by omega))
  rcases Ja0 H with⟨r1,hr1,H⟩|⟨e1,hr2,H⟩
  ·have F:=F
   refine xQ ?_
   refine xs 7 ?_
   refine xc ⟨[3],[4]⟩ (tabG 0 (VQ q1 (a0.Kids.getD x1.toNat default) a1 x2 x3 (.ok r1) hr1)) ?_
   refine xl ?_
   refine xS ?_
   refine xr ?_
   exact JD (JM H hF1) (xK ⟨[1,2,3],[6]⟩)
  ·have F:=F
   refine xQp [13,14,15,16,17,18,19,20] ?_
   refine xs 7 ?_
   refine xp ⟨[3],[4]⟩ (tabG 0 (VQ q1 (a0.Kids.getD x1.toNat default) a1 x2 x3 (.er e1) hr2)) ?_
   replace H:=Js H hF1
   replace H:=Option.some.inj H
   refine xS ?_
   subst H
   refine xpD [] ?_
   exact xOv ⟨[1,2,3],[6]⟩
 ·obtain⟨F,G,hq1⟩:=xH Y G hp1
  replace H:=Js H hF1
  refine xE ?_
  obtain⟨hg2,H⟩:=Jj H
  have F:=xZ Y (Jr Jp a0.Kids ((IntKind.i64.wrap ((a0.Kids.length:Int)-1)).toNat) default default (by omega))
  rcases Ja0 H with⟨r2,hr3,H⟩|⟨e2,hr4,H⟩
  ·have F:=F
   refine xQ ?_
   refine xs 12 ?_
   refine xc ⟨[3],[4]⟩ (tabG 1 (Vj q2 (a0.Kids.getD ((IntKind.i64.wrap ((a0.Kids.length:Int)-1)).toNat) default) a1 x2 x3 (.ok r2) hr3)) ?_
   refine xl ?_
   replace H:=Option.some.inj H
   refine xS ?_
   subst H
   refine xnD [] ?_
   exact xO ⟨[1,2,3],[6]⟩
  ·have F:=F
   refine xQp [21,22,23,24,25,26,27,28,29,30,31,32,33] ?_
   refine xs 12 ?_
   refine xp ⟨[3],[4]⟩ (tabG 1 (Vj q2 (a0.Kids.getD ((IntKind.i64.wrap ((a0.Kids.length:Int)-1)).toNat) default) a1 x2 x3 (.er e2) hr4)) ?_
   replace H:=Option.some.inj H
   refine xS ?_
   subst H
   refine xpD [] ?_
   exact xOv ⟨[1,2,3],[6]⟩
noncomputable def Ja:Nat→(Node→(List Token)→(List KD)→(List Bind)→Option (GR (Int×Int×Int×(List KD)×(List Bind)) ((List KD)×(List Bind))))×(Node→(List Token)→(List KD)→(List Bind)→Option (GR (Int×Int×Int×(List KD)×(List Bind)) ((List KD)×(List Bind))))×((List Token)→(List KD)→(List Bind)→Node→Option (GR (Int×Int×Int×(List KD)×(List Bind)) ((List KD)×(List Bind))))×((List Token)→(List KD)→(List Bind)→Node→Option (GR (Int×Int×Int×(List KD)×(List Bind)) ((List KD)×(List Bind))))×(Node→(List Token)→(List KD)→(List Bind)→Option (GR (Int×Int×Int×(List KD)×(List Bind)) ((List KD)×(List Bind))))×(Node→(List Token)→(List KD)→(List Bind)→Option (GR (Int×Int×Int×(List KD)×(List Bind)) ((List KD)×(List Bind))))
 | 0=>(fun _ _ _ _=>none,fun _ _ _ _=>none,fun _ _ _ _=>none,fun _ _ _ _=>none,fun _ _ _ _=>none,fun _ _ _ _=>none)
 | n+1=>(Vv ((Ja n).1) ((Ja n).2.1) ((Ja n).2.2.1) ((Ja n).2.2.2.1) ((Ja n).2.2.2.2.1) ((Ja n).2.2.2.2.2),Jdc ((Ja n).1) ((Ja n).2.1) ((Ja n).2.2.1) ((Ja n).2.2.2.1) ((Ja n).2.2.2.2.1) ((Ja n).2.2.2.2.2),X1 ((Ja n).1) ((Ja n).2.1) ((Ja n).2.2.1) ((Ja n).2.2.2.1) ((Ja n).2.2.2.2.1) ((Ja n).2.2.2.2.2),Xd ((Ja n).1) ((Ja n).2.1) ((Ja n).2.2.1) ((Ja n).2.2.2.1) ((Ja n).2.2.2.2.1) ((Ja n).2.2.2.2.2),Jcu ((Ja n).1) ((Ja n).2.1) ((Ja n).2.2.1) ((Ja n).2.2.2.1) ((Ja n).2.2.2.2.1) ((Ja n).2.2.2.2.2),JcC ((Ja n).1) ((Ja n).2.1) ((Ja n).2.2.1) ((Ja n).2.2.2.1) ((Ja n).2.2.2.2.1) ((Ja n).2.2.2.2.2))
theorem JdN:∀ n,Kok Try.prog 19 false (JX (Ja n).1)∧Kok Try.prog 40 false (J7 (Ja n).2.1)∧Kok Try.prog 41 false (Kh (Ja n).2.2.1)∧Kok Try.prog 41 false (JY (Ja n).2.2.2.1)∧Kok Try.prog 43 false (Ki (Ja n).2.2.2.2.1)∧Kok Try.prog 42 false (Kg (Ja n).2.2.2.2.2)
 | 0=>⟨⟨JqN,(by rintro _ ⟨_,_,_,_,_,H,_⟩; cases H),nofun⟩,⟨Jrs,(by rintro _ ⟨_,_,_,_,_,H,_⟩; cases H),nofun⟩,⟨Jjx,(by rintro _ ⟨_,_,_,_,_,H,_⟩; cases H),nofun⟩,⟨Jjx,(by rintro _ ⟨_,_,_,_,_,H,_⟩; cases H),nofun⟩,⟨Jrm,(by rintro _ ⟨_,_,_,_,_,H,_⟩; cases H),nofun⟩,⟨Jr5,(by rintro _ ⟨_,_,_,_,_,H,_⟩; cases H),nofun⟩⟩
 | n+1=>have h:=JdN n; ⟨⟨JqN,Jhn _ _ _ _ _ _ h.1 h.2.1 h.2.2.1 h.2.2.2.1 h.2.2.2.2.1 h.2.2.2.2.2,nofun⟩,⟨Jrs,Jhl _ _ _ _ _ _ h.1 h.2.1 h.2.2.1 h.2.2.2.1 h.2.2.2.2.1 h.2.2.2.2.2,nofun⟩,⟨Jjx,JgN _ _ _ _ _ _ h.1 h.2.1 h.2.2.1 h.2.2.2.1 h.2.2.2.2.1 h.2.2.2.2.2,nofun⟩,⟨Jjx,JfV _ _ _ _ _ _ h.1 h.2.1 h.2.2.1 h.2.2.2.1 h.2.2.2.2.1 h.2.2.2.2.2,nofun⟩,⟨Jrm,JgL _ _ _ _ _ _ h.1 h.2.1 h.2.2.1 h.2.2.2.1 h.2.2.2.2.1 h.2.2.2.2.2,nofun⟩,⟨Jr5,JgM _ _ _ _ _ _ h.1 h.2.1 h.2.2.1 h.2.2.2.1 h.2.2.2.2.1 h.2.2.2.2.2,nofun⟩⟩
noncomputable def JaS:Node→(List Token)→(List KD)→(List Bind)→Option (GR (Int×Int×Int×(List KD)×(List Bind)) ((List KD)×(List Bind))):=(Ja bigF).1
def Jdb:GI→Prop:=JX JaS
theorem Je7(a0:Node)(a1:List Token)(a2:List KD)(a3:List Bind)(r:GR (Int×Int×Int×(List KD)×(List Bind)) ((List KD)×(List Bind)))(H:JaS a0 a1 a2 a3=some r):Jdb (K3 a0 a1 a2 a3 r):=VQ JaS a0 a1 a2 a3 r H
theorem Jio:Kok Try.prog 19 false Jdb:=(JdN bigF).1
noncomputable def JbN(a0:Int):Option Bool :=
 some (!eqI a0 a0)
noncomputable def Jeq:PF:=PF.of (E1 dI) (fun a=>JbN a) dB
theorem JkF:Kl Try.prog 46 Jeq:=by
 refine xF mixed [] [] trivial trivial Try.func46 ?_
 rintro a0 out H
 have G:=True.intro
 have Y:=Try.results46
 simp only[JbN]at H
 refine xS ?_
 refine xr ?_
 replace H:=Option.some.inj H
 refine xr ?_
 subst H
 exact xN
theorem JgW(a0:Int)(r:Bool)(H:JbN a0=some r):PC Jeq [dI a0] (dB r):=PF.c (a:=a0) H
noncomputable def Zo(a0:Int)(a1:Int):Option Int :=
 (JbN a0).bind fun r1=>(JbN a1).bind fun r2=>if r1=true then if r2=true then some 0 else some (-1) else if r2=true then some 1 else if(ltI a0 a1)=true then some (-1) else if(ltI a1 a0)=true then some 1 else some 0
noncomputable def Jb0:PF:=PF.of (E2 dI dI) (fun a=>Zo a.1 a.2) dI
theorem JfG:Kl Try.prog 22 Jb0:=by
 refine xF mixed [(46,Jeq)] [] ⟨⟨Jwx,JkF⟩,trivial⟩ trivial Try.func22 ?_
 rintro ⟨a0,a1⟩ out H
 have G:=True.intro
 have Y:=Try.results22
 simp only[Zo]at H
 refine xS ?_
 refine xr ?_
 obtain⟨r1,hr1,H⟩:=Jg H
 have F:=xC Y (JgW a0 r1 hr1)
 refine xR ?_
 obtain⟨r2,hr2,H⟩:=Jg H
 have F:=xC Y (JgW a1 r2 hr2)
 refine xR ?_
 refine xr ?_
 rcases Jc H with⟨hp1,H⟩|⟨hp1,H⟩
 ·obtain⟨F,G,hq1⟩:=xH Y G hp1
  refine xT ?_
  refine xr ?_
  rcases Jc H with⟨hp2,H⟩|⟨hp2,H⟩
  ·obtain⟨F,G,hq2⟩:=xH Y G hp2
   refine xT ?_
   replace H:=Option.some.inj H
   refine xr ?_
   subst H
   exact xN
  ·obtain⟨F,G,hq2⟩:=xH Y G hp2
   refine xE ?_
   replace H:=Option.some.inj H
   refine xr ?_
   subst H
   exact xN
 ·obtain⟨F,G,hq1⟩:=xH Y G hp1
  refine xE ?_
  refine xr ?_
  rcases Jc H with⟨hp3,H⟩|⟨hp3,H⟩
  ·obtain⟨F,G,hq3⟩:=xH Y G hp3
   refine xT ?_
   replace H:=Option.some.inj H
   refine xr ?_
   subst H
   exact xN
  ·obtain⟨F,G,hq3⟩:=xH Y G hp3
   refine xE ?_
   refine xr ?_
   rcases Jc H with⟨hp4,H⟩|⟨hp4,H⟩
   ·obtain⟨F,G,hq4⟩:=xH Y G hp4
    refine xT ?_
    replace H:=Option.some.inj H
    refine xr ?_
    subst H
    exact xN
   ·obtain⟨F,G,hq4⟩:=xH Y G hp4
    refine xE ?_
    refine xr ?_
    rcases Jc H with⟨hp5,H⟩|⟨hp5,H⟩
    ·obtain⟨F,G,hq5⟩:=xH Y G hp5
     refine xT ?_
     replace H:=Option.some.inj H
     refine xr ?_
     subst H
     exact xN
    ·obtain⟨F,G,hq5⟩:=xH Y G hp5
     refine xE ?_
     replace H:=Option.some.inj H
     refine xr ?_
     subst H
     exact xN
theorem JfX(a0:Int)(a1:Int)(r:Int)(H:Zo a0 a1=some r):PC Jb0 [dI a0,dI a1] (dI r):=PF.c (a:=(a0,a1)) H
noncomputable def V7(a0:Bind)(a1:Bind):Option Int :=
 (Zo a0.Tok a1.Tok).bind fun r1=>some r1
noncomputable def X5:PF:=PF.of (E2 Jm Jm) (fun a=>V7 a.1 a.2) dI
theorem Jb3:Kl Try.prog 21 X5:=by
 refine xF mixed [(22,Jb0)] [] ⟨⟨Jq3,JfG⟩,trivial⟩ trivial Try.func21 ?_
 rintro ⟨a0,a1⟩ out H
 have G:=True.intro
 have Y:=xZ y_3 <| xZ y_40 <| xZ Try.results21 <| Jm.eq_1
 simp only[V7]at H
 refine xS ?_
 refine xr ?_
 obtain⟨r1,hr1,H⟩:=Jg H
 have F:=xC Y (JfX a0.Tok a1.Tok r1 hr1)
 replace H:=Option.some.inj H
 refine xR ?_
 subst H
 exact xN
theorem Jco(a0:Bind)(a1:Bind)(r:Int)(H:V7 a0 a1=some r):PC X5 [Jm a0,Jm a1] (dI r):=PF.c (a:=(a0,a1)) H
noncomputable def Km(a0:List Bind)(x1:Int):Bool→Option (Unit ⊕ (Int ⊕ Unit))
 | x2=>if x2=true then if(0:Int)≤(IntKind.i64.wrap (x1-1))∧(IntKind.i64.wrap (x1-1)).toNat<a0.length then if(0:Int)≤x1∧x1.toNat<a0.length then if(0:Int)≤x1∧x1.toNat<a0.length then none else none else none else none else inrO (some (.inl (IntKind.i64.wrap (x1+1))))
noncomputable def Kq(a0:List Bind)(a1:Int)(x1:Int):Unit→Option (Unit ⊕ (Int ⊕ Unit))
 | ()=>if(ltI a1 x1)=true then if(0:Int)≤x1∧x1.toNat<a0.length then if(0:Int)≤(IntKind.i64.wrap (x1-1))∧(IntKind.i64.wrap (x1-1)).toNat<a0.length then(V7 (a0.getD x1.toNat default) (a0.getD ((IntKind.i64.wrap (x1-1)).toNat) default)).bind fun r1=>Km a0 x1 (ltI r1 0) else none else none else Km a0 x1 false
noncomputable def JZ(a0:List Bind)(a1:Int)(a2:Int):Int→Option (Int ⊕ Unit)
 | x1=>if(ltI x1 a2)=true then Jt (Kq a0 a1 x1) () else inrO (some ())
noncomputable def Kc(a0:List Bind)(a1:Int)(a2:Int):Option Unit :=
 Jt (JZ a0 a1 a2) (IntKind.i64.wrap (a1+1))
noncomputable def Kt(a0:List Bind)(a1:Int)(a2:Int)(r:Unit):GI :=
 ⟨[.c (.d (.sl 2 (List.map Jm a0))),.c (.d (.v (.int .i64 a1))),.c (.d (.v (.int .i64 a2))),.c (.d (.v (.func (.func 21) #[] #[])))],[],[],.ret (.tu []) [] []⟩
def Ku:GI→Prop:=fun g=>∃ (a0:List Bind) (a1:Int) (a2:Int) (r:Unit),Kc a0 a1 a2=some r∧g=Kt a0 a1 a2 r
theorem Jdf(a0:List Bind)(a1:Int)(a2:Int)(r:Unit)(H:Kc a0 a1 a2=some r):Ku (Kt a0 a1 a2 r):=⟨a0,a1,a2,r,H,rfl⟩
theorem Jc2:∀ g,Ku g→Jx Try.prog 64 g:=by
 rintro _ ⟨a0,a1,a2,r,H,rfl⟩
 refine xGn mixed [(21,X5)] [] [] ⟨⟨Jjy,Jb3⟩,trivial⟩ trivial trivial Try.func64 _ ?_
 have G:=True.intro
 have Y:=xZ y_32 <| xZ y_40 <| xZ Try.results64 <| xZ Jm.eq_1 <| Kt.eq_1
 dsimp only[Kt]
 unfold Kc at H
 refine xS ?_
 refine xr ?_
 refine Ke (JZ a0 a1 a2) (fun s=>[(0,.c (.d (.sl 2 (List.map Jm a0)))),(1,.c (.d (.v (.int .i64 a1)))),(2,.c (.d (.v (.int .i64 a2)))),(3,.c (.d (.v (.func (.func 21) #[] #[])))),(8,.c (.d (.v (.int .i64 s))))]) (fun s=>[]) [] H (xK ⟨[],[]⟩) ?_
 rintro n1 x1 o1 H hF1
 rw[JZ]at H
 refine xS ?_
 refine xr ?_
 rcases Jc H with⟨hp1,H⟩|⟨hp1,H⟩
 ·obtain⟨F,G,hq1⟩:=xH Y G hp1
  refine xT ?_
  refine xr ?_
  refine Ke (Kq a0 a1 x1) (fun s=>[(0,.c (.d (.sl 2 (List.map Jm a0)))),(1,.c (.d (.v (.int .i64 a1)))),(2,.c (.d (.v (.int .i64 a2)))),(3,.c (.d (.v (.func (.func 21) #[] #[])))),(8,.c (.d (.v (.int .i64 x1)))),(9,.c (.d (.v (.int .i64 x1))))]) (fun s=>[]) [] H (xK ⟨[],[]⟩) ?_
  rintro n2 ⟨⟩ o2 H hF2
  rw[Kq]at H
  refine Zn ?_
  refine JB (Km a0 x1) (fun s=>[(0,.c (.d (.sl 2 (List.map Jm a0)))),(1,.c (.d (.v (.int .i64 a1)))),(2,.c (.d (.v (.int .i64 a2)))),(3,.c (.d (.v (.func (.func 21) #[] #[])))),(8,.c (.d (.v (.int .i64 x1)))),(9,.c (.d (.v (.int .i64 x1)))),(34,.c (.d (.v (.bool s))))]) (fun s=>[]) [] o2 ?_ ?_
  ·rcases Jc H with⟨hp3,H⟩|⟨hp3,H⟩
   ·obtain⟨F,G,hq3⟩:=xH Y G hp3
    obtain⟨hg4,H⟩:=Jj H
    have F:=xZ F (Jr Jm a0 x1.toNat default default (by omega))
    obtain⟨hg5,H⟩:=Jj H
    have F:=xZ F (Jr Jm a0 ((IntKind.i64.wrap (x1-1)).toNat) default default (by omega))
    obtain⟨r1,hr1,H⟩:=Jg H
    have F:=xCf F (Jco (a0.getD x1.toNat default) (a0.getD ((IntKind.i64.wrap (x1-1)).toNat) default) r1 hr1)
    refine xR ?_
    exact Jf H (xK ⟨[],[]⟩)
   ·obtain⟨F,G,hq3⟩:=xH Y G hp3
    refine xR ?_
    exact Jf H (xK ⟨[],[]⟩)
  ·rintro x2 H
   rw[Km]at H
   rcases Jc H with⟨hp2,H⟩|⟨hp2,H⟩
   ·obtain⟨F,G,hq2⟩:=xH Y G hp2
    refine xT ?_
    obtain⟨hg1,H⟩:=Jj H
    have F:=xZ Y (Jr Jm a0 ((IntKind.i64.wrap (x1-1)).toNat) default default (by omega))
    obtain⟨hg2,H⟩:=Jj H
    have F:=xZ F (Jr Jm a0 x1.toNat default default (by omega))
    obtain⟨hg3,H⟩:=Jj H
    have F:=xZ F (Jr Jm a0 x1.toNat default default (by omega))
    cases H
   ·obtain⟨F,G,hq2⟩:=xH Y G hp2
    replace H:=Js H hF2
    refine xE ?_
    refine xr ?_
    exact JD (JM H hF1) (xK ⟨[],[]⟩)
 ·obtain⟨F,G,hq1⟩:=xH Y G hp1
  replace H:=Js H hF1
  refine xE ?_
  refine xnD [] ?_
  exact xO ⟨[],[]⟩
theorem Jdd:Jh Try.prog 64∧(∀ g,Ku g→Jx Try.prog 64 g)∧(true=true→∀ g,Ku g→∃ val bs ts,g.out=.ret val bs ts) :=
 ⟨Jwo,Jc2,fun _=>by rintro _ ⟨_,_,_,_,_,rfl⟩; exact⟨_,_,_,rfl⟩⟩
noncomputable def J4(a0:List Bind)(a1:Int)(a2:Int)(a3:Int):Option (Int×Int×Int) :=
 if(0:Int)≤a2∧a2.toNat<a0.length then if(0:Int)≤a1∧a1.toNat<a0.length then(V7 (a0.getD a2.toNat default) (a0.getD a1.toNat default)).bind fun r1=>if(ltI r1 0)=true then some (a2,a1,IntKind.i64.wrap (a3+1)) else some (a1,a2,a3) else none else none
noncomputable def Va(a0:List Bind)(a1:Int)(a2:Int)(a3:Int)(r:(Int×Int×Int)):GI :=
 ⟨[.c (.d (.sl 2 (List.map Jm a0))),.c (.d (.v (.int .i64 a1))),.c (.d (.v (.int .i64 a2))),.c (.pt 1 0),.c (.d (.v (.func (.func 21) #[] #[])))],[[.d (.v (.int .i64 a3))]],[],.ret (.tu [(false,[.d (.v (.int .i64 r.1))]),(false,[.d (.v (.int .i64 r.2.1))])]) [[.d (.v (.int .i64 r.2.2))]] []⟩
def K8:GI→Prop:=fun g=>∃ (a0:List Bind) (a1:Int) (a2:Int) (a3:Int) (r:(Int×Int×Int)),J4 a0 a1 a2 a3=some r∧g=Va a0 a1 a2 a3 r
theorem Zg(a0:List Bind)(a1:Int)(a2:Int)(a3:Int)(r:(Int×Int×Int))(H:J4 a0 a1 a2 a3=some r):K8 (Va a0 a1 a2 a3 r):=⟨a0,a1,a2,a3,r,H,rfl⟩
theorem Jep:∀ g,K8 g→Jx Try.prog 87 g:=by
 rintro _ ⟨a0,a1,a2,a3,r,H,rfl⟩
 refine xGn mixed [(21,X5)] [] [] ⟨⟨Jjy,Jb3⟩,trivial⟩ trivial trivial Try.func87 _ ?_
 have G:=True.intro
 have Y:=xZ y_3 <| xZ y_32 <| xZ y_40 <| xZ Try.results87 <| xZ Jm.eq_1 <| Va.eq_1
 dsimp only[Va]
 simp only[J4]at H
 refine xS ?_
 refine xr ?_
 obtain⟨hg1,H⟩:=Jj H
 have F:=xZ Y (Jr Jm a0 a2.toNat default default (by omega))
 obtain⟨hg2,H⟩:=Jj H
 have F:=xZ F (Jr Jm a0 a1.toNat default default (by omega))
 obtain⟨r1,hr1,H⟩:=Jg H
 have F:=xCf F (Jco (a0.getD a2.toNat default) (a0.getD a1.toNat default) r1 hr1)
 refine xR ?_
 rcases Jc H with⟨hp1,H⟩|⟨hp1,H⟩
 ·obtain⟨F,G,hq1⟩:=xH Y G hp1
  refine xT ?_
  refine xr ?_
  replace H:=Option.some.inj H
  refine xr ?_
  subst H
  refine xrD [] ?_
  exact xO ⟨[1],[]⟩
 ·obtain⟨F,G,hq1⟩:=xH Y G hp1
  refine xE ?_
  replace H:=Option.some.inj H
  refine xr ?_
  subst H
  refine xrD [] ?_
  exact xO ⟨[1],[]⟩
theorem JeC:Jh Try.prog 87∧(∀ g,K8 g→Jx Try.prog 87 g)∧(true=true→∀ g,K8 g→∃ val bs ts,g.out=.ret val bs ts) :=
 ⟨Jxd,Jep,fun _=>by rintro _ ⟨_,_,_,_,_,_,rfl⟩; exact⟨_,_,_,rfl⟩⟩
noncomputable def Kr(a0:List Bind)(a1:Int)(a2:Int)(a3:Int)(a4:Int):Option (Int×Int) :=
 (J4 a0 a1 a2 a4).bind fun r1=>(J4 a0 r1.2.1 a3 r1.2.2).bind fun r2=>(J4 a0 r1.1 r2.1 r2.2.2).bind fun r3=>some (r3.2.1,r3.2.2)
noncomputable def KB(a0:List Bind)(a1:Int)(a2:Int)(a3:Int)(a4:Int)(r:(Int×Int)):GI :=
 ⟨[.c (.d (.sl 2 (List.map Jm a0))),.c (.d (.v (.int .i64 a1))),.c (.d (.v (.int .i64 a2))),.c (.d (.v (.int .i64 a3))),.c (.pt 1 0),.c (.d (.v (.func (.func 21) #[] #[])))],[[.d (.v (.int .i64 a4))]],[],.ret (.c (.d (.v (.int .i64 r.1)))) [[.d (.v (.int .i64 r.2))]] []⟩
def KC:GI→Prop:=fun g=>∃ (a0:List Bind) (a1:Int) (a2:Int) (a3:Int) (a4:Int) (r:(Int×Int)),Kr a0 a1 a2 a3 a4=some r∧g=KB a0 a1 a2 a3 a4 r
theorem JbD(a0:List Bind)(a1:Int)(a2:Int)(a3:Int)(a4:Int)(r:(Int×Int))(H:Kr a0 a1 a2 a3 a4=some r):KC (KB a0 a1 a2 a3 a4 r):=⟨a0,a1,a2,a3,a4,r,H,rfl⟩
theorem Jem:∀ g,KC g→Jx Try.prog 84 g:=by
 rintro _ ⟨a0,a1,a2,a3,a4,r,H,rfl⟩
 refine xGn mixed [] [(87,true,K8)] [] trivial ⟨JeC,trivial⟩ trivial Try.func84 _ ?_
 have G:=True.intro
 have Y:=xZ Try.results84 <| xZ Jm.eq_1 <| xZ Va.eq_1 <| KB.eq_1
 dsimp only[KB]
 simp only[Kr]at H
 refine xS ?_
 refine xr ?_
 obtain⟨r1,hr1,H⟩:=Jg H
 have F:=Y
 refine xQ ?_
 refine xs 5 ?_
 refine xc ⟨[1],[]⟩ (tabG 0 (Zg a0 a1 a2 a4 r1 hr1)) ?_
 refine xs 5 ?_
 refine xl ?_
 refine xS ?_
 obtain⟨r2,hr2,H⟩:=Jg H
 have F:=Y
 refine xQ ?_
 refine xs 5 ?_
 refine xc ⟨[1],[]⟩ (tabG 0 (Zg a0 r1.2.1 a3 r1.2.2 r2 hr2)) ?_
 refine xs 5 ?_
 refine xl ?_
 refine xS ?_
 obtain⟨r3,hr3,H⟩:=Jg H
 have F:=Y
 refine xQ ?_
 refine xs 5 ?_
 refine xc ⟨[1],[]⟩ (tabG 0 (Zg a0 r1.1 r2.1 r2.2.2 r3 hr3)) ?_
 refine xs 5 ?_
 refine xl ?_
 refine xS ?_
 replace H:=Option.some.inj H
 refine xr ?_
 subst H
 refine xrD [] ?_
 exact xO ⟨[1],[]⟩
theorem JbC:Jh Try.prog 84∧(∀ g,KC g→Jx Try.prog 84 g)∧(true=true→∀ g,KC g→∃ val bs ts,g.out=.ret val bs ts) :=
 ⟨Jxm,Jem,fun _=>by rintro _ ⟨_,_,_,_,_,_,_,rfl⟩; exact⟨_,_,_,rfl⟩⟩
noncomputable def JH(a0:List Bind)(a1:Int)(a2:Int):Option (Int×Int) :=
 (Kr a0 (IntKind.i64.wrap (a1-1)) a1 (IntKind.i64.wrap (a1+1)) a2).bind fun r1=>some (r1.1,r1.2)
noncomputable def Kn(a0:List Bind)(a1:Int)(a2:Int)(r:(Int×Int)):GI :=
 ⟨[.c (.d (.sl 2 (List.map Jm a0))),.c (.d (.v (.int .i64 a1))),.c (.pt 1 0),.c (.d (.v (.func (.func 21) #[] #[])))],[[.d (.v (.int .i64 a2))]],[],.ret (.c (.d (.v (.int .i64 r.1)))) [[.d (.v (.int .i64 r.2))]] []⟩
def Ko:GI→Prop:=fun g=>∃ (a0:List Bind) (a1:Int) (a2:Int) (r:(Int×Int)),JH a0 a1 a2=some r∧g=Kn a0 a1 a2 r
theorem VU(a0:List Bind)(a1:Int)(a2:Int)(r:(Int×Int))(H:JH a0 a1 a2=some r):Ko (Kn a0 a1 a2 r):=⟨a0,a1,a2,r,H,rfl⟩
theorem JcK:∀ g,Ko g→Jx Try.prog 83 g:=by
 rintro _ ⟨a0,a1,a2,r,H,rfl⟩
 refine xGn mixed [] [(84,true,KC)] [] trivial ⟨JbC,trivial⟩ trivial Try.func83 _ ?_
 have G:=True.intro
 have Y:=xZ Try.results83 <| xZ Jm.eq_1 <| xZ KB.eq_1 <| Kn.eq_1
 dsimp only[Kn]
 simp only[JH]at H
 refine xS ?_
 refine xr ?_
 obtain⟨r1,hr1,H⟩:=Jg H
 have F:=Y
 refine xQ ?_
 refine xs 8 ?_
 refine xc ⟨[1],[]⟩ (tabG 0 (JbD a0 (IntKind.i64.wrap (a1-1)) a1 (IntKind.i64.wrap (a1+1)) a2 r1 hr1)) ?_
 refine xs 1 ?_
 refine xl ?_
 replace H:=Option.some.inj H
 refine xS ?_
 subst H
 refine xrD [] ?_
 exact xO ⟨[1],[]⟩
theorem JcU:Jh Try.prog 83∧(∀ g,Ko g→Jx Try.prog 83 g)∧(true=true→∀ g,Ko g→∃ val bs ts,g.out=.ret val bs ts) :=
 ⟨Jwy,JcK,fun _=>by rintro _ ⟨_,_,_,_,_,rfl⟩; exact⟨_,_,_,rfl⟩⟩
noncomputable def Vb:(Int×Int)→Option (Int×Int)
 | (x1,x2)=>if(eqI x2 0)=true then some (x1,1) else if(eqI x2 12)=true then some (x1,2) else some (x1,0)
noncomputable def J8(a0:List Bind):(Int×Int×Int×Int)→Option (Int×Int)
 | (x3,x4,x5,x6)=>(Kr a0 x3 x4 x5 x6).bind fun r1=>Vb (r1.1,r1.2)
noncomputable def Kk(a0:List Bind)(a1:Int)(a2:Int):Option (Int×Int) :=
 if 4≠0 then if 4≠0 then if 4≠0 then if(leI 8 (IntKind.i64.wrap (a2-a1)))=true then if(leI 50 (IntKind.i64.wrap (a2-a1)))=true then(JH a0 (IntKind.i64.wrap (a1+(IntKind.i64.wrap ((IntKind.i64.wrap (Int.tdiv (IntKind.i64.wrap (a2-a1)) 4)) * 1)))) 0).bind fun r2=>(JH a0 (IntKind.i64.wrap (a1+(IntKind.i64.wrap ((IntKind.i64.wrap (Int.tdiv (IntKind.i64.wrap (a2-a1)) 4)) * 2)))) r2.2).bind fun r3=>(JH a0 (IntKind.i64.wrap (a1+(IntKind.i64.wrap ((IntKind.i64.wrap (Int.tdiv (IntKind.i64.wrap (a2-a1)) 4)) * 3)))) r3.2).bind fun r4=>J8 a0 (r2.1,r3.1,r4.1,r4.2) else J8 a0 (IntKind.i64.wrap (a1+(IntKind.i64.wrap ((IntKind.i64.wrap (Int.tdiv (IntKind.i64.wrap (a2-a1)) 4)) * 1))),IntKind.i64.wrap (a1+(IntKind.i64.wrap ((IntKind.i64.wrap (Int.tdiv (IntKind.i64.wrap (a2-a1)) 4)) * 2))),IntKind.i64.wrap (a1+(IntKind.i64.wrap ((IntKind.i64.wrap (Int.tdiv (IntKind.i64.wrap (a2-a1)) 4)) * 3))),0) else Vb (IntKind.i64.wrap (a1+(IntKind.i64.wrap ((IntKind.i64.wrap (Int.tdiv (IntKind.i64.wrap (a2-a1)) 4)) * 2))),0) else none else none else none
noncomputable def KF(a0:List Bind)(a1:Int)(a2:Int)(r:(Int×Int)):GI :=
 ⟨[.c (.d (.sl 2 (List.map Jm a0))),.c (.d (.v (.int .i64 a1))),.c (.d (.v (.int .i64 a2))),.c (.d (.v (.func (.func 21) #[] #[])))],[],[],.ret (.tu [(false,[.d (.v (.int .i64 r.1))]),(false,[.d (.v (.int .i64 r.2))])]) [] []⟩
def KE:GI→Prop:=fun g=>∃ (a0:List Bind) (a1:Int) (a2:Int) (r:(Int×Int)),Kk a0 a1 a2=some r∧g=KF a0 a1 a2 r
theorem Jdv(a0:List Bind)(a1:Int)(a2:Int)(r:(Int×Int))(H:Kk a0 a1 a2=some r):KE (KF a0 a1 a2 r):=⟨a0,a1,a2,r,H,rfl⟩
theorem Jdl:∀ g,KE g→Jx Try.prog 67 g:=by
 rintro _ ⟨a0,a1,a2,r,H,rfl⟩
 refine xGn mixed [] [(84,true,KC),(83,true,Ko)] [] trivial ⟨JbC,JcU,trivial⟩ trivial Try.func67 _ ?_
 have G:=True.intro
 have Y:=xZ y_3 <| xZ Try.results67 <| xZ Jm.eq_1 <| xZ KB.eq_1 <| xZ Kn.eq_1 <| KF.eq_1
 dsimp only[KF]
 simp only[Kk]at H
 refine xS ?_
 refine xr ?_
 refine xr ?_
 refine xr ?_
 obtain⟨hg1,H⟩:=Jj H
 refine xr ?_
 obtain⟨hg2,H⟩:=Jj H
 refine xr ?_
 obtain⟨hg3,H⟩:=Jj H
 refine xr0 ?_
 refine Jq ?_
 refine JB Vb (fun s=>[(11,.c (.pt 1 0)),(13,.c (.d (.v (.int .i64 s.1))))]) (fun s=>[[.d (.v (.int .i64 s.2))]]) [] r ?_ ?_
 ·refine xS ?_
  refine xr ?_
  rcases Jc H with⟨hp3,H⟩|⟨hp3,H⟩
  ·obtain⟨F,G,hq3⟩:=xH Y G hp3
   refine xT0 ?_
   refine JB (J8 a0) (fun s=>[(0,.c (.d (.sl 2 (List.map Jm a0)))),(3,.c (.d (.v (.func (.func 21) #[] #[])))),(11,.c (.pt 1 0)),(12,.c (.d (.v (.int .i64 s.1)))),(13,.c (.d (.v (.int .i64 s.2.1)))),(14,.c (.d (.v (.int .i64 s.2.2.1))))]) (fun s=>[[.d (.v (.int .i64 s.2.2.2))]]) [] r ?_ ?_
   ·refine xS ?_
    refine xr ?_
    rcases Jc H with⟨hp4,H⟩|⟨hp4,H⟩
    ·obtain⟨F,G,hq4⟩:=xH Y G hp4
     refine xT ?_
     obtain⟨r2,hr2,H⟩:=Jg H
     have F:=Y
     refine xQ ?_
     refine xs 3 ?_
     refine xc ⟨[1],[]⟩ (tabG 1 (VU a0 (IntKind.i64.wrap (a1+(IntKind.i64.wrap ((IntKind.i64.wrap (Int.tdiv (IntKind.i64.wrap (a2-a1)) 4)) * 1)))) 0 r2 hr2)) ?_
     refine xs 1 ?_
     refine xl ?_
     refine xS ?_
     obtain⟨r3,hr3,H⟩:=Jg H
     have F:=Y
     refine xQ ?_
     refine xs 3 ?_
     refine xc ⟨[1],[]⟩ (tabG 1 (VU a0 (IntKind.i64.wrap (a1+(IntKind.i64.wrap ((IntKind.i64.wrap (Int.tdiv (IntKind.i64.wrap (a2-a1)) 4)) * 2)))) r2.2 r3 hr3)) ?_
     refine xs 1 ?_
     refine xl ?_
     refine xS ?_
     obtain⟨r4,hr4,H⟩:=Jg H
     have F:=Y
     refine xQ ?_
     refine xs 3 ?_
     refine xc ⟨[1],[]⟩ (tabG 1 (VU a0 (IntKind.i64.wrap (a1+(IntKind.i64.wrap ((IntKind.i64.wrap (Int.tdiv (IntKind.i64.wrap (a2-a1)) 4)) * 3)))) r3.2 r4 hr4)) ?_
     refine xs 1 ?_
     refine xl ?_
     refine xS ?_
     exact Jf H (xK ⟨[1],[]⟩)
    ·obtain⟨F,G,hq4⟩:=xH Y G hp4
     refine xE ?_
     exact Jf H (xK ⟨[1],[]⟩)
   ·rintro ⟨x3,x4,x5,x6⟩ H
    rw[J8]at H
    obtain⟨r1,hr1,H⟩:=Jg H
    have F:=Y
    refine xQ ?_
    refine xs 5 ?_
    refine xc ⟨[1],[]⟩ (tabG 0 (JbD a0 x3 x4 x5 x6 r1 hr1)) ?_
    refine xs 1 ?_
    refine xl ?_
    refine xS ?_
    exact Jf H (xK ⟨[1],[]⟩)
  ·obtain⟨F,G,hq3⟩:=xH Y G hp3
   refine xE ?_
   exact Jf H (xK ⟨[1],[]⟩)
 ·rintro ⟨x1,x2⟩ H
  rw[Vb]at H
  refine xS ?_
  refine xr ?_
  refine xr ?_
  rcases Jc H with⟨hp1,H⟩|⟨hp1,H⟩
  ·obtain⟨F,G,hq1⟩:=xH Y G hp1
   refine xT ?_
   replace H:=Option.some.inj H
   refine xr ?_
   subst H
   refine xrD [] ?_
   exact xO ⟨[],[]⟩
  ·obtain⟨F,G,hq1⟩:=xH Y G hp1
   refine xE ?_
   refine xr ?_
   rcases Jc H with⟨hp2,H⟩|⟨hp2,H⟩
   ·obtain⟨F,G,hq2⟩:=xH Y G hp2
    refine xT ?_
    replace H:=Option.some.inj H
    refine xr ?_
    subst H
    refine xrD [] ?_
    exact xO ⟨[],[]⟩
   ·obtain⟨F,G,hq2⟩:=xH Y G hp2
    refine xE ?_
    replace H:=Option.some.inj H
    refine xr ?_
    subst H
    refine xrD [] ?_
    exact xO ⟨[],[]⟩
theorem Jdo:Jh Try.prog 67∧(∀ g,KE g→Jx Try.prog 67 g)∧(true=true→∀ g,KE g→∃ val bs ts,g.out=.ret val bs ts) :=
 ⟨Jw0,Jdl,fun _=>by rintro _ ⟨_,_,_,_,_,rfl⟩; exact⟨_,_,_,rfl⟩⟩
noncomputable def JK(a0:List Bind)(a1:Int)(a2:Int)(x2:Int):Bool→Option (Int ⊕ (Int ⊕ Bool))
 | x3=>if x3=true then some (.inl (IntKind.i64.wrap (x2+1))) else inrO (if(eqI x2 a2)=true then inrO (some true) else if(ltI (IntKind.i64.wrap (a2-a1)) 50)=true then inrO (some false) else if(0:Int)≤(IntKind.i64.wrap (x2-1))∧(IntKind.i64.wrap (x2-1)).toNat<a0.length then if(0:Int)≤x2∧x2.toNat<a0.length then if(0:Int)≤x2∧x2.toNat<a0.length then none else none else none else none)
noncomputable def JJ(a0:List Bind)(a1:Int)(a2:Int):Int→Option (Int ⊕ (Int ⊕ Bool))
 | x2=>if(ltI x2 a2)=true then if(0:Int)≤x2∧x2.toNat<a0.length then if(0:Int)≤(IntKind.i64.wrap (x2-1))∧(IntKind.i64.wrap (x2-1)).toNat<a0.length then(V7 (a0.getD x2.toNat default) (a0.getD ((IntKind.i64.wrap (x2-1)).toNat) default)).bind fun r1=>JK a0 a1 a2 x2 (!(ltI r1 0)) else none else none else JK a0 a1 a2 x2 false
noncomputable def Ks(a0:List Bind)(a1:Int)(a2:Int):Int→Option (Int ⊕ Bool)
 | x1=>Jt (JJ a0 a1 a2) x1
noncomputable def JO(a0:List Bind)(a1:Int)(a2:Int):Option Bool :=
 Jt (Ks a0 a1 a2) (IntKind.i64.wrap (a1+1))
noncomputable def J1(a0:List Bind)(a1:Int)(a2:Int)(r:Bool):GI :=
 ⟨[.c (.d (.sl 2 (List.map Jm a0))),.c (.d (.v (.int .i64 a1))),.c (.d (.v (.int .i64 a2))),.c (.d (.v (.func (.func 21) #[] #[])))],[],[],.ret (.c (.d (.v (.bool r)))) [] []⟩
def J0:GI→Prop:=fun g=>∃ (a0:List Bind) (a1:Int) (a2:Int) (r:Bool),JO a0 a1 a2=some r∧g=J1 a0 a1 a2 r
theorem Jb9(a0:List Bind)(a1:Int)(a2:Int)(r:Bool)(H:JO a0 a1 a2=some r):J0 (J1 a0 a1 a2 r):=⟨a0,a1,a2,r,H,rfl⟩
theorem JbE:∀ g,J0 g→Jx Try.prog 69 g:=by
 rintro _ ⟨a0,a1,a2,r,H,rfl⟩
 refine xGn mixed [(21,X5)] [] [] ⟨⟨Jjy,Jb3⟩,trivial⟩ trivial trivial Try.func69 _ ?_
 have G:=True.intro
 have Y:=xZ y_32 <| xZ y_40 <| xZ Try.results69 <| xZ Jm.eq_1 <| J1.eq_1
 dsimp only[J1]
 simp only[JO]at H
 refine xS ?_
 refine xr ?_
 refine xr ?_
 refine xr ?_
 refine Ke (Ks a0 a1 a2) (fun s=>[(0,.c (.d (.sl 2 (List.map Jm a0)))),(1,.c (.d (.v (.int .i64 a1)))),(2,.c (.d (.v (.int .i64 a2)))),(3,.c (.d (.v (.func (.func 21) #[] #[])))),(9,.c (.d (.v (.int .i64 s)))),(10,.c (.d (.v (.int .i64 0))))]) (fun s=>[]) [] H (xK ⟨[],[]⟩) ?_
 rintro n1 x1 o1 H hF1
 rw[Ks]at H
 refine xS ?_
 refine xr ?_
 have Y:=xZ Y (show ltI (0:Int) (5:Int)=true from rfl)
 refine xt ?_
 refine Ke (JJ a0 a1 a2) (fun s=>[(0,.c (.d (.sl 2 (List.map Jm a0)))),(1,.c (.d (.v (.int .i64 a1)))),(2,.c (.d (.v (.int .i64 a2)))),(3,.c (.d (.v (.func (.func 21) #[] #[])))),(9,.c (.d (.v (.int .i64 s)))),(10,.c (.d (.v (.int .i64 0))))]) (fun s=>[]) [] H (xK ⟨[],[]⟩) ?_
 rintro n2 x2 o2 H hF2
 rw[JJ]at H
 refine Zn ?_
 refine JB (JK a0 a1 a2 x2) (fun s=>[(0,.c (.d (.sl 2 (List.map Jm a0)))),(1,.c (.d (.v (.int .i64 a1)))),(2,.c (.d (.v (.int .i64 a2)))),(3,.c (.d (.v (.func (.func 21) #[] #[])))),(9,.c (.d (.v (.int .i64 x2)))),(10,.c (.d (.v (.int .i64 0)))),(36,.c (.d (.v (.bool s))))]) (fun s=>[]) [] o2 ?_ ?_
 ·rcases Jc H with⟨hp4,H⟩|⟨hp4,H⟩
  ·obtain⟨F,G,hq4⟩:=xH Y G hp4
   obtain⟨hg4,H⟩:=Jj H
   have F:=xZ F (Jr Jm a0 x2.toNat default default (by omega))
   obtain⟨hg5,H⟩:=Jj H
   have F:=xZ F (Jr Jm a0 ((IntKind.i64.wrap (x2-1)).toNat) default default (by omega))
   obtain⟨r1,hr1,H⟩:=Jg H
   have F:=xCf F (Jco (a0.getD x2.toNat default) (a0.getD ((IntKind.i64.wrap (x2-1)).toNat) default) r1 hr1)
   refine xR ?_
   exact Jf H (xK ⟨[],[]⟩)
  ·obtain⟨F,G,hq4⟩:=xH Y G hp4
   refine xR ?_
   exact Jf H (xK ⟨[],[]⟩)
 ·rintro x3 H
  rw[JK]at H
  rcases Jc H with⟨hp1,H⟩|⟨hp1,H⟩
  ·obtain⟨F,G,hq1⟩:=xH Y G hp1
   refine xT ?_
   refine xr ?_
   exact JD (JM H hF2) (xK ⟨[],[]⟩)
  ·obtain⟨F,G,hq1⟩:=xH Y G hp1
   replace H:=Js H hF2
   refine xE ?_
   refine xr ?_
   rcases Jc H with⟨hp2,H⟩|⟨hp2,H⟩
   ·obtain⟨F,G,hq2⟩:=xH Y G hp2
    refine xT ?_
    replace H:=Js H hF1
    replace H:=Option.some.inj H
    refine xr ?_
    subst H
    refine xrD [] ?_
    exact xO ⟨[],[]⟩
   ·obtain⟨F,G,hq2⟩:=xH Y G hp2
    refine xE ?_
    refine xr ?_
    rcases Jc H with⟨hp3,H⟩|⟨hp3,H⟩
    ·obtain⟨F,G,hq3⟩:=xH Y G hp3
     refine xT ?_
     replace H:=Js H hF1
     replace H:=Option.some.inj H
     refine xr ?_
     subst H
     refine xrD [] ?_
     exact xO ⟨[],[]⟩
    ·obtain⟨F,G,hq3⟩:=xH Y G hp3
     refine xE ?_
     obtain⟨hg1,H⟩:=Jj H
     have F:=xZ Y (Jr Jm a0 ((IntKind.i64.wrap (x2-1)).toNat) default default (by omega))
     obtain⟨hg2,H⟩:=Jj H
     have F:=xZ F (Jr Jm a0 x2.toNat default default (by omega))
     obtain⟨hg3,H⟩:=Jj H
     have F:=xZ F (Jr Jm a0 x2.toNat default default (by omega))
     cases H
theorem JbP:Jh Try.prog 69∧(∀ g,J0 g→Jx Try.prog 69 g)∧(true=true→∀ g,J0 g→∃ val bs ts,g.out=.ret val bs ts) :=
 ⟨Jv5,JbE,fun _=>by rintro _ ⟨_,_,_,_,_,rfl⟩; exact⟨_,_,_,rfl⟩⟩
noncomputable def VE:Bool→Option (Unit ⊕ Unit)
 | x3=>if x3=true then none else none
noncomputable def VG(a0:List Bind)(a1:Int)(r2:(Int×Int)):(Int×Bool)→Option (Unit ⊕ Unit)
 | (x1,x2)=>if(ltI 0 a1)=true then if(0:Int)≤(IntKind.i64.wrap (a1-1))∧(IntKind.i64.wrap (a1-1)).toNat<a0.length then if(0:Int)≤r2.1∧r2.1.toNat<a0.length then(V7 (a0.getD ((IntKind.i64.wrap (a1-1)).toNat) default) (a0.getD r2.1.toNat default)).bind fun r3=>VE (!(ltI r3 0)) else none else none else VE false
noncomputable def VH(a0:List Bind)(a1:Int)(a2:Int)(a3:Int):Unit→Option (Unit ⊕ Unit)
 | ()=>if(leI (IntKind.i64.wrap (a2-a1)) 12)=true then(Kc a0 a1 a2).bind fun r1=>inrO (some ()) else if(eqI a3 0)=true then none else(Kk a0 a1 a2).bind fun r2=>if(eqI r2.2 2)=true then none else if(eqI r2.2 1)=true then(JO a0 a1 a2).bind fun r4=>if r4=true then inrO (some ()) else VG a0 a1 r2 (IntKind.i64.wrap (a2-a1),true) else VG a0 a1 r2 (IntKind.i64.wrap (a2-a1),false)
noncomputable def Vf(a0:List Bind)(a1:Int)(a2:Int)(a3:Int):Option Unit :=
 Jt (VH a0 a1 a2 a3) ()
noncomputable def KW(a0:List Bind)(a1:Int)(a2:Int)(a3:Int)(r:Unit):GI :=
 ⟨[.c (.d (.sl 2 (List.map Jm a0))),.c (.d (.v (.int .i64 a1))),.c (.d (.v (.int .i64 a2))),.c (.d (.v (.int .i64 a3))),.c (.d (.v (.func (.func 21) #[] #[])))],[],[],.ret (.tu []) [] []⟩
def KZ:GI→Prop:=fun g=>∃ (a0:List Bind) (a1:Int) (a2:Int) (a3:Int) (r:Unit),Vf a0 a1 a2 a3=some r∧g=KW a0 a1 a2 a3 r
theorem Jeo(a0:List Bind)(a1:Int)(a2:Int)(a3:Int)(r:Unit)(H:Vf a0 a1 a2 a3=some r):KZ (KW a0 a1 a2 a3 r):=⟨a0,a1,a2,a3,r,H,rfl⟩
theorem Jd5:∀ g,KZ g→Jx Try.prog 44 g:=by
 rintro _ ⟨a0,a1,a2,a3,r,H,rfl⟩
 refine xGn mixed [(21,X5)] [(64,true,Ku),(67,true,KE),(69,true,J0)] [] ⟨⟨Jjy,Jb3⟩,trivial⟩ ⟨Jdd,Jdo,JbP,trivial⟩ trivial Try.func44 _ ?_
 have G:=True.intro
 have Y:=xZ y_32 <| xZ y_40 <| xZ Try.results44 <| xZ Jm.eq_1 <| xZ Kt.eq_1 <| xZ KF.eq_1 <| xZ J1.eq_1 <| KW.eq_1
 dsimp only[KW]
 unfold Vf at H
 refine xS ?_
 refine xr ?_
 refine xr ?_
 refine Ke (VH a0 a1 a2 a3) (fun s=>[(0,.c (.d (.sl 2 (List.map Jm a0)))),(1,.c (.d (.v (.int .i64 a1)))),(2,.c (.d (.v (.int .i64 a2)))),(3,.c (.d (.v (.int .i64 a3)))),(4,.c (.d (.v (.func (.func 21) #[] #[])))),(10,.c (.d (.v (.bool true)))),(11,.c (.d (.v (.bool true))))]) (fun s=>[]) [] H (xK ⟨[],[]⟩) ?_
 rintro n1 ⟨⟩ o1 H hF1
 rw[VH]at H
 refine xS ?_
 refine xr ?_
 refine xr ?_
 rcases Jc H with⟨hp1,H⟩|⟨hp1,H⟩
 ·obtain⟨F,G,hq1⟩:=xH Y G hp1
  refine xT ?_
  obtain⟨r1,hr1,H⟩:=Jg H
  have F:=Y
  refine xQ ?_
  refine xs 4 ?_
  refine xc ⟨[],[]⟩ (tabG 0 (Jdf a0 a1 a2 r1 hr1)) ?_
  refine xl ?_
  replace H:=Js H hF1
  refine xS ?_
  refine xrD [] ?_
  exact xO ⟨[],[]⟩
 ·obtain⟨F,G,hq1⟩:=xH Y G hp1
  refine xE ?_
  refine xr ?_
  rcases Jc H with⟨hp2,H⟩|⟨hp2,H⟩
  ·obtain⟨F,G,hq2⟩:=xH Y G hp2
   refine xT ?_
   cases H
  ·obtain⟨F,G,hq2⟩:=xH Y G hp2
   refine xE ?_
   refine xr ?_
   refine xe ?_
   obtain⟨r2,hr2,H⟩:=Jg H
   have F:=Y
   refine xQ ?_
   refine xs 4 ?_
   refine xc ⟨[],[]⟩ (tabG 1 (Jdv a0 a1 a2 r2 hr2)) ?_
   refine xs 5 ?_
   refine xl ?_
   refine xS ?_
   refine xr ?_
   rcases Jc H with⟨hp3,H⟩|⟨hp3,H⟩
   ·obtain⟨F,G,hq3⟩:=xH Y G hp3
    refine xT ?_
    cases H
   ·obtain⟨F,G,hq3⟩:=xH Y G hp3
    refine xE0 ?_
    refine Jbu ?_
    refine Jq ?_
    refine JB (VG a0 a1 r2) (fun s=>[(0,.c (.d (.sl 2 (List.map Jm a0)))),(1,.c (.d (.v (.int .i64 a1)))),(2,.c (.d (.v (.int .i64 a2)))),(3,.c (.d (.v (.int .i64 a3)))),(4,.c (.d (.v (.func (.func 21) #[] #[])))),(10,.c (.d (.v (.bool true)))),(11,.c (.d (.v (.bool true)))),(12,.c (.d (.v (.int .i64 s.1)))),(13,.c (.d (.v (.int .i64 r2.1)))),(70,.c (.d (.v (.bool true)))),(73,.c (.d (.v (.int .i64 r2.2)))),(74,.c (.d (.v (.bool s.2))))]) (fun s=>[]) [] o1 ?_ ?_
    ·refine xS ?_
     refine xr ?_
     rcases Jc H with⟨hp6,H⟩|⟨hp6,H⟩
     ·obtain⟨F,G,hq6⟩:=xH Y G hp6
      refine xT ?_
      obtain⟨r4,hr4,H⟩:=Jg H
      have F:=Y
      refine xQ ?_
      refine xs 4 ?_
      refine xc ⟨[],[]⟩ (tabG 2 (Jb9 a0 a1 a2 r4 hr4)) ?_
      refine xl ?_
      refine xS ?_
      rcases Jc H with⟨hp7,H⟩|⟨hp7,H⟩
      ·obtain⟨F,G,hq7⟩:=xH Y G hp7
       replace H:=Js H hF1
       refine xT ?_
       refine xrD [] ?_
       exact xO ⟨[],[]⟩
      ·obtain⟨F,G,hq7⟩:=xH Y G hp7
       refine xE ?_
       exact Jf H (xK ⟨[],[]⟩)
     ·obtain⟨F,G,hq6⟩:=xH Y G hp6
      refine xE ?_
      exact Jf H (xK ⟨[],[]⟩)
    ·rintro ⟨x1,x2⟩ H
     rw[VG]at H
     refine Zn ?_
     refine JB VE (fun s=>[(0,.c (.d (.sl 2 (List.map Jm a0)))),(1,.c (.d (.v (.int .i64 a1)))),(2,.c (.d (.v (.int .i64 a2)))),(3,.c (.d (.v (.int .i64 a3)))),(4,.c (.d (.v (.func (.func 21) #[] #[])))),(10,.c (.d (.v (.bool true)))),(11,.c (.d (.v (.bool true)))),(12,.c (.d (.v (.int .i64 x1)))),(13,.c (.d (.v (.int .i64 r2.1)))),(70,.c (.d (.v (.bool true)))),(73,.c (.d (.v (.int .i64 r2.2)))),(74,.c (.d (.v (.bool x2)))),(97,.c (.d (.v (.bool s))))]) (fun s=>[]) [] o1 ?_ ?_
     ·rcases Jc H with⟨hp5,H⟩|⟨hp5,H⟩
      ·obtain⟨F,G,hq5⟩:=xH Y G hp5
       obtain⟨hg1,H⟩:=Jj H
       have F:=xZ F (Jr Jm a0 ((IntKind.i64.wrap (a1-1)).toNat) default default (by omega))
       obtain⟨hg2,H⟩:=Jj H
       have F:=xZ F (Jr Jm a0 r2.1.toNat default default (by omega))
       obtain⟨r3,hr3,H⟩:=Jg H
       have F:=xCf F (Jco (a0.getD ((IntKind.i64.wrap (a1-1)).toNat) default) (a0.getD r2.1.toNat default) r3 hr3)
       refine xR ?_
       exact Jf H (xK ⟨[],[]⟩)
      ·obtain⟨F,G,hq5⟩:=xH Y G hp5
       refine xR ?_
       exact Jf H (xK ⟨[],[]⟩)
     ·rintro x3 H
      rw[VE]at H
      rcases Jc H with⟨hp4,H⟩|⟨hp4,H⟩
      ·obtain⟨F,G,hq4⟩:=xH Y G hp4
       refine xT ?_
       cases H
      ·obtain⟨F,G,hq4⟩:=xH Y G hp4
       refine xE ?_
       cases H
theorem Jeh:Jh Try.prog 44∧(∀ g,KZ g→Jx Try.prog 44 g)∧(true=true→∀ g,KZ g→∃ val bs ts,g.out=.ret val bs ts) :=
 ⟨Jv7,Jd5,fun _=>by rintro _ ⟨_,_,_,_,_,_,rfl⟩; exact⟨_,_,_,rfl⟩⟩
noncomputable def Kf(a0:List Bind):Option Unit :=
 (bits_Len (IntKind.u64.wrap (a0.length:Int))).bind fun r1=>(Vf a0 0 (a0.length:Int) (Jhs (IntKind.u64.wrap (a0.length:Int)))).bind fun r2=>some ()
noncomputable def Kz(a0:List Bind)(r:Unit):GI :=
 ⟨[.c (.d (.sl 2 (List.map Jm a0))),.c (.d (.v (.func (.func 21) #[] #[])))],[],[],.ret (.tu []) [] []⟩
def Kx:GI→Prop:=fun g=>∃ (a0:List Bind) (r:Unit),Kf a0=some r∧g=Kz a0 r
theorem Jdk(a0:List Bind)(r:Unit)(H:Kf a0=some r):Kx (Kz a0 r):=⟨a0,r,H,rfl⟩
theorem Jde:∀ g,Kx g→Jx Try.prog 20 g:=by
 rintro _ ⟨a0,r,H,rfl⟩
 refine xGn mixed [] [(45,true,JeV),(44,true,KZ)] [] trivial ⟨Jso,Jeh,trivial⟩ trivial Try.func20 _ ?_
 have G:=True.intro
 have Y:=xZ y_3 <| xZ y_32 <| xZ y_40 <| xZ y_96 <| xZ Try.results20 <| xZ Jm.eq_1 <| xZ JhC.eq_1 <| xZ KW.eq_1 <| Kz.eq_1
 dsimp only[Kz]
 unfold Kf at H
 refine xS ?_
 refine xr ?_
 obtain⟨r1,hr1,H⟩:=Jg H
 have F:=Y
 obtain⟨r2,hr2,H⟩:=Jg H
 have F:=F
 refine xQ ?_
 refine xs 4 ?_
 refine xc ⟨[],[]⟩ (tabG 0 (Jsl (IntKind.u64.wrap (a0.length:Int)) r1 hr1)) ?_
 refine xs 1 ?_
 refine xc ⟨[],[]⟩ (tabG 1 (Jeo a0 0 (a0.length:Int) (Jhs (IntKind.u64.wrap (a0.length:Int))) r2 hr2)) ?_
 refine xl ?_
 refine xS ?_
 refine xnD [] ?_
 exact xO ⟨[],[]⟩
theorem Jdm:Jh Try.prog 20∧(∀ g,Kx g→Jx Try.prog 20 g)∧(true=true→∀ g,Kx g→∃ val bs ts,g.out=.ret val bs ts) :=
 ⟨Jxq,Jde,fun _=>by rintro _ ⟨_,_,_,rfl⟩; exact⟨_,_,_,rfl⟩⟩
noncomputable def Jdi(a0:List Bind)(a1:Int)(a2:Int)(a3:Int):Option Unit :=
 some ()
noncomputable def Jak(a0:List Bind)(a1:Int)(a2:Int)(a3:Int)(r:Unit):DI :=
 ⟨[.c (.pt 1 0),.c (.pt 2 0)],[[.sl 2 (List.map Jm a0) 3],[.d (.v (.int .i64 a1)),.d (.v (.int .i64 a2)),.d (.v (.int .i64 a3))]],[40],none,[[.sl 2 (List.map Jm a0) 3],[.d (.v (.int .i64 a1)),.d (.v (.int .i64 a2)),.d (.v (.int .i64 a3))]],[40],none⟩
def Jdu:DI→Prop:=fun d=>∃ (a0:List Bind) (a1:Int) (a2:Int) (a3:Int) (r:Unit),Jdi a0 a1 a2 a3=some r∧d=Jak a0 a1 a2 a3 r
theorem JiV(a0:List Bind)(a1:Int)(a2:Int)(a3:Int)(r:Unit)(H:Jdi a0 a1 a2 a3=some r):Jdu (Jak a0 a1 a2 a3 r):=⟨a0,a1,a2,a3,r,H,rfl⟩
theorem Jip:∀ d,Jdu d→DOk Try.prog 18 d:=by
 rintro _ ⟨a0,a1,a2,a3,r,H,rfl⟩
 refine xRcl mixed [7] [] [] trivial trivial Try.func18 _ ?_
 have G:=True.intro
 have Y:=xZ y_20 <| xZ y_29 <| xZ y_32 <| xZ y_56 <| xZ Try.results18 <| xZ Jm.eq_1 <| Jak.eq_1
 dsimp only[Jak,Option.getD_some,Option.getD_none]
 unfold Jdi at H
 refine xS ?_
 refine xr ?_
 refine xt ?_
 replace H:=Option.some.inj H
 refine xr ?_
 subst H
 exact xDn ⟨[1,2],[3]⟩
noncomputable def Jb2(a0:List Bind)(a1:Int)(a2:Int)(a3:Int)(a4:Int)(a5:Int)(a6:Int):Option Unit :=
 some ()
noncomputable def X8(a0:List Bind)(a1:Int)(a2:Int)(a3:Int)(a4:Int)(a5:Int)(a6:Int)(r:Unit):DI :=
 ⟨[.c (.pt 1 0),.c (.pt 2 0)],[[.sl 2 (List.map Jm a0) 3],[.d (.v (.int .i64 a1)),.d (.v (.int .i64 a2)),.d (.v (.int .i64 a3))]],[40],(some (.iface 56 (.agg ⟨[.int .i64 a4,.int .i64 a5,.int .i64 a6]⟩))),[[.sl 2 [] 0],[.d (.v (.int .i64 a4)),.d (.v (.int .i64 a5)),.d (.v (.int .i64 a6))]],[],none⟩
def Jcx:DI→Prop:=fun d=>∃ (a0:List Bind) (a1:Int) (a2:Int) (a3:Int) (a4:Int) (a5:Int) (a6:Int) (r:Unit),Jb2 a0 a1 a2 a3 a4 a5 a6=some r∧d=X8 a0 a1 a2 a3 a4 a5 a6 r
theorem Jhe(a0:List Bind)(a1:Int)(a2:Int)(a3:Int)(a4:Int)(a5:Int)(a6:Int)(r:Unit)(H:Jb2 a0 a1 a2 a3 a4 a5 a6=some r):Jcx (X8 a0 a1 a2 a3 a4 a5 a6 r):=⟨a0,a1,a2,a3,a4,a5,a6,r,H,rfl⟩
theorem Jg4:∀ d,Jcx d→DOk Try.prog 18 d:=by
 rintro _ ⟨a0,a1,a2,a3,a4,a5,a6,r,H,rfl⟩
 refine xRcl mixed [7] [] [] trivial trivial Try.func18 _ ?_
 have G:=True.intro
 have Y:=xZ y_20 <| xZ y_29 <| xZ y_32 <| xZ y_56 <| xZ Try.results18 <| xZ Jm.eq_1 <| X8.eq_1
 dsimp only[X8,Option.getD_some,Option.getD_none]
 unfold Jb2 at H
 refine xS ?_
 refine xr ?_
 refine xe ?_
 refine xr ?_
 refine xt ?_
 refine xr ?_
 have F:=Y
 refine xP [0,1,2,3] [12] trivial ?_
 refine xsX 1 ?_
 refine xaX ?_
 refine xbX ?_
 refine xbX ?_
 refine xlX ?_
 replace H:=Option.some.inj H
 refine xS ?_
 subst H
 exact xDn ⟨[1,2],[]⟩
noncomputable def JbI(a0:List Token)(a1:Node):Option ((List Bind)×Int×Int×Int) :=
 grB (JaS a1 a0 ([[]]:List KD) ([]:List Bind)) (fun r1=>(Kf r1.2).bind fun r2=>(Jdi r1.2 0 (-1) 0).bind fun r3=>some (r1.2,0,(-1),0)) (fun e1=>(Jb2 ([]:List Bind) 0 0 0 e1.1 e1.2.1 e1.2.2.1).bind fun r4=>some (([]:List Bind),e1.1,e1.2.1,e1.2.2.1))
noncomputable def JbT(a0:List Token)(a1:Node)(r:((List Bind)×Int×Int×Int)):GI :=
 ⟨[.c (.d (.sl 11 (List.map Jb a0))),.ag [.d (.v (.int .i64 a1.Kind)),.d (.v (.int .i64 a1.Tok)),.d (.sl 3 (List.map Jp a1.Kids))]],[],[],.ret (.tu [(false,[.sl 2 (List.map Jm r.1) 1]),(true,[.d (.v (.int .i64 r.2.1)),.d (.v (.int .i64 r.2.2.1)),.d (.v (.int .i64 r.2.2.2))])]) [] [40]⟩
def Jb6:GI→Prop:=fun g=>∃ (a0:List Token) (a1:Node) (r:((List Bind)×Int×Int×Int)),JbI a0 a1=some r∧g=JbT a0 a1 r
theorem JkY(a0:List Token)(a1:Node)(r:((List Bind)×Int×Int×Int))(H:JbI a0 a1=some r):Jb6 (JbT a0 a1 r):=⟨a0,a1,r,H,rfl⟩
theorem JkE:∀ g,Jb6 g→Jx Try.prog 8 g:=by
 rintro _ ⟨a0,a1,r,H,rfl⟩
 refine xGnl mixed [1000025] [] [(19,false,Jdb),(20,true,Kx)] [(18,Jdu),(18,Jcx)] trivial ⟨Jio,Jdm,trivial⟩ ⟨⟨Jr2,Jip⟩,⟨Jr2,Jg4⟩,trivial⟩ Try.func8 _ ?_
 have G:=True.intro
 have Y:=xZ y_3 <| xZ y_22 <| xZ y_27 <| xZ y_29 <| xZ y_32 <| xZ y_58 <| xZ y_59 <| xZ y_61 <| xZ Try.results8 <| xZ J2.eq_1 <| xZ Jb.eq_1 <| xZ Vu <| xZ Jm.eq_1 <| xZ K3.eq_1 <| xZ Kz.eq_1 <| xZ Jak.eq_1 <| xZ X8.eq_1 <| xZ JbT.eq_1 <| xZ JbH <| xZ JaH <| xZ JaE <| xZ JbF <| xZ JbL <| xZ JaG <| xZ JaF <| JbM
 dsimp only[JbT]
 simp only[JbI]at H
 refine xS ?_
 refine xr ?_
 have F:=Y
 refine xQ ?_
 refine xs 1 ?_
 refine xw ?_
 refine xl ?_
 refine xS ?_
 refine JxA ?_
 refine xS ?_
 refine xbp 1 [.v (.int .i64 a1.Kind),.v (.int .i64 a1.Tok),.sl 3 (List.map Jp a1.Kids)] ?_
 rcases Ja0 H with⟨r1,hr1,H⟩|⟨e1,hr2,H⟩
 ·have F:=Y
  refine xQ ?_
  refine xs 1 ?_
  refine xc ⟨[4],[0]⟩ (tabG 0 (Je7 a1 a0 ([[]]:List KD) ([]:List Bind) (.ok r1) hr1)) ?_
  refine xl ?_
  refine xS ?_
  obtain⟨r2,hr3,H⟩:=Jg H
  have F:=Y
  refine xQ ?_
  refine xs 4 ?_
  refine xc ⟨[],[]⟩ (tabG 1 (Jdk r1.2 r2 hr3)) ?_
  refine xl ?_
  refine xS ?_
  refine xr ?_
  refine xrD [(18,[.pt 2 0,.pt 3 0])] ?_
  obtain⟨r3,hr4,H⟩:=Jg H
  refine xD ⟨[2,3],[6]⟩ (tabD 0 (JiV r1.2 0 (-1) 0 r3 hr4)) ?_
  replace H:=Option.some.inj H
  subst H
  exact xO ⟨[],[9]⟩
 ·have F:=Y
  refine xQp [13,14] ?_
  refine xs 1 ?_
  refine xp ⟨[4],[0]⟩ (tabG 0 (Je7 a1 a0 ([[]]:List KD) ([]:List Bind) (.er e1) hr2)) ?_
  refine xS ?_
  refine xpD [(18,[.pt 2 0,.pt 3 0])] ?_
  obtain⟨r4,hr5,H⟩:=Jg H
  refine xD ⟨[2,3],[0]⟩ (tabD 1 (Jhe ([]:List Bind) 0 0 0 e1.1 e1.2.1 e1.2.2.1 r4 hr5)) ?_
  replace H:=Option.some.inj H
  subst H
  exact xO ⟨[],[0]⟩
theorem Jk5:Jh Try.prog 8∧(∀ g,Jb6 g→Jx Try.prog 8 g)∧(true=true→∀ g,Jb6 g→∃ val bs ts,g.out=.ret val bs ts) :=
 ⟨JxZ,JkE,fun _=>by rintro _ ⟨_,_,_,_,rfl⟩; exact⟨_,_,_,rfl⟩⟩
noncomputable def JcQ(a0:Bind)(a1:Int):Option Int :=
 (Zo a0.Tok a1).bind fun r1=>some r1
noncomputable def JfS:PF:=PF.of (E2 Jm dI) (fun a=>JcQ a.1 a.2) dI
theorem Jot:Kl Try.prog 25 JfS:=by
 refine xF mixed [(22,Jb0)] [] ⟨⟨Jq3,JfG⟩,trivial⟩ trivial Try.func25 ?_
 rintro ⟨a0,a1⟩ out H
 have G:=True.intro
 have Y:=xZ y_3 <| xZ y_40 <| xZ Try.results25 <| Jm.eq_1
 simp only[JcQ]at H
 refine xS ?_
 refine xr ?_
 obtain⟨r1,hr1,H⟩:=Jg H
 have F:=xC Y (JfX a0.Tok a1 r1 hr1)
 replace H:=Option.some.inj H
 refine xR ?_
 subst H
 exact xN
theorem JiN(a0:Bind)(a1:Int)(r:Int)(H:JcQ a0 a1=some r):PC JfS [Jm a0,dI a1] (dI r):=PF.c (a:=(a0,a1)) H
noncomputable def Kd(x2:Int):Bool→Option (Int×Bool)
 | x4=>some (x2,x4)
noncomputable def JF(a0:List Bind)(a1:Int):(Int×Int×Int)→Option ((Int×Int×Int) ⊕ (Int×Bool))
 | (x1,x2,x3)=>if(ltI x2 x3)=true then if(0:Int)≤1 then if(0:Int)≤(IntKind.i64.wrap (Int.fdiv (IntKind.u64.wrap (IntKind.i64.wrap (x2+x3))) (2 ^ (min 1 IntKind.u64.bits))))∧(IntKind.i64.wrap (Int.fdiv (IntKind.u64.wrap (IntKind.i64.wrap (x2+x3))) (2 ^ (min 1 IntKind.u64.bits)))).toNat<a0.length then(JcQ (a0.getD ((IntKind.i64.wrap (Int.fdiv (IntKind.u64.wrap (IntKind.i64.wrap (x2+x3))) (2 ^ (min 1 IntKind.u64.bits)))).toNat) default) a1).bind fun r1=>if(ltI r1 0)=true then some (.inl (x1,IntKind.i64.wrap ((IntKind.i64.wrap (Int.fdiv (IntKind.u64.wrap (IntKind.i64.wrap (x2+x3))) (2 ^ (min 1 IntKind.u64.bits))))+1),x3)) else some (.inl (x1,x2,IntKind.i64.wrap (Int.fdiv (IntKind.u64.wrap (IntKind.i64.wrap (x2+x3))) (2 ^ (min 1 IntKind.u64.bits))))) else none else none else inrO (if(ltI x2 x1)=true then if(0:Int)≤x2∧x2.toNat<a0.length then(JcQ (a0.getD x2.toNat default) a1).bind fun r2=>Kd x2 (eqI r2 0) else none else Kd x2 false)
noncomputable def JV(a0:List Bind)(a1:Int):Option (Int×Bool) :=
 Jt (JF a0 a1) ((a0.length:Int),0,(a0.length:Int))
noncomputable def JP(a0:List Bind)(a1:Int)(r:(Int×Bool)):GI :=
 ⟨[.c (.d (.sl 2 (List.map Jm a0))),.c (.d (.v (.int .i64 a1))),.c (.d (.v (.func (.func 25) #[] #[])))],[],[],.ret (.tu [(false,[.d (.v (.int .i64 r.1))]),(false,[.d (.v (.bool r.2))])]) [] []⟩
def JR:GI→Prop:=fun g=>∃ (a0:List Bind) (a1:Int) (r:(Int×Bool)),JV a0 a1=some r∧g=JP a0 a1 r
theorem Jbe(a0:List Bind)(a1:Int)(r:(Int×Bool))(H:JV a0 a1=some r):JR (JP a0 a1 r):=⟨a0,a1,r,H,rfl⟩
theorem Ja1:∀ g,JR g→Jx Try.prog 24 g:=by
 rintro _ ⟨a0,a1,r,H,rfl⟩
 refine xGn mixed [(25,JfS)] [] [] ⟨⟨Jwu,Jot⟩,trivial⟩ trivial trivial Try.func24 _ ?_
 have G:=True.intro
 have Y:=xZ y_3 <| xZ y_32 <| xZ y_40 <| xZ y_96 <| xZ Try.results24 <| xZ Jm.eq_1 <| JP.eq_1
 dsimp only[JP]
 simp only[JV]at H
 refine xS ?_
 refine xr ?_
 refine xr ?_
 refine xr ?_
 refine Ke (JF a0 a1) (fun s=>[(0,.c (.d (.sl 2 (List.map Jm a0)))),(1,.c (.d (.v (.int .i64 a1)))),(2,.c (.d (.v (.func (.func 25) #[] #[])))),(8,.c (.d (.v (.int .i64 s.1)))),(9,.c (.d (.v (.int .i64 s.2.1)))),(10,.c (.d (.v (.int .i64 s.2.2))))]) (fun s=>[]) [] H (xK ⟨[],[]⟩) ?_
 rintro n1 ⟨x1,x2,x3⟩ o1 H hF1
 rw[JF]at H
 refine xS ?_
 refine xr ?_
 rcases Jc H with⟨hp1,H⟩|⟨hp1,H⟩
 ·obtain⟨F,G,hq1⟩:=xH Y G hp1
  refine xT ?_
  obtain⟨hg1,H⟩:=Jj H
  refine xr ?_
  obtain⟨hg2,H⟩:=Jj H
  have F:=xZ Y (Jr Jm a0 ((IntKind.i64.wrap (Int.fdiv (IntKind.u64.wrap (IntKind.i64.wrap (x2+x3))) (2 ^ (min 1 IntKind.u64.bits)))).toNat) default default (by omega))
  obtain⟨r1,hr1,H⟩:=Jg H
  have F:=xCf F (JiN (a0.getD ((IntKind.i64.wrap (Int.fdiv (IntKind.u64.wrap (IntKind.i64.wrap (x2+x3))) (2 ^ (min 1 IntKind.u64.bits)))).toNat) default) a1 r1 hr1)
  refine xR ?_
  rcases Jc H with⟨hp2,H⟩|⟨hp2,H⟩
  ·obtain⟨F,G,hq2⟩:=xH Y G hp2
   refine xT ?_
   refine xr ?_
   exact JD (JM H hF1) (xK ⟨[],[]⟩)
  ·obtain⟨F,G,hq2⟩:=xH Y G hp2
   refine xE ?_
   refine xr ?_
   exact JD (JM H hF1) (xK ⟨[],[]⟩)
 ·obtain⟨F,G,hq1⟩:=xH Y G hp1
  replace H:=Js H hF1
  refine xE0 ?_
  refine Js8 ?_
  refine Jnz ?_
  refine Jle ?_
  refine Jlw ?_
  refine Jq ?_
  refine JB (Kd x2) (fun s=>[(6,.c (.d (.v (.int .i64 x2)))),(7,.c (.d (.v (.bool s))))]) (fun s=>[]) [] r ?_ ?_
  ·rcases Jc H with⟨hp3,H⟩|⟨hp3,H⟩
   ·obtain⟨F,G,hq3⟩:=xH Y G hp3
    obtain⟨hg3,H⟩:=Jj H
    have F:=xZ F (Jr Jm a0 x2.toNat default default (by omega))
    obtain⟨r2,hr2,H⟩:=Jg H
    have F:=xCf F (JiN (a0.getD x2.toNat default) a1 r2 hr2)
    refine xR ?_
    exact Jf H (xK ⟨[],[]⟩)
   ·obtain⟨F,G,hq3⟩:=xH Y G hp3
    refine xR ?_
    exact Jf H (xK ⟨[],[]⟩)
  ·rintro x4 H
   rw[Kd]at H
   replace H:=Option.some.inj H
   refine xS ?_
   subst H
   refine xrD [] ?_
   exact xO ⟨[],[]⟩
theorem Jbc:Jh Try.prog 24∧(∀ g,JR g→Jx Try.prog 24 g)∧(true=true→∀ g,JR g→∃ val bs ts,g.out=.ret val bs ts) :=
 ⟨Jv9,Ja1,fun _=>by rintro _ ⟨_,_,_,_,rfl⟩; exact⟨_,_,_,rfl⟩⟩
noncomputable def Jer(a0:List Bind)(a1:Int):Option Int :=
 (JV a0 a1).bind fun r1=>if(!r1.2)=true then some (-1) else if(0:Int)≤r1.1∧r1.1.toNat<a0.length then some ((a0.getD r1.1.toNat default).Decl) else none
noncomputable def Jha:PF:=PF.of (E2 (dL 2 Jm) dI) (fun a=>Jer a.1 a.2) dI
theorem JqD:Kl Try.prog 11 Jha:=by
 refine xF mixed [] [(24,true,JR)] trivial ⟨Jbc,trivial⟩ Try.func11 ?_
 rintro ⟨a0,a1⟩ out H
 have G:=True.intro
 have Y:=xZ y_3 <| xZ y_32 <| xZ y_40 <| xZ Try.results11 <| xZ Jm.eq_1 <| JP.eq_1
 simp only[Jer]at H
 refine xS ?_
 refine xr ?_
 obtain⟨r1,hr1,H⟩:=Jg H
 have F:=Y
 refine xQ ?_
 refine xs 2 ?_
 refine xc ⟨[],[]⟩ (tabG 0 (Jbe a0 a1 r1 hr1)) ?_
 refine xs 5 ?_
 refine xl ?_
 refine xS ?_
 refine xr ?_
 rcases Jc H with⟨hp1,H⟩|⟨hp1,H⟩
 ·obtain⟨F,G,hq1⟩:=xH Y G hp1
  refine xT ?_
  replace H:=Option.some.inj H
  refine xr ?_
  subst H
  exact xN
 ·obtain⟨F,G,hq1⟩:=xH Y G hp1
  refine xE ?_
  obtain⟨hg1,H⟩:=Jj H
  have F:=xZ Y (Jr Jm a0 r1.1.toNat default default (by omega))
  replace H:=Option.some.inj H
  refine xR ?_
  subst H
  exact xN
theorem Jsj(a0:List Bind)(a1:Int)(r:Int)(H:Jer a0 a1=some r):PC Jha [(dL 2 Jm) a0,dI a1] (dI r):=PF.c (a:=(a0,a1)) H
end Go.Proofs.Ytaofbminodhcnaa
