/- Functions of data for functions of the program. Written by dec3.py. -/
import Derived.Test.YtaofbminodhcnaaZbap
import Derived.Test.YtaofbminodhcnaaZbar
set_option linter.unusedVariables false
set_option linter.unusedSimpArgs false
set_option maxHeartbeats 4000000
set_option maxRecDepth 100000
namespace Go.Proofs.Ytaofbminodhcnaa
open Go.RowKit
noncomputable def Xq(a0:Int)(a1:List Token)(a2:List KD)(a3:List Bind):Int→Option (Int ⊕ (GR (Int×Int) (List Bind)))
 | x1=>if(leI 0 x1)=true then if 0≤x1∧x1.toNat<a2.length∧0≤a0∧a0.toNat<a1.length∧(tokT a1 a0).length≤9223372036854775807 then if(kHas a2 x1 (tokT a1 a0))=true then if(a3.length + [(⟨a0,kVal a2 x1 (tokT a1 a0)⟩:Bind)].length) * 16≤140737488355328 then inrO (some (.ok (a3++[(⟨a0,kVal a2 x1 (tokT a1 a0)⟩:Bind)]))) else none else some (.inl (IntKind.i64.wrap (x1-1))) else none else inrO ((Xm 6 a0 a1 a2 a3).bind fun e1=>some (.er ((a1.getD a0.toNat default).File,(a1.getD a0.toNat default).At)))
noncomputable def Zy(a0:Int)(a1:List Token)(a2:List KD)(a3:List Bind):Option (GR (Int×Int) (List Bind)) :=
 Ju (Xq a0 a1 a2 a3) ((a2.length:Int)-1)
noncomputable def JhV(a0:Int)(a1:List Token)(a2:List KD)(a3:List Bind):GR (Int×Int) (List Bind)→GOut
 | .ok r=>.ret (.tu []) [[.d (.sl 11 (List.map Jb a1)),.kc (KSK a2),.sl 2 (List.map Ji r) 2]] [40]
 | .er r=>.pan (.iface 56 (.agg ⟨[.int .i64 6,.int .i64 r.1,.int .i64 r.2]⟩)) [[.d (.sl 11 (List.map Jb a1)),.kc (KSK a2),.sl 2 (List.map Ji a3) 2]] [40]
noncomputable def ZP(a0:Int)(a1:List Token)(a2:List KD)(a3:List Bind)(r:GR (Int×Int) (List Bind)):GI :=
 ⟨[.c (.pt 1 0),.c (.d (.v (.int .i64 a0)))],[[.d (.sl 11 (List.map Jb a1)),.kc (KSK a2),.sl 2 (List.map Ji a3) 2]],[40],JhV a0 a1 a2 a3 r⟩
def ZM:GI→Prop:=fun g=>∃ (a0:Int) (a1:List Token) (a2:List KD) (a3:List Bind) (r:GR (Int×Int) (List Bind)),Zy a0 a1 a2 a3=some r∧g=ZP a0 a1 a2 a3 r
theorem Jbj(a0:Int)(a1:List Token)(a2:List KD)(a3:List Bind)(r:GR (Int×Int) (List Bind))(H:Zy a0 a1 a2 a3=some r):ZM (ZP a0 a1 a2 a3 r):=⟨a0,a1,a2,a3,r,H,rfl⟩
theorem Jhr:∀ g,ZM g→Jx Try.prog 38 g:=by
 rintro _ ⟨a0,a1,a2,a3,r,H,rfl⟩
 refine xGnl mixed [1000052] [] [(63,false,Xp)] [] trivial ⟨Jej,trivial⟩ trivial Try.func38 _ ?_
 have G:=True.intro
 have Y:=xZ y_3 <| xZ y_9 <| xZ y_22 <| xZ y_32 <| xZ y_40 <| xZ y_44 <| xZ y_58 <| xZ y_59 <| xZ y_61 <| xZ Try.results38 <| xZ J9.eq_1 <| xZ Jb.eq_1 <| xZ Ji.eq_1 <| xZ VP.eq_1 <| xZ ZP.eq_1 <| xZ JdH <| xZ Jcz <| xZ Jcy <| xZ JdG <| xZ JdD <| xZ JcG <| xZ JcA <| JdF
 dsimp only[ZP]
 simp only[Zy]at H
 refine xS ?_
 refine Ju5 a2 ?_
 refine xS ?_
 refine KH (Xq a0 a1 a2 a3) (fun s=>[(0,.c (.pt 1 0)),(1,.c (.d (.v (.int .i64 a0)))),(4,.c (.d (.v (.int .i64 s))))]) (fun s=>[[.d (.sl 11 (List.map Jb a1)),.kc (KSK a2),.sl 2 (List.map Ji a3) 2]]) [40] H (xK ⟨[1],[2]⟩) ?_
 rintro n1 x1 o1 H hF1
 rw[Xq]at H
 refine xS ?_
 refine xr ?_
 rcases Jc H with⟨hp1,H⟩|⟨hp1,H⟩
 ·obtain⟨F,G,hq1⟩:=xH Y G hp1
  refine xT ?_
  obtain⟨hgh,H⟩:=Jg H
  refine Jvg a2 a1 x1 a0 hgh ?_
  refine xS ?_
  refine xr ?_
  rcases Jc H with⟨hp2,H⟩|⟨hp2,H⟩
  ·obtain⟨F,G,hq2⟩:=xH Y G hp2
   refine xT ?_
   obtain⟨hg1,H⟩:=Jg H
   have F:=xZ Y (XE JnK [(⟨a0,kVal a2 x1 (tokT a1 a0)⟩:Bind)])
   replace H:=Jq H hF1
   replace H:=Option.some.inj H
   refine xR ?_
   subst H
   refine xrD [] ?_
   exact xO ⟨[1],[3]⟩
  ·obtain⟨F,G,hq2⟩:=xH Y G hp2
   refine xE ?_
   refine xr ?_
   exact JJ (J2 H hF1) (xK ⟨[1],[2]⟩)
 ·obtain⟨F,G,hq1⟩:=xH Y G hp1
  replace H:=Jq H hF1
  refine xE ?_
  obtain⟨e1,hr2,H⟩:=Je H
  have F:=Y
  refine xQp [49,50,51] ?_
  refine xs 2 ?_
  refine xp ⟨[1],[2]⟩ (tabG 0 (Jeh 6 a0 a1 a2 a3 e1 hr2)) ?_
  replace H:=Option.some.inj H
  refine xS ?_
  subst H
  refine xpD [] ?_
  exact xOv ⟨[1],[4]⟩
theorem Jig:Jf Try.prog 38∧(∀ g,ZM g→Jx Try.prog 38 g)∧(false=true→∀ g,ZM g→∃ val bs ts,g.out=.ret val bs ts) :=
 ⟨JuX,Jhr,nofun⟩
noncomputable def Xl(a0:Int)(a1:List Token)(a2:List KD)(a3:List Bind):Option (GR (Int×Int) ((List KD)×(List Bind))) :=
 if 0<a2.length∧(kTop a2).length<9223372036854775807∧0≤a0∧a0.toNat<a1.length∧(tokT a1 a0).length≤9223372036854775807 then if(JeC a2 a1 a0)=true then(Xm 7 a0 a1 a2 a3).bind fun e1=>some (.er ((a1.getD a0.toNat default).File,(a1.getD a0.toNat default).At)) else if(a3.length + [(⟨a0,a0⟩:Bind)].length) * 16≤140737488355328 then some (.ok (kPut a2 (tokT a1 a0) a0,a3++[(⟨a0,a0⟩:Bind)])) else none else none
noncomputable def Jht(a0:Int)(a1:List Token)(a2:List KD)(a3:List Bind):GR (Int×Int) ((List KD)×(List Bind))→GOut
 | .ok r=>.ret (.tu []) [[.d (.sl 11 (List.map Jb a1)),.kc (KSK r.1),.sl 2 (List.map Ji r.2) 2]] [40]
 | .er r=>.pan (.iface 56 (.agg ⟨[.int .i64 7,.int .i64 r.1,.int .i64 r.2]⟩)) [[.d (.sl 11 (List.map Jb a1)),.kc (KSK a2),.sl 2 (List.map Ji a3) 2]] [40]
noncomputable def Zl(a0:Int)(a1:List Token)(a2:List KD)(a3:List Bind)(r:GR (Int×Int) ((List KD)×(List Bind))):GI :=
 ⟨[.c (.pt 1 0),.c (.d (.v (.int .i64 a0)))],[[.d (.sl 11 (List.map Jb a1)),.kc (KSK a2),.sl 2 (List.map Ji a3) 2]],[40],Jht a0 a1 a2 a3 r⟩
def Zk:GI→Prop:=fun g=>∃ (a0:Int) (a1:List Token) (a2:List KD) (a3:List Bind) (r:GR (Int×Int) ((List KD)×(List Bind))),Xl a0 a1 a2 a3=some r∧g=Zl a0 a1 a2 a3 r
theorem JaT(a0:Int)(a1:List Token)(a2:List KD)(a3:List Bind)(r:GR (Int×Int) ((List KD)×(List Bind)))(H:Xl a0 a1 a2 a3=some r):Zk (Zl a0 a1 a2 a3 r):=⟨a0,a1,a2,a3,r,H,rfl⟩
theorem JgA:∀ g,Zk g→Jx Try.prog 39 g:=by
 rintro _ ⟨a0,a1,a2,a3,r,H,rfl⟩
 refine xGnl mixed [1000053] [] [(63,false,Xp)] [] trivial ⟨Jej,trivial⟩ trivial Try.func39 _ ?_
 have G:=True.intro
 have Y:=xZ y_3 <| xZ y_9 <| xZ y_22 <| xZ y_32 <| xZ y_40 <| xZ y_44 <| xZ y_58 <| xZ y_59 <| xZ y_61 <| xZ Try.results39 <| xZ J9.eq_1 <| xZ Jb.eq_1 <| xZ Ji.eq_1 <| xZ VP.eq_1 <| xZ Zl.eq_1 <| xZ JdH <| xZ Jcz <| xZ Jcy <| xZ JdG <| xZ JdD <| xZ JcG <| xZ JcA <| JdF
 dsimp only[Zl]
 simp only[Xl]at H
 obtain⟨hgh,H⟩:=Jg H
 rcases Jc H with⟨hp1,H⟩|⟨hp1,H⟩
 ·obtain⟨F,G,hq1⟩:=xH Y G hp1
  refine JvE a2 a1 a0 hgh hp1 ?_
  obtain⟨e1,hr2,H⟩:=Je H
  have F:=Y
  refine xQp [35,36,37] ?_
  refine xs 2 ?_
  refine xp ⟨[1],[2]⟩ (tabG 0 (Jeh 7 a0 a1 a2 a3 e1 hr2)) ?_
  replace H:=Option.some.inj H
  refine xS ?_
  subst H
  refine xpD [] ?_
  exact xOv ⟨[1],[4]⟩
 ·obtain⟨F,G,hq1⟩:=xH Y G hp1
  refine JvJ a2 a1 a0 hgh hp1 ?_
  obtain⟨hg1,H⟩:=Jg H
  have F:=xZ Y (XE JnK [(⟨a0,a0⟩:Bind)])
  replace H:=Option.some.inj H
  refine xR ?_
  subst H
  refine xnD [] ?_
  exact xO ⟨[1],[3]⟩
theorem Jhn:Jf Try.prog 39∧(∀ g,Zk g→Jx Try.prog 39 g)∧(false=true→∀ g,Zk g→∃ val bs ts,g.out=.ret val bs ts) :=
 ⟨JtZ,JgA,nofun⟩
noncomputable def Jhu(a0:Node)(a1:List Token)(a2:List KD)(a3:List Bind):GR (Int×Int×Int×(List KD)×(List Bind)) ((List KD)×(List Bind))→GOut
 | .ok r=>.ret (.tu []) [[.d (.sl 11 (List.map Jb a1)),.kc (KSK r.1),.sl 2 (List.map Ji r.2) 2]] [40]
 | .er r=>.pan (.iface 56 (.agg ⟨[.int .i64 r.1,.int .i64 r.2.1,.int .i64 r.2.2.1]⟩)) [[.d (.sl 11 (List.map Jb a1)),.kc (KSK r.2.2.2.1),.sl 2 (List.map Ji r.2.2.2.2) 2]] [40]
noncomputable def KO(a0:Node)(a1:List Token)(a2:List KD)(a3:List Bind)(r:GR (Int×Int×Int×(List KD)×(List Bind)) ((List KD)×(List Bind))):GI :=
 ⟨[.c (.pt 1 0),.c (.pp (List.drop 0 (Jp a0).cells))],[[.d (.sl 11 (List.map Jb a1)),.kc (KSK a2),.sl 2 (List.map Ji a3) 2]],[40],Jhu a0 a1 a2 a3 r⟩
def JS(q:Node→(List Token)→(List KD)→(List Bind)→Option (GR (Int×Int×Int×(List KD)×(List Bind)) ((List KD)×(List Bind)))):GI→Prop:=fun g=>∃ (a0:Node) (a1:List Token) (a2:List KD) (a3:List Bind) (r:GR (Int×Int×Int×(List KD)×(List Bind)) ((List KD)×(List Bind))),q a0 a1 a2 a3=some r∧g=KO a0 a1 a2 a3 r
theorem Vy(q:Node→(List Token)→(List KD)→(List Bind)→Option (GR (Int×Int×Int×(List KD)×(List Bind)) ((List KD)×(List Bind))))(a0:Node)(a1:List Token)(a2:List KD)(a3:List Bind)(r:GR (Int×Int×Int×(List KD)×(List Bind)) ((List KD)×(List Bind)))(H:q a0 a1 a2 a3=some r):JS q (KO a0 a1 a2 a3 r):=⟨a0,a1,a2,a3,r,H,rfl⟩
noncomputable def Jhw(a0:Node)(a1:List Token)(a2:List KD)(a3:List Bind):GR (Int×Int×Int×(List KD)×(List Bind)) ((List KD)×(List Bind))→GOut
 | .ok r=>.ret (.tu []) [[.d (.sl 11 (List.map Jb a1)),.kc (KSK r.1),.sl 2 (List.map Ji r.2) 2]] [40]
 | .er r=>.pan (.iface 56 (.agg ⟨[.int .i64 r.1,.int .i64 r.2.1,.int .i64 r.2.2.1]⟩)) [[.d (.sl 11 (List.map Jb a1)),.kc (KSK r.2.2.2.1),.sl 2 (List.map Ji r.2.2.2.2) 2]] [40]
noncomputable def VO(a0:Node)(a1:List Token)(a2:List KD)(a3:List Bind)(r:GR (Int×Int×Int×(List KD)×(List Bind)) ((List KD)×(List Bind))):GI :=
 ⟨[.c (.pt 1 0),.c (.pp (List.drop 0 (Jp a0).cells))],[[.d (.sl 11 (List.map Jb a1)),.kc (KSK a2),.sl 2 (List.map Ji a3) 2]],[40],Jhw a0 a1 a2 a3 r⟩
def J1(q:Node→(List Token)→(List KD)→(List Bind)→Option (GR (Int×Int×Int×(List KD)×(List Bind)) ((List KD)×(List Bind)))):GI→Prop:=fun g=>∃ (a0:Node) (a1:List Token) (a2:List KD) (a3:List Bind) (r:GR (Int×Int×Int×(List KD)×(List Bind)) ((List KD)×(List Bind))),q a0 a1 a2 a3=some r∧g=VO a0 a1 a2 a3 r
theorem K6(q:Node→(List Token)→(List KD)→(List Bind)→Option (GR (Int×Int×Int×(List KD)×(List Bind)) ((List KD)×(List Bind))))(a0:Node)(a1:List Token)(a2:List KD)(a3:List Bind)(r:GR (Int×Int×Int×(List KD)×(List Bind)) ((List KD)×(List Bind)))(H:q a0 a1 a2 a3=some r):J1 q (VO a0 a1 a2 a3 r):=⟨a0,a1,a2,a3,r,H,rfl⟩
noncomputable def Jgn(a0:List Token)(a1:List KD)(a2:List Bind)(a3:Node):GR (Int×Int×Int×(List KD)×(List Bind)) ((List KD)×(List Bind))→GOut
 | .ok r=>.ret (.tu []) [[.d (.sl 11 (List.map Jb a0)),.kc (KSK r.1),.sl 2 (List.map Ji r.2) 4],[.pt 1 0],[.pp (List.drop 0 (Jp a3).cells)]] [40]
 | .er r=>.pan (.iface 56 (.agg ⟨[.int .i64 r.1,.int .i64 r.2.1,.int .i64 r.2.2.1]⟩)) [[.d (.sl 11 (List.map Jb a0)),.kc (KSK r.2.2.2.1),.sl 2 (List.map Ji r.2.2.2.2) 4],[.pt 1 0],[.pp (List.drop 0 (Jp a3).cells)]] [40]
noncomputable def XH(a0:List Token)(a1:List KD)(a2:List Bind)(a3:Node)(r:GR (Int×Int×Int×(List KD)×(List Bind)) ((List KD)×(List Bind))):GI :=
 ⟨[.c (.pt 1 0),.c (.clo 43 [2,3])],[[.d (.sl 11 (List.map Jb a0)),.kc (KSK a1),.sl 2 (List.map Ji a2) 4],[.pt 1 0],[.pp (List.drop 0 (Jp a3).cells)]],[40],Jgn a0 a1 a2 a3 r⟩
def Kc(q:(List Token)→(List KD)→(List Bind)→Node→Option (GR (Int×Int×Int×(List KD)×(List Bind)) ((List KD)×(List Bind)))):GI→Prop:=fun g=>∃ (a0:List Token) (a1:List KD) (a2:List Bind) (a3:Node) (r:GR (Int×Int×Int×(List KD)×(List Bind)) ((List KD)×(List Bind))),q a0 a1 a2 a3=some r∧g=XH a0 a1 a2 a3 r
theorem Jdb(q:(List Token)→(List KD)→(List Bind)→Node→Option (GR (Int×Int×Int×(List KD)×(List Bind)) ((List KD)×(List Bind))))(a0:List Token)(a1:List KD)(a2:List Bind)(a3:Node)(r:GR (Int×Int×Int×(List KD)×(List Bind)) ((List KD)×(List Bind)))(H:q a0 a1 a2 a3=some r):Kc q (XH a0 a1 a2 a3 r):=⟨a0,a1,a2,a3,r,H,rfl⟩
noncomputable def Jfx(a0:List Token)(a1:List KD)(a2:List Bind)(a3:Node):GR (Int×Int×Int×(List KD)×(List Bind)) ((List KD)×(List Bind))→GOut
 | .ok r=>.ret (.tu []) [[.d (.sl 11 (List.map Jb a0)),.kc (KSK r.1),.sl 2 (List.map Ji r.2) 4],[.pp (List.drop 0 (Jp a3).cells)],[.pt 1 0]] [40]
 | .er r=>.pan (.iface 56 (.agg ⟨[.int .i64 r.1,.int .i64 r.2.1,.int .i64 r.2.2.1]⟩)) [[.d (.sl 11 (List.map Jb a0)),.kc (KSK r.2.2.2.1),.sl 2 (List.map Ji r.2.2.2.2) 4],[.pp (List.drop 0 (Jp a3).cells)],[.pt 1 0]] [40]
noncomputable def V5(a0:List Token)(a1:List KD)(a2:List Bind)(a3:Node)(r:GR (Int×Int×Int×(List KD)×(List Bind)) ((List KD)×(List Bind))):GI :=
 ⟨[.c (.pt 1 0),.c (.clo 42 [2,3])],[[.d (.sl 11 (List.map Jb a0)),.kc (KSK a1),.sl 2 (List.map Ji a2) 4],[.pp (List.drop 0 (Jp a3).cells)],[.pt 1 0]],[40],Jfx a0 a1 a2 a3 r⟩
def JT(q:(List Token)→(List KD)→(List Bind)→Node→Option (GR (Int×Int×Int×(List KD)×(List Bind)) ((List KD)×(List Bind)))):GI→Prop:=fun g=>∃ (a0:List Token) (a1:List KD) (a2:List Bind) (a3:Node) (r:GR (Int×Int×Int×(List KD)×(List Bind)) ((List KD)×(List Bind))),q a0 a1 a2 a3=some r∧g=V5 a0 a1 a2 a3 r
theorem Jcr(q:(List Token)→(List KD)→(List Bind)→Node→Option (GR (Int×Int×Int×(List KD)×(List Bind)) ((List KD)×(List Bind))))(a0:List Token)(a1:List KD)(a2:List Bind)(a3:Node)(r:GR (Int×Int×Int×(List KD)×(List Bind)) ((List KD)×(List Bind)))(H:q a0 a1 a2 a3=some r):JT q (V5 a0 a1 a2 a3 r):=⟨a0,a1,a2,a3,r,H,rfl⟩
noncomputable def Jgi(a0:Node)(a1:List Token)(a2:List KD)(a3:List Bind):GR (Int×Int×Int×(List KD)×(List Bind)) ((List KD)×(List Bind))→GOut
 | .ok r=>.ret (.tu []) [[.pt 3 0],[.pp (List.drop 0 (Jp a0).cells)],[.d (.sl 11 (List.map Jb a1)),.kc (KSK r.1),.sl 2 (List.map Ji r.2) 4]] [40]
 | .er r=>.pan (.iface 56 (.agg ⟨[.int .i64 r.1,.int .i64 r.2.1,.int .i64 r.2.2.1]⟩)) [[.pt 3 0],[.pp (List.drop 0 (Jp a0).cells)],[.d (.sl 11 (List.map Jb a1)),.kc (KSK r.2.2.2.1),.sl 2 (List.map Ji r.2.2.2.2) 4]] [40]
noncomputable def XN(a0:Node)(a1:List Token)(a2:List KD)(a3:List Bind)(r:GR (Int×Int×Int×(List KD)×(List Bind)) ((List KD)×(List Bind))):GI :=
 ⟨[.c (.pt 1 0),.c (.pt 2 0)],[[.pt 3 0],[.pp (List.drop 0 (Jp a0).cells)],[.d (.sl 11 (List.map Jb a1)),.kc (KSK a2),.sl 2 (List.map Ji a3) 4]],[40],Jgi a0 a1 a2 a3 r⟩
def Kb(q:Node→(List Token)→(List KD)→(List Bind)→Option (GR (Int×Int×Int×(List KD)×(List Bind)) ((List KD)×(List Bind)))):GI→Prop:=fun g=>∃ (a0:Node) (a1:List Token) (a2:List KD) (a3:List Bind) (r:GR (Int×Int×Int×(List KD)×(List Bind)) ((List KD)×(List Bind))),q a0 a1 a2 a3=some r∧g=XN a0 a1 a2 a3 r
theorem Jc9(q:Node→(List Token)→(List KD)→(List Bind)→Option (GR (Int×Int×Int×(List KD)×(List Bind)) ((List KD)×(List Bind))))(a0:Node)(a1:List Token)(a2:List KD)(a3:List Bind)(r:GR (Int×Int×Int×(List KD)×(List Bind)) ((List KD)×(List Bind)))(H:q a0 a1 a2 a3=some r):Kb q (XN a0 a1 a2 a3 r):=⟨a0,a1,a2,a3,r,H,rfl⟩
noncomputable def Jgx(a0:Node)(a1:List Token)(a2:List KD)(a3:List Bind):GR (Int×Int×Int×(List KD)×(List Bind)) ((List KD)×(List Bind))→GOut
 | .ok r=>.ret (.tu []) [[.pp (List.drop 0 (Jp a0).cells)],[.pt 3 0],[.d (.sl 11 (List.map Jb a1)),.kc (KSK r.1),.sl 2 (List.map Ji r.2) 4]] [40]
 | .er r=>.pan (.iface 56 (.agg ⟨[.int .i64 r.1,.int .i64 r.2.1,.int .i64 r.2.2.1]⟩)) [[.pp (List.drop 0 (Jp a0).cells)],[.pt 3 0],[.d (.sl 11 (List.map Jb a1)),.kc (KSK r.2.2.2.1),.sl 2 (List.map Ji r.2.2.2.2) 4]] [40]
noncomputable def XC(a0:Node)(a1:List Token)(a2:List KD)(a3:List Bind)(r:GR (Int×Int×Int×(List KD)×(List Bind)) ((List KD)×(List Bind))):GI :=
 ⟨[.c (.pt 1 0),.c (.pt 2 0)],[[.pp (List.drop 0 (Jp a0).cells)],[.pt 3 0],[.d (.sl 11 (List.map Jb a1)),.kc (KSK a2),.sl 2 (List.map Ji a3) 4]],[40],Jgx a0 a1 a2 a3 r⟩
def Kd(q:Node→(List Token)→(List KD)→(List Bind)→Option (GR (Int×Int×Int×(List KD)×(List Bind)) ((List KD)×(List Bind)))):GI→Prop:=fun g=>∃ (a0:Node) (a1:List Token) (a2:List KD) (a3:List Bind) (r:GR (Int×Int×Int×(List KD)×(List Bind)) ((List KD)×(List Bind))),q a0 a1 a2 a3=some r∧g=XC a0 a1 a2 a3 r
theorem Jdd(q:Node→(List Token)→(List KD)→(List Bind)→Option (GR (Int×Int×Int×(List KD)×(List Bind)) ((List KD)×(List Bind))))(a0:Node)(a1:List Token)(a2:List KD)(a3:List Bind)(r:GR (Int×Int×Int×(List KD)×(List Bind)) ((List KD)×(List Bind)))(H:q a0 a1 a2 a3=some r):Kd q (XC a0 a1 a2 a3 r):=⟨a0,a1,a2,a3,r,H,rfl⟩
noncomputable def K5(a0:Node)(a1:List Token)(a2:List KD)(a3:List Bind):Bool→Option (GR (Int×Int×Int×(List KD)×(List Bind)) ((List KD)×(List Bind)))
 | x1=>if x1=true then some (.ok (a2,a3)) else grB (Zy a0.Tok a1 a2 a3) (fun r1=>some (.ok (a2,r1))) (fun e1=>some (.er (6,e1.1,e1.2,a2,a3)))
noncomputable def Zn(q1:Node→(List Token)→(List KD)→(List Bind)→Option (GR (Int×Int×Int×(List KD)×(List Bind)) ((List KD)×(List Bind))))(q2:Node→(List Token)→(List KD)→(List Bind)→Option (GR (Int×Int×Int×(List KD)×(List Bind)) ((List KD)×(List Bind))))(q3:(List Token)→(List KD)→(List Bind)→Node→Option (GR (Int×Int×Int×(List KD)×(List Bind)) ((List KD)×(List Bind))))(q4:(List Token)→(List KD)→(List Bind)→Node→Option (GR (Int×Int×Int×(List KD)×(List Bind)) ((List KD)×(List Bind))))(q5:Node→(List Token)→(List KD)→(List Bind)→Option (GR (Int×Int×Int×(List KD)×(List Bind)) ((List KD)×(List Bind))))(q6:Node→(List Token)→(List KD)→(List Bind)→Option (GR (Int×Int×Int×(List KD)×(List Bind)) ((List KD)×(List Bind))))(a0:Node)(a1:List Token)(a2:List KD)(a3:List Bind):Option (GR (Int×Int×Int×(List KD)×(List Bind)) ((List KD)×(List Bind))) :=
 if(eqI a0.Kind 16)=true then if(0:Int)≤a0.Tok∧a0.Tok.toNat<a1.length then if(eqS ((a1.getD a0.Tok.toNat default).Text) [105,110,116])=true then K5 a0 a1 a2 a3 true else if(eqS ((a1.getD a0.Tok.toNat default).Text) [99,104,97,114])=true then K5 a0 a1 a2 a3 true else if(eqS ((a1.getD a0.Tok.toNat default).Text) [108,111,110,103])=true then K5 a0 a1 a2 a3 true else K5 a0 a1 a2 a3 (eqS ((a1.getD a0.Tok.toNat default).Text) [118,111,105,100]) else none else if(eqI a0.Kind 10)=true then grB (Zy a0.Tok a1 a2 a3) (fun r2=>some (.ok (a2,r2))) (fun e2=>some (.er (6,e2.1,e2.2,a2,a3))) else if(eqI a0.Kind 4)=true then grB (Xl a0.Tok a1 a2 a3) (fun r3=>grB (q2 a0 a1 r3.1 r3.2) (fun r4=>some (.ok (r4.1,r4.2))) (fun e4=>some (.er (e4.1,e4.2.1,e4.2.2.1,e4.2.2.2.1,e4.2.2.2.2)))) (fun e3=>some (.er (7,e3.1,e3.2,a2,a3))) else if(eqI a0.Kind 3)=true then if 0<a0.Kids.length then grB (q1 (a0.Kids.getD 0 default) a1 a2 a3) (fun r5=>if 1<a0.Kids.length then grB (Xl ((a0.Kids.getD 1 default).Tok) a1 r5.1 r5.2) (fun r6=>grB (q4 a1 r6.1 r6.2 a0) (fun r7=>some (.ok (r7.1,r7.2))) (fun e7=>some (.er (e7.1,e7.2.1,e7.2.2.1,e7.2.2.2.1,e7.2.2.2.2)))) (fun e6=>some (.er (7,e6.1,e6.2,r5.1,r5.2))) else none) (fun e5=>some (.er (e5.1,e5.2.1,e5.2.2.1,e5.2.2.2.1,e5.2.2.2.2))) else none else if(eqI a0.Kind 5)=true then grB (q3 a1 a2 a3 a0) (fun r8=>some (.ok (r8.1,r8.2))) (fun e8=>some (.er (e8.1,e8.2.1,e8.2.2.1,e8.2.2.2.1,e8.2.2.2.2))) else grB (q2 a0 a1 a2 a3) (fun r9=>some (.ok (r9.1,r9.2))) (fun e9=>some (.er (e9.1,e9.2.1,e9.2.2.1,e9.2.2.2.1,e9.2.2.2.2)))
theorem Jgy(q1:Node→(List Token)→(List KD)→(List Bind)→Option (GR (Int×Int×Int×(List KD)×(List Bind)) ((List KD)×(List Bind))))(q2:Node→(List Token)→(List KD)→(List Bind)→Option (GR (Int×Int×Int×(List KD)×(List Bind)) ((List KD)×(List Bind))))(q3:(List Token)→(List KD)→(List Bind)→Node→Option (GR (Int×Int×Int×(List KD)×(List Bind)) ((List KD)×(List Bind))))(q4:(List Token)→(List KD)→(List Bind)→Node→Option (GR (Int×Int×Int×(List KD)×(List Bind)) ((List KD)×(List Bind))))(q5:Node→(List Token)→(List KD)→(List Bind)→Option (GR (Int×Int×Int×(List KD)×(List Bind)) ((List KD)×(List Bind))))(q6:Node→(List Token)→(List KD)→(List Bind)→Option (GR (Int×Int×Int×(List KD)×(List Bind)) ((List KD)×(List Bind))))(kq1:Kok Try.prog 19 false (JS q1))(kq2:Kok Try.prog 40 false (J1 q2))(kq3:Kok Try.prog 41 false (Kc q3))(kq4:Kok Try.prog 41 false (JT q4))(kq5:Kok Try.prog 43 false (Kb q5))(kq6:Kok Try.prog 42 false (Kd q6)):∀ g,JS (Zn q1 q2 q3 q4 q5 q6) g→Jx Try.prog 19 g:=by
 rintro _ ⟨a0,a1,a2,a3,r,H,rfl⟩
 refine xGn mixed [] [(38,false,ZM),(39,false,Zk),(40,false,(J1 q2)),(19,false,(JS q1)),(41,false,(JT q4)),(41,false,(Kc q3))] [] trivial ⟨Jig,Jhn,kq2,kq1,kq4,kq3,trivial⟩ trivial Try.func19 _ ?_
 have G:=True.intro
 have Y:=xZ y_3 <| xZ y_9 <| xZ y_22 <| xZ y_24 <| xZ y_26 <| xZ y_44 <| xZ y_57 <| xZ y_61 <| xZ y_63 <| xZ Try.results19 <| xZ J9.eq_1 <| xZ Jb.eq_1 <| xZ Vl <| xZ Ji.eq_1 <| xZ ZP.eq_1 <| xZ Zl.eq_1 <| xZ VO.eq_1 <| xZ KO.eq_1 <| xZ V5.eq_1 <| xZ XH.eq_1 <| KO.eq_1
 dsimp only[KO]
 simp only[Zn]at H
 refine xS ?_
 refine xr ?_
 refine xr ?_
 refine xr ?_
 rcases Jc H with⟨hp1,H⟩|⟨hp1,H⟩
 ·obtain⟨F,G,hq1⟩:=xH Y G hp1
  refine xT ?_
  obtain⟨hg1,H⟩:=Jg H
  have F:=xZ Y (Jv Jb a1 a0.Tok.toNat default default (by omega))
  refine xR0 ?_
  refine Jn ?_
  refine Jff ?_
  refine JB (K5 a0 a1 a2 a3) (fun s=>[(2,.c (.pt 2 0)),(3,.c (.pt 3 0)),(24,.c (.d (.v (.bool s))))]) (fun s=>[[.d (.sl 11 (List.map Jb a1)),.kc (KSK a2),.sl 2 (List.map Ji a3) 4],[.pt 1 0],[.pp (List.drop 0 (Jp a0).cells)]]) [40] r ?_ ?_
  ·refine xS ?_
   refine xr ?_
   rcases Jc H with⟨hp3,H⟩|⟨hp3,H⟩
   ·obtain⟨F,G,hq3⟩:=xH Y G hp3
    refine xT ?_
    exact Jd H (xK ⟨[1,3,4],[2]⟩)
   ·obtain⟨F,G,hq3⟩:=xH Y G hp3
    refine xE ?_
    refine xr ?_
    rcases Jc H with⟨hp4,H⟩|⟨hp4,H⟩
    ·obtain⟨F,G,hq4⟩:=xH Y G hp4
     refine xT ?_
     exact Jd H (xK ⟨[1,3,4],[2]⟩)
    ·obtain⟨F,G,hq4⟩:=xH Y G hp4
     refine xE ?_
     refine xr ?_
     rcases Jc H with⟨hp5,H⟩|⟨hp5,H⟩
     ·obtain⟨F,G,hq5⟩:=xH Y G hp5
      refine xT ?_
      exact Jd H (xK ⟨[1,3,4],[2]⟩)
     ·obtain⟨F,G,hq5⟩:=xH Y G hp5
      refine xE ?_
      refine xr ?_
      exact Jd H (xK ⟨[1,3,4],[2]⟩)
  ·rintro x1 H
   rw[K5]at H
   rcases Jc H with⟨hp2,H⟩|⟨hp2,H⟩
   ·obtain⟨F,G,hq2⟩:=xH Y G hp2
    replace H:=Option.some.inj H
    refine xT ?_
    subst H
    refine xrD [] ?_
    exact xO ⟨[1],[4]⟩
   ·obtain⟨F,G,hq2⟩:=xH Y G hp2
    refine xE ?_
    rcases Jan H with⟨r1,hr1,H⟩|⟨e1,hr2,H⟩
    ·have F:=Y
     refine xQ ?_
     refine xs 5 ?_
     refine xc ⟨[1],[4]⟩ (tabG 0 (Jbj a0.Tok a1 a2 a3 (.ok r1) hr1)) ?_
     refine xl ?_
     replace H:=Option.some.inj H
     refine xS ?_
     subst H
     refine xnD [] ?_
     exact xO ⟨[1],[6]⟩
    ·have F:=Y
     refine xQp [29,30,31,32,33,34] ?_
     refine xs 5 ?_
     refine xp ⟨[1],[4]⟩ (tabG 0 (Jbj a0.Tok a1 a2 a3 (.er e1) hr2)) ?_
     replace H:=Option.some.inj H
     refine xS ?_
     subst H
     refine xpD [] ?_
     exact xOv ⟨[1],[6]⟩
 ·obtain⟨F,G,hq1⟩:=xH Y G hp1
  refine xE ?_
  refine xr ?_
  rcases Jc H with⟨hp6,H⟩|⟨hp6,H⟩
  ·obtain⟨F,G,hq6⟩:=xH Y G hp6
   refine xT ?_
   rcases Jan H with⟨r2,hr3,H⟩|⟨e2,hr4,H⟩
   ·have F:=Y
    refine xQ ?_
    refine xs 5 ?_
    refine xc ⟨[1],[2]⟩ (tabG 0 (Jbj a0.Tok a1 a2 a3 (.ok r2) hr3)) ?_
    refine xl ?_
    replace H:=Option.some.inj H
    refine xS ?_
    subst H
    refine xnD [] ?_
    exact xO ⟨[1],[6]⟩
   ·have F:=Y
    refine xQp [37,38,39,40,41,42] ?_
    refine xs 5 ?_
    refine xp ⟨[1],[2]⟩ (tabG 0 (Jbj a0.Tok a1 a2 a3 (.er e2) hr4)) ?_
    replace H:=Option.some.inj H
    refine xS ?_
    subst H
    refine xpD [] ?_
    exact xOv ⟨[1],[6]⟩
  ·obtain⟨F,G,hq6⟩:=xH Y G hp6
   refine xE ?_
   refine xr ?_
   rcases Jc H with⟨hp7,H⟩|⟨hp7,H⟩
   ·obtain⟨F,G,hq7⟩:=xH Y G hp7
    refine xT ?_
    rcases Jan H with⟨r3,hr5,H⟩|⟨e3,hr6,H⟩
    ·have F:=Y
     refine xQ ?_
     refine xs 5 ?_
     refine xc ⟨[1],[2]⟩ (tabG 1 (JaT a0.Tok a1 a2 a3 (.ok r3) hr5)) ?_
     refine xl ?_
     refine xS ?_
     rcases Jan H with⟨r4,hr7,H⟩|⟨e4,hr8,H⟩
     ·have F:=Y
      refine xQ ?_
      refine xs 2 ?_
      refine xc ⟨[1],[6]⟩ (tabG 2 (K6 q2 a0 a1 r3.1 r3.2 (.ok r4) hr7)) ?_
      refine xl ?_
      replace H:=Option.some.inj H
      refine xS ?_
      subst H
      refine xnD [] ?_
      exact xO ⟨[1],[8]⟩
     ·have F:=Y
      refine xQp [51,52,53] ?_
      refine xs 2 ?_
      refine xp ⟨[1],[6]⟩ (tabG 2 (K6 q2 a0 a1 r3.1 r3.2 (.er e4) hr8)) ?_
      replace H:=Option.some.inj H
      refine xS ?_
      subst H
      refine xpD [] ?_
      exact xOv ⟨[1],[8]⟩
    ·have F:=Y
     refine xQp [45,46,47,48,49,50] ?_
     refine xs 5 ?_
     refine xp ⟨[1],[2]⟩ (tabG 1 (JaT a0.Tok a1 a2 a3 (.er e3) hr6)) ?_
     replace H:=Option.some.inj H
     refine xS ?_
     subst H
     refine xpD [] ?_
     exact xOv ⟨[1],[6]⟩
   ·obtain⟨F,G,hq7⟩:=xH Y G hp7
    refine xE ?_
    refine xr ?_
    rcases Jc H with⟨hp8,H⟩|⟨hp8,H⟩
    ·obtain⟨F,G,hq8⟩:=xH Y G hp8
     refine xT ?_
     obtain⟨hg2,H⟩:=Jg H
     have F:=xZ Y (Jv Jp a0.Kids 0 default default (by omega))
     rcases Jan H with⟨r5,hr9,H⟩|⟨e5,hr10,H⟩
     ·have F:=F
      refine xQ ?_
      refine xs 6 ?_
      refine xc ⟨[1],[2]⟩ (tabG 3 (Vy q1 (a0.Kids.getD 0 default) a1 a2 a3 (.ok r5) hr9)) ?_
      refine xl ?_
      refine xS ?_
      obtain⟨hg3,H⟩:=Jg H
      have F:=xZ Y (Jv Jp a0.Kids 1 default default (by omega))
      rcases Jan H with⟨r6,hr11,H⟩|⟨e6,hr12,H⟩
      ·have F:=F
       refine xQ ?_
       refine xs 8 ?_
       refine xc ⟨[1],[6]⟩ (tabG 1 (JaT ((a0.Kids.getD 1 default).Tok) a1 r5.1 r5.2 (.ok r6) hr11)) ?_
       refine xl ?_
       refine xS ?_
       rcases Jan H with⟨r7,hr13,H⟩|⟨e7,hr14,H⟩
       ·have F:=Y
        refine xQ ?_
        refine xs 2 ?_
        refine xc ⟨[1,4,3],[8]⟩ (tabG 4 (Jcr q4 a1 r6.1 r6.2 a0 (.ok r7) hr13)) ?_
        refine xl ?_
        replace H:=Option.some.inj H
        refine xS ?_
        subst H
        refine xnD [] ?_
        exact xO ⟨[1],[12]⟩
       ·have F:=Y
        refine xQp [72,73,74] ?_
        refine xs 2 ?_
        refine xp ⟨[1,4,3],[8]⟩ (tabG 4 (Jcr q4 a1 r6.1 r6.2 a0 (.er e7) hr14)) ?_
        replace H:=Option.some.inj H
        refine xS ?_
        subst H
        refine xpD [] ?_
        exact xOv ⟨[1],[12]⟩
      ·have F:=F
       refine xQp [63,64,65,66,67,68,69,70,71] ?_
       refine xs 8 ?_
       refine xp ⟨[1],[6]⟩ (tabG 1 (JaT ((a0.Kids.getD 1 default).Tok) a1 r5.1 r5.2 (.er e6) hr12)) ?_
       replace H:=Option.some.inj H
       refine xS ?_
       subst H
       refine xpD [] ?_
       exact xOv ⟨[1],[8]⟩
     ·have F:=F
      refine xQp [56,57,58,59,60,61,62] ?_
      refine xs 6 ?_
      refine xp ⟨[1],[2]⟩ (tabG 3 (Vy q1 (a0.Kids.getD 0 default) a1 a2 a3 (.er e5) hr10)) ?_
      replace H:=Option.some.inj H
      refine xS ?_
      subst H
      refine xpD [] ?_
      exact xOv ⟨[1],[6]⟩
    ·obtain⟨F,G,hq8⟩:=xH Y G hp8
     refine xE ?_
     refine xr ?_
     rcases Jc H with⟨hp9,H⟩|⟨hp9,H⟩
     ·obtain⟨F,G,hq9⟩:=xH Y G hp9
      refine xT ?_
      rcases Jan H with⟨r8,hr15,H⟩|⟨e8,hr16,H⟩
      ·have F:=Y
       refine xQ ?_
       refine xs 2 ?_
       refine xc ⟨[1,3,4],[2]⟩ (tabG 5 (Jdb q3 a1 a2 a3 a0 (.ok r8) hr15)) ?_
       refine xl ?_
       replace H:=Option.some.inj H
       refine xS ?_
       subst H
       refine xnD [] ?_
       exact xO ⟨[1],[8]⟩
      ·have F:=Y
       refine xQp [77,78,79] ?_
       refine xs 2 ?_
       refine xp ⟨[1,3,4],[2]⟩ (tabG 5 (Jdb q3 a1 a2 a3 a0 (.er e8) hr16)) ?_
       replace H:=Option.some.inj H
       refine xS ?_
       subst H
       refine xpD [] ?_
       exact xOv ⟨[1],[8]⟩
     ·obtain⟨F,G,hq9⟩:=xH Y G hp9
      refine xE ?_
      rcases Jan H with⟨r9,hr17,H⟩|⟨e9,hr18,H⟩
      ·have F:=Y
       refine xQ ?_
       refine xs 2 ?_
       refine xc ⟨[1],[2]⟩ (tabG 2 (K6 q2 a0 a1 a2 a3 (.ok r9) hr17)) ?_
       refine xl ?_
       replace H:=Option.some.inj H
       refine xS ?_
       subst H
       refine xnD [] ?_
       exact xO ⟨[1],[6]⟩
      ·have F:=Y
       refine xQp [8,9,10] ?_
       refine xs 2 ?_
       refine xp ⟨[1],[2]⟩ (tabG 2 (K6 q2 a0 a1 a2 a3 (.er e9) hr18)) ?_
       replace H:=Option.some.inj H
       refine xS ?_
       subst H
       refine xpD [] ?_
       exact xOv ⟨[1],[6]⟩
noncomputable def Xc(q1:Node→(List Token)→(List KD)→(List Bind)→Option (GR (Int×Int×Int×(List KD)×(List Bind)) ((List KD)×(List Bind))))(a0:Node)(a1:List Token):(Int×Int×(List KD)×(List Bind))→Option ((Int×Int×(List KD)×(List Bind)) ⊕ (GR (Int×Int×Int×(List KD)×(List Bind)) ((List KD)×(List Bind))))
 | (x1,x2,x3,x4)=>if(ltI x2 x1)=true then if(0:Int)≤x2∧x2.toNat<a0.Kids.length then grB (q1 (a0.Kids.getD x2.toNat default) a1 x3 x4) (fun r1=>some (.inl (x1,IntKind.i64.wrap (x2+1),r1.1,r1.2))) (fun e1=>inrO (some (.er (e1.1,e1.2.1,e1.2.2.1,e1.2.2.2.1,e1.2.2.2.2)))) else none else inrO (some (.ok (x3,x4)))
noncomputable def Jcq(q1:Node→(List Token)→(List KD)→(List Bind)→Option (GR (Int×Int×Int×(List KD)×(List Bind)) ((List KD)×(List Bind))))(q2:Node→(List Token)→(List KD)→(List Bind)→Option (GR (Int×Int×Int×(List KD)×(List Bind)) ((List KD)×(List Bind))))(q3:(List Token)→(List KD)→(List Bind)→Node→Option (GR (Int×Int×Int×(List KD)×(List Bind)) ((List KD)×(List Bind))))(q4:(List Token)→(List KD)→(List Bind)→Node→Option (GR (Int×Int×Int×(List KD)×(List Bind)) ((List KD)×(List Bind))))(q5:Node→(List Token)→(List KD)→(List Bind)→Option (GR (Int×Int×Int×(List KD)×(List Bind)) ((List KD)×(List Bind))))(q6:Node→(List Token)→(List KD)→(List Bind)→Option (GR (Int×Int×Int×(List KD)×(List Bind)) ((List KD)×(List Bind))))(a0:Node)(a1:List Token)(a2:List KD)(a3:List Bind):Option (GR (Int×Int×Int×(List KD)×(List Bind)) ((List KD)×(List Bind))) :=
 Ju (Xc q1 a0 a1) ((a0.Kids.length:Int),0,a2,a3)
theorem Jgq(q1:Node→(List Token)→(List KD)→(List Bind)→Option (GR (Int×Int×Int×(List KD)×(List Bind)) ((List KD)×(List Bind))))(q2:Node→(List Token)→(List KD)→(List Bind)→Option (GR (Int×Int×Int×(List KD)×(List Bind)) ((List KD)×(List Bind))))(q3:(List Token)→(List KD)→(List Bind)→Node→Option (GR (Int×Int×Int×(List KD)×(List Bind)) ((List KD)×(List Bind))))(q4:(List Token)→(List KD)→(List Bind)→Node→Option (GR (Int×Int×Int×(List KD)×(List Bind)) ((List KD)×(List Bind))))(q5:Node→(List Token)→(List KD)→(List Bind)→Option (GR (Int×Int×Int×(List KD)×(List Bind)) ((List KD)×(List Bind))))(q6:Node→(List Token)→(List KD)→(List Bind)→Option (GR (Int×Int×Int×(List KD)×(List Bind)) ((List KD)×(List Bind))))(kq1:Kok Try.prog 19 false (JS q1))(kq2:Kok Try.prog 40 false (J1 q2))(kq3:Kok Try.prog 41 false (Kc q3))(kq4:Kok Try.prog 41 false (JT q4))(kq5:Kok Try.prog 43 false (Kb q5))(kq6:Kok Try.prog 42 false (Kd q6)):∀ g,J1 (Jcq q1 q2 q3 q4 q5 q6) g→Jx Try.prog 40 g:=by
 rintro _ ⟨a0,a1,a2,a3,r,H,rfl⟩
 refine xGn mixed [] [(19,false,(JS q1))] [] trivial ⟨kq1,trivial⟩ trivial Try.func40 _ ?_
 have G:=True.intro
 have Y:=xZ y_24 <| xZ y_26 <| xZ Try.results40 <| xZ J9.eq_1 <| xZ Jb.eq_1 <| xZ Vl <| xZ Ji.eq_1 <| xZ KO.eq_1 <| VO.eq_1
 dsimp only[VO]
 simp only[Jcq]at H
 refine xS ?_
 refine xr ?_
 refine KH (Xc q1 a0 a1) (fun s=>[(0,.c (.pt 1 0)),(1,.c (.pp (List.drop 0 (Jp a0).cells))),(9,.c (.d (.v (.int .i64 s.1)))),(10,.c (.d (.v (.int .i64 s.2.1))))]) (fun s=>[[.d (.sl 11 (List.map Jb a1)),.kc (KSK s.2.2.1),.sl 2 (List.map Ji s.2.2.2) 2]]) [40] H (xK ⟨[1],[2]⟩) ?_
 rintro n1 ⟨x1,x2,x3,x4⟩ o1 H hF1
 rw[Xc]at H
 refine xS ?_
 refine xr ?_
 rcases Jc H with⟨hp1,H⟩|⟨hp1,H⟩
 ·obtain⟨F,G,hq1⟩:=xH Y G hp1
  refine xT ?_
  refine xr ?_
  obtain⟨hg1,H⟩:=Jg H
  have F:=xZ Y (Jv Jp a0.Kids x2.toNat default default (by omega))
  rcases Jan H with⟨r1,hr1,H⟩|⟨e1,hr2,H⟩
  ·have F:=F
   refine xQ ?_
   refine xs 7 ?_
   refine xc ⟨[1],[2]⟩ (tabG 0 (Vy q1 (a0.Kids.getD x2.toNat default) a1 x3 x4 (.ok r1) hr1)) ?_
   refine xl ?_
   refine xS ?_
   refine xr ?_
   exact JJ (J2 H hF1) (xK ⟨[1],[4]⟩)
  ·have F:=F
   refine xQp [13,14,15,16,17,18,19,20] ?_
   refine xs 7 ?_
   refine xp ⟨[1],[2]⟩ (tabG 0 (Vy q1 (a0.Kids.getD x2.toNat default) a1 x3 x4 (.er e1) hr2)) ?_
   replace H:=Jq H hF1
   replace H:=Option.some.inj H
   refine xS ?_
   subst H
   refine xpD [] ?_
   exact xOv ⟨[1],[4]⟩
 ·obtain⟨F,G,hq1⟩:=xH Y G hp1
  replace H:=Jq H hF1
  replace H:=Option.some.inj H
  refine xE ?_
  subst H
  refine xnD [] ?_
  exact xO ⟨[1],[2]⟩
noncomputable def XR(q1:Node→(List Token)→(List KD)→(List Bind)→Option (GR (Int×Int×Int×(List KD)×(List Bind)) ((List KD)×(List Bind))))(q2:Node→(List Token)→(List KD)→(List Bind)→Option (GR (Int×Int×Int×(List KD)×(List Bind)) ((List KD)×(List Bind))))(q3:(List Token)→(List KD)→(List Bind)→Node→Option (GR (Int×Int×Int×(List KD)×(List Bind)) ((List KD)×(List Bind))))(q4:(List Token)→(List KD)→(List Bind)→Node→Option (GR (Int×Int×Int×(List KD)×(List Bind)) ((List KD)×(List Bind))))(q5:Node→(List Token)→(List KD)→(List Bind)→Option (GR (Int×Int×Int×(List KD)×(List Bind)) ((List KD)×(List Bind))))(q6:Node→(List Token)→(List KD)→(List Bind)→Option (GR (Int×Int×Int×(List KD)×(List Bind)) ((List KD)×(List Bind))))(a0:List Token)(a1:List KD)(a2:List Bind)(a3:Node):Option (GR (Int×Int×Int×(List KD)×(List Bind)) ((List KD)×(List Bind))) :=
 if a1.length<17592186044416 then grB (q5 a3 a0 (a1++[[]]) a2) (fun r1=>if 0<r1.1.length then some (.ok (List.dropLast r1.1,r1.2)) else none) (fun e1=>some (.er (e1.1,e1.2.1,e1.2.2.1,e1.2.2.2.1,e1.2.2.2.2))) else none
theorem JfO(q1:Node→(List Token)→(List KD)→(List Bind)→Option (GR (Int×Int×Int×(List KD)×(List Bind)) ((List KD)×(List Bind))))(q2:Node→(List Token)→(List KD)→(List Bind)→Option (GR (Int×Int×Int×(List KD)×(List Bind)) ((List KD)×(List Bind))))(q3:(List Token)→(List KD)→(List Bind)→Node→Option (GR (Int×Int×Int×(List KD)×(List Bind)) ((List KD)×(List Bind))))(q4:(List Token)→(List KD)→(List Bind)→Node→Option (GR (Int×Int×Int×(List KD)×(List Bind)) ((List KD)×(List Bind))))(q5:Node→(List Token)→(List KD)→(List Bind)→Option (GR (Int×Int×Int×(List KD)×(List Bind)) ((List KD)×(List Bind))))(q6:Node→(List Token)→(List KD)→(List Bind)→Option (GR (Int×Int×Int×(List KD)×(List Bind)) ((List KD)×(List Bind))))(kq1:Kok Try.prog 19 false (JS q1))(kq2:Kok Try.prog 40 false (J1 q2))(kq3:Kok Try.prog 41 false (Kc q3))(kq4:Kok Try.prog 41 false (JT q4))(kq5:Kok Try.prog 43 false (Kb q5))(kq6:Kok Try.prog 42 false (Kd q6)):∀ g,Kc (XR q1 q2 q3 q4 q5 q6) g→Jx Try.prog 41 g:=by
 rintro _ ⟨a0,a1,a2,a3,r,H,rfl⟩
 refine xGnl mixed [1000030] [] [(43,false,(Kb q5))] [] trivial ⟨kq5,trivial⟩ trivial Try.func41 _ ?_
 have G:=True.intro
 have Y:=xZ y_58 <| xZ y_59 <| xZ y_61 <| xZ Try.results41 <| xZ J9.eq_1 <| xZ Jb.eq_1 <| xZ Vl <| xZ Ji.eq_1 <| xZ XN.eq_1 <| xZ XH.eq_1 <| xZ JdH <| xZ Jcz <| xZ Jcy <| xZ JdG <| xZ JdD <| xZ JcG <| xZ JcA <| JdF
 dsimp only[XH]
 simp only[XR]at H
 refine xS ?_
 obtain⟨hgh,H⟩:=Jg H
 refine Jpb a1 hgh ?_
 refine xS ?_
 rcases Jan H with⟨r1,hr1,H⟩|⟨e1,hr2,H⟩
 ·have F:=Y
  refine xQ ?_
  refine xs 1 ?_
  refine xc ⟨[2,3,1],[4]⟩ (tabG 0 (Jc9 q5 a3 a0 (a1++[[]]) a2 (.ok r1) hr1)) ?_
  refine xl ?_
  refine xS ?_
  obtain⟨hgh,H⟩:=Jg H
  refine Jq9 r1.1 hgh ?_
  replace H:=Option.some.inj H
  subst H
  refine xnD [] ?_
  exact xO ⟨[1,2,3],[8]⟩
 ·have F:=Y
  refine xQp [14,15] ?_
  refine xs 1 ?_
  refine xp ⟨[2,3,1],[4]⟩ (tabG 0 (Jc9 q5 a3 a0 (a1++[[]]) a2 (.er e1) hr2)) ?_
  replace H:=Option.some.inj H
  refine xS ?_
  subst H
  refine xpD [] ?_
  exact xOv ⟨[1,2,3],[8]⟩
noncomputable def V4(q1:Node→(List Token)→(List KD)→(List Bind)→Option (GR (Int×Int×Int×(List KD)×(List Bind)) ((List KD)×(List Bind))))(q2:Node→(List Token)→(List KD)→(List Bind)→Option (GR (Int×Int×Int×(List KD)×(List Bind)) ((List KD)×(List Bind))))(q3:(List Token)→(List KD)→(List Bind)→Node→Option (GR (Int×Int×Int×(List KD)×(List Bind)) ((List KD)×(List Bind))))(q4:(List Token)→(List KD)→(List Bind)→Node→Option (GR (Int×Int×Int×(List KD)×(List Bind)) ((List KD)×(List Bind))))(q5:Node→(List Token)→(List KD)→(List Bind)→Option (GR (Int×Int×Int×(List KD)×(List Bind)) ((List KD)×(List Bind))))(q6:Node→(List Token)→(List KD)→(List Bind)→Option (GR (Int×Int×Int×(List KD)×(List Bind)) ((List KD)×(List Bind))))(a0:List Token)(a1:List KD)(a2:List Bind)(a3:Node):Option (GR (Int×Int×Int×(List KD)×(List Bind)) ((List KD)×(List Bind))) :=
 if a1.length<17592186044416 then grB (q6 a3 a0 (a1++[[]]) a2) (fun r1=>if 0<r1.1.length then some (.ok (List.dropLast r1.1,r1.2)) else none) (fun e1=>some (.er (e1.1,e1.2.1,e1.2.2.1,e1.2.2.2.1,e1.2.2.2.2))) else none
theorem JeY(q1:Node→(List Token)→(List KD)→(List Bind)→Option (GR (Int×Int×Int×(List KD)×(List Bind)) ((List KD)×(List Bind))))(q2:Node→(List Token)→(List KD)→(List Bind)→Option (GR (Int×Int×Int×(List KD)×(List Bind)) ((List KD)×(List Bind))))(q3:(List Token)→(List KD)→(List Bind)→Node→Option (GR (Int×Int×Int×(List KD)×(List Bind)) ((List KD)×(List Bind))))(q4:(List Token)→(List KD)→(List Bind)→Node→Option (GR (Int×Int×Int×(List KD)×(List Bind)) ((List KD)×(List Bind))))(q5:Node→(List Token)→(List KD)→(List Bind)→Option (GR (Int×Int×Int×(List KD)×(List Bind)) ((List KD)×(List Bind))))(q6:Node→(List Token)→(List KD)→(List Bind)→Option (GR (Int×Int×Int×(List KD)×(List Bind)) ((List KD)×(List Bind))))(kq1:Kok Try.prog 19 false (JS q1))(kq2:Kok Try.prog 40 false (J1 q2))(kq3:Kok Try.prog 41 false (Kc q3))(kq4:Kok Try.prog 41 false (JT q4))(kq5:Kok Try.prog 43 false (Kb q5))(kq6:Kok Try.prog 42 false (Kd q6)):∀ g,JT (V4 q1 q2 q3 q4 q5 q6) g→Jx Try.prog 41 g:=by
 rintro _ ⟨a0,a1,a2,a3,r,H,rfl⟩
 refine xGnl mixed [1000030] [] [(42,false,(Kd q6))] [] trivial ⟨kq6,trivial⟩ trivial Try.func41 _ ?_
 have G:=True.intro
 have Y:=xZ y_58 <| xZ y_59 <| xZ y_61 <| xZ Try.results41 <| xZ J9.eq_1 <| xZ Jb.eq_1 <| xZ Vl <| xZ Ji.eq_1 <| xZ XC.eq_1 <| xZ V5.eq_1 <| xZ JdH <| xZ Jcz <| xZ Jcy <| xZ JdG <| xZ JdD <| xZ JcG <| xZ JcA <| JdF
 dsimp only[V5]
 simp only[V4]at H
 refine xS ?_
 obtain⟨hgh,H⟩:=Jg H
 refine Jpb a1 hgh ?_
 refine xS ?_
 rcases Jan H with⟨r1,hr1,H⟩|⟨e1,hr2,H⟩
 ·have F:=Y
  refine xQ ?_
  refine xs 1 ?_
  refine xc ⟨[2,3,1],[4]⟩ (tabG 0 (Jdd q6 a3 a0 (a1++[[]]) a2 (.ok r1) hr1)) ?_
  refine xl ?_
  refine xS ?_
  obtain⟨hgh,H⟩:=Jg H
  refine Jq9 r1.1 hgh ?_
  replace H:=Option.some.inj H
  subst H
  refine xnD [] ?_
  exact xO ⟨[1,2,3],[8]⟩
 ·have F:=Y
  refine xQp [14,15] ?_
  refine xs 1 ?_
  refine xp ⟨[2,3,1],[4]⟩ (tabG 0 (Jdd q6 a3 a0 (a1++[[]]) a2 (.er e1) hr2)) ?_
  replace H:=Option.some.inj H
  refine xS ?_
  subst H
  refine xpD [] ?_
  exact xOv ⟨[1,2,3],[8]⟩
noncomputable def JbH(q1:Node→(List Token)→(List KD)→(List Bind)→Option (GR (Int×Int×Int×(List KD)×(List Bind)) ((List KD)×(List Bind))))(q2:Node→(List Token)→(List KD)→(List Bind)→Option (GR (Int×Int×Int×(List KD)×(List Bind)) ((List KD)×(List Bind))))(q3:(List Token)→(List KD)→(List Bind)→Node→Option (GR (Int×Int×Int×(List KD)×(List Bind)) ((List KD)×(List Bind))))(q4:(List Token)→(List KD)→(List Bind)→Node→Option (GR (Int×Int×Int×(List KD)×(List Bind)) ((List KD)×(List Bind))))(q5:Node→(List Token)→(List KD)→(List Bind)→Option (GR (Int×Int×Int×(List KD)×(List Bind)) ((List KD)×(List Bind))))(q6:Node→(List Token)→(List KD)→(List Bind)→Option (GR (Int×Int×Int×(List KD)×(List Bind)) ((List KD)×(List Bind))))(a0:Node)(a1:List Token)(a2:List KD)(a3:List Bind):Option (GR (Int×Int×Int×(List KD)×(List Bind)) ((List KD)×(List Bind))) :=
 grB (q2 a0 a1 a2 a3) (fun r1=>some (.ok (r1.1,r1.2))) (fun e1=>some (.er (e1.1,e1.2.1,e1.2.2.1,e1.2.2.2.1,e1.2.2.2.2)))
theorem JfQ(q1:Node→(List Token)→(List KD)→(List Bind)→Option (GR (Int×Int×Int×(List KD)×(List Bind)) ((List KD)×(List Bind))))(q2:Node→(List Token)→(List KD)→(List Bind)→Option (GR (Int×Int×Int×(List KD)×(List Bind)) ((List KD)×(List Bind))))(q3:(List Token)→(List KD)→(List Bind)→Node→Option (GR (Int×Int×Int×(List KD)×(List Bind)) ((List KD)×(List Bind))))(q4:(List Token)→(List KD)→(List Bind)→Node→Option (GR (Int×Int×Int×(List KD)×(List Bind)) ((List KD)×(List Bind))))(q5:Node→(List Token)→(List KD)→(List Bind)→Option (GR (Int×Int×Int×(List KD)×(List Bind)) ((List KD)×(List Bind))))(q6:Node→(List Token)→(List KD)→(List Bind)→Option (GR (Int×Int×Int×(List KD)×(List Bind)) ((List KD)×(List Bind))))(kq1:Kok Try.prog 19 false (JS q1))(kq2:Kok Try.prog 40 false (J1 q2))(kq3:Kok Try.prog 41 false (Kc q3))(kq4:Kok Try.prog 41 false (JT q4))(kq5:Kok Try.prog 43 false (Kb q5))(kq6:Kok Try.prog 42 false (Kd q6)):∀ g,Kb (JbH q1 q2 q3 q4 q5 q6) g→Jx Try.prog 43 g:=by
 rintro _ ⟨a0,a1,a2,a3,r,H,rfl⟩
 refine xGn mixed [] [(40,false,(J1 q2))] [] trivial ⟨kq2,trivial⟩ trivial Try.func43 _ ?_
 have G:=True.intro
 have Y:=xZ y_57 <| xZ y_63 <| xZ Try.results43 <| xZ J9.eq_1 <| xZ Jb.eq_1 <| xZ Vl <| xZ Ji.eq_1 <| xZ VO.eq_1 <| XN.eq_1
 dsimp only[XN]
 simp only[JbH]at H
 rcases Jan H with⟨r1,hr1,H⟩|⟨e1,hr2,H⟩
 ·have F:=Y
  refine xQ ?_
  refine xs 2 ?_
  refine xc ⟨[3],[4]⟩ (tabG 0 (K6 q2 a0 a1 a2 a3 (.ok r1) hr1)) ?_
  refine xl ?_
  replace H:=Option.some.inj H
  refine xS ?_
  subst H
  refine xnD [] ?_
  exact xO ⟨[1,2,3],[6]⟩
 ·have F:=Y
  refine xQp [2,3,4] ?_
  refine xs 2 ?_
  refine xp ⟨[3],[4]⟩ (tabG 0 (K6 q2 a0 a1 a2 a3 (.er e1) hr2)) ?_
  replace H:=Option.some.inj H
  refine xS ?_
  subst H
  refine xpD [] ?_
  exact xOv ⟨[1,2,3],[6]⟩
noncomputable def VH(q2:Node→(List Token)→(List KD)→(List Bind)→Option (GR (Int×Int×Int×(List KD)×(List Bind)) ((List KD)×(List Bind))))(q1:Node→(List Token)→(List KD)→(List Bind)→Option (GR (Int×Int×Int×(List KD)×(List Bind)) ((List KD)×(List Bind))))(a0:Node)(a1:List Token):(Int×(List KD)×(List Bind))→Option ((Int×(List KD)×(List Bind)) ⊕ (GR (Int×Int×Int×(List KD)×(List Bind)) ((List KD)×(List Bind))))
 | (x1,x2,x3)=>if(ltI x1 (IntKind.i64.wrap ((a0.Kids.length:Int)-1)))=true then if(0:Int)≤x1∧x1.toNat<a0.Kids.length then grB (q1 (a0.Kids.getD x1.toNat default) a1 x2 x3) (fun r1=>some (.inl (IntKind.i64.wrap (x1+1),r1.1,r1.2))) (fun e1=>inrO (some (.er (e1.1,e1.2.1,e1.2.2.1,e1.2.2.2.1,e1.2.2.2.2)))) else none else inrO (if(0:Int)≤(IntKind.i64.wrap ((a0.Kids.length:Int)-1))∧(IntKind.i64.wrap ((a0.Kids.length:Int)-1)).toNat<a0.Kids.length then grB (q2 (a0.Kids.getD ((IntKind.i64.wrap ((a0.Kids.length:Int)-1)).toNat) default) a1 x2 x3) (fun r2=>some (.ok (r2.1,r2.2))) (fun e2=>some (.er (e2.1,e2.2.1,e2.2.2.1,e2.2.2.2.1,e2.2.2.2.2))) else none)
noncomputable def JbL(q1:Node→(List Token)→(List KD)→(List Bind)→Option (GR (Int×Int×Int×(List KD)×(List Bind)) ((List KD)×(List Bind))))(q2:Node→(List Token)→(List KD)→(List Bind)→Option (GR (Int×Int×Int×(List KD)×(List Bind)) ((List KD)×(List Bind))))(q3:(List Token)→(List KD)→(List Bind)→Node→Option (GR (Int×Int×Int×(List KD)×(List Bind)) ((List KD)×(List Bind))))(q4:(List Token)→(List KD)→(List Bind)→Node→Option (GR (Int×Int×Int×(List KD)×(List Bind)) ((List KD)×(List Bind))))(q5:Node→(List Token)→(List KD)→(List Bind)→Option (GR (Int×Int×Int×(List KD)×(List Bind)) ((List KD)×(List Bind))))(q6:Node→(List Token)→(List KD)→(List Bind)→Option (GR (Int×Int×Int×(List KD)×(List Bind)) ((List KD)×(List Bind))))(a0:Node)(a1:List Token)(a2:List KD)(a3:List Bind):Option (GR (Int×Int×Int×(List KD)×(List Bind)) ((List KD)×(List Bind))) :=
 Ju (VH q2 q1 a0 a1) (2,a2,a3)
theorem JfP(q1:Node→(List Token)→(List KD)→(List Bind)→Option (GR (Int×Int×Int×(List KD)×(List Bind)) ((List KD)×(List Bind))))(q2:Node→(List Token)→(List KD)→(List Bind)→Option (GR (Int×Int×Int×(List KD)×(List Bind)) ((List KD)×(List Bind))))(q3:(List Token)→(List KD)→(List Bind)→Node→Option (GR (Int×Int×Int×(List KD)×(List Bind)) ((List KD)×(List Bind))))(q4:(List Token)→(List KD)→(List Bind)→Node→Option (GR (Int×Int×Int×(List KD)×(List Bind)) ((List KD)×(List Bind))))(q5:Node→(List Token)→(List KD)→(List Bind)→Option (GR (Int×Int×Int×(List KD)×(List Bind)) ((List KD)×(List Bind))))(q6:Node→(List Token)→(List KD)→(List Bind)→Option (GR (Int×Int×Int×(List KD)×(List Bind)) ((List KD)×(List Bind))))(kq1:Kok Try.prog 19 false (JS q1))(kq2:Kok Try.prog 40 false (J1 q2))(kq3:Kok Try.prog 41 false (Kc q3))(kq4:Kok Try.prog 41 false (JT q4))(kq5:Kok Try.prog 43 false (Kb q5))(kq6:Kok Try.prog 42 false (Kd q6)):∀ g,Kd (JbL q1 q2 q3 q4 q5 q6) g→Jx Try.prog 42 g:=by
 rintro _ ⟨a0,a1,a2,a3,r,H,rfl⟩
 refine xGn mixed [] [(19,false,(JS q1)),(40,false,(J1 q2))] [] trivial ⟨kq1,kq2,trivial⟩ trivial Try.func42 _ ?_
 have G:=True.intro
 have Y:=xZ y_24 <| xZ y_26 <| xZ y_57 <| xZ y_63 <| xZ Try.results42 <| xZ J9.eq_1 <| xZ Jb.eq_1 <| xZ Vl <| xZ Ji.eq_1 <| xZ KO.eq_1 <| xZ VO.eq_1 <| XC.eq_1
 dsimp only[XC]
 simp only[JbL]at H
 refine xS ?_
 refine xr ?_
 refine KH (VH q2 q1 a0 a1) (fun s=>[(0,.c (.pt 1 0)),(1,.c (.pt 2 0)),(2,.c (.d (.v (.int .i64 s.1))))]) (fun s=>[[.pp (List.drop 0 (Jp a0).cells)],[.pt 3 0],[.d (.sl 11 (List.map Jb a1)),.kc (KSK s.2.1),.sl 2 (List.map Ji s.2.2) 4]]) [40] H (xK ⟨[1,2,3],[4]⟩) ?_
 rintro n1 ⟨x1,x2,x3⟩ o1 H hF1
 rw[VH]at H
 refine xS ?_
 refine xr ?_
 rcases Jc H with⟨hp1,H⟩|⟨hp1,H⟩
 ·obtain⟨F,G,hq1⟩:=xH Y G hp1
  refine xT ?_
  obtain⟨hg1,H⟩:=Jg H
  have F:=xZ Y (Jv Jp a0.Kids x1.toNat default default (by omega))
  rcases Jan H with⟨r1,hr1,H⟩|⟨e1,hr2,H⟩
  ·have F:=F
   refine xQ ?_
   refine xs 7 ?_
   refine xc ⟨[3],[4]⟩ (tabG 0 (Vy q1 (a0.Kids.getD x1.toNat default) a1 x2 x3 (.ok r1) hr1)) ?_
   refine xl ?_
   refine xS ?_
   refine xr ?_
   exact JJ (J2 H hF1) (xK ⟨[1,2,3],[6]⟩)
  ·have F:=F
   refine xQp [13,14,15,16,17,18,19,20] ?_
   refine xs 7 ?_
   refine xp ⟨[3],[4]⟩ (tabG 0 (Vy q1 (a0.Kids.getD x1.toNat default) a1 x2 x3 (.er e1) hr2)) ?_
   replace H:=Jq H hF1
   replace H:=Option.some.inj H
   refine xS ?_
   subst H
   refine xpD [] ?_
   exact xOv ⟨[1,2,3],[6]⟩
 ·obtain⟨F,G,hq1⟩:=xH Y G hp1
  replace H:=Jq H hF1
  refine xE ?_
  obtain⟨hg2,H⟩:=Jg H
  have F:=xZ Y (Jv Jp a0.Kids ((IntKind.i64.wrap ((a0.Kids.length:Int)-1)).toNat) default default (by omega))
  rcases Jan H with⟨r2,hr3,H⟩|⟨e2,hr4,H⟩
  ·have F:=F
   refine xQ ?_
   refine xs 12 ?_
   refine xc ⟨[3],[4]⟩ (tabG 1 (K6 q2 (a0.Kids.getD ((IntKind.i64.wrap ((a0.Kids.length:Int)-1)).toNat) default) a1 x2 x3 (.ok r2) hr3)) ?_
   refine xl ?_
   replace H:=Option.some.inj H
   refine xS ?_
   subst H
   refine xnD [] ?_
   exact xO ⟨[1,2,3],[6]⟩
  ·have F:=F
   refine xQp [21,22,23,24,25,26,27,28,29,30,31,32,33] ?_
   refine xs 12 ?_
   refine xp ⟨[3],[4]⟩ (tabG 1 (K6 q2 (a0.Kids.getD ((IntKind.i64.wrap ((a0.Kids.length:Int)-1)).toNat) default) a1 x2 x3 (.er e2) hr4)) ?_
   replace H:=Option.some.inj H
   refine xS ?_
   subst H
   refine xpD [] ?_
   exact xOv ⟨[1,2,3],[6]⟩
noncomputable def Ja:Nat→(Node→(List Token)→(List KD)→(List Bind)→Option (GR (Int×Int×Int×(List KD)×(List Bind)) ((List KD)×(List Bind))))×(Node→(List Token)→(List KD)→(List Bind)→Option (GR (Int×Int×Int×(List KD)×(List Bind)) ((List KD)×(List Bind))))×((List Token)→(List KD)→(List Bind)→Node→Option (GR (Int×Int×Int×(List KD)×(List Bind)) ((List KD)×(List Bind))))×((List Token)→(List KD)→(List Bind)→Node→Option (GR (Int×Int×Int×(List KD)×(List Bind)) ((List KD)×(List Bind))))×(Node→(List Token)→(List KD)→(List Bind)→Option (GR (Int×Int×Int×(List KD)×(List Bind)) ((List KD)×(List Bind))))×(Node→(List Token)→(List KD)→(List Bind)→Option (GR (Int×Int×Int×(List KD)×(List Bind)) ((List KD)×(List Bind))))
 | 0=>(fun _ _ _ _=>none,fun _ _ _ _=>none,fun _ _ _ _=>none,fun _ _ _ _=>none,fun _ _ _ _=>none,fun _ _ _ _=>none)
 | n+1=>(Zn ((Ja n).1) ((Ja n).2.1) ((Ja n).2.2.1) ((Ja n).2.2.2.1) ((Ja n).2.2.2.2.1) ((Ja n).2.2.2.2.2),Jcq ((Ja n).1) ((Ja n).2.1) ((Ja n).2.2.1) ((Ja n).2.2.2.1) ((Ja n).2.2.2.2.1) ((Ja n).2.2.2.2.2),XR ((Ja n).1) ((Ja n).2.1) ((Ja n).2.2.1) ((Ja n).2.2.2.1) ((Ja n).2.2.2.2.1) ((Ja n).2.2.2.2.2),V4 ((Ja n).1) ((Ja n).2.1) ((Ja n).2.2.1) ((Ja n).2.2.2.1) ((Ja n).2.2.2.2.1) ((Ja n).2.2.2.2.2),JbH ((Ja n).1) ((Ja n).2.1) ((Ja n).2.2.1) ((Ja n).2.2.2.1) ((Ja n).2.2.2.2.1) ((Ja n).2.2.2.2.2),JbL ((Ja n).1) ((Ja n).2.1) ((Ja n).2.2.1) ((Ja n).2.2.2.1) ((Ja n).2.2.2.2.1) ((Ja n).2.2.2.2.2))
theorem JcY:∀ n,Kok Try.prog 19 false (JS (Ja n).1)∧Kok Try.prog 40 false (J1 (Ja n).2.1)∧Kok Try.prog 41 false (Kc (Ja n).2.2.1)∧Kok Try.prog 41 false (JT (Ja n).2.2.2.1)∧Kok Try.prog 43 false (Kb (Ja n).2.2.2.2.1)∧Kok Try.prog 42 false (Kd (Ja n).2.2.2.2.2)
 | 0=>⟨⟨JpE,(by rintro _ ⟨_,_,_,_,_,H,_⟩; cases H),nofun⟩,⟨Jpj,(by rintro _ ⟨_,_,_,_,_,H,_⟩; cases H),nofun⟩,⟨JiJ,(by rintro _ ⟨_,_,_,_,_,H,_⟩; cases H),nofun⟩,⟨JiJ,(by rintro _ ⟨_,_,_,_,_,H,_⟩; cases H),nofun⟩,⟨Jpv,(by rintro _ ⟨_,_,_,_,_,H,_⟩; cases H),nofun⟩,⟨Jpd,(by rintro _ ⟨_,_,_,_,_,H,_⟩; cases H),nofun⟩⟩
 | n+1=>have h:=JcY n; ⟨⟨JpE,Jgy _ _ _ _ _ _ h.1 h.2.1 h.2.2.1 h.2.2.2.1 h.2.2.2.2.1 h.2.2.2.2.2,nofun⟩,⟨Jpj,Jgq _ _ _ _ _ _ h.1 h.2.1 h.2.2.1 h.2.2.2.1 h.2.2.2.2.1 h.2.2.2.2.2,nofun⟩,⟨JiJ,JfO _ _ _ _ _ _ h.1 h.2.1 h.2.2.1 h.2.2.2.1 h.2.2.2.2.1 h.2.2.2.2.2,nofun⟩,⟨JiJ,JeY _ _ _ _ _ _ h.1 h.2.1 h.2.2.1 h.2.2.2.1 h.2.2.2.2.1 h.2.2.2.2.2,nofun⟩,⟨Jpv,JfQ _ _ _ _ _ _ h.1 h.2.1 h.2.2.1 h.2.2.2.1 h.2.2.2.2.1 h.2.2.2.2.2,nofun⟩,⟨Jpd,JfP _ _ _ _ _ _ h.1 h.2.1 h.2.2.1 h.2.2.2.1 h.2.2.2.2.1 h.2.2.2.2.2,nofun⟩⟩
noncomputable def Jbz:Node→(List Token)→(List KD)→(List Bind)→Option (GR (Int×Int×Int×(List KD)×(List Bind)) ((List KD)×(List Bind))):=(Ja bigF).1
def Jcm:GI→Prop:=JS Jbz
theorem Jei(a0:Node)(a1:List Token)(a2:List KD)(a3:List Bind)(r:GR (Int×Int×Int×(List KD)×(List Bind)) ((List KD)×(List Bind)))(H:Jbz a0 a1 a2 a3=some r):Jcm (KO a0 a1 a2 a3 r):=Vy Jbz a0 a1 a2 a3 r H
theorem Jhv:Kok Try.prog 19 false Jcm:=(JcY bigF).1
noncomputable def JaZ(a0:Int):Option Bool :=
 some (!eqI a0 a0)
noncomputable def Jdq:PF:=PF.of (E1 dI) (fun a=>JaZ a) dB
theorem Jjf:Kt Try.prog 46 Jdq:=by
 refine xF mixed [] [] trivial trivial Try.func46 ?_
 rintro a0 out H
 have G:=True.intro
 have Y:=Try.results46
 simp only[JaZ]at H
 refine xS ?_
 refine xr ?_
 replace H:=Option.some.inj H
 refine xr ?_
 subst H
 exact xN
theorem JfU(a0:Int)(r:Bool)(H:JaZ a0=some r):PC Jdq [dI a0] (dB r):=PF.c (a:=a0) H
noncomputable def XT(a0:Int)(a1:Int):Option Int :=
 (JaZ a0).bind fun r1=>(JaZ a1).bind fun r2=>if r1=true then if r2=true then some 0 else some (-1) else if r2=true then some 1 else if(ltI a0 a1)=true then some (-1) else if(ltI a1 a0)=true then some 1 else some 0
noncomputable def Jbf:PF:=PF.of (E2 dI dI) (fun a=>XT a.1 a.2) dI
theorem JeJ:Kt Try.prog 22 Jbf:=by
 refine xF mixed [(46,Jdq)] [] ⟨⟨JuK,Jjf⟩,trivial⟩ trivial Try.func22 ?_
 rintro ⟨a0,a1⟩ out H
 have G:=True.intro
 have Y:=Try.results22
 simp only[XT]at H
 refine xS ?_
 refine xr ?_
 obtain⟨r1,hr1,H⟩:=Je H
 have F:=xC Y (JfU a0 r1 hr1)
 refine xR ?_
 obtain⟨r2,hr2,H⟩:=Je H
 have F:=xC Y (JfU a1 r2 hr2)
 refine xR ?_
 refine xr ?_
 rcases Jc H with⟨hp1,H⟩|⟨hp1,H⟩
 ·obtain⟨F,G,hq1⟩:=xH Y G hp1
  refine xT ?_
  refine xr ?_
  rcases Jc H with⟨hp2,H⟩|⟨hp2,H⟩
  ·obtain⟨F,G,hq2⟩:=xH Y G hp2
   refine xT ?_
   replace H:=Option.some.inj H
   refine xr ?_
   subst H
   exact xN
  ·obtain⟨F,G,hq2⟩:=xH Y G hp2
   refine xE ?_
   replace H:=Option.some.inj H
   refine xr ?_
   subst H
   exact xN
 ·obtain⟨F,G,hq1⟩:=xH Y G hp1
  refine xE ?_
  refine xr ?_
  rcases Jc H with⟨hp3,H⟩|⟨hp3,H⟩
  ·obtain⟨F,G,hq3⟩:=xH Y G hp3
   refine xT ?_
   replace H:=Option.some.inj H
   refine xr ?_
   subst H
   exact xN
  ·obtain⟨F,G,hq3⟩:=xH Y G hp3
   refine xE ?_
   refine xr ?_
   rcases Jc H with⟨hp4,H⟩|⟨hp4,H⟩
   ·obtain⟨F,G,hq4⟩:=xH Y G hp4
    refine xT ?_
    replace H:=Option.some.inj H
    refine xr ?_
    subst H
    exact xN
   ·obtain⟨F,G,hq4⟩:=xH Y G hp4
    refine xE ?_
    refine xr ?_
    rcases Jc H with⟨hp5,H⟩|⟨hp5,H⟩
    ·obtain⟨F,G,hq5⟩:=xH Y G hp5
     refine xT ?_
     replace H:=Option.some.inj H
     refine xr ?_
     subst H
     exact xN
    ·obtain⟨F,G,hq5⟩:=xH Y G hp5
     refine xE ?_
     replace H:=Option.some.inj H
     refine xr ?_
     subst H
     exact xN
theorem Je2(a0:Int)(a1:Int)(r:Int)(H:XT a0 a1=some r):PC Jbf [dI a0,dI a1] (dI r):=PF.c (a:=(a0,a1)) H
noncomputable def VQ(a0:Bind)(a1:Bind):Option Int :=
 (XT a0.Tok a1.Tok).bind fun r1=>some r1
noncomputable def XJ:PF:=PF.of (E2 Ji Ji) (fun a=>VQ a.1 a.2) dI
theorem Ja4:Kt Try.prog 21 XJ:=by
 refine xF mixed [(22,Jbf)] [] ⟨⟨JpY,JeJ⟩,trivial⟩ trivial Try.func21 ?_
 rintro ⟨a0,a1⟩ out H
 have G:=True.intro
 have Y:=xZ y_3 <| xZ y_40 <| xZ Try.results21 <| Ji.eq_1
 simp only[VQ]at H
 refine xS ?_
 refine xr ?_
 obtain⟨r1,hr1,H⟩:=Je H
 have F:=xC Y (Je2 a0.Tok a1.Tok r1 hr1)
 replace H:=Option.some.inj H
 refine xR ?_
 subst H
 exact xN
theorem Jbw(a0:Bind)(a1:Bind)(r:Int)(H:VQ a0 a1=some r):PC XJ [Ji a0,Ji a1] (dI r):=PF.c (a:=(a0,a1)) H
noncomputable def Kk(a0:List Bind)(x1:Int):Bool→Option (Unit ⊕ (Int ⊕ Unit))
 | x2=>if x2=true then if(0:Int)≤(IntKind.i64.wrap (x1-1))∧(IntKind.i64.wrap (x1-1)).toNat<a0.length then if(0:Int)≤x1∧x1.toNat<a0.length then if(0:Int)≤x1∧x1.toNat<a0.length then none else none else none else none else inrO (some (.inl (IntKind.i64.wrap (x1+1))))
noncomputable def Kj(a0:List Bind)(a1:Int)(x1:Int):Unit→Option (Unit ⊕ (Int ⊕ Unit))
 | ()=>if(ltI a1 x1)=true then if(0:Int)≤x1∧x1.toNat<a0.length then if(0:Int)≤(IntKind.i64.wrap (x1-1))∧(IntKind.i64.wrap (x1-1)).toNat<a0.length then(VQ (a0.getD x1.toNat default) (a0.getD ((IntKind.i64.wrap (x1-1)).toNat) default)).bind fun r1=>Kk a0 x1 (ltI r1 0) else none else none else Kk a0 x1 false
noncomputable def JV(a0:List Bind)(a1:Int)(a2:Int):Int→Option (Int ⊕ Unit)
 | x1=>if(ltI x1 a2)=true then Ju (Kj a0 a1 x1) () else inrO (some ())
noncomputable def J7(a0:List Bind)(a1:Int)(a2:Int):Option Unit :=
 Ju (JV a0 a1 a2) (IntKind.i64.wrap (a1+1))
noncomputable def Kq(a0:List Bind)(a1:Int)(a2:Int)(r:Unit):GI :=
 ⟨[.c (.d (.sl 2 (List.map Ji a0))),.c (.d (.v (.int .i64 a1))),.c (.d (.v (.int .i64 a2))),.c (.d (.v (.func (.func 21) #[] #[])))],[],[],.ret (.tu []) [] []⟩
def Ko:GI→Prop:=fun g=>∃ (a0:List Bind) (a1:Int) (a2:Int) (r:Unit),J7 a0 a1 a2=some r∧g=Kq a0 a1 a2 r
theorem Jcn(a0:List Bind)(a1:Int)(a2:Int)(r:Unit)(H:J7 a0 a1 a2=some r):Ko (Kq a0 a1 a2 r):=⟨a0,a1,a2,r,H,rfl⟩
theorem Jb9:∀ g,Ko g→Jx Try.prog 64 g:=by
 rintro _ ⟨a0,a1,a2,r,H,rfl⟩
 refine xGn mixed [(21,XJ)] [] [] ⟨⟨Jix,Ja4⟩,trivial⟩ trivial trivial Try.func64 _ ?_
 have G:=True.intro
 have Y:=xZ y_32 <| xZ y_40 <| xZ Try.results64 <| xZ Ji.eq_1 <| Kq.eq_1
 dsimp only[Kq]
 unfold J7 at H
 refine xS ?_
 refine xr ?_
 refine KH (JV a0 a1 a2) (fun s=>[(0,.c (.d (.sl 2 (List.map Ji a0)))),(1,.c (.d (.v (.int .i64 a1)))),(2,.c (.d (.v (.int .i64 a2)))),(3,.c (.d (.v (.func (.func 21) #[] #[])))),(8,.c (.d (.v (.int .i64 s))))]) (fun s=>[]) [] H (xK ⟨[],[]⟩) ?_
 rintro n1 x1 o1 H hF1
 rw[JV]at H
 refine xS ?_
 refine xr ?_
 rcases Jc H with⟨hp1,H⟩|⟨hp1,H⟩
 ·obtain⟨F,G,hq1⟩:=xH Y G hp1
  refine xT ?_
  refine xr ?_
  refine KH (Kj a0 a1 x1) (fun s=>[(0,.c (.d (.sl 2 (List.map Ji a0)))),(1,.c (.d (.v (.int .i64 a1)))),(2,.c (.d (.v (.int .i64 a2)))),(3,.c (.d (.v (.func (.func 21) #[] #[])))),(8,.c (.d (.v (.int .i64 x1)))),(9,.c (.d (.v (.int .i64 x1))))]) (fun s=>[]) [] H (xK ⟨[],[]⟩) ?_
  rintro n2 ⟨⟩ o2 H hF2
  rw[Kj]at H
  refine XV ?_
  refine JB (Kk a0 x1) (fun s=>[(0,.c (.d (.sl 2 (List.map Ji a0)))),(1,.c (.d (.v (.int .i64 a1)))),(2,.c (.d (.v (.int .i64 a2)))),(3,.c (.d (.v (.func (.func 21) #[] #[])))),(8,.c (.d (.v (.int .i64 x1)))),(9,.c (.d (.v (.int .i64 x1)))),(34,.c (.d (.v (.bool s))))]) (fun s=>[]) [] o2 ?_ ?_
  ·rcases Jc H with⟨hp3,H⟩|⟨hp3,H⟩
   ·obtain⟨F,G,hq3⟩:=xH Y G hp3
    obtain⟨hg4,H⟩:=Jg H
    have F:=xZ F (Jv Ji a0 x1.toNat default default (by omega))
    obtain⟨hg5,H⟩:=Jg H
    have F:=xZ F (Jv Ji a0 ((IntKind.i64.wrap (x1-1)).toNat) default default (by omega))
    obtain⟨r1,hr1,H⟩:=Je H
    have F:=xCf F (Jbw (a0.getD x1.toNat default) (a0.getD ((IntKind.i64.wrap (x1-1)).toNat) default) r1 hr1)
    refine xR ?_
    exact Jd H (xK ⟨[],[]⟩)
   ·obtain⟨F,G,hq3⟩:=xH Y G hp3
    refine xR ?_
    exact Jd H (xK ⟨[],[]⟩)
  ·rintro x2 H
   rw[Kk]at H
   rcases Jc H with⟨hp2,H⟩|⟨hp2,H⟩
   ·obtain⟨F,G,hq2⟩:=xH Y G hp2
    refine xT ?_
    obtain⟨hg1,H⟩:=Jg H
    have F:=xZ Y (Jv Ji a0 ((IntKind.i64.wrap (x1-1)).toNat) default default (by omega))
    obtain⟨hg2,H⟩:=Jg H
    have F:=xZ F (Jv Ji a0 x1.toNat default default (by omega))
    obtain⟨hg3,H⟩:=Jg H
    have F:=xZ F (Jv Ji a0 x1.toNat default default (by omega))
    cases H
   ·obtain⟨F,G,hq2⟩:=xH Y G hp2
    replace H:=Jq H hF2
    refine xE ?_
    refine xr ?_
    exact JJ (J2 H hF1) (xK ⟨[],[]⟩)
 ·obtain⟨F,G,hq1⟩:=xH Y G hp1
  replace H:=Jq H hF1
  refine xE ?_
  refine xnD [] ?_
  exact xO ⟨[],[]⟩
theorem Jco:Jf Try.prog 64∧(∀ g,Ko g→Jx Try.prog 64 g)∧(true=true→∀ g,Ko g→∃ val bs ts,g.out=.ret val bs ts) :=
 ⟨JuN,Jb9,fun _=>by rintro _ ⟨_,_,_,_,_,rfl⟩; exact⟨_,_,_,rfl⟩⟩
noncomputable def J0(a0:List Bind)(a1:Int)(a2:Int)(a3:Int):Option (Int×Int×Int) :=
 if(0:Int)≤a2∧a2.toNat<a0.length then if(0:Int)≤a1∧a1.toNat<a0.length then(VQ (a0.getD a2.toNat default) (a0.getD a1.toNat default)).bind fun r1=>if(ltI r1 0)=true then some (a2,a1,IntKind.i64.wrap (a3+1)) else some (a1,a2,a3) else none else none
noncomputable def KX(a0:List Bind)(a1:Int)(a2:Int)(a3:Int)(r:(Int×Int×Int)):GI :=
 ⟨[.c (.d (.sl 2 (List.map Ji a0))),.c (.d (.v (.int .i64 a1))),.c (.d (.v (.int .i64 a2))),.c (.pt 1 0),.c (.d (.v (.func (.func 21) #[] #[])))],[[.d (.v (.int .i64 a3))]],[],.ret (.tu [(false,[.d (.v (.int .i64 r.1))]),(false,[.d (.v (.int .i64 r.2.1))])]) [[.d (.v (.int .i64 r.2.2))]] []⟩
def KY:GI→Prop:=fun g=>∃ (a0:List Bind) (a1:Int) (a2:Int) (a3:Int) (r:(Int×Int×Int)),J0 a0 a1 a2 a3=some r∧g=KX a0 a1 a2 a3 r
theorem XS(a0:List Bind)(a1:Int)(a2:Int)(a3:Int)(r:(Int×Int×Int))(H:J0 a0 a1 a2 a3=some r):KY (KX a0 a1 a2 a3 r):=⟨a0,a1,a2,a3,r,H,rfl⟩
theorem Jdv:∀ g,KY g→Jx Try.prog 87 g:=by
 rintro _ ⟨a0,a1,a2,a3,r,H,rfl⟩
 refine xGn mixed [(21,XJ)] [] [] ⟨⟨Jix,Ja4⟩,trivial⟩ trivial trivial Try.func87 _ ?_
 have G:=True.intro
 have Y:=xZ y_3 <| xZ y_32 <| xZ y_40 <| xZ Try.results87 <| xZ Ji.eq_1 <| KX.eq_1
 dsimp only[KX]
 simp only[J0]at H
 refine xS ?_
 refine xr ?_
 obtain⟨hg1,H⟩:=Jg H
 have F:=xZ Y (Jv Ji a0 a2.toNat default default (by omega))
 obtain⟨hg2,H⟩:=Jg H
 have F:=xZ F (Jv Ji a0 a1.toNat default default (by omega))
 obtain⟨r1,hr1,H⟩:=Je H
 have F:=xCf F (Jbw (a0.getD a2.toNat default) (a0.getD a1.toNat default) r1 hr1)
 refine xR ?_
 rcases Jc H with⟨hp1,H⟩|⟨hp1,H⟩
 ·obtain⟨F,G,hq1⟩:=xH Y G hp1
  refine xT ?_
  refine xr ?_
  replace H:=Option.some.inj H
  refine xr ?_
  subst H
  refine xrD [] ?_
  exact xO ⟨[1],[]⟩
 ·obtain⟨F,G,hq1⟩:=xH Y G hp1
  refine xE ?_
  replace H:=Option.some.inj H
  refine xr ?_
  subst H
  refine xrD [] ?_
  exact xO ⟨[1],[]⟩
theorem JdM:Jf Try.prog 87∧(∀ g,KY g→Jx Try.prog 87 g)∧(true=true→∀ g,KY g→∃ val bs ts,g.out=.ret val bs ts) :=
 ⟨JtX,Jdv,fun _=>by rintro _ ⟨_,_,_,_,_,_,rfl⟩; exact⟨_,_,_,rfl⟩⟩
noncomputable def Km(a0:List Bind)(a1:Int)(a2:Int)(a3:Int)(a4:Int):Option (Int×Int) :=
 (J0 a0 a1 a2 a4).bind fun r1=>(J0 a0 r1.2.1 a3 r1.2.2).bind fun r2=>(J0 a0 r1.1 r2.1 r2.2.2).bind fun r3=>some (r3.2.1,r3.2.2)
noncomputable def Kx(a0:List Bind)(a1:Int)(a2:Int)(a3:Int)(a4:Int)(r:(Int×Int)):GI :=
 ⟨[.c (.d (.sl 2 (List.map Ji a0))),.c (.d (.v (.int .i64 a1))),.c (.d (.v (.int .i64 a2))),.c (.d (.v (.int .i64 a3))),.c (.pt 1 0),.c (.d (.v (.func (.func 21) #[] #[])))],[[.d (.v (.int .i64 a4))]],[],.ret (.c (.d (.v (.int .i64 r.1)))) [[.d (.v (.int .i64 r.2))]] []⟩
def Kw:GI→Prop:=fun g=>∃ (a0:List Bind) (a1:Int) (a2:Int) (a3:Int) (a4:Int) (r:(Int×Int)),Km a0 a1 a2 a3 a4=some r∧g=Kx a0 a1 a2 a3 a4 r
theorem JaW(a0:List Bind)(a1:Int)(a2:Int)(a3:Int)(a4:Int)(r:(Int×Int))(H:Km a0 a1 a2 a3 a4=some r):Kw (Kx a0 a1 a2 a3 a4 r):=⟨a0,a1,a2,a3,a4,r,H,rfl⟩
theorem Jdu:∀ g,Kw g→Jx Try.prog 84 g:=by
 rintro _ ⟨a0,a1,a2,a3,a4,r,H,rfl⟩
 refine xGn mixed [] [(87,true,KY)] [] trivial ⟨JdM,trivial⟩ trivial Try.func84 _ ?_
 have G:=True.intro
 have Y:=xZ Try.results84 <| xZ Ji.eq_1 <| xZ KX.eq_1 <| Kx.eq_1
 dsimp only[Kx]
 simp only[Km]at H
 refine xS ?_
 refine xr ?_
 obtain⟨r1,hr1,H⟩:=Je H
 have F:=Y
 refine xQ ?_
 refine xs 5 ?_
 refine xc ⟨[1],[]⟩ (tabG 0 (XS a0 a1 a2 a4 r1 hr1)) ?_
 refine xs 5 ?_
 refine xl ?_
 refine xS ?_
 obtain⟨r2,hr2,H⟩:=Je H
 have F:=Y
 refine xQ ?_
 refine xs 5 ?_
 refine xc ⟨[1],[]⟩ (tabG 0 (XS a0 r1.2.1 a3 r1.2.2 r2 hr2)) ?_
 refine xs 5 ?_
 refine xl ?_
 refine xS ?_
 obtain⟨r3,hr3,H⟩:=Je H
 have F:=Y
 refine xQ ?_
 refine xs 5 ?_
 refine xc ⟨[1],[]⟩ (tabG 0 (XS a0 r1.1 r2.1 r2.2.2 r3 hr3)) ?_
 refine xs 5 ?_
 refine xl ?_
 refine xS ?_
 replace H:=Option.some.inj H
 refine xr ?_
 subst H
 refine xrD [] ?_
 exact xO ⟨[1],[]⟩
theorem JaX:Jf Try.prog 84∧(∀ g,Kw g→Jx Try.prog 84 g)∧(true=true→∀ g,Kw g→∃ val bs ts,g.out=.ret val bs ts) :=
 ⟨JuL,Jdu,fun _=>by rintro _ ⟨_,_,_,_,_,_,_,rfl⟩; exact⟨_,_,_,rfl⟩⟩
noncomputable def JF(a0:List Bind)(a1:Int)(a2:Int):Option (Int×Int) :=
 (Km a0 (IntKind.i64.wrap (a1-1)) a1 (IntKind.i64.wrap (a1+1)) a2).bind fun r1=>some (r1.1,r1.2)
noncomputable def Ki(a0:List Bind)(a1:Int)(a2:Int)(r:(Int×Int)):GI :=
 ⟨[.c (.d (.sl 2 (List.map Ji a0))),.c (.d (.v (.int .i64 a1))),.c (.pt 1 0),.c (.d (.v (.func (.func 21) #[] #[])))],[[.d (.v (.int .i64 a2))]],[],.ret (.c (.d (.v (.int .i64 r.1)))) [[.d (.v (.int .i64 r.2))]] []⟩
def Kl:GI→Prop:=fun g=>∃ (a0:List Bind) (a1:Int) (a2:Int) (r:(Int×Int)),JF a0 a1 a2=some r∧g=Ki a0 a1 a2 r
theorem VD(a0:List Bind)(a1:Int)(a2:Int)(r:(Int×Int))(H:JF a0 a1 a2=some r):Kl (Ki a0 a1 a2 r):=⟨a0,a1,a2,r,H,rfl⟩
theorem Jb1:∀ g,Kl g→Jx Try.prog 83 g:=by
 rintro _ ⟨a0,a1,a2,r,H,rfl⟩
 refine xGn mixed [] [(84,true,Kw)] [] trivial ⟨JaX,trivial⟩ trivial Try.func83 _ ?_
 have G:=True.intro
 have Y:=xZ Try.results83 <| xZ Ji.eq_1 <| xZ Kx.eq_1 <| Ki.eq_1
 dsimp only[Ki]
 simp only[JF]at H
 refine xS ?_
 refine xr ?_
 obtain⟨r1,hr1,H⟩:=Je H
 have F:=Y
 refine xQ ?_
 refine xs 8 ?_
 refine xc ⟨[1],[]⟩ (tabG 0 (JaW a0 (IntKind.i64.wrap (a1-1)) a1 (IntKind.i64.wrap (a1+1)) a2 r1 hr1)) ?_
 refine xs 1 ?_
 refine xl ?_
 replace H:=Option.some.inj H
 refine xS ?_
 subst H
 refine xrD [] ?_
 exact xO ⟨[1],[]⟩
theorem Jb8:Jf Try.prog 83∧(∀ g,Kl g→Jx Try.prog 83 g)∧(true=true→∀ g,Kl g→∃ val bs ts,g.out=.ret val bs ts) :=
 ⟨JtW,Jb1,fun _=>by rintro _ ⟨_,_,_,_,_,rfl⟩; exact⟨_,_,_,rfl⟩⟩
noncomputable def KZ:(Int×Int)→Option (Int×Int)
 | (x1,x2)=>if(eqI x2 0)=true then some (x1,1) else if(eqI x2 12)=true then some (x1,2) else some (x1,0)
noncomputable def J3(a0:List Bind):(Int×Int×Int×Int)→Option (Int×Int)
 | (x3,x4,x5,x6)=>(Km a0 x3 x4 x5 x6).bind fun r1=>KZ (r1.1,r1.2)
noncomputable def Kh(a0:List Bind)(a1:Int)(a2:Int):Option (Int×Int) :=
 if 4≠0 then if 4≠0 then if 4≠0 then if(leI 8 (IntKind.i64.wrap (a2-a1)))=true then if(leI 50 (IntKind.i64.wrap (a2-a1)))=true then(JF a0 (IntKind.i64.wrap (a1+(IntKind.i64.wrap ((IntKind.i64.wrap (Int.tdiv (IntKind.i64.wrap (a2-a1)) 4)) * 1)))) 0).bind fun r2=>(JF a0 (IntKind.i64.wrap (a1+(IntKind.i64.wrap ((IntKind.i64.wrap (Int.tdiv (IntKind.i64.wrap (a2-a1)) 4)) * 2)))) r2.2).bind fun r3=>(JF a0 (IntKind.i64.wrap (a1+(IntKind.i64.wrap ((IntKind.i64.wrap (Int.tdiv (IntKind.i64.wrap (a2-a1)) 4)) * 3)))) r3.2).bind fun r4=>J3 a0 (r2.1,r3.1,r4.1,r4.2) else J3 a0 (IntKind.i64.wrap (a1+(IntKind.i64.wrap ((IntKind.i64.wrap (Int.tdiv (IntKind.i64.wrap (a2-a1)) 4)) * 1))),IntKind.i64.wrap (a1+(IntKind.i64.wrap ((IntKind.i64.wrap (Int.tdiv (IntKind.i64.wrap (a2-a1)) 4)) * 2))),IntKind.i64.wrap (a1+(IntKind.i64.wrap ((IntKind.i64.wrap (Int.tdiv (IntKind.i64.wrap (a2-a1)) 4)) * 3))),0) else KZ (IntKind.i64.wrap (a1+(IntKind.i64.wrap ((IntKind.i64.wrap (Int.tdiv (IntKind.i64.wrap (a2-a1)) 4)) * 2))),0) else none else none else none
noncomputable def Ky(a0:List Bind)(a1:Int)(a2:Int)(r:(Int×Int)):GI :=
 ⟨[.c (.d (.sl 2 (List.map Ji a0))),.c (.d (.v (.int .i64 a1))),.c (.d (.v (.int .i64 a2))),.c (.d (.v (.func (.func 21) #[] #[])))],[],[],.ret (.tu [(false,[.d (.v (.int .i64 r.1))]),(false,[.d (.v (.int .i64 r.2))])]) [] []⟩
def Kz:GI→Prop:=fun g=>∃ (a0:List Bind) (a1:Int) (a2:Int) (r:(Int×Int)),Kh a0 a1 a2=some r∧g=Ky a0 a1 a2 r
theorem JcC(a0:List Bind)(a1:Int)(a2:Int)(r:(Int×Int))(H:Kh a0 a1 a2=some r):Kz (Ky a0 a1 a2 r):=⟨a0,a1,a2,r,H,rfl⟩
theorem Jcv:∀ g,Kz g→Jx Try.prog 67 g:=by
 rintro _ ⟨a0,a1,a2,r,H,rfl⟩
 refine xGn mixed [] [(84,true,Kw),(83,true,Kl)] [] trivial ⟨JaX,Jb8,trivial⟩ trivial Try.func67 _ ?_
 have G:=True.intro
 have Y:=xZ y_3 <| xZ Try.results67 <| xZ Ji.eq_1 <| xZ Kx.eq_1 <| xZ Ki.eq_1 <| Ky.eq_1
 dsimp only[Ky]
 simp only[Kh]at H
 refine xS ?_
 refine xr ?_
 refine xr ?_
 refine xr ?_
 obtain⟨hg1,H⟩:=Jg H
 refine xr ?_
 obtain⟨hg2,H⟩:=Jg H
 refine xr ?_
 obtain⟨hg3,H⟩:=Jg H
 refine xr0 ?_
 refine Jn ?_
 refine JB KZ (fun s=>[(11,.c (.pt 1 0)),(13,.c (.d (.v (.int .i64 s.1))))]) (fun s=>[[.d (.v (.int .i64 s.2))]]) [] r ?_ ?_
 ·refine xS ?_
  refine xr ?_
  rcases Jc H with⟨hp3,H⟩|⟨hp3,H⟩
  ·obtain⟨F,G,hq3⟩:=xH Y G hp3
   refine xT0 ?_
   refine JB (J3 a0) (fun s=>[(0,.c (.d (.sl 2 (List.map Ji a0)))),(3,.c (.d (.v (.func (.func 21) #[] #[])))),(11,.c (.pt 1 0)),(12,.c (.d (.v (.int .i64 s.1)))),(13,.c (.d (.v (.int .i64 s.2.1)))),(14,.c (.d (.v (.int .i64 s.2.2.1))))]) (fun s=>[[.d (.v (.int .i64 s.2.2.2))]]) [] r ?_ ?_
   ·refine xS ?_
    refine xr ?_
    rcases Jc H with⟨hp4,H⟩|⟨hp4,H⟩
    ·obtain⟨F,G,hq4⟩:=xH Y G hp4
     refine xT ?_
     obtain⟨r2,hr2,H⟩:=Je H
     have F:=Y
     refine xQ ?_
     refine xs 3 ?_
     refine xc ⟨[1],[]⟩ (tabG 1 (VD a0 (IntKind.i64.wrap (a1+(IntKind.i64.wrap ((IntKind.i64.wrap (Int.tdiv (IntKind.i64.wrap (a2-a1)) 4)) * 1)))) 0 r2 hr2)) ?_
     refine xs 1 ?_
     refine xl ?_
     refine xS ?_
     obtain⟨r3,hr3,H⟩:=Je H
     have F:=Y
     refine xQ ?_
     refine xs 3 ?_
     refine xc ⟨[1],[]⟩ (tabG 1 (VD a0 (IntKind.i64.wrap (a1+(IntKind.i64.wrap ((IntKind.i64.wrap (Int.tdiv (IntKind.i64.wrap (a2-a1)) 4)) * 2)))) r2.2 r3 hr3)) ?_
     refine xs 1 ?_
     refine xl ?_
     refine xS ?_
     obtain⟨r4,hr4,H⟩:=Je H
     have F:=Y
     refine xQ ?_
     refine xs 3 ?_
     refine xc ⟨[1],[]⟩ (tabG 1 (VD a0 (IntKind.i64.wrap (a1+(IntKind.i64.wrap ((IntKind.i64.wrap (Int.tdiv (IntKind.i64.wrap (a2-a1)) 4)) * 3)))) r3.2 r4 hr4)) ?_
     refine xs 1 ?_
     refine xl ?_
     refine xS ?_
     exact Jd H (xK ⟨[1],[]⟩)
    ·obtain⟨F,G,hq4⟩:=xH Y G hp4
     refine xE ?_
     exact Jd H (xK ⟨[1],[]⟩)
   ·rintro ⟨x3,x4,x5,x6⟩ H
    rw[J3]at H
    obtain⟨r1,hr1,H⟩:=Je H
    have F:=Y
    refine xQ ?_
    refine xs 5 ?_
    refine xc ⟨[1],[]⟩ (tabG 0 (JaW a0 x3 x4 x5 x6 r1 hr1)) ?_
    refine xs 1 ?_
    refine xl ?_
    refine xS ?_
    exact Jd H (xK ⟨[1],[]⟩)
  ·obtain⟨F,G,hq3⟩:=xH Y G hp3
   refine xE ?_
   exact Jd H (xK ⟨[1],[]⟩)
 ·rintro ⟨x1,x2⟩ H
  rw[KZ]at H
  refine xS ?_
  refine xr ?_
  refine xr ?_
  rcases Jc H with⟨hp1,H⟩|⟨hp1,H⟩
  ·obtain⟨F,G,hq1⟩:=xH Y G hp1
   refine xT ?_
   replace H:=Option.some.inj H
   refine xr ?_
   subst H
   refine xrD [] ?_
   exact xO ⟨[],[]⟩
  ·obtain⟨F,G,hq1⟩:=xH Y G hp1
   refine xE ?_
   refine xr ?_
   rcases Jc H with⟨hp2,H⟩|⟨hp2,H⟩
   ·obtain⟨F,G,hq2⟩:=xH Y G hp2
    refine xT ?_
    replace H:=Option.some.inj H
    refine xr ?_
    subst H
    refine xrD [] ?_
    exact xO ⟨[],[]⟩
   ·obtain⟨F,G,hq2⟩:=xH Y G hp2
    refine xE ?_
    replace H:=Option.some.inj H
    refine xr ?_
    subst H
    refine xrD [] ?_
    exact xO ⟨[],[]⟩
theorem JcE:Jf Try.prog 67∧(∀ g,Kz g→Jx Try.prog 67 g)∧(true=true→∀ g,Kz g→∃ val bs ts,g.out=.ret val bs ts) :=
 ⟨Juk,Jcv,fun _=>by rintro _ ⟨_,_,_,_,_,rfl⟩; exact⟨_,_,_,rfl⟩⟩
noncomputable def JH(a0:List Bind)(a1:Int)(a2:Int)(x2:Int):Bool→Option (Int ⊕ (Int ⊕ Bool))
 | x3=>if x3=true then some (.inl (IntKind.i64.wrap (x2+1))) else inrO (if(eqI x2 a2)=true then inrO (some true) else if(ltI (IntKind.i64.wrap (a2-a1)) 50)=true then inrO (some false) else if(0:Int)≤(IntKind.i64.wrap (x2-1))∧(IntKind.i64.wrap (x2-1)).toNat<a0.length then if(0:Int)≤x2∧x2.toNat<a0.length then if(0:Int)≤x2∧x2.toNat<a0.length then none else none else none else none)
noncomputable def JG(a0:List Bind)(a1:Int)(a2:Int):Int→Option (Int ⊕ (Int ⊕ Bool))
 | x2=>if(ltI x2 a2)=true then if(0:Int)≤x2∧x2.toNat<a0.length then if(0:Int)≤(IntKind.i64.wrap (x2-1))∧(IntKind.i64.wrap (x2-1)).toNat<a0.length then(VQ (a0.getD x2.toNat default) (a0.getD ((IntKind.i64.wrap (x2-1)).toNat) default)).bind fun r1=>JH a0 a1 a2 x2 (!(ltI r1 0)) else none else none else JH a0 a1 a2 x2 false
noncomputable def Kn(a0:List Bind)(a1:Int)(a2:Int):Int→Option (Int ⊕ Bool)
 | x1=>Ju (JG a0 a1 a2) x1
noncomputable def JI(a0:List Bind)(a1:Int)(a2:Int):Option Bool :=
 Ju (Kn a0 a1 a2) (IntKind.i64.wrap (a1+1))
noncomputable def JW(a0:List Bind)(a1:Int)(a2:Int)(r:Bool):GI :=
 ⟨[.c (.d (.sl 2 (List.map Ji a0))),.c (.d (.v (.int .i64 a1))),.c (.d (.v (.int .i64 a2))),.c (.d (.v (.func (.func 21) #[] #[])))],[],[],.ret (.c (.d (.v (.bool r)))) [] []⟩
def JX:GI→Prop:=fun g=>∃ (a0:List Bind) (a1:Int) (a2:Int) (r:Bool),JI a0 a1 a2=some r∧g=JW a0 a1 a2 r
theorem Jbg(a0:List Bind)(a1:Int)(a2:Int)(r:Bool)(H:JI a0 a1 a2=some r):JX (JW a0 a1 a2 r):=⟨a0,a1,a2,r,H,rfl⟩
theorem JaY:∀ g,JX g→Jx Try.prog 69 g:=by
 rintro _ ⟨a0,a1,a2,r,H,rfl⟩
 refine xGn mixed [(21,XJ)] [] [] ⟨⟨Jix,Ja4⟩,trivial⟩ trivial trivial Try.func69 _ ?_
 have G:=True.intro
 have Y:=xZ y_32 <| xZ y_40 <| xZ Try.results69 <| xZ Ji.eq_1 <| JW.eq_1
 dsimp only[JW]
 simp only[JI]at H
 refine xS ?_
 refine xr ?_
 refine xr ?_
 refine xr ?_
 refine KH (Kn a0 a1 a2) (fun s=>[(0,.c (.d (.sl 2 (List.map Ji a0)))),(1,.c (.d (.v (.int .i64 a1)))),(2,.c (.d (.v (.int .i64 a2)))),(3,.c (.d (.v (.func (.func 21) #[] #[])))),(9,.c (.d (.v (.int .i64 s)))),(10,.c (.d (.v (.int .i64 0))))]) (fun s=>[]) [] H (xK ⟨[],[]⟩) ?_
 rintro n1 x1 o1 H hF1
 rw[Kn]at H
 refine xS ?_
 refine xr ?_
 have Y:=xZ Y (show ltI (0:Int) (5:Int)=true from rfl)
 refine xt ?_
 refine KH (JG a0 a1 a2) (fun s=>[(0,.c (.d (.sl 2 (List.map Ji a0)))),(1,.c (.d (.v (.int .i64 a1)))),(2,.c (.d (.v (.int .i64 a2)))),(3,.c (.d (.v (.func (.func 21) #[] #[])))),(9,.c (.d (.v (.int .i64 s)))),(10,.c (.d (.v (.int .i64 0))))]) (fun s=>[]) [] H (xK ⟨[],[]⟩) ?_
 rintro n2 x2 o2 H hF2
 rw[JG]at H
 refine XV ?_
 refine JB (JH a0 a1 a2 x2) (fun s=>[(0,.c (.d (.sl 2 (List.map Ji a0)))),(1,.c (.d (.v (.int .i64 a1)))),(2,.c (.d (.v (.int .i64 a2)))),(3,.c (.d (.v (.func (.func 21) #[] #[])))),(9,.c (.d (.v (.int .i64 x2)))),(10,.c (.d (.v (.int .i64 0)))),(36,.c (.d (.v (.bool s))))]) (fun s=>[]) [] o2 ?_ ?_
 ·rcases Jc H with⟨hp4,H⟩|⟨hp4,H⟩
  ·obtain⟨F,G,hq4⟩:=xH Y G hp4
   obtain⟨hg4,H⟩:=Jg H
   have F:=xZ F (Jv Ji a0 x2.toNat default default (by omega))
   obtain⟨hg5,H⟩:=Jg H
   have F:=xZ F (Jv Ji a0 ((IntKind.i64.wrap (x2-1)).toNat) default default (by omega))
   obtain⟨r1,hr1,H⟩:=Je H
   have F:=xCf F (Jbw (a0.getD x2.toNat default) (a0.getD ((IntKind.i64.wrap (x2-1)).toNat) default) r1 hr1)
   refine xR ?_
   exact Jd H (xK ⟨[],[]⟩)
  ·obtain⟨F,G,hq4⟩:=xH Y G hp4
   refine xR ?_
   exact Jd H (xK ⟨[],[]⟩)
 ·rintro x3 H
  rw[JH]at H
  rcases Jc H with⟨hp1,H⟩|⟨hp1,H⟩
  ·obtain⟨F,G,hq1⟩:=xH Y G hp1
   refine xT ?_
   refine xr ?_
   exact JJ (J2 H hF2) (xK ⟨[],[]⟩)
  ·obtain⟨F,G,hq1⟩:=xH Y G hp1
   replace H:=Jq H hF2
   refine xE ?_
   refine xr ?_
   rcases Jc H with⟨hp2,H⟩|⟨hp2,H⟩
   ·obtain⟨F,G,hq2⟩:=xH Y G hp2
    refine xT ?_
    replace H:=Jq H hF1
    replace H:=Option.some.inj H
    refine xr ?_
    subst H
    refine xrD [] ?_
    exact xO ⟨[],[]⟩
   ·obtain⟨F,G,hq2⟩:=xH Y G hp2
    refine xE ?_
    refine xr ?_
    rcases Jc H with⟨hp3,H⟩|⟨hp3,H⟩
    ·obtain⟨F,G,hq3⟩:=xH Y G hp3
     refine xT ?_
     replace H:=Jq H hF1
     replace H:=Option.some.inj H
     refine xr ?_
     subst H
     refine xrD [] ?_
     exact xO ⟨[],[]⟩
    ·obtain⟨F,G,hq3⟩:=xH Y G hp3
     refine xE ?_
     obtain⟨hg1,H⟩:=Jg H
     have F:=xZ Y (Jv Ji a0 ((IntKind.i64.wrap (x2-1)).toNat) default default (by omega))
     obtain⟨hg2,H⟩:=Jg H
     have F:=xZ F (Jv Ji a0 x2.toNat default default (by omega))
     obtain⟨hg3,H⟩:=Jg H
     have F:=xZ F (Jv Ji a0 x2.toNat default default (by omega))
     cases H
theorem Jbc:Jf Try.prog 69∧(∀ g,JX g→Jx Try.prog 69 g)∧(true=true→∀ g,JX g→∃ val bs ts,g.out=.ret val bs ts) :=
 ⟨Jum,JaY,fun _=>by rintro _ ⟨_,_,_,_,_,rfl⟩; exact⟨_,_,_,rfl⟩⟩
noncomputable def Vr:Bool→Option (Unit ⊕ Unit)
 | x3=>if x3=true then none else none
noncomputable def Vq(a0:List Bind)(a1:Int)(r2:(Int×Int)):(Int×Bool)→Option (Unit ⊕ Unit)
 | (x1,x2)=>if(ltI 0 a1)=true then if(0:Int)≤(IntKind.i64.wrap (a1-1))∧(IntKind.i64.wrap (a1-1)).toNat<a0.length then if(0:Int)≤r2.1∧r2.1.toNat<a0.length then(VQ (a0.getD ((IntKind.i64.wrap (a1-1)).toNat) default) (a0.getD r2.1.toNat default)).bind fun r3=>Vr (!(ltI r3 0)) else none else none else Vr false
noncomputable def Vs(a0:List Bind)(a1:Int)(a2:Int)(a3:Int):Unit→Option (Unit ⊕ Unit)
 | ()=>if(leI (IntKind.i64.wrap (a2-a1)) 12)=true then(J7 a0 a1 a2).bind fun r1=>inrO (some ()) else if(eqI a3 0)=true then none else(Kh a0 a1 a2).bind fun r2=>if(eqI r2.2 2)=true then none else if(eqI r2.2 1)=true then(JI a0 a1 a2).bind fun r4=>if r4=true then inrO (some ()) else Vq a0 a1 r2 (IntKind.i64.wrap (a2-a1),true) else Vq a0 a1 r2 (IntKind.i64.wrap (a2-a1),false)
noncomputable def K3(a0:List Bind)(a1:Int)(a2:Int)(a3:Int):Option Unit :=
 Ju (Vs a0 a1 a2 a3) ()
noncomputable def KL(a0:List Bind)(a1:Int)(a2:Int)(a3:Int)(r:Unit):GI :=
 ⟨[.c (.d (.sl 2 (List.map Ji a0))),.c (.d (.v (.int .i64 a1))),.c (.d (.v (.int .i64 a2))),.c (.d (.v (.int .i64 a3))),.c (.d (.v (.func (.func 21) #[] #[])))],[],[],.ret (.tu []) [] []⟩
def KN:GI→Prop:=fun g=>∃ (a0:List Bind) (a1:Int) (a2:Int) (a3:Int) (r:Unit),K3 a0 a1 a2 a3=some r∧g=KL a0 a1 a2 a3 r
theorem Jdx(a0:List Bind)(a1:Int)(a2:Int)(a3:Int)(r:Unit)(H:K3 a0 a1 a2 a3=some r):KN (KL a0 a1 a2 a3 r):=⟨a0,a1,a2,a3,r,H,rfl⟩
theorem Jda:∀ g,KN g→Jx Try.prog 44 g:=by
 rintro _ ⟨a0,a1,a2,a3,r,H,rfl⟩
 refine xGn mixed [(21,XJ)] [(64,true,Ko),(67,true,Kz),(69,true,JX)] [] ⟨⟨Jix,Ja4⟩,trivial⟩ ⟨Jco,JcE,Jbc,trivial⟩ trivial Try.func44 _ ?_
 have G:=True.intro
 have Y:=xZ y_32 <| xZ y_40 <| xZ Try.results44 <| xZ Ji.eq_1 <| xZ Kq.eq_1 <| xZ Ky.eq_1 <| xZ JW.eq_1 <| KL.eq_1
 dsimp only[KL]
 unfold K3 at H
 refine xS ?_
 refine xr ?_
 refine xr ?_
 refine KH (Vs a0 a1 a2 a3) (fun s=>[(0,.c (.d (.sl 2 (List.map Ji a0)))),(1,.c (.d (.v (.int .i64 a1)))),(2,.c (.d (.v (.int .i64 a2)))),(3,.c (.d (.v (.int .i64 a3)))),(4,.c (.d (.v (.func (.func 21) #[] #[])))),(10,.c (.d (.v (.bool true)))),(11,.c (.d (.v (.bool true))))]) (fun s=>[]) [] H (xK ⟨[],[]⟩) ?_
 rintro n1 ⟨⟩ o1 H hF1
 rw[Vs]at H
 refine xS ?_
 refine xr ?_
 refine xr ?_
 rcases Jc H with⟨hp1,H⟩|⟨hp1,H⟩
 ·obtain⟨F,G,hq1⟩:=xH Y G hp1
  refine xT ?_
  obtain⟨r1,hr1,H⟩:=Je H
  have F:=Y
  refine xQ ?_
  refine xs 4 ?_
  refine xc ⟨[],[]⟩ (tabG 0 (Jcn a0 a1 a2 r1 hr1)) ?_
  refine xl ?_
  replace H:=Jq H hF1
  refine xS ?_
  refine xrD [] ?_
  exact xO ⟨[],[]⟩
 ·obtain⟨F,G,hq1⟩:=xH Y G hp1
  refine xE ?_
  refine xr ?_
  rcases Jc H with⟨hp2,H⟩|⟨hp2,H⟩
  ·obtain⟨F,G,hq2⟩:=xH Y G hp2
   refine xT ?_
   cases H
  ·obtain⟨F,G,hq2⟩:=xH Y G hp2
   refine xE ?_
   refine xr ?_
   refine xe ?_
   obtain⟨r2,hr2,H⟩:=Je H
   have F:=Y
   refine xQ ?_
   refine xs 4 ?_
   refine xc ⟨[],[]⟩ (tabG 1 (JcC a0 a1 a2 r2 hr2)) ?_
   refine xs 5 ?_
   refine xl ?_
   refine xS ?_
   refine xr ?_
   rcases Jc H with⟨hp3,H⟩|⟨hp3,H⟩
   ·obtain⟨F,G,hq3⟩:=xH Y G hp3
    refine xT ?_
    cases H
   ·obtain⟨F,G,hq3⟩:=xH Y G hp3
    refine xE0 ?_
    refine JbD ?_
    refine Jn ?_
    refine JB (Vq a0 a1 r2) (fun s=>[(0,.c (.d (.sl 2 (List.map Ji a0)))),(1,.c (.d (.v (.int .i64 a1)))),(2,.c (.d (.v (.int .i64 a2)))),(3,.c (.d (.v (.int .i64 a3)))),(4,.c (.d (.v (.func (.func 21) #[] #[])))),(10,.c (.d (.v (.bool true)))),(11,.c (.d (.v (.bool true)))),(12,.c (.d (.v (.int .i64 s.1)))),(13,.c (.d (.v (.int .i64 r2.1)))),(70,.c (.d (.v (.bool true)))),(73,.c (.d (.v (.int .i64 r2.2)))),(74,.c (.d (.v (.bool s.2))))]) (fun s=>[]) [] o1 ?_ ?_
    ·refine xS ?_
     refine xr ?_
     rcases Jc H with⟨hp6,H⟩|⟨hp6,H⟩
     ·obtain⟨F,G,hq6⟩:=xH Y G hp6
      refine xT ?_
      obtain⟨r4,hr4,H⟩:=Je H
      have F:=Y
      refine xQ ?_
      refine xs 4 ?_
      refine xc ⟨[],[]⟩ (tabG 2 (Jbg a0 a1 a2 r4 hr4)) ?_
      refine xl ?_
      refine xS ?_
      rcases Jc H with⟨hp7,H⟩|⟨hp7,H⟩
      ·obtain⟨F,G,hq7⟩:=xH Y G hp7
       replace H:=Jq H hF1
       refine xT ?_
       refine xrD [] ?_
       exact xO ⟨[],[]⟩
      ·obtain⟨F,G,hq7⟩:=xH Y G hp7
       refine xE ?_
       exact Jd H (xK ⟨[],[]⟩)
     ·obtain⟨F,G,hq6⟩:=xH Y G hp6
      refine xE ?_
      exact Jd H (xK ⟨[],[]⟩)
    ·rintro ⟨x1,x2⟩ H
     rw[Vq]at H
     refine XV ?_
     refine JB Vr (fun s=>[(0,.c (.d (.sl 2 (List.map Ji a0)))),(1,.c (.d (.v (.int .i64 a1)))),(2,.c (.d (.v (.int .i64 a2)))),(3,.c (.d (.v (.int .i64 a3)))),(4,.c (.d (.v (.func (.func 21) #[] #[])))),(10,.c (.d (.v (.bool true)))),(11,.c (.d (.v (.bool true)))),(12,.c (.d (.v (.int .i64 x1)))),(13,.c (.d (.v (.int .i64 r2.1)))),(70,.c (.d (.v (.bool true)))),(73,.c (.d (.v (.int .i64 r2.2)))),(74,.c (.d (.v (.bool x2)))),(97,.c (.d (.v (.bool s))))]) (fun s=>[]) [] o1 ?_ ?_
     ·rcases Jc H with⟨hp5,H⟩|⟨hp5,H⟩
      ·obtain⟨F,G,hq5⟩:=xH Y G hp5
       obtain⟨hg1,H⟩:=Jg H
       have F:=xZ F (Jv Ji a0 ((IntKind.i64.wrap (a1-1)).toNat) default default (by omega))
       obtain⟨hg2,H⟩:=Jg H
       have F:=xZ F (Jv Ji a0 r2.1.toNat default default (by omega))
       obtain⟨r3,hr3,H⟩:=Je H
       have F:=xCf F (Jbw (a0.getD ((IntKind.i64.wrap (a1-1)).toNat) default) (a0.getD r2.1.toNat default) r3 hr3)
       refine xR ?_
       exact Jd H (xK ⟨[],[]⟩)
      ·obtain⟨F,G,hq5⟩:=xH Y G hp5
       refine xR ?_
       exact Jd H (xK ⟨[],[]⟩)
     ·rintro x3 H
      rw[Vr]at H
      rcases Jc H with⟨hp4,H⟩|⟨hp4,H⟩
      ·obtain⟨F,G,hq4⟩:=xH Y G hp4
       refine xT ?_
       cases H
      ·obtain⟨F,G,hq4⟩:=xH Y G hp4
       refine xE ?_
       cases H
theorem Jdy:Jf Try.prog 44∧(∀ g,KN g→Jx Try.prog 44 g)∧(true=true→∀ g,KN g→∃ val bs ts,g.out=.ret val bs ts) :=
 ⟨Juo,Jda,fun _=>by rintro _ ⟨_,_,_,_,_,_,rfl⟩; exact⟨_,_,_,rfl⟩⟩
noncomputable def Ka(a0:List Bind):Option Unit :=
 (bits_Len (IntKind.u64.wrap (a0.length:Int))).bind fun r1=>(K3 a0 0 (a0.length:Int) (Jgt (IntKind.u64.wrap (a0.length:Int)))).bind fun r2=>some ()
noncomputable def Ku(a0:List Bind)(r:Unit):GI :=
 ⟨[.c (.d (.sl 2 (List.map Ji a0))),.c (.d (.v (.func (.func 21) #[] #[])))],[],[],.ret (.tu []) [] []⟩
def Kv:GI→Prop:=fun g=>∃ (a0:List Bind) (r:Unit),Ka a0=some r∧g=Ku a0 r
theorem Jcx(a0:List Bind)(r:Unit)(H:Ka a0=some r):Kv (Ku a0 r):=⟨a0,r,H,rfl⟩
theorem Jcp:∀ g,Kv g→Jx Try.prog 20 g:=by
 rintro _ ⟨a0,r,H,rfl⟩
 refine xGn mixed [] [(45,true,Jd7),(44,true,KN)] [] trivial ⟨JqL,Jdy,trivial⟩ trivial Try.func20 _ ?_
 have G:=True.intro
 have Y:=xZ y_3 <| xZ y_32 <| xZ y_40 <| xZ y_96 <| xZ Try.results20 <| xZ Ji.eq_1 <| xZ Jha.eq_1 <| xZ KL.eq_1 <| Ku.eq_1
 dsimp only[Ku]
 unfold Ka at H
 refine xS ?_
 refine xr ?_
 obtain⟨r1,hr1,H⟩:=Je H
 have F:=Y
 obtain⟨r2,hr2,H⟩:=Je H
 have F:=F
 refine xQ ?_
 refine xs 4 ?_
 refine xc ⟨[],[]⟩ (tabG 0 (JqY (IntKind.u64.wrap (a0.length:Int)) r1 hr1)) ?_
 refine xs 1 ?_
 refine xc ⟨[],[]⟩ (tabG 1 (Jdx a0 0 (a0.length:Int) (Jgt (IntKind.u64.wrap (a0.length:Int))) r2 hr2)) ?_
 refine xl ?_
 refine xS ?_
 refine xnD [] ?_
 exact xO ⟨[],[]⟩
theorem Jcw:Jf Try.prog 20∧(∀ g,Kv g→Jx Try.prog 20 g)∧(true=true→∀ g,Kv g→∃ val bs ts,g.out=.ret val bs ts) :=
 ⟨JuE,Jcp,fun _=>by rintro _ ⟨_,_,_,rfl⟩; exact⟨_,_,_,rfl⟩⟩
noncomputable def Jcu(a0:List Bind)(a1:Int)(a2:Int)(a3:Int):Option Unit :=
 some ()
noncomputable def ZN(a0:List Bind)(a1:Int)(a2:Int)(a3:Int)(r:Unit):DI :=
 ⟨[.c (.pt 1 0),.c (.pt 2 0)],[[.sl 2 (List.map Ji a0) 3],[.d (.v (.int .i64 a1)),.d (.v (.int .i64 a2)),.d (.v (.int .i64 a3))]],[40],none,[[.sl 2 (List.map Ji a0) 3],[.d (.v (.int .i64 a1)),.d (.v (.int .i64 a2)),.d (.v (.int .i64 a3))]],[40],none⟩
def JcF:DI→Prop:=fun d=>∃ (a0:List Bind) (a1:Int) (a2:Int) (a3:Int) (r:Unit),Jcu a0 a1 a2 a3=some r∧d=ZN a0 a1 a2 a3 r
theorem JhB(a0:List Bind)(a1:Int)(a2:Int)(a3:Int)(r:Unit)(H:Jcu a0 a1 a2 a3=some r):JcF (ZN a0 a1 a2 a3 r):=⟨a0,a1,a2,a3,r,H,rfl⟩
theorem Jhq:∀ d,JcF d→DOk Try.prog 18 d:=by
 rintro _ ⟨a0,a1,a2,a3,r,H,rfl⟩
 refine xRcl mixed [7] [] [] trivial trivial Try.func18 _ ?_
 have G:=True.intro
 have Y:=xZ y_20 <| xZ y_29 <| xZ y_32 <| xZ y_56 <| xZ Try.results18 <| xZ Ji.eq_1 <| ZN.eq_1
 dsimp only[ZN,Option.getD_some,Option.getD_none]
 unfold Jcu at H
 refine xS ?_
 refine xr ?_
 refine xt ?_
 replace H:=Option.some.inj H
 refine xr ?_
 subst H
 exact xDn ⟨[1,2],[3]⟩
noncomputable def Ja8(a0:List Bind)(a1:Int)(a2:Int)(a3:Int)(a4:Int)(a5:Int)(a6:Int):Option Unit :=
 some ()
noncomputable def Xz(a0:List Bind)(a1:Int)(a2:Int)(a3:Int)(a4:Int)(a5:Int)(a6:Int)(r:Unit):DI :=
 ⟨[.c (.pt 1 0),.c (.pt 2 0)],[[.sl 2 (List.map Ji a0) 3],[.d (.v (.int .i64 a1)),.d (.v (.int .i64 a2)),.d (.v (.int .i64 a3))]],[40],(some (.iface 56 (.agg ⟨[.int .i64 a4,.int .i64 a5,.int .i64 a6]⟩))),[[.sl 2 [] 0],[.d (.v (.int .i64 a4)),.d (.v (.int .i64 a5)),.d (.v (.int .i64 a6))]],[],none⟩
def JbF:DI→Prop:=fun d=>∃ (a0:List Bind) (a1:Int) (a2:Int) (a3:Int) (a4:Int) (a5:Int) (a6:Int) (r:Unit),Ja8 a0 a1 a2 a3 a4 a5 a6=some r∧d=Xz a0 a1 a2 a3 a4 a5 a6 r
theorem Jgh(a0:List Bind)(a1:Int)(a2:Int)(a3:Int)(a4:Int)(a5:Int)(a6:Int)(r:Unit)(H:Ja8 a0 a1 a2 a3 a4 a5 a6=some r):JbF (Xz a0 a1 a2 a3 a4 a5 a6 r):=⟨a0,a1,a2,a3,a4,a5,a6,r,H,rfl⟩
theorem Jge:∀ d,JbF d→DOk Try.prog 18 d:=by
 rintro _ ⟨a0,a1,a2,a3,a4,a5,a6,r,H,rfl⟩
 refine xRcl mixed [7] [] [] trivial trivial Try.func18 _ ?_
 have G:=True.intro
 have Y:=xZ y_20 <| xZ y_29 <| xZ y_32 <| xZ y_56 <| xZ Try.results18 <| xZ Ji.eq_1 <| Xz.eq_1
 dsimp only[Xz,Option.getD_some,Option.getD_none]
 unfold Ja8 at H
 refine xS ?_
 refine xr ?_
 refine xe ?_
 refine xr ?_
 refine xt ?_
 refine xr ?_
 have F:=Y
 refine xP [0,1,2,3] [12] trivial ?_
 refine xsX 1 ?_
 refine xaX ?_
 refine xbX ?_
 refine xbX ?_
 refine xlX ?_
 replace H:=Option.some.inj H
 refine xS ?_
 subst H
 exact xDn ⟨[1,2],[]⟩
noncomputable def Zh(a0:List Token)(a1:Node):Option ((List Bind)×Int×Int×Int) :=
 grB (Jbz a1 a0 ([[]]:List KD) ([]:List Bind)) (fun r1=>(Ka r1.2).bind fun r2=>(Jcu r1.2 0 (-1) 0).bind fun r3=>some (r1.2,0,(-1),0)) (fun e1=>(Ja8 ([]:List Bind) 0 0 0 e1.1 e1.2.1 e1.2.2.1).bind fun r4=>some (([]:List Bind),e1.1,e1.2.1,e1.2.2.1))
noncomputable def ZZ(a0:List Token)(a1:Node)(r:((List Bind)×Int×Int×Int)):GI :=
 ⟨[.c (.d (.sl 11 (List.map Jb a0))),.ag [.d (.v (.int .i64 a1.Kind)),.d (.v (.int .i64 a1.Tok)),.d (.sl 3 (List.map Jp a1.Kids))]],[],[],.ret (.tu [(false,[.sl 2 (List.map Ji r.1) 1]),(true,[.d (.v (.int .i64 r.2.1)),.d (.v (.int .i64 r.2.2.1)),.d (.v (.int .i64 r.2.2.2))])]) [] [40]⟩
def ZW:GI→Prop:=fun g=>∃ (a0:List Token) (a1:Node) (r:((List Bind)×Int×Int×Int)),Zh a0 a1=some r∧g=ZZ a0 a1 r
theorem JfV(a0:List Token)(a1:Node)(r:((List Bind)×Int×Int×Int))(H:Zh a0 a1=some r):ZW (ZZ a0 a1 r):=⟨a0,a1,r,H,rfl⟩
theorem Jji:∀ g,ZW g→Jx Try.prog 8 g:=by
 rintro _ ⟨a0,a1,r,H,rfl⟩
 refine xGnl mixed [1000025] [] [(19,false,Jcm),(20,true,Kv)] [(18,JcF),(18,JbF)] trivial ⟨Jhv,Jcw,trivial⟩ ⟨⟨JpT,Jhq⟩,⟨JpT,Jge⟩,trivial⟩ Try.func8 _ ?_
 have G:=True.intro
 have Y:=xZ y_3 <| xZ y_22 <| xZ y_27 <| xZ y_29 <| xZ y_32 <| xZ y_58 <| xZ y_59 <| xZ y_61 <| xZ Try.results8 <| xZ J9.eq_1 <| xZ Jb.eq_1 <| xZ Vl <| xZ Ji.eq_1 <| xZ KO.eq_1 <| xZ Ku.eq_1 <| xZ ZN.eq_1 <| xZ Xz.eq_1 <| xZ ZZ.eq_1 <| xZ JdH <| xZ Jcz <| xZ Jcy <| xZ JdG <| xZ JdD <| xZ JcG <| xZ JcA <| JdF
 dsimp only[ZZ]
 simp only[Zh]at H
 refine xS ?_
 refine xr ?_
 have F:=Y
 refine xQ ?_
 refine xs 1 ?_
 refine xw ?_
 refine xl ?_
 refine xS ?_
 refine Jvp ?_
 refine xS ?_
 refine xbp 1 [.v (.int .i64 a1.Kind),.v (.int .i64 a1.Tok),.sl 3 (List.map Jp a1.Kids)] ?_
 rcases Jan H with⟨r1,hr1,H⟩|⟨e1,hr2,H⟩
 ·have F:=Y
  refine xQ ?_
  refine xs 1 ?_
  refine xc ⟨[4],[0]⟩ (tabG 0 (Jei a1 a0 ([[]]:List KD) ([]:List Bind) (.ok r1) hr1)) ?_
  refine xl ?_
  refine xS ?_
  obtain⟨r2,hr3,H⟩:=Je H
  have F:=Y
  refine xQ ?_
  refine xs 4 ?_
  refine xc ⟨[],[]⟩ (tabG 1 (Jcx r1.2 r2 hr3)) ?_
  refine xl ?_
  refine xS ?_
  refine xr ?_
  refine xrD [(18,[.pt 2 0,.pt 3 0])] ?_
  obtain⟨r3,hr4,H⟩:=Je H
  refine xD ⟨[2,3],[6]⟩ (tabD 0 (JhB r1.2 0 (-1) 0 r3 hr4)) ?_
  replace H:=Option.some.inj H
  subst H
  exact xO ⟨[],[9]⟩
 ·have F:=Y
  refine xQp [13,14] ?_
  refine xs 1 ?_
  refine xp ⟨[4],[0]⟩ (tabG 0 (Jei a1 a0 ([[]]:List KD) ([]:List Bind) (.er e1) hr2)) ?_
  refine xS ?_
  refine xpD [(18,[.pt 2 0,.pt 3 0])] ?_
  obtain⟨r4,hr5,H⟩:=Je H
  refine xD ⟨[2,3],[0]⟩ (tabD 1 (Jgh ([]:List Bind) 0 0 0 e1.1 e1.2.1 e1.2.2.1 r4 hr5)) ?_
  replace H:=Option.some.inj H
  subst H
  exact xO ⟨[],[0]⟩
theorem Jf3:Jf Try.prog 8∧(∀ g,ZW g→Jx Try.prog 8 g)∧(true=true→∀ g,ZW g→∃ val bs ts,g.out=.ret val bs ts) :=
 ⟨Jvk,Jji,fun _=>by rintro _ ⟨_,_,_,_,rfl⟩; exact⟨_,_,_,rfl⟩⟩
noncomputable def Jb5(a0:Bind)(a1:Int):Option Int :=
 (XT a0.Tok a1).bind fun r1=>some r1
noncomputable def JeZ:PF:=PF.of (E2 Ji dI) (fun a=>Jb5 a.1 a.2) dI
theorem Jm2:Kt Try.prog 25 JeZ:=by
 refine xF mixed [(22,Jbf)] [] ⟨⟨JpY,JeJ⟩,trivial⟩ trivial Try.func25 ?_
 rintro ⟨a0,a1⟩ out H
 have G:=True.intro
 have Y:=xZ y_3 <| xZ y_40 <| xZ Try.results25 <| Ji.eq_1
 simp only[Jb5]at H
 refine xS ?_
 refine xr ?_
 obtain⟨r1,hr1,H⟩:=Je H
 have F:=xC Y (Je2 a0.Tok a1 r1 hr1)
 replace H:=Option.some.inj H
 refine xR ?_
 subst H
 exact xN
theorem Jh8(a0:Bind)(a1:Int)(r:Int)(H:Jb5 a0 a1=some r):PC JeZ [Ji a0,dI a1] (dI r):=PF.c (a:=(a0,a1)) H
noncomputable def J8(x2:Int):Bool→Option (Int×Bool)
 | x4=>some (x2,x4)
noncomputable def JD(a0:List Bind)(a1:Int):(Int×Int×Int)→Option ((Int×Int×Int) ⊕ (Int×Bool))
 | (x1,x2,x3)=>if(ltI x2 x3)=true then if(0:Int)≤1 then if(0:Int)≤(IntKind.i64.wrap (Int.fdiv (IntKind.u64.wrap (IntKind.i64.wrap (x2+x3))) (2 ^ (min 1 IntKind.u64.bits))))∧(IntKind.i64.wrap (Int.fdiv (IntKind.u64.wrap (IntKind.i64.wrap (x2+x3))) (2 ^ (min 1 IntKind.u64.bits)))).toNat<a0.length then(Jb5 (a0.getD ((IntKind.i64.wrap (Int.fdiv (IntKind.u64.wrap (IntKind.i64.wrap (x2+x3))) (2 ^ (min 1 IntKind.u64.bits)))).toNat) default) a1).bind fun r1=>if(ltI r1 0)=true then some (.inl (x1,IntKind.i64.wrap ((IntKind.i64.wrap (Int.fdiv (IntKind.u64.wrap (IntKind.i64.wrap (x2+x3))) (2 ^ (min 1 IntKind.u64.bits))))+1),x3)) else some (.inl (x1,x2,IntKind.i64.wrap (Int.fdiv (IntKind.u64.wrap (IntKind.i64.wrap (x2+x3))) (2 ^ (min 1 IntKind.u64.bits))))) else none else none else inrO (if(ltI x2 x1)=true then if(0:Int)≤x2∧x2.toNat<a0.length then(Jb5 (a0.getD x2.toNat default) a1).bind fun r2=>J8 x2 (eqI r2 0) else none else J8 x2 false)
noncomputable def JR(a0:List Bind)(a1:Int):Option (Int×Bool) :=
 Ju (JD a0 a1) ((a0.length:Int),0,(a0.length:Int))
noncomputable def JM(a0:List Bind)(a1:Int)(r:(Int×Bool)):GI :=
 ⟨[.c (.d (.sl 2 (List.map Ji a0))),.c (.d (.v (.int .i64 a1))),.c (.d (.v (.func (.func 25) #[] #[])))],[],[],.ret (.tu [(false,[.d (.v (.int .i64 r.1))]),(false,[.d (.v (.bool r.2))])]) [] []⟩
def JK:GI→Prop:=fun g=>∃ (a0:List Bind) (a1:Int) (r:(Int×Bool)),JR a0 a1=some r∧g=JM a0 a1 r
theorem JaA(a0:List Bind)(a1:Int)(r:(Int×Bool))(H:JR a0 a1=some r):JK (JM a0 a1 r):=⟨a0,a1,r,H,rfl⟩
theorem Jaq:∀ g,JK g→Jx Try.prog 24 g:=by
 rintro _ ⟨a0,a1,r,H,rfl⟩
 refine xGn mixed [(25,JeZ)] [] [] ⟨⟨Jud,Jm2⟩,trivial⟩ trivial trivial Try.func24 _ ?_
 have G:=True.intro
 have Y:=xZ y_3 <| xZ y_32 <| xZ y_40 <| xZ y_96 <| xZ Try.results24 <| xZ Ji.eq_1 <| JM.eq_1
 dsimp only[JM]
 simp only[JR]at H
 refine xS ?_
 refine xr ?_
 refine xr ?_
 refine xr ?_
 refine KH (JD a0 a1) (fun s=>[(0,.c (.d (.sl 2 (List.map Ji a0)))),(1,.c (.d (.v (.int .i64 a1)))),(2,.c (.d (.v (.func (.func 25) #[] #[])))),(8,.c (.d (.v (.int .i64 s.1)))),(9,.c (.d (.v (.int .i64 s.2.1)))),(10,.c (.d (.v (.int .i64 s.2.2))))]) (fun s=>[]) [] H (xK ⟨[],[]⟩) ?_
 rintro n1 ⟨x1,x2,x3⟩ o1 H hF1
 rw[JD]at H
 refine xS ?_
 refine xr ?_
 rcases Jc H with⟨hp1,H⟩|⟨hp1,H⟩
 ·obtain⟨F,G,hq1⟩:=xH Y G hp1
  refine xT ?_
  obtain⟨hg1,H⟩:=Jg H
  refine xr ?_
  obtain⟨hg2,H⟩:=Jg H
  have F:=xZ Y (Jv Ji a0 ((IntKind.i64.wrap (Int.fdiv (IntKind.u64.wrap (IntKind.i64.wrap (x2+x3))) (2 ^ (min 1 IntKind.u64.bits)))).toNat) default default (by omega))
  obtain⟨r1,hr1,H⟩:=Je H
  have F:=xCf F (Jh8 (a0.getD ((IntKind.i64.wrap (Int.fdiv (IntKind.u64.wrap (IntKind.i64.wrap (x2+x3))) (2 ^ (min 1 IntKind.u64.bits)))).toNat) default) a1 r1 hr1)
  refine xR ?_
  rcases Jc H with⟨hp2,H⟩|⟨hp2,H⟩
  ·obtain⟨F,G,hq2⟩:=xH Y G hp2
   refine xT ?_
   refine xr ?_
   exact JJ (J2 H hF1) (xK ⟨[],[]⟩)
  ·obtain⟨F,G,hq2⟩:=xH Y G hp2
   refine xE ?_
   refine xr ?_
   exact JJ (J2 H hF1) (xK ⟨[],[]⟩)
 ·obtain⟨F,G,hq1⟩:=xH Y G hp1
  replace H:=Jq H hF1
  refine xE0 ?_
  refine Jr0 ?_
  refine Jk7 ?_
  refine JjF ?_
  refine JjH ?_
  refine Jn ?_
  refine JB (J8 x2) (fun s=>[(6,.c (.d (.v (.int .i64 x2)))),(7,.c (.d (.v (.bool s))))]) (fun s=>[]) [] r ?_ ?_
  ·rcases Jc H with⟨hp3,H⟩|⟨hp3,H⟩
   ·obtain⟨F,G,hq3⟩:=xH Y G hp3
    obtain⟨hg3,H⟩:=Jg H
    have F:=xZ F (Jv Ji a0 x2.toNat default default (by omega))
    obtain⟨r2,hr2,H⟩:=Je H
    have F:=xCf F (Jh8 (a0.getD x2.toNat default) a1 r2 hr2)
    refine xR ?_
    exact Jd H (xK ⟨[],[]⟩)
   ·obtain⟨F,G,hq3⟩:=xH Y G hp3
    refine xR ?_
    exact Jd H (xK ⟨[],[]⟩)
  ·rintro x4 H
   rw[J8]at H
   replace H:=Option.some.inj H
   refine xS ?_
   subst H
   refine xrD [] ?_
   exact xO ⟨[],[]⟩
theorem Jaz:Jf Try.prog 24∧(∀ g,JK g→Jx Try.prog 24 g)∧(true=true→∀ g,JK g→∃ val bs ts,g.out=.ret val bs ts) :=
 ⟨JuT,Jaq,fun _=>by rintro _ ⟨_,_,_,_,rfl⟩; exact⟨_,_,_,rfl⟩⟩
noncomputable def JcD(a0:List Bind)(a1:Int):Option Int :=
 (JR a0 a1).bind fun r1=>if(!r1.2)=true then some (-1) else if(0:Int)≤r1.1∧r1.1.toNat<a0.length then some ((a0.getD r1.1.toNat default).Decl) else none
noncomputable def JeD:PF:=PF.of (E2 (dL 2 Ji) dI) (fun a=>JcD a.1 a.2) dI
theorem Ji5:Kt Try.prog 11 JeD:=by
 refine xF mixed [] [(24,true,JK)] trivial ⟨Jaz,trivial⟩ Try.func11 ?_
 rintro ⟨a0,a1⟩ out H
 have G:=True.intro
 have Y:=xZ y_3 <| xZ y_32 <| xZ y_40 <| xZ Try.results11 <| xZ Ji.eq_1 <| JM.eq_1
 simp only[JcD]at H
 refine xS ?_
 refine xr ?_
 obtain⟨r1,hr1,H⟩:=Je H
 have F:=Y
 refine xQ ?_
 refine xs 2 ?_
 refine xc ⟨[],[]⟩ (tabG 0 (JaA a0 a1 r1 hr1)) ?_
 refine xs 5 ?_
 refine xl ?_
 refine xS ?_
 refine xr ?_
 rcases Jc H with⟨hp1,H⟩|⟨hp1,H⟩
 ·obtain⟨F,G,hq1⟩:=xH Y G hp1
  refine xT ?_
  replace H:=Option.some.inj H
  refine xr ?_
  subst H
  exact xN
 ·obtain⟨F,G,hq1⟩:=xH Y G hp1
  refine xE ?_
  obtain⟨hg1,H⟩:=Jg H
  have F:=xZ Y (Jv Ji a0 r1.1.toNat default default (by omega))
  replace H:=Option.some.inj H
  refine xR ?_
  subst H
  exact xN
theorem JgP(a0:List Bind)(a1:Int)(r:Int)(H:JcD a0 a1=some r):PC JeD [(dL 2 Ji) a0,dI a1] (dI r):=PF.c (a:=(a0,a1)) H
end Go.Proofs.Ytaofbminodhcnaa
