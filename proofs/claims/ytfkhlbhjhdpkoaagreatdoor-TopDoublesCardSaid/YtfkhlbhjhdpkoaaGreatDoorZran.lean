/- Functions of data for functions of the program: Jcx (by hand: it appends to its result's last element). -/
import Derived.Test.YtfkhlbhjhdpkoaaGreatDoorZral
set_option linter.unusedVariables false
set_option linter.unusedSimpArgs false
set_option maxHeartbeats 4000000
set_option maxRecDepth 100000
namespace Go.Proofs.YtfkhlbhjhdpkoaaGreatDoor
open Go.RowKit
abbrev Jck:=Option (YQ×List Token)
def JeT:Jck→Nat
 | none=>0
 | some (x,_)=>x.length+1
def Ja7:Jck→List (List Token)
 | none=>[]
 | some (x,m)=>x++[m]
def JkN(a0:List Token)(x2 x3:Int):Jck→List (Nat×AV)
 | none=>[(3,.c (.os 1 1 0 0)),(6,.c (.d (.sl 11 (List.map Ja a0)))),(7,cI x2),(8,cI x3)]
 | some (x,_)=>[(3,.c (.os 1 1 0 (x.length+1))),(6,.c (.d (.sl 11 (List.map Ja a0)))),(7,cI x2),(8,cI x3)]
def Jlg:Jck→List (List C)
 | none=>[[.arr 1 []]]
 | some (x,m)=>[[.arr 1 (List.map (dL 11 Ja) x),.os 2 11 0 m.length],[.arr 11 (List.map Ja m)]]
noncomputable def KB(a0:List Token)(x2 x3:Int):Jck→Option ((Jck×Int×Int) ⊕ YQ)
 | none=>none
 | some (x,m)=>if x.length<4611686018427387904 then
   if(m.length + [a0.getD x3.toNat default].length) * 120≤140737488355328 then some (.inl (some (x,m++[a0.getD x3.toNat default]),x2,IntKind.i64.wrap (x3+1))) else none else none
noncomputable def Vu(a0:List Token)(x2 x3:Int):Jck→Bool→Option ((Jck×Int×Int) ⊕ YQ)
 | s,b=>if b=true then if(JeT s+1) * 24≤140737488355328 then KB a0 x2 x3 (some (Ja7 s,[])) else none else KB a0 x2 x3 s
noncomputable def Jcn(a0:List Token):(Jck×Int×Int)→Option ((Jck×Int×Int) ⊕ YQ)
 | (s,x2,x3)=>if(ltI x3 x2)=true then if(0:Int)≤x3∧x3.toNat<a0.length then
   if(a0.getD x3.toNat default).First=true then Vu a0 x2 x3 s true else Vu a0 x2 x3 s (eqI x3 0) else none else inrO (some (Ja7 s))
noncomputable def Jcx(a0:List Token):Option YQ :=
 Jt (Jcn a0) (none,(a0.length:Int),0)
noncomputable def Jhl:PF:=PF.of (E1 (dL 11 Ja)) (fun a=>Jcx a) (dL 1 (dL 11 Ja))
theorem Jun(n:Nat)(h:n<4611686018427387904):IntKind.i64.wrap (((n+1:Nat):Int)-1)=(n:Int):=by
 rw[show((n+1:Nat):Int)-1=n by omega]
 exact IntWalk.i64_in _ (by omega)
theorem sn1(x:List (List Token))(m:List Token):(List.map (dL 11 Ja) x++[D.sl 11 (List.map Ja m)]).length=x.length+1:=by simp
theorem sn3(x:List (List Token))(m:List Token):List.take (x.length+1) (List.map (dL 11 Ja) x++[D.sl 11 (List.map Ja m)])=List.map (dL 11 Ja) x++[D.sl 11 (List.map Ja m)]:=List.take_of_length_le (by simp)
theorem sn2(x:List (List Token))(m:List Token):(x++[m]).length=x.length+1:=by simp
theorem w0:IntKind.i64.wrap 0=0:=rfl
theorem JtQ{t:Tab}{σ:Nat→AV}{h:Hp}{Q:Kl}{b:Code}{n sz:Nat}{l:List D}{cs:List C}(hH:h.H n=some (.arr sz l::cs))(hD:cs.all C.isD=true)(h1D:(cs.map C.toD).all D.one=true)
  (hh:aC t b (fun i=>frzA n (.sl sz (l++cs.map C.toD)) (l.length+cs.length) (σ i)) (frzH n (.sl sz (l++cs.map C.toD)) (l.length+cs.length) h) Q):Then t b Q .normal σ h:=⟨_,_,Jgk hH hD h1D,⟨fun _=>hh⟩⟩
theorem Jty:JF Tryz.prog 34 Jhl:=by
 refine xF mixed [] [] trivial trivial Tryz.func34 ?_
 rintro a0 out H
 have G:=True.intro
 have Y:=xZ y_3 <| xZ y_4 <| xZ y_24 <| xZ y_44 <| xZ y_81 <| xZ Tryz.results34 <| xZ Jk.eq_1 <| xZ Ja.eq_1 <| xZ JkN.eq_1 <| xZ JkN.eq_2 <| xZ Jlg.eq_1 <| xZ Jlg.eq_2 <| xZ Ja7.eq_1 <| Ja7.eq_2
 simp only[Jcx]at H
 refine xS ?_
 refine xr ?_
 refine xr ?_
 refine xr ?_
 refine JZ (Jcn a0) (fun s=>JkN a0 s.2.1 s.2.2 s.1) (fun s=>Jlg s.1) [] H (by exact xK ⟨[0],[]⟩) ?_
 rintro n1 ⟨s,x2,x3⟩ o1 H hF1
 rw[Jcn]at H
 refine xS ?_
 cases s with
 | none =>
  simp only[JkN,Jlg]
  refine xr ?_
  rcases Ja1 H with⟨hp1,H⟩|⟨hp1,H⟩
  ·obtain⟨F,G,hq1⟩:=xH Y G hp1
   refine xT ?_
   obtain⟨g,H⟩:=Jd H
   have F:=xZ Y (Jh Ja a0 x3.toNat default default (by omega))
   refine xR ?_
   rcases Ja1 H with⟨hp2,H⟩|⟨hp2,H⟩
   ·obtain⟨F,G,hq2⟩:=xH Y G hp2
    refine xR ?_
    simp only[Vu,if_true]at H
    obtain⟨hg2,H⟩:=Jd H
    simp only[JeT,Nat.zero_add]at hg2
    refine xt ?_
    refine xr ?_
    simp only[Ja7,KB]at H
    obtain⟨hg3,H⟩:=Jd H
    obtain⟨g,H⟩:=Jd H
    have F:=xZ Y <| xZ w0 (JQ KO [a0.getD x3.toNat default])
    refine xR ?_
    refine xr ?_
    have Y:=xZ Y hp2
    exact JB (JG H hF1) (xK ⟨[3,4],[]⟩)
   obtain⟨F,G,hq2⟩:=xH Y G hp2
   refine xR ?_
   simp only[Vu]at H
   rcases Ja1 H with⟨hp3,H⟩|⟨hp3,H⟩
   ·obtain⟨F,G,hq3⟩:=xH Y G hp3
    refine xT ?_
    obtain⟨hg2,H⟩:=Jd H
    simp only[JeT,Nat.zero_add]at hg2
    refine xr ?_
    simp only[Ja7,KB]at H
    obtain⟨hg3,H⟩:=Jd H
    obtain⟨g,H⟩:=Jd H
    have F:=xZ Y <| xZ w0 (JQ KO [a0.getD x3.toNat default])
    refine xR ?_
    refine xr ?_
    have Y:=xZ Y hp2
    exact JB (JG H hF1) (xK ⟨[3,4],[]⟩)
   simp[KB]at H
  obtain⟨F,G,hq1⟩:=xH Y G hp1
  replace H:=Js H hF1
  refine xE0 ?_
  refine Jth ?_
  refine JkA ?_
  refine Jjh ?_
  refine Ji3 ?_
  refine JtQ (n:=1) (sz:=1) (l:=[]) (cs:=[]) rfl rfl rfl ?_
  refine xS ?_
  refine xr ?_
  cases H
  exact xN
 | some xm =>
  obtain⟨x,m⟩:=xm
  simp only[JkN,Jlg]
  refine xr ?_
  rcases Ja1 H with⟨hp1,H⟩|⟨hp1,H⟩
  ·obtain⟨F,G,hq1⟩:=xH Y G hp1
   refine xT ?_
   obtain⟨g,H⟩:=Jd H
   have F:=xZ Y (Jh Ja a0 x3.toNat default default (by omega))
   refine xR ?_
   rcases Ja1 H with⟨hp2,H⟩|⟨hp2,H⟩
   ·obtain⟨F,G,hq2⟩:=xH Y G hp2
    refine xR ?_
    simp only[Vu,if_true]at H
    obtain⟨hg2,H⟩:=Jd H
    simp only[JeT,Nat.zero_add]at hg2
    refine xt ?_
    refine xfz 2 11 (List.map Ja m) [] ?_
    refine xr ?_
    simp only[Ja7,KB]at H
    obtain⟨hg3,H⟩:=Jd H
    obtain⟨g,H⟩:=Jd H
    have F:=xZ Y <| xZ (Jun (x.length+1) (by simpa using hg3)) <| xZ (sn1 x m) <| xZ (sn3 x m) (JQ KO [a0.getD x3.toNat default])
    refine xR ?_
    refine xr ?_
    have Y:=xZ Y <| xZ (sn3 x m) (sn2 x m)
    exact JB (JG H hF1) (xK ⟨[4,5],[]⟩)
   obtain⟨F,G,hq2⟩:=xH Y G hp2
   refine xR ?_
   simp only[Vu]at H
   rcases Ja1 H with⟨hp3,H⟩|⟨hp3,H⟩
   ·obtain⟨F,G,hq3⟩:=xH Y G hp3
    refine xT ?_
    obtain⟨hg2,H⟩:=Jd H
    simp only[JeT,Nat.zero_add]at hg2
    refine xfz 2 11 (List.map Ja m) [] ?_
    refine xr ?_
    simp only[Ja7,KB]at H
    obtain⟨hg3,H⟩:=Jd H
    obtain⟨g,H⟩:=Jd H
    have F:=xZ Y <| xZ (Jun (x.length+1) (by simpa using hg3)) <| xZ (sn1 x m) <| xZ (sn3 x m) (JQ KO [a0.getD x3.toNat default])
    refine xR ?_
    refine xr ?_
    have Y:=xZ Y <| xZ (sn3 x m) (sn2 x m)
    exact JB (JG H hF1) (xK ⟨[4,5],[]⟩)
   obtain⟨F,G,hq3⟩:=xH Y G hp3
   refine xE ?_
   simp only[Ja7,KB]at H
   obtain⟨hg3,H⟩:=Jd H
   obtain⟨g,H⟩:=Jd H
   have F:=xZ Y <| xZ (Jun x.length hg3) (JQ KO [a0.getD x3.toNat default])
   refine xR ?_
   refine xr ?_
   have Y:=xZ Y hp2
   exact JB (JG H hF1) (xK ⟨[1,4],[]⟩)
  obtain⟨F,G,hq1⟩:=xH Y G hp1
  replace H:=Js H hF1
  refine xE0 ?_
  refine Jth ?_
  refine JkA ?_
  refine Jjh ?_
  refine Ji3 ?_
  refine JtQ (n:=2) (sz:=11) (l:=List.map Ja m) (cs:=[]) rfl rfl rfl ?_
  refine xS ?_
  refine xfz 1 1 (List.map (dL 11 Ja) x) [.d (.sl 11 (List.map Ja m))] ?_
  refine xr ?_
  cases H
  exact xN
theorem Ju1(a0:List Token)(r:List (List Token))(H:Jcx a0=some r):PC Jhl [dL 11 Ja a0] (dL 1 (dL 11 Ja) r):=PF.c (a:=a0) H
end Go.Proofs.YtfkhlbhjhdpkoaaGreatDoor
