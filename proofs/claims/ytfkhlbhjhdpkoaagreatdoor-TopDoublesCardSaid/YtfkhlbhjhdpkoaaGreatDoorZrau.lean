/- Functions of Go's library that hand on what they are given: Itoa,Clone. -/
import Derived.Test.YtfkhlbhjhdpkoaaGreatDoorZrai
import Derived.Test.YtfkhlbhjhdpkoaaGreatDoorZrap
set_option linter.unusedVariables false
set_option linter.unusedSimpArgs false
set_option maxHeartbeats 4000000
set_option maxRecDepth 100000
namespace Go.Proofs.YtfkhlbhjhdpkoaaGreatDoor
open Go.Shelf Go.RowKit
theorem GW.at{w:World}{S:Nat→Nat→Prop}(h:GW w S){b:Nat}{p:Array Value→Prop}(hb:(b,p)∈Jir):∃ cs ty,w.heap[b]? = some (.cells cs ty (0,0))∧p cs:=by
 obtain⟨cs,ty,h1,h2,_⟩:=h _ hb
 exact⟨cs,ty,h1,h2⟩
theorem JCE{w:World}{S:Nat→Nat→Prop}(h:GW w S):Lib.TabIs Tryz.prog w "internal/strconv.uint64pow10" .u64 Lib.pow10Tab:=by
 obtain⟨cs,ty,h1,h2⟩:=h.at (b:=0) (List.mem_cons_self ..)
 have hg:Tryz.prog.globalNamed "internal/strconv.uint64pow10" = some 0:=by kernel_rfl
 unfold Lib.TabIs World.var?
 rw[hg]
 subst h2
 simp only[Option.bind_some,h1]
 rfl
noncomputable def ZH(a0:Int):Option (List UInt8):=if -9223372036854775808≤a0∧a0≤9223372036854775807 then some (Lib.itoa a0) else none
noncomputable def Jbu:PF:=PF.of (E1 dI) (fun a=>ZH a) dS
theorem JhE:JF Tryz.prog 13 Jbu:=by
 intro w S args vs hG hargs hS hp
 obtain⟨n,r,hle,H⟩:=hp
 have hargs:=Je2 hle hargs
 rw[show Jbu.val args=dS r from PF.of_vall IEnc.inj hle H]
 have H:ZH n=some r:=H
 unfold ZH at H
 split at H
 ·rename_i hn
  cases H
  have hargs:Rn w S [dI n] vs:=hargs
  match vs,hargs with
  | [v0],.acons _ _ _ _ k0 _ =>
   obtain rfl:=R1.vInv k0
   refine(Any.strconv_Itoa JzK n hn.1 hn.2 w (JCE hG)).mono ?_
   rintro en w' ⟨rfl,k,os,rfl⟩
   refine⟨_,rfl,?_,.v _⟩
   exact⟨rfl,rfl,rfl,by rw[Go.Sort.size_grow]; exact Nat.le_add_right _ _,fun i hi=>Go.Sort.heap_grow_old _ _ hi⟩
 cases H
theorem Jib(a0:Int)(r:List UInt8)(H:ZH a0=some r):PC Jbu [dI a0] (dS r):=PF.c (a:=a0) H
theorem Jmj{P:Program}{f sz:Nat}{l:List D}{out:GOut}(h:∀ v:Value,((l=[]∧∃ o,v=.slice o 0 0)∨∃ a n cap,v=.slice (some a) n cap)→Jm P f ⟨[.c (.ex v (.sl sz l))],[],[],out⟩):
  Jm P f ⟨[.c (.d (.sl sz l))],[],[],out⟩:=by
 intro e vs hw hc ha
 match vs,ha with
 | [v],⟨h1,_⟩ =>
  refine h v ?_ e [v] hw hc ⟨⟨rfl,h1⟩,trivial⟩
  rcases R1.slInv h1 with⟨h2,o,h3⟩|⟨_,b,o,cap,h3,_⟩
  ·exact .inl ⟨h2,o,h3⟩
  exact .inr ⟨_,_,_,h3⟩
noncomputable def VE(a0:List (List UInt8)):Option Unit:=if a0.length * 16≤140737488355328 then some () else none
def Jby(a0:List (List UInt8))(r:Unit):GI :=
 ⟨[.c (.d (.sl 1 (List.map dS a0)))],[],[],.ret (.c (.sl 1 (List.map dS a0) 1)) [] [9]⟩
def Ve:GI→Prop:=Sg1 VE Jby
theorem JAi:Jm Tryz.prog 138 ⟨[.c (.ex (.slice none 0 0) (.sl 1 []))],[],[],.ret (.c (.sl 1 [] 1)) [] [9]⟩:=by
 refine xGn mixed [] [] [] trivial trivial trivial Tryz.func138 _ ?_
 have G:=True.intro
 have Y:=xZ y_41 <| xZ y_9 <| xZ Tryz.results138 <| dS.eq_1
 dsimp only
 refine xS ?_
 refine xr ?_
 refine xr ?_
 refine xt ?_
 refine xr ?_
 refine xOr ?_
 refine qDf [] ?_
 exact xO ⟨[],[0]⟩
theorem JqY(a0:List (List UInt8))(x:Addr)(n c:Nat)(H:a0.length * 16≤140737488355328):Jm Tryz.prog 138 ⟨[.c (.ex (.slice (some x) n c) (.sl 1 (List.map dS a0)))],[],[],.ret (.c (.sl 1 (List.map dS a0) 1)) [] [9]⟩:=by
 refine xGn mixed [] [] [] trivial trivial trivial Tryz.func138 _ ?_
 have G:=True.intro
 have Y:=xZ y_41 <| xZ y_9 <| xZ Tryz.results138 <| dS.eq_1
 have F:=xZ Y H
 have A:=JQ Jif a0
 dsimp only
 refine xS ?_
 refine xr ?_
 refine xr ?_
 refine xe ?_
 refine xR ?_
 refine xOr ?_
 refine qDf [] ?_
 exact xO ⟨[],[1]⟩
theorem Je5:∀ g,Ve g→Jm Tryz.prog 138 g:=by
 rintro _ ⟨a0,r,H,rfl⟩
 unfold VE at H
 split at H
 case isFalse=>cases H
 rename_i H0
 refine Jmj fun v hv=>?_
 rcases hv with⟨h0,o,rfl⟩|⟨a,n,c,rfl⟩
 ·cases o with
  | none =>
   obtain rfl:a0=[]:=by simpa using h0
   exact JAi
  | some a=>exact JqY a0 a 0 0 H0
 exact JqY a0 a n c H0
theorem XE:Jc Tryz.prog 138∧(∀ g,Ve g→Jm Tryz.prog 138 g)∧(true=true→∀ g,Ve g→∃ val bs ts,g.out=.ret val bs ts) :=
 ⟨JzE,Je5,fun _=>by rintro _ ⟨_,_,_,rfl⟩; exact⟨_,_,_,rfl⟩⟩
noncomputable def KZ(a0:List Call):Option Unit:=if a0.length * 32≤140737488355328 then some () else none
def Jac(a0:List Call)(r:Unit):GI :=
 ⟨[.c (.d (.sl 3 (List.map Jk a0)))],[],[],.ret (.c (.sl 3 (List.map Jk a0) 1)) [] [198]⟩
def KF:GI→Prop:=Sg1 KZ Jac
theorem JAF:Jm Tryz.prog 145 ⟨[.c (.ex (.slice none 0 0) (.sl 3 []))],[],[],.ret (.c (.sl 3 [] 1)) [] [198]⟩:=by
 refine xGn mixed [] [] [] trivial trivial trivial Tryz.func145 _ ?_
 have G:=True.intro
 have Y:=xZ y_42 <| xZ JmW <| xZ Tryz.results145 <| Jk.eq_1
 dsimp only
 refine xS ?_
 refine xr ?_
 refine xr ?_
 refine xt ?_
 refine xr ?_
 refine xOr ?_
 refine qDf [] ?_
 exact xO ⟨[],[0]⟩
theorem Jq8(a0:List Call)(x:Addr)(n c:Nat)(H:a0.length * 32≤140737488355328):Jm Tryz.prog 145 ⟨[.c (.ex (.slice (some x) n c) (.sl 3 (List.map Jk a0)))],[],[],.ret (.c (.sl 3 (List.map Jk a0) 1)) [] [198]⟩:=by
 refine xGn mixed [] [] [] trivial trivial trivial Tryz.func145 _ ?_
 have G:=True.intro
 have Y:=xZ y_42 <| xZ JmW <| xZ Tryz.results145 <| Jk.eq_1
 have F:=xZ Y H
 have A:=JQ Ji5 a0
 dsimp only
 refine xS ?_
 refine xr ?_
 refine xr ?_
 refine xe ?_
 refine xR ?_
 refine xOr ?_
 refine qDf [] ?_
 exact xO ⟨[],[1]⟩
theorem JdM:∀ g,KF g→Jm Tryz.prog 145 g:=by
 rintro _ ⟨a0,r,H,rfl⟩
 unfold KZ at H
 split at H
 case isFalse=>cases H
 rename_i H0
 refine Jmj fun v hv=>?_
 rcases hv with⟨h0,o,rfl⟩|⟨a,n,c,rfl⟩
 ·cases o with
  | none =>
   obtain rfl:a0=[]:=by simpa using h0
   exact JAF
  | some a=>exact Jq8 a0 a 0 0 H0
 exact Jq8 a0 a n c H0
theorem VH:Jc Tryz.prog 145∧(∀ g,KF g→Jm Tryz.prog 145 g)∧(true=true→∀ g,KF g→∃ val bs ts,g.out=.ret val bs ts) :=
 ⟨JAC,JdM,fun _=>by rintro _ ⟨_,_,_,rfl⟩; exact⟨_,_,_,rfl⟩⟩
noncomputable def JW(a0:List Macro):Option Unit:=if a0.length * 80≤140737488355328 then some () else none
def Vr(a0:List Macro)(r:Unit):GI :=
 ⟨[.c (.d (.sl 5 (List.map Je a0)))],[],[],.ret (.c (.os 1 5 0 a0.length)) [[.arr 5 (List.map Je a0)]] []⟩
def J7:GI→Prop:=Sg1 JW Vr
theorem JzF:Jm Tryz.prog 21 ⟨[.c (.ex (.slice none 0 0) (.sl 5 []))],[],[],.ret (.c (.os 1 5 0 0)) [[.arr 5 []]] []⟩:=by
 refine xGn mixed [] [] [] trivial trivial trivial Tryz.func21 _ ?_
 have G:=True.intro
 have Y:=xZ y_28 <| xZ y_63 <| xZ Tryz.results21 <| Je.eq_1
 dsimp only
 refine xS ?_
 refine xr ?_
 refine xr ?_
 refine xt ?_
 refine xr ?_
 refine xOr ?_
 refine qDf [] ?_
 exact xO ⟨[0],[]⟩
theorem Jpx(a0:List Macro)(x:Addr)(n c:Nat)(H:a0.length * 80≤140737488355328):Jm Tryz.prog 21 ⟨[.c (.ex (.slice (some x) n c) (.sl 5 (List.map Je a0)))],[],[],.ret (.c (.os 1 5 0 a0.length)) [[.arr 5 (List.map Je a0)]] []⟩:=by
 refine xGn mixed [] [] [] trivial trivial trivial Tryz.func21 _ ?_
 have G:=True.intro
 have Y:=xZ y_28 <| xZ y_63 <| xZ Tryz.results21 <| Je.eq_1
 have F:=xZ Y H
 have A:=JQ Jo7 a0
 dsimp only
 refine xS ?_
 refine xr ?_
 refine xr ?_
 refine xe ?_
 refine xR ?_
 refine xOr ?_
 refine qDf [] ?_
 exact xO ⟨[1],[]⟩
theorem Jdp:∀ g,J7 g→Jm Tryz.prog 21 g:=by
 rintro _ ⟨a0,r,H,rfl⟩
 unfold JW at H
 split at H
 case isFalse=>cases H
 rename_i H0
 refine Jmj fun v hv=>?_
 rcases hv with⟨h0,o,rfl⟩|⟨a,n,c,rfl⟩
 ·cases o with
  | none =>
   obtain rfl:a0=[]:=by simpa using h0
   exact JzF
  | some a=>exact Jpx a0 a 0 0 H0
 exact Jpx a0 a n c H0
theorem JO:Jc Tryz.prog 21∧(∀ g,J7 g→Jm Tryz.prog 21 g)∧(true=true→∀ g,J7 g→∃ val bs ts,g.out=.ret val bs ts) :=
 ⟨JBM,Jdp,fun _=>by rintro _ ⟨_,_,_,rfl⟩; exact⟨_,_,_,rfl⟩⟩
end Go.Proofs.YtfkhlbhjhdpkoaaGreatDoor
