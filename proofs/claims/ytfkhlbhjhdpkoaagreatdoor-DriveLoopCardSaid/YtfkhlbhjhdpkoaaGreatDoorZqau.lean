/- Functions of Go's library that hand on what they are given: Itoa,Clone. -/
import Derived.Test.YtfkhlbhjhdpkoaaGreatDoorZqai
import Derived.Test.YtfkhlbhjhdpkoaaGreatDoorZqap
set_option linter.unusedVariables false
set_option linter.unusedSimpArgs false
set_option maxHeartbeats 4000000
set_option maxRecDepth 100000
namespace Go.Proofs.YtfkhlbhjhdpkoaaGreatDoor
open Go.Shelf Go.RowKit
theorem GW.at{w:World}{S:Nat→Nat→Prop}(h:GW w S){b:Nat}{p:Array Value→Prop}(hb:(b,p)∈JjB):∃ cs ty,w.heap[b]? = some (.cells cs ty (0,0))∧p cs:=by
 obtain⟨cs,ty,h1,h2,_⟩:=h _ hb
 exact⟨cs,ty,h1,h2⟩
theorem JEj{w:World}{S:Nat→Nat→Prop}(h:GW w S):Lib.TabIs Tryz.prog w "internal/strconv.uint64pow10" .u64 Lib.pow10Tab:=by
 obtain⟨cs,ty,h1,h2⟩:=h.at (b:=0) (List.mem_cons_self ..)
 have hg:Tryz.prog.globalNamed "internal/strconv.uint64pow10" = some 0:=by kernel_rfl
 unfold Lib.TabIs World.var?
 rw[hg]
 subst h2
 simp only[Option.bind_some,h1]
 rfl
noncomputable def JbL(a0:Int):Option (List UInt8):=if -9223372036854775808≤a0∧a0≤9223372036854775807 then some (Lib.itoa a0) else none
noncomputable def Jd5:PF:=PF.of (E1 dI) (fun a=>JbL a) dS
theorem JoK:JB Tryz.prog 13 Jd5:=by
 intro w S args vs hG hargs hS hp
 obtain⟨n,r,hle,H⟩:=hp
 have hargs:=JfT hle hargs
 rw[show Jd5.val args=dS r from PF.of_vall IEnc.inj hle H]
 have H:JbL n=some r:=H
 unfold JbL at H
 split at H
 ·rename_i hn
  cases H
  have hargs:Rn w S [dI n] vs:=hargs
  match vs,hargs with
  | [v0],.acons _ _ _ _ k0 _ =>
   obtain rfl:=R1.vInv k0
   refine(Any.strconv_Itoa JA2 n hn.1 hn.2 w (JEj hG)).mono ?_
   rintro en w' ⟨rfl,k,os,rfl⟩
   refine⟨_,rfl,?_,.v _⟩
   exact⟨rfl,rfl,rfl,by rw[Go.Sort.size_grow]; exact Nat.le_add_right _ _,fun i hi=>Go.Sort.heap_grow_old _ _ hi⟩
 cases H
theorem Jqr(a0:Int)(r:List UInt8)(H:JbL a0=some r):PC Jd5 [dI a0] (dS r):=PF.c (a:=a0) H
theorem JnQ{P:Program}{f sz:Nat}{l:List D}{out:GOut}(h:∀ v:Value,((l=[]∧∃ o,v=.slice o 0 0)∨∃ a n cap,v=.slice (some a) n cap)→Jm P f ⟨[.c (.ex v (.sl sz l))],[],[],out⟩):
  Jm P f ⟨[.c (.d (.sl sz l))],[],[],out⟩:=by
 intro e vs hw hc ha
 match vs,ha with
 | [v],⟨h1,_⟩ =>
  refine h v ?_ e [v] hw hc ⟨⟨rfl,h1⟩,trivial⟩
  rcases R1.slInv h1 with⟨h2,o,h3⟩|⟨_,b,o,cap,h3,_⟩
  ·exact .inl ⟨h2,o,h3⟩
  exact .inr ⟨_,_,_,h3⟩
noncomputable def ZG(a0:List (List UInt8)):Option Unit:=if a0.length * 16≤140737488355328 then some () else none
def Jb8(a0:List (List UInt8))(r:Unit):GI :=
 ⟨[.c (.d (.sl 1 (List.map dS a0)))],[],[],.ret (.c (.sl 1 (List.map dS a0) 1)) [] [9]⟩
def Vm:GI→Prop:=Sg1 ZG Jb8
theorem JBU:Jm Tryz.prog 138 ⟨[.c (.ex (.slice none 0 0) (.sl 1 []))],[],[],.ret (.c (.sl 1 [] 1)) [] [9]⟩:=by
 refine xGn mixed [] [] [] trivial trivial trivial Tryz.func138 _ ?_
 have G:=True.intro
 have Y:=xZ y_41 <| xZ y_9 <| xZ Tryz.results138 <| dS.eq_1
 dsimp only
 refine xS ?_
 refine xr ?_
 refine xr ?_
 refine xt ?_
 refine xr ?_
 refine xOr ?_
 refine qDf [] ?_
 exact xO ⟨[],[0]⟩
theorem JsD(a0:List (List UInt8))(x:Addr)(n c:Nat)(H:a0.length * 16≤140737488355328):Jm Tryz.prog 138 ⟨[.c (.ex (.slice (some x) n c) (.sl 1 (List.map dS a0)))],[],[],.ret (.c (.sl 1 (List.map dS a0) 1)) [] [9]⟩:=by
 refine xGn mixed [] [] [] trivial trivial trivial Tryz.func138 _ ?_
 have G:=True.intro
 have Y:=xZ y_41 <| xZ y_9 <| xZ Tryz.results138 <| dS.eq_1
 have F:=xZ Y H
 have A:=JH Jjg a0
 dsimp only
 refine xS ?_
 refine xr ?_
 refine xr ?_
 refine xe ?_
 refine xR ?_
 refine xOr ?_
 refine qDf [] ?_
 exact xO ⟨[],[1]⟩
theorem JfX:∀ g,Vm g→Jm Tryz.prog 138 g:=by
 rintro _ ⟨a0,r,H,rfl⟩
 unfold ZG at H
 split at H
 case isFalse=>cases H
 rename_i H0
 refine JnQ fun v hv=>?_
 rcases hv with⟨h0,o,rfl⟩|⟨a,n,c,rfl⟩
 ·cases o with
  | none =>
   obtain rfl:a0=[]:=by simpa using h0
   exact JBU
  | some a=>exact JsD a0 a 0 0 H0
 exact JsD a0 a n c H0
theorem XX:Jd Tryz.prog 138∧(∀ g,Vm g→Jm Tryz.prog 138 g)∧(true=true→∀ g,Vm g→∃ val bs ts,g.out=.ret val bs ts) :=
 ⟨JBK,JfX,fun _=>by rintro _ ⟨_,_,_,rfl⟩; exact⟨_,_,_,rfl⟩⟩
noncomputable def Xk(a0:List Call):Option Unit:=if a0.length * 32≤140737488355328 then some () else none
def JaK(a0:List Call)(r:Unit):GI :=
 ⟨[.c (.d (.sl 3 (List.map Jl a0)))],[],[],.ret (.c (.sl 3 (List.map Jl a0) 1)) [] [198]⟩
def KP:GI→Prop:=Sg1 Xk JaK
theorem JBk:Jm Tryz.prog 145 ⟨[.c (.ex (.slice none 0 0) (.sl 3 []))],[],[],.ret (.c (.sl 3 [] 1)) [] [198]⟩:=by
 refine xGn mixed [] [] [] trivial trivial trivial Tryz.func145 _ ?_
 have G:=True.intro
 have Y:=xZ y_42 <| xZ Jug <| xZ Tryz.results145 <| Jl.eq_1
 dsimp only
 refine xS ?_
 refine xr ?_
 refine xr ?_
 refine xt ?_
 refine xr ?_
 refine xOr ?_
 refine qDf [] ?_
 exact xO ⟨[],[0]⟩
theorem JqE(a0:List Call)(x:Addr)(n c:Nat)(H:a0.length * 32≤140737488355328):Jm Tryz.prog 145 ⟨[.c (.ex (.slice (some x) n c) (.sl 3 (List.map Jl a0)))],[],[],.ret (.c (.sl 3 (List.map Jl a0) 1)) [] [198]⟩:=by
 refine xGn mixed [] [] [] trivial trivial trivial Tryz.func145 _ ?_
 have G:=True.intro
 have Y:=xZ y_42 <| xZ Jug <| xZ Tryz.results145 <| Jl.eq_1
 have F:=xZ Y H
 have A:=JH Jj4 a0
 dsimp only
 refine xS ?_
 refine xr ?_
 refine xr ?_
 refine xe ?_
 refine xR ?_
 refine xOr ?_
 refine qDf [] ?_
 exact xO ⟨[],[1]⟩
theorem JeJ:∀ g,KP g→Jm Tryz.prog 145 g:=by
 rintro _ ⟨a0,r,H,rfl⟩
 unfold Xk at H
 split at H
 case isFalse=>cases H
 rename_i H0
 refine JnQ fun v hv=>?_
 rcases hv with⟨h0,o,rfl⟩|⟨a,n,c,rfl⟩
 ·cases o with
  | none =>
   obtain rfl:a0=[]:=by simpa using h0
   exact JBk
  | some a=>exact JqE a0 a 0 0 H0
 exact JqE a0 a n c H0
theorem VY:Jd Tryz.prog 145∧(∀ g,KP g→Jm Tryz.prog 145 g)∧(true=true→∀ g,KP g→∃ val bs ts,g.out=.ret val bs ts) :=
 ⟨JA5,JeJ,fun _=>by rintro _ ⟨_,_,_,rfl⟩; exact⟨_,_,_,rfl⟩⟩
noncomputable def J6(a0:List Macro):Option Unit:=if a0.length * 80≤140737488355328 then some () else none
def Vz(a0:List Macro)(r:Unit):GI :=
 ⟨[.c (.d (.sl 5 (List.map Jf a0)))],[],[],.ret (.c (.os 1 5 0 a0.length)) [[.arr 5 (List.map Jf a0)]] []⟩
def JZ:GI→Prop:=Sg1 J6 Vz
theorem JB9:Jm Tryz.prog 21 ⟨[.c (.ex (.slice none 0 0) (.sl 5 []))],[],[],.ret (.c (.os 1 5 0 0)) [[.arr 5 []]] []⟩:=by
 refine xGn mixed [] [] [] trivial trivial trivial Tryz.func21 _ ?_
 have G:=True.intro
 have Y:=xZ y_28 <| xZ y_63 <| xZ Tryz.results21 <| Jf.eq_1
 dsimp only
 refine xS ?_
 refine xr ?_
 refine xr ?_
 refine xt ?_
 refine xr ?_
 refine xOr ?_
 refine qDf [] ?_
 exact xO ⟨[0],[]⟩
theorem Jsw(a0:List Macro)(x:Addr)(n c:Nat)(H:a0.length * 80≤140737488355328):Jm Tryz.prog 21 ⟨[.c (.ex (.slice (some x) n c) (.sl 5 (List.map Jf a0)))],[],[],.ret (.c (.os 1 5 0 a0.length)) [[.arr 5 (List.map Jf a0)]] []⟩:=by
 refine xGn mixed [] [] [] trivial trivial trivial Tryz.func21 _ ?_
 have G:=True.intro
 have Y:=xZ y_28 <| xZ y_63 <| xZ Tryz.results21 <| Jf.eq_1
 have F:=xZ Y H
 have A:=JH Jts a0
 dsimp only
 refine xS ?_
 refine xr ?_
 refine xr ?_
 refine xe ?_
 refine xR ?_
 refine xOr ?_
 refine qDf [] ?_
 exact xO ⟨[1],[]⟩
theorem Jeg:∀ g,JZ g→Jm Tryz.prog 21 g:=by
 rintro _ ⟨a0,r,H,rfl⟩
 unfold J6 at H
 split at H
 case isFalse=>cases H
 rename_i H0
 refine JnQ fun v hv=>?_
 rcases hv with⟨h0,o,rfl⟩|⟨a,n,c,rfl⟩
 ·cases o with
  | none =>
   obtain rfl:a0=[]:=by simpa using h0
   exact JB9
  | some a=>exact Jsw a0 a 0 0 H0
 exact Jsw a0 a n c H0
theorem JL:Jd Tryz.prog 21∧(∀ g,JZ g→Jm Tryz.prog 21 g)∧(true=true→∀ g,JZ g→∃ val bs ts,g.out=.ret val bs ts) :=
 ⟨JC9,Jeg,fun _=>by rintro _ ⟨_,_,_,rfl⟩; exact⟨_,_,_,rfl⟩⟩
end Go.Proofs.YtfkhlbhjhdpkoaaGreatDoor
