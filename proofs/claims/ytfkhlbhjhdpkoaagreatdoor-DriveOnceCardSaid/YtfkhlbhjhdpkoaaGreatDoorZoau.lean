/- Functions of Go's library that hand on what they are given: Itoa,Clone. -/
import Derived.Test.YtfkhlbhjhdpkoaaGreatDoorZoai
import Derived.Test.YtfkhlbhjhdpkoaaGreatDoorZoap
set_option linter.unusedVariables false
set_option linter.unusedSimpArgs false
set_option maxHeartbeats 4000000
set_option maxRecDepth 100000
namespace Go.Proofs.YtfkhlbhjhdpkoaaGreatDoor
open Go.Shelf Go.RowKit
theorem GW.at{w:World}{S:Nat→Nat→Prop}(h:GW w S){b:Nat}{p:Array Value→Prop}(hb:(b,p)∈Jjz):∃ cs ty,w.heap[b]? = some (.cells cs ty (0,0))∧p cs:=by
 obtain⟨cs,ty,h1,h2,_⟩:=h _ hb
 exact⟨cs,ty,h1,h2⟩
theorem JFn{w:World}{S:Nat→Nat→Prop}(h:GW w S):Lib.TabIs Tryz.prog w "internal/strconv.uint64pow10" .u64 Lib.pow10Tab:=by
 obtain⟨cs,ty,h1,h2⟩:=h.at (b:=0) (List.mem_cons_self ..)
 have hg:Tryz.prog.globalNamed "internal/strconv.uint64pow10" = some 0:=by kernel_rfl
 unfold Lib.TabIs World.var?
 rw[hg]
 subst h2
 simp only[Option.bind_some,h1]
 rfl
noncomputable def Jc7(a0:Int):Option (List UInt8):=if -9223372036854775808≤a0∧a0≤9223372036854775807 then some (Lib.itoa a0) else none
noncomputable def Jep:PF:=PF.of (E1 dI) (fun a=>Jc7 a) dS
theorem Jqr:JC Tryz.prog 13 Jep:=by
 intro w S args vs hG hargs hS hp
 obtain⟨n,r,hle,H⟩:=hp
 have hargs:=Jf8 hle hargs
 rw[show Jep.val args=dS r from PF.of_vall IEnc.inj hle H]
 have H:Jc7 n=some r:=H
 unfold Jc7 at H
 split at H
 ·rename_i hn
  cases H
  have hargs:Rn w S [dI n] vs:=hargs
  match vs,hargs with
  | [v0],.acons _ _ _ _ k0 _ =>
   obtain rfl:=R1.vInv k0
   refine(Any.strconv_Itoa JCS n hn.1 hn.2 w (JFn hG)).mono ?_
   rintro en w' ⟨rfl,k,os,rfl⟩
   refine⟨_,rfl,?_,.v _⟩
   exact⟨rfl,rfl,rfl,by rw[Go.Sort.size_grow]; exact Nat.le_add_right _ _,fun i hi=>Go.Sort.heap_grow_old _ _ hi⟩
 cases H
theorem JqY(a0:Int)(r:List UInt8)(H:Jc7 a0=some r):PC Jep [dI a0] (dS r):=PF.c (a:=a0) H
theorem Jon{P:Program}{f sz:Nat}{l:List D}{out:GOut}(h:∀ v:Value,((l=[]∧∃ o,v=.slice o 0 0)∨∃ a n cap,v=.slice (some a) n cap)→Jn P f ⟨[.c (.ex v (.sl sz l))],[],[],out⟩):
  Jn P f ⟨[.c (.d (.sl sz l))],[],[],out⟩:=by
 intro e vs hw hc ha
 match vs,ha with
 | [v],⟨h1,_⟩ =>
  refine h v ?_ e [v] hw hc ⟨⟨rfl,h1⟩,trivial⟩
  rcases R1.slInv h1 with⟨h2,o,h3⟩|⟨_,b,o,cap,h3,_⟩
  ·exact .inl ⟨h2,o,h3⟩
  exact .inr ⟨_,_,_,h3⟩
noncomputable def ZL(a0:List (List UInt8)):Option Unit:=if a0.length * 16≤140737488355328 then some () else none
def Jcl(a0:List (List UInt8))(r:Unit):GI :=
 ⟨[.c (.d (.sl 1 (List.map dS a0)))],[],[],.ret (.c (.sl 1 (List.map dS a0) 1)) [] [9]⟩
def Vt:GI→Prop:=Sg1 ZL Jcl
theorem JBP:Jn Tryz.prog 138 ⟨[.c (.ex (.slice none 0 0) (.sl 1 []))],[],[],.ret (.c (.sl 1 [] 1)) [] [9]⟩:=by
 refine xGn mixed [] [] [] trivial trivial trivial Tryz.func138 _ ?_
 have G:=True.intro
 have Y:=xZ y_41 <| xZ y_9 <| xZ Tryz.results138 <| dS.eq_1
 dsimp only
 refine xS ?_
 refine xr ?_
 refine xr ?_
 refine xt ?_
 refine xr ?_
 refine xOr ?_
 refine qDf [] ?_
 exact xO ⟨[],[0]⟩
theorem Jr8(a0:List (List UInt8))(x:Addr)(n c:Nat)(H:a0.length * 16≤140737488355328):Jn Tryz.prog 138 ⟨[.c (.ex (.slice (some x) n c) (.sl 1 (List.map dS a0)))],[],[],.ret (.c (.sl 1 (List.map dS a0) 1)) [] [9]⟩:=by
 refine xGn mixed [] [] [] trivial trivial trivial Tryz.func138 _ ?_
 have G:=True.intro
 have Y:=xZ y_41 <| xZ y_9 <| xZ Tryz.results138 <| dS.eq_1
 have F:=xZ Y H
 have A:=JO JjG a0
 dsimp only
 refine xS ?_
 refine xr ?_
 refine xr ?_
 refine xe ?_
 refine xR ?_
 refine xOr ?_
 refine qDf [] ?_
 exact xO ⟨[],[1]⟩
theorem Jgb:∀ g,Vt g→Jn Tryz.prog 138 g:=by
 rintro _ ⟨a0,r,H,rfl⟩
 unfold ZL at H
 split at H
 case isFalse=>cases H
 rename_i H0
 refine Jon fun v hv=>?_
 rcases hv with⟨h0,o,rfl⟩|⟨a,n,c,rfl⟩
 ·cases o with
  | none =>
   obtain rfl:a0=[]:=by simpa using h0
   exact JBP
  | some a=>exact Jr8 a0 a 0 0 H0
 exact Jr8 a0 a n c H0
theorem Zc:Jd Tryz.prog 138∧(∀ g,Vt g→Jn Tryz.prog 138 g)∧(true=true→∀ g,Vt g→∃ val bs ts,g.out=.ret val bs ts) :=
 ⟨JBG,Jgb,fun _=>by rintro _ ⟨_,_,_,rfl⟩; exact⟨_,_,_,rfl⟩⟩
noncomputable def Xn(a0:List Call):Option Unit:=if a0.length * 32≤140737488355328 then some () else none
def JaT(a0:List Call)(r:Unit):GI :=
 ⟨[.c (.d (.sl 3 (List.map Jm a0)))],[],[],.ret (.c (.sl 3 (List.map Jm a0) 1)) [] [198]⟩
def KX:GI→Prop:=Sg1 Xn JaT
theorem JCH:Jn Tryz.prog 145 ⟨[.c (.ex (.slice none 0 0) (.sl 3 []))],[],[],.ret (.c (.sl 3 [] 1)) [] [198]⟩:=by
 refine xGn mixed [] [] [] trivial trivial trivial Tryz.func145 _ ?_
 have G:=True.intro
 have Y:=xZ y_42 <| xZ JuS <| xZ Tryz.results145 <| Jm.eq_1
 dsimp only
 refine xS ?_
 refine xr ?_
 refine xr ?_
 refine xt ?_
 refine xr ?_
 refine xOr ?_
 refine qDf [] ?_
 exact xO ⟨[],[0]⟩
theorem Jsp(a0:List Call)(x:Addr)(n c:Nat)(H:a0.length * 32≤140737488355328):Jn Tryz.prog 145 ⟨[.c (.ex (.slice (some x) n c) (.sl 3 (List.map Jm a0)))],[],[],.ret (.c (.sl 3 (List.map Jm a0) 1)) [] [198]⟩:=by
 refine xGn mixed [] [] [] trivial trivial trivial Tryz.func145 _ ?_
 have G:=True.intro
 have Y:=xZ y_42 <| xZ JuS <| xZ Tryz.results145 <| Jm.eq_1
 have F:=xZ Y H
 have A:=JO JkA a0
 dsimp only
 refine xS ?_
 refine xr ?_
 refine xr ?_
 refine xe ?_
 refine xR ?_
 refine xOr ?_
 refine qDf [] ?_
 exact xO ⟨[],[1]⟩
theorem JeP:∀ g,KX g→Jn Tryz.prog 145 g:=by
 rintro _ ⟨a0,r,H,rfl⟩
 unfold Xn at H
 split at H
 case isFalse=>cases H
 rename_i H0
 refine Jon fun v hv=>?_
 rcases hv with⟨h0,o,rfl⟩|⟨a,n,c,rfl⟩
 ·cases o with
  | none =>
   obtain rfl:a0=[]:=by simpa using h0
   exact JCH
  | some a=>exact Jsp a0 a 0 0 H0
 exact Jsp a0 a n c H0
theorem V5:Jd Tryz.prog 145∧(∀ g,KX g→Jn Tryz.prog 145 g)∧(true=true→∀ g,KX g→∃ val bs ts,g.out=.ret val bs ts) :=
 ⟨JB1,JeP,fun _=>by rintro _ ⟨_,_,_,rfl⟩; exact⟨_,_,_,rfl⟩⟩
noncomputable def JZ(a0:List Macro):Option Unit:=if a0.length * 80≤140737488355328 then some () else none
def VF(a0:List Macro)(r:Unit):GI :=
 ⟨[.c (.d (.sl 5 (List.map Jf a0)))],[],[],.ret (.c (.os 1 5 0 a0.length)) [[.arr 5 (List.map Jf a0)]] []⟩
def J8:GI→Prop:=Sg1 JZ VF
theorem JCd:Jn Tryz.prog 21 ⟨[.c (.ex (.slice none 0 0) (.sl 5 []))],[],[],.ret (.c (.os 1 5 0 0)) [[.arr 5 []]] []⟩:=by
 refine xGn mixed [] [] [] trivial trivial trivial Tryz.func21 _ ?_
 have G:=True.intro
 have Y:=xZ y_28 <| xZ y_63 <| xZ Tryz.results21 <| Jf.eq_1
 dsimp only
 refine xS ?_
 refine xr ?_
 refine xr ?_
 refine xt ?_
 refine xr ?_
 refine xOr ?_
 refine qDf [] ?_
 exact xO ⟨[0],[]⟩
theorem JsC(a0:List Macro)(x:Addr)(n c:Nat)(H:a0.length * 80≤140737488355328):Jn Tryz.prog 21 ⟨[.c (.ex (.slice (some x) n c) (.sl 5 (List.map Jf a0)))],[],[],.ret (.c (.os 1 5 0 a0.length)) [[.arr 5 (List.map Jf a0)]] []⟩:=by
 refine xGn mixed [] [] [] trivial trivial trivial Tryz.func21 _ ?_
 have G:=True.intro
 have Y:=xZ y_28 <| xZ y_63 <| xZ Tryz.results21 <| Jf.eq_1
 have F:=xZ Y H
 have A:=JO Jtb a0
 dsimp only
 refine xS ?_
 refine xr ?_
 refine xr ?_
 refine xe ?_
 refine xR ?_
 refine xOr ?_
 refine qDf [] ?_
 exact xO ⟨[1],[]⟩
theorem Jer:∀ g,J8 g→Jn Tryz.prog 21 g:=by
 rintro _ ⟨a0,r,H,rfl⟩
 unfold JZ at H
 split at H
 case isFalse=>cases H
 rename_i H0
 refine Jon fun v hv=>?_
 rcases hv with⟨h0,o,rfl⟩|⟨a,n,c,rfl⟩
 ·cases o with
  | none =>
   obtain rfl:a0=[]:=by simpa using h0
   exact JCd
  | some a=>exact JsC a0 a 0 0 H0
 exact JsC a0 a n c H0
theorem JU:Jd Tryz.prog 21∧(∀ g,J8 g→Jn Tryz.prog 21 g)∧(true=true→∀ g,J8 g→∃ val bs ts,g.out=.ret val bs ts) :=
 ⟨JEy,Jer,fun _=>by rintro _ ⟨_,_,_,rfl⟩; exact⟨_,_,_,rfl⟩⟩
end Go.Proofs.YtfkhlbhjhdpkoaaGreatDoor
