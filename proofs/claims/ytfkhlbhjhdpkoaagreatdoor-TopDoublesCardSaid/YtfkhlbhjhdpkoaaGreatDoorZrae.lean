/- The walk's steps in short: what is done at each one stands here,once (it is run where the step is used). -/
import Derived.Test.YtfkhlbhjhdpkoaaGreatDoorZrad
import Derived.RangeFuncIn
import Derived.RangeFuncCalls
import Derived.RangeFuncLeaves
import Derived.RangeFuncRecord
import Derived.Sort.LoopGhostIn
import Derived.OrdersIn
import Derived.TacticsIn
import Derived.Lib.IndexLaws
set_option linter.unusedVariables false
set_option linter.unusedSimpArgs false
namespace Go.Proofs.YtfkhlbhjhdpkoaaGreatDoor
open Go.RowKit
variable {t:Tab} {σ:Nat→AV} {h:Hp} {Q:Kl}
theorem Jxq{b:Code}{ch:List PanicEntry}(hh:Q (.panic ch) σ h):Then t b Q (.panic ch) σ h:=hh
theorem Jvq{id:Nat}{ch:List PanicEntry}(hh:Q (.panic ch) σ h):Jc8 id Q (.panic ch) σ h:=hh
theorem Jvk{rt n:Nat}{I:Nat→(Nat→AV)→Hp→Prop}{ch:List PanicEntry}(hh:Q (.panic ch) σ h):JnJ rt n I Q (.panic ch) σ h:=hh
theorem JyS{rt:Nat}{R:(Nat→AV)→Hp→Prop}{ch:List PanicEntry}(hh:Q (.panic ch) σ h):Cut rt R Q (.panic ch) σ h:=hh
theorem xS{p q:Prop}(x:p)(f:p→q:=by intro x; (repeat (with_reducible (first | refine Vl ?_ | refine Jl ?_ | refine JaS ?_ | refine JkG ?_ | refine Jbd ?_ | refine Jth ?_ | refine JkA ?_ | refine Ji3 ?_ | refine JCY ?_ | refine Jz8 ?_ | refine Jyh ?_ | refine JxZ ?_ | refine Jjh ?_ | refine JBX ?_ | refine JzB ?_ | refine Ju8 rfl ?_ | refine Jxq ?_ | refine Jvq ?_ | refine Jvk ?_ | refine JyS ?_ | refine JBL ?_ | refine JCr ?_ | refine JB2 ?_ | refine JzY ?_))); exact x):q:=f x
theorem xR{p:Prop}{id:Nat}{ops:Array Oper}{draw:Bool}{σ2:Nat→AV}{h2:Hp}(x:p)
  (hl:(draw && t.lk.contains id)=false:=by rfl) (hg:(ops.toList.all (V1 ops))=true:=by rfl)
  (hr:∀ K:(Nat→AV)→Hp→Prop,K σ2 h2→aRO t K (ops.toList.map (roOf ops)) σ h:=by
   intro K hK
   simp -implicitDefEqProofs only[goR,↓Jo,goS,↓reduceIte,reduceCtorEq,seval,F]
   repeat' (first | exact hK | (with_reducible apply And.intro) | exact trivial | assumption | omega))
  (f:p→Q .normal σ2 h2:=by intro x; refine xS ?_; exact x):aC t (.region id ops draw) σ h Q :=
 JiC hl hg fun K hK=>hr K (hK _ _ (f x))
theorem xT{p:Prop}{c:Operand}{a b:Code}(x:p)(hc:evA σ c=.c (.d (.v (.bool true))):=by simp -implicitDefEqProofs only[goR,↓Jo,goS,↓reduceIte,reduceCtorEq,seval,F])
  (f:p→aC t a σ h Q:=by intro x; refine xS ?_; exact x):aC t (.cond c a b) σ h Q:=Joq hc (f x)
theorem xE{p:Prop}{c:Operand}{a b:Code}(x:p)(hc:evA σ c=.c (.d (.v (.bool false))):=by simp -implicitDefEqProofs only[goR,↓Jo,goS,↓reduceIte,reduceCtorEq,seval,F])
  (f:p→aC t b σ h Q:=by intro x; refine xS ?_; exact x):aC t (.cond c a b) σ h Q:=JoB hc (f x)
theorem xr{p:Prop}{id:Nat}{ops:Array Oper}{draw:Bool}{σ2:Nat→AV}{h2:Hp}(x:p)
  (hl:(draw && t.lk.contains id)=false:=by rfl) (hg:(ops.toList.all (V1 ops))=true:=by rfl)
  (hr:∀ K:(Nat→AV)→Hp→Prop,K σ2 h2→aRO t K (ops.toList.map (roOf ops)) σ h:=by
   intro K hK
   simp -implicitDefEqProofs only[goR,↓Jo,goS,↓reduceIte,reduceCtorEq,seval,Y]
   repeat' (first | exact hK | (with_reducible apply And.intro) | exact trivial | assumption | omega))
  (f:p→Q .normal σ2 h2:=by intro x; refine xS ?_; exact x):aC t (.region id ops draw) σ h Q :=
 JiC hl hg fun K hK=>hr K (hK _ _ (f x))
theorem xt{p:Prop}{c:Operand}{a b:Code}(x:p)(hc:evA σ c=.c (.d (.v (.bool true))):=by simp -implicitDefEqProofs only[goR,↓Jo,goS,↓reduceIte,reduceCtorEq,seval,Y])
  (f:p→aC t a σ h Q:=by intro x; refine xS ?_; exact x):aC t (.cond c a b) σ h Q:=Joq hc (f x)
theorem xe{p:Prop}{c:Operand}{a b:Code}(x:p)(hc:evA σ c=.c (.d (.v (.bool false))):=by simp -implicitDefEqProofs only[goR,↓Jo,goS,↓reduceIte,reduceCtorEq,seval,Y])
  (f:p→aC t b σ h Q:=by intro x; refine xS ?_; exact x):aC t (.cond c a b) σ h Q:=JoB hc (f x)
theorem xR0{id:Nat}{ops:Array Oper}{draw:Bool}{σ2:Nat→AV}{h2:Hp}(x:Q .normal σ2 h2)
  (hl:(draw && t.lk.contains id)=false:=by rfl) (hg:(ops.toList.all (V1 ops))=true:=by rfl)
  (hr:∀ K:(Nat→AV)→Hp→Prop,K σ2 h2→aRO t K (ops.toList.map (roOf ops)) σ h:=by
   intro K hK
   simp -implicitDefEqProofs only[goR,↓Jo,goS,↓reduceIte,reduceCtorEq,seval,F]
   repeat' (first | exact hK | (with_reducible apply And.intro) | exact trivial | assumption | omega)):aC t (.region id ops draw) σ h Q :=
 JiC hl hg fun K hK=>hr K (hK _ _ x)
theorem xr0{id:Nat}{ops:Array Oper}{draw:Bool}{σ2:Nat→AV}{h2:Hp}(x:Q .normal σ2 h2)
  (hl:(draw && t.lk.contains id)=false:=by rfl) (hg:(ops.toList.all (V1 ops))=true:=by rfl)
  (hr:∀ K:(Nat→AV)→Hp→Prop,K σ2 h2→aRO t K (ops.toList.map (roOf ops)) σ h:=by
   intro K hK
   simp -implicitDefEqProofs only[goR,↓Jo,goS,↓reduceIte,reduceCtorEq,seval,Y]
   repeat' (first | exact hK | (with_reducible apply And.intro) | exact trivial | assumption | omega)):aC t (.region id ops draw) σ h Q :=
 JiC hl hg fun K hK=>hr K (hK _ _ x)
theorem xT0{c:Operand}{a b:Code}(x:aC t a σ h Q)(hc:evA σ c=.c (.d (.v (.bool true))):=by simp -implicitDefEqProofs only[goR,↓Jo,goS,↓reduceIte,reduceCtorEq,seval,F]):aC t (.cond c a b) σ h Q:=Joq hc x
theorem xE0{c:Operand}{a b:Code}(x:aC t b σ h Q)(hc:evA σ c=.c (.d (.v (.bool false))):=by simp -implicitDefEqProofs only[goR,↓Jo,goS,↓reduceIte,reduceCtorEq,seval,F]):aC t (.cond c a b) σ h Q:=JoB hc x
theorem xK{rt:Nat}{L:List (Nat×AV)}{bs:List (List C)}{ts:List TypeId}(r:Ren)(hb:bs.length=r.ps.length:=by rfl)(ht:ts.length=r.qs.length:=by rfl)
  (hp:once r.ps=true:=by rfl) (hq:once r.qs=true:=by rfl)
  (h1:BWk r h 1 bs:=by first | (simp -implicitDefEqProofs only[goW,goR,↓Jo,goS,↓reduceIte,reduceCtorEq,seval,Y]; done) | simp -implicitDefEqProofs only[goW,goR,↓Jo,goS,↓reduceIte,reduceCtorEq,seval,Y,G])
  (h2:TWk r h (r.ps.length+1) ts:=by first | (simp -implicitDefEqProofs only[goW,goR,↓Jo,goS,↓reduceIte,reduceCtorEq,seval,Y]; done) | simp -implicitDefEqProofs only[goW,goR,↓Jo,goS,↓reduceIte,reduceCtorEq,seval,Y,G])
  (h3:LWk r σ L:=by first | (simp -implicitDefEqProofs only[goW,goR,↓Jo,goS,↓reduceIte,reduceCtorEq,seval,Y]; done) | simp -implicitDefEqProofs only[goW,goR,↓Jo,goS,↓reduceIte,reduceCtorEq,seval,Y,G])
  (hds:DlWk r (dfL (σ DS)) (dfL (sigL L DS)):=by first | (simp -implicitDefEqProofs only[goW,goR,↓Jo,goS,↓reduceIte,reduceCtorEq,seval,Y]; done) | simp -implicitDefEqProofs only[goW,goR,↓Jo,goS,↓reduceIte,reduceCtorEq,seval,Y,G])
  (hrt:(r.ps.take rt == List.range' 1 rt)=true:=by rfl):Wk rt σ h (sigL L) (hpL bs ts):=JCx r hb ht hp rfl hq h1 h2 h3 hds hrt
theorem xH{a b c d g:Prop}(F:a)(G:g)(y:b)(h1:b→c:=by intro y; (try (simp -implicitDefEqProofs only[goR,↓Jo,goS,↓reduceIte,reduceCtorEq,seval,Y]at y)); exact y)
  (h2:b→d:=by intro y; (try (simp only[goT]at y)); exact y):(a∧c)∧(c∧g)∧d:=⟨⟨F,h1 y⟩,⟨h1 y,G⟩,h2 y⟩
theorem xC{a b c:Prop}(F:a)(y:b)(h1:b→c:=by intro y; (try (simp -implicitDefEqProofs only[goR,↓Jo,goS,↓reduceIte,reduceCtorEq,seval,Y]at y)); exact y):a∧c:=⟨F,h1 y⟩
theorem xCf{a b c:Prop}(F:a)(y:b)(h1:b→c:=by intro y; (try (simp -implicitDefEqProofs only[goR,↓Jo,goS,↓reduceIte,reduceCtorEq,seval,F]at y)); exact y):a∧c:=⟨F,h1 y⟩
theorem xZ{a b:Prop}(x:a)(y:b):a∧b:=⟨x,y⟩
theorem xN{P:Program}{rt:Nat}{fn:Func}{d:D}{ex:Exit}(q:QRet P fn d ex σ h:=by first | (simp -implicitDefEqProofs only[goQ,goR,↓Jo,goS,↓reduceIte,reduceCtorEq,seval,Y]; done) | simp -implicitDefEqProofs only[goQ,goR,↓Jo,goS,↓reduceIte,reduceCtorEq,seval,Y,G]):Je7 P rt fn d ex σ h :=
 ⟨σ,h,Wk.refl _ _ _,q⟩
theorem kt{rt:Nat}{σ2:Nat→AV}{h2:Hp}(n k:Nat){sz:Nat}{l:List D}(x:Wk rt σ { h with H:=upd h.H n (some [.arr sz (l.take k)]) } σ2 h2)
  (hH:h.H n=some [.arr sz l]:=by simp -implicitDefEqProofs only[goG,goR,↓Jo,goS,↓reduceIte,reduceCtorEq,seval,Y]; rfl) (hk:k≤l.length:=by simp -implicitDefEqProofs only[goG,goR,↓Jo,goS,↓reduceIte,reduceCtorEq,seval,Y]; omega):Wk rt σ h σ2 h2 :=
 (JsZ (k:=k) hH rfl rfl hk).trans (by simpa using x)
theorem xNf{P:Program}{rt:Nat}{fn:Func}{d:D}{ex:Exit}(n sz:Nat)(l:List D)(cs:List C)(x:Je7 P rt fn d ex (fun i=>frzA n (.sl sz (l++cs.map C.toD)) (l.length+cs.length) (σ i)) (frzH n (.sl sz (l++cs.map C.toD)) (l.length+cs.length) h))
  (hH:h.H n=some (.arr sz l::cs):=by simp -implicitDefEqProofs only[goG,goR,↓Jo,goS,↓reduceIte,reduceCtorEq,seval,Y]) (hD:cs.all C.isD=true:=by rfl) (h1D:(cs.map C.toD).all D.one=true:=by rfl):Je7 P rt fn d ex σ h :=
 let ⟨σ',h',k,q⟩:=x; ⟨σ',h',(Jgk hH hD h1D).trans k,q⟩
class DInj {A:Type} (e:A→D):Prop where
 s:∀ a b,Ke (e a)=Ke (e b)→a=b
 i:∀ a b,e a=e b→a=b
instance:DInj dI:=⟨fun a b h=>JL a b h,JL⟩
instance:DInj dB:=⟨fun a b h=>Xh a b h,Xh⟩
instance:DInj dS:=⟨fun a b h=>VF a b h,VF⟩
instance:DInj dU:=⟨fun a b h=>Jyw a b h,Jyw⟩
instance {A:Type} {e:A→D} {sz:Nat} [he:DInj e]:DInj (dL sz e):=⟨fun _ _ h=>Jak (sz:=0) he.i _ _ h,Jak he.i⟩
def dF(n:Nat):D:=.v (.func (.func n) #[] #[])
theorem Jyx(a b:Nat)(h:dF a=dF b):a=b:=by simpa [dF] using h
instance:DInj dF:=⟨fun a b h=>Jyx a b h,Jyx⟩
class IEnc {A:Type} (enc:A→List D):Prop where
 inj:Inj enc
def E0:Unit→List D:=fun _=>[]
section
variable {A1 A2 A3 A4 A5 A6 A7 A8:Type}
def E1(e1:A1→D):A1→List D:=fun a=>[e1 a]
def E2(e1:A1→D)(e2:A2→D):A1×A2→List D:=fun a=>[e1 a.1,e2 a.2]
def E3(e1:A1→D)(e2:A2→D)(e3:A3→D):A1×A2×A3→List D:=fun a=>[e1 a.1,e2 a.2.1,e3 a.2.2]
def E4(e1:A1→D)(e2:A2→D)(e3:A3→D)(e4:A4→D):A1×A2×A3×A4→List D:=fun a=>[e1 a.1,e2 a.2.1,e3 a.2.2.1,e4 a.2.2.2]
def E5(e1:A1→D)(e2:A2→D)(e3:A3→D)(e4:A4→D)(e5:A5→D):A1×A2×A3×A4×A5→List D:=fun a=>[e1 a.1,e2 a.2.1,e3 a.2.2.1,e4 a.2.2.2.1,e5 a.2.2.2.2]
def E6(e1:A1→D)(e2:A2→D)(e3:A3→D)(e4:A4→D)(e5:A5→D)(e6:A6→D):A1×A2×A3×A4×A5×A6→List D:=fun a=>[e1 a.1,e2 a.2.1,e3 a.2.2.1,e4 a.2.2.2.1,e5 a.2.2.2.2.1,e6 a.2.2.2.2.2]
instance:IEnc E0:=⟨fun _ _ _=>rfl⟩
instance {e1:A1→D} [h1:DInj e1]:IEnc (E1 e1):=⟨fun a b h=>by
 simp only[E1,List.map_cons,List.map_nil,List.cons.injEq,and_true]at h
 exact h1.s _ _ h⟩
instance {e1:A1→D} {e2:A2→D} [h1:DInj e1] [h2:DInj e2]:IEnc (E2 e1 e2):=⟨fun a b h=>by
 simp only[E2,List.map_cons,List.map_nil,List.cons.injEq,and_true]at h
 exact Prod.ext (h1.s _ _ h.1) (h2.s _ _ h.2)⟩
instance {e1:A1→D} {e2:A2→D} {e3:A3→D} [h1:DInj e1] [h2:DInj e2] [h3:DInj e3]:IEnc (E3 e1 e2 e3):=⟨fun a b h=>by
 simp only[E3,List.map_cons,List.map_nil,List.cons.injEq,and_true]at h
 exact Prod.ext (h1.s _ _ h.1) (Prod.ext (h2.s _ _ h.2.1) (h3.s _ _ h.2.2))⟩
instance {e1:A1→D} {e2:A2→D} {e3:A3→D} {e4:A4→D} [h1:DInj e1] [h2:DInj e2] [h3:DInj e3] [h4:DInj e4]:IEnc (E4 e1 e2 e3 e4):=⟨fun a b h=>by
 simp only[E4,List.map_cons,List.map_nil,List.cons.injEq,and_true]at h
 exact Prod.ext (h1.s _ _ h.1) (Prod.ext (h2.s _ _ h.2.1) (Prod.ext (h3.s _ _ h.2.2.1) (h4.s _ _ h.2.2.2)))⟩
instance {e1:A1→D} {e2:A2→D} {e3:A3→D} {e4:A4→D} {e5:A5→D} [h1:DInj e1] [h2:DInj e2] [h3:DInj e3] [h4:DInj e4] [h5:DInj e5]:IEnc (E5 e1 e2 e3 e4 e5):=⟨fun a b h=>by
 simp only[E5,List.map_cons,List.map_nil,List.cons.injEq,and_true]at h
 exact Prod.ext (h1.s _ _ h.1) (Prod.ext (h2.s _ _ h.2.1) (Prod.ext (h3.s _ _ h.2.2.1) (Prod.ext (h4.s _ _ h.2.2.2.1) (h5.s _ _ h.2.2.2.2))))⟩
instance {e1:A1→D} {e2:A2→D} {e3:A3→D} {e4:A4→D} {e5:A5→D} {e6:A6→D} [h1:DInj e1] [h2:DInj e2] [h3:DInj e3] [h4:DInj e4] [h5:DInj e5] [h6:DInj e6]:IEnc (E6 e1 e2 e3 e4 e5 e6):=⟨fun a b h=>by
 simp only[E6,List.map_cons,List.map_nil,List.cons.injEq,and_true]at h
 exact Prod.ext (h1.s _ _ h.1) (Prod.ext (h2.s _ _ h.2.1) (Prod.ext (h3.s _ _ h.2.2.1) (Prod.ext (h4.s _ _ h.2.2.2.1) (Prod.ext (h5.s _ _ h.2.2.2.2.1) (h6.s _ _ h.2.2.2.2.2)))))⟩
def T0:Unit→D:=fun _=>.tu []
def T2(e1:A1→D)(e2:A2→D):A1×A2→D:=fun r=>.tu [e1 r.1,e2 r.2]
def T3(e1:A1→D)(e2:A2→D)(e3:A3→D):A1×A2×A3→D:=fun r=>.tu [e1 r.1,e2 r.2.1,e3 r.2.2]
def T4(e1:A1→D)(e2:A2→D)(e3:A3→D)(e4:A4→D):A1×A2×A3×A4→D:=fun r=>.tu [e1 r.1,e2 r.2.1,e3 r.2.2.1,e4 r.2.2.2]
end
abbrev PC(pf:PF)(l:List D)(d:D):Prop:=pf.pre l=True∧pf.val l=d
theorem PF.c{A R:Type}{enc:A→List D}{f:A→Option R}{e:R→D} [IEnc enc] {a:A} {r:R} (H:f a=some r):PC (PF.of enc f e) (enc a) (e r) :=
 ⟨PF.of_pre H,PF.of_val IEnc.inj H⟩
theorem PF.cl{A R:Type}{enc:A→List D}{f:A→Option R}{e:R→D} [IEnc enc] {l:List D} {a:A} {r:R} (H:f a=some r) (hl:les1 l (enc a)):PC (PF.of enc f e) l (e r) :=
 ⟨PF.of_prel hl H,PF.of_vall IEnc.inj hl H⟩
theorem xFl{P:Program}(hm:P.follows .mixedOrders=true){A R:Type}{enc:A→List D}{f:A→Option R}{e:R→D} [IEnc enc] (lk:List Nat) (l:List (Nat×PF)) (gl:List (Nat×Bool×(GI→Prop))) (h1:Jd6 P l) (h2:Jaf P gl)
  {k:Nat} {fn:Func} {c:Code} (hf:P.funcs[k]? = some fn)
  (h:∀ a r,f a=some r→aC (tab P l gl [] 0 lk) c (sig0 ((enc a).map fun d=>.c (.d d))) hp0 (Je7 P 0 fn (e r)))
  (hb:fn.body=some c:=by rfl) (hcode:(Kd (X8 (l.map Prod.fst) (gl.map fun p=>(p.1,p.2.1))) lk fn.ntmps c && fn.results.toList.all (VW fn.ntmps) && fn.ntmps.ble DS)=true:=by kernel_rfl)
  (hl:∀ a,(enc a).length≤fn.ntmps:=by intro a; exact Nat.le_of_ble_eq_true rfl):JF P k (PF.of enc f e) :=
 JB6 (t:=tab P l gl [] 0 lk) IEnc.inj rfl (JkZ h1 h2 trivial) hm JeQ (Jhj h2) hf hb hcode hl h
theorem xF{P:Program}(hm:P.follows .mixedOrders=true){A R:Type}{enc:A→List D}{f:A→Option R}{e:R→D} [IEnc enc] (l:List (Nat×PF)) (gl:List (Nat×Bool×(GI→Prop))) (h1:Jd6 P l) (h2:Jaf P gl)
  {k:Nat} {fn:Func} {c:Code} (hf:P.funcs[k]? = some fn)
  (h:∀ a r,f a=some r→aC (tab P l gl [] 0 []) c (sig0 ((enc a).map fun d=>.c (.d d))) hp0 (Je7 P 0 fn (e r)))
  (hb:fn.body=some c:=by rfl) (hcode:(Kd (X8 (l.map Prod.fst) (gl.map fun p=>(p.1,p.2.1))) [] fn.ntmps c && fn.results.toList.all (VW fn.ntmps) && fn.ntmps.ble DS)=true:=by kernel_rfl)
  (hl:∀ a,(enc a).length≤fn.ntmps:=by intro a; exact Nat.le_of_ble_eq_true rfl):JF P k (PF.of enc f e) :=
 xFl hm [] l gl h1 h2 hf h hb hcode hl
theorem xGnl{P:Program}(hm:P.follows .mixedOrders=true)(lk:List Nat)(l:List (Nat×PF))(gl:List (Nat×Bool×(GI→Prop)))(dl:List (Nat×(DI→Prop)))(h1:Jd6 P l)(h2:Jaf P gl)(h3:Jhc P dl)
  {k:Nat} {fn:Func} {c:Code} (hf:P.funcs[k]? = some fn) (g:GI) (h:aC (tab P l gl dl g.bs.length lk) c (sig0 g.args) (hpL g.bs g.ts) (Je9 (tab P l gl dl g.bs.length lk) fn g.bs.length g.out))
  (hb:fn.body=some c:=by rfl) (hcode:(Kd (X8 (l.map Prod.fst) (gl.map fun p=>(p.1,p.2.1))) lk fn.ntmps c && fn.results.toList.all (VW fn.ntmps) && fn.ntmps.ble DS)=true:=by kernel_rfl)
  (hl:g.args.length≤fn.ntmps:=by exact Nat.le_of_ble_eq_true rfl):Jm P k g :=
 JxP (t:=tab P l gl dl g.bs.length lk) (JkZ h1 h2 h3) hm JeQ (Jhj h2) hf hb hcode g rfl hl h
theorem xGn{P:Program}(hm:P.follows .mixedOrders=true)(l:List (Nat×PF))(gl:List (Nat×Bool×(GI→Prop)))(dl:List (Nat×(DI→Prop)))(h1:Jd6 P l)(h2:Jaf P gl)(h3:Jhc P dl)
  {k:Nat} {fn:Func} {c:Code} (hf:P.funcs[k]? = some fn) (g:GI) (h:aC (tab P l gl dl g.bs.length []) c (sig0 g.args) (hpL g.bs g.ts) (Je9 (tab P l gl dl g.bs.length []) fn g.bs.length g.out))
  (hb:fn.body=some c:=by rfl) (hcode:(Kd (X8 (l.map Prod.fst) (gl.map fun p=>(p.1,p.2.1))) [] fn.ntmps c && fn.results.toList.all (VW fn.ntmps) && fn.ntmps.ble DS)=true:=by kernel_rfl)
  (hl:g.args.length≤fn.ntmps:=by exact Nat.le_of_ble_eq_true rfl):Jm P k g :=
 xGnl hm [] l gl dl h1 h2 h3 hf g h hb hcode hl
theorem xDfl{P:Program}(hm:P.follows .mixedOrders=true)(lk:List Nat)(l:List (Nat×PF))(gl:List (Nat×Bool×(GI→Prop)))(h1:Jd6 P l)(h2:Jaf P gl)
  {k:Nat} {fn:Func} {c:Code} (hf:P.funcs[k]? = some fn) (d:DI) (h:aC (tab P l gl [] d.bs.length lk) c (sig0 d.args) (hpL d.bs d.ts) (QDf (tab P l gl [] d.bs.length lk) fn d))
  (hb:fn.body=some c:=by rfl) (hcode:(Kd (X8 (l.map Prod.fst) (gl.map fun p=>(p.1,p.2.1))) lk fn.ntmps c && fn.results.toList.all (VW fn.ntmps) && fn.ntmps.ble DS)=true:=by kernel_rfl)
  (hl:d.args.length≤fn.ntmps:=by exact Nat.le_of_ble_eq_true rfl):DOk P k d :=
 Jx1 (t:=tab P l gl [] d.bs.length lk) (JkZ h1 h2 trivial) hm JeQ (Jhj h2) hf hb hcode d rfl hl h
theorem xDf{P:Program}(hm:P.follows .mixedOrders=true)(l:List (Nat×PF))(gl:List (Nat×Bool×(GI→Prop)))(h1:Jd6 P l)(h2:Jaf P gl)
  {k:Nat} {fn:Func} {c:Code} (hf:P.funcs[k]? = some fn) (d:DI) (h:aC (tab P l gl [] d.bs.length []) c (sig0 d.args) (hpL d.bs d.ts) (QDf (tab P l gl [] d.bs.length []) fn d))
  (hb:fn.body=some c:=by rfl) (hcode:(Kd (X8 (l.map Prod.fst) (gl.map fun p=>(p.1,p.2.1))) [] fn.ntmps c && fn.results.toList.all (VW fn.ntmps) && fn.ntmps.ble DS)=true:=by kernel_rfl)
  (hl:d.args.length≤fn.ntmps:=by exact Nat.le_of_ble_eq_true rfl):DOk P k d :=
 xDfl hm [] l gl h1 h2 hf d h hb hcode hl
theorem xRcl{P:Program}(hm:P.follows .mixedOrders=true)(lk:List Nat)(l:List (Nat×PF))(gl:List (Nat×Bool×(GI→Prop)))(h1:Jd6 P l)(h2:Jaf P gl)
  {f:Nat} {fn:Func} {id k ty:Nat} {ps:String} {c:Code} (hf:P.funcs[f]? = some fn) (d:DI)
  (h:aC (tab P l gl [] d.bs.length lk) c (upd (sig0 d.args) k (.c (.d (.v (d.u.getD .nilIface))))) (hpL d.bs d.ts) (QDf (tab P l gl [] d.bs.length lk) fn { d with u':=d.u }))
  (hu:d.u'=none:=by rfl) (hb:fn.body=some (.seq (.region id (JnB k ty ps) false) c):=by rfl) (hcode:(Kd (X8 (l.map Prod.fst) (gl.map fun p=>(p.1,p.2.1))) lk fn.ntmps c && fn.results.toList.all (VW fn.ntmps) && fn.ntmps.ble DS && k.blt DS)=true:=by kernel_rfl)
  (hl:d.args.length≤fn.ntmps:=by exact Nat.le_of_ble_eq_true rfl):DOk P f d :=
 Jvn (t:=tab P l gl [] d.bs.length lk) (JkZ h1 h2 trivial) hm JeQ (Jhj h2) hf hb hcode d hu rfl hl h
theorem tabG{P:Program}{l:List (Nat×PF)}{gl:List (Nat×Bool×(GI→Prop))}{dl:List (Nat×(DI→Prop))}{rt n:Nat}{lk:List Nat}{np:Bool}{S:GI→Prop}{g:GI}(i:Nat)(hs:S g)(h:gl[i]? = some (n,np,S):=by rfl):(tab P l gl dl rt lk).G n g :=
 ⟨(n,np,S),List.mem_of_getElem? h,rfl,hs⟩
theorem tabD{P:Program}{l:List (Nat×PF)}{gl:List (Nat×Bool×(GI→Prop))}{dl:List (Nat×(DI→Prop))}{rt n:Nat}{lk:List Nat}{S:DI→Prop}{d:DI}(i:Nat)(hs:S d)(h:dl[i]? = some (n,S):=by rfl):(tab P l gl dl rt lk).D n d :=
 ⟨(n,S),List.mem_of_getElem? h,rfl,hs⟩
variable {K:(Nat→AV)→Hp→Prop} {Kp:Value→Hp→Prop} {L:List RdO}
theorem xQ{id:Nat}{ops:Array Oper}{draw:Bool}(x:aRG t (Q .normal) (fun v h'=>Q (.panic [{ v:=v,recovered:=false }]) (Ku ops σ) h') (ops.toList.map (roOf ops)) σ h)
  (hl:(draw && t.lk.contains id)=false:=by rfl) (hg:(ops.toList.all (V1 ops))=true:=by rfl):aC t (.region id ops draw) σ h Q:=JqJ hl hg x
def fgt:List Nat→(Nat→AV)→(Nat→AV)
 | [],σ=>σ
 | d::l,σ=>upd (fgt l σ) d (.c .top)
theorem Jy4:∀ (ds:List Nat) (σ:Nat→AV) (i:Nat),fgt ds σ i=if ds.contains i then .c .top else σ i
 | [],σ,i=>by simp[fgt]
 | d::l,σ,i=>by
  unfold fgt upd
  rw[Jy4 l σ i]
  by_cases h:i=d
  ·simp[h]
  simp[h]
theorem JmP{ops:Array Oper}{ds:List Nat}(h:ops.toList.filterMap (·.dst)=ds)(σ:Nat→AV):Ku ops σ=fgt ds σ:=by
 subst h
 funext i
 rw[Jy4]
 unfold Ku
 have:(ops.toList.any fun o=>o.dst == some i)=(ops.toList.filterMap (·.dst)).contains i:=by
  induction ops.toList with
  | nil=>rfl
  | cons o l ih =>
   rw[List.any_cons,ih,List.filterMap_cons]
   cases hd:o.dst with
   | none=>simp
   | some k=>simp only[List.contains_cons]; congr 1; simp only[Option.some_beq_some]; exact Bool.eq_iff_iff.2 (by simp only[beq_iff_eq]; exact eq_comm)
 rw[this]
theorem xQp(ds:List Nat){id:Nat}{ops:Array Oper}{draw:Bool}(x:aRG t (Q .normal) (fun v h'=>Q (.panic [{ v:=v,recovered:=false }]) (fgt ds σ) h') (ops.toList.map (roOf ops)) σ h)
  (hds:ops.toList.filterMap (·.dst)=ds:=by rfl) (hl:(draw && t.lk.contains id)=false:=by rfl) (hg:(ops.toList.all (V1 ops))=true:=by rfl):aC t (.region id ops draw) σ h Q :=
 JqJ hl hg (by rw[JmP hds]; exact x)
theorem xfz{id:Nat}{ops:Array Oper}{draw:Bool}(n sz:Nat)(l:List D)(cs:List C)(x:aC t (.region id ops draw) (fun i=>frzA n (.sl sz (l++cs.map C.toD)) (l.length+cs.length) (σ i)) (frzH n (.sl sz (l++cs.map C.toD)) (l.length+cs.length) h) Q)
  (hH:h.H n=some (.arr sz l::cs):=by simp -implicitDefEqProofs only[goR,↓Jo,goS,↓reduceIte,reduceCtorEq,seval,Y]) (hD:cs.all C.isD=true:=by rfl) (h1D:(cs.map C.toD).all D.one=true:=by rfl):aC t (.region id ops draw) σ h Q :=
 let ⟨σ1,h1,k,q⟩:=x; ⟨σ1,h1,(Jgk hH hD h1D).trans k,q⟩
theorem xft{id:Nat}{ops:Array Oper}{draw:Bool}(n k:Nat){sz:Nat}{l:List D}(x:aC t (.region id ops draw) σ { h with H:=upd h.H n (some [.arr sz (l.take k)]) } Q)
  (hH:h.H n=some [.arr sz l]:=by simp -implicitDefEqProofs only[goR,↓Jo,goS,↓reduceIte,reduceCtorEq,seval,Y]; rfl) (hk:k≤l.length:=by simp -implicitDefEqProofs only[goR,↓Jo,goS,↓reduceIte,reduceCtorEq,seval,Y]; omega):aC t (.region id ops draw) σ h Q :=
 let ⟨σ1,h1,k',q⟩:=x; ⟨σ1,h1,(JsZ (k:=k) hH rfl rfl hk).trans (by simpa using k'),q⟩
theorem xrn{id:Nat}{ops:Array Oper}{draw:Bool}(n k:Nat){sz:Nat}{l:List D}{row:List C}(x:aC t (.region id ops draw) (fun i=>rnA n h.nx (σ i)) { h with H:=upd (upd (upd h.H n none) h.nx (some [.arr sz l])) k (some (row.map (rnC n h.nx))),nx:=h.nx+1 } Q)
  (hn:h.H n=some [.arr sz l]:=by simp -implicitDefEqProofs only[goR,↓Jo,goS,↓reduceIte,reduceCtorEq,seval,Y]; rfl) (hk:h.H k=some row:=by simp -implicitDefEqProofs only[goR,↓Jo,goS,↓reduceIte,reduceCtorEq,seval,Y]; rfl)
  (hkn:k≠n:=by decide) (hsz:0<sz:=by decide):aC t (.region id ops draw) σ h Q :=
 let ⟨σ1,h1,k',q⟩:=x; ⟨σ1,h1,(JCS hn hk hkn hsz).trans k',q⟩
theorem xs(n:Nat){σ2:Nat→AV}{h2:Hp}(x:aRG t K Kp (L.drop n) σ2 h2)
  (hr:∀ K':(Nat→AV)→Hp→Prop,K' σ2 h2→aRO t K' (L.take n) σ h:=by
   intro K' hK
   simp -implicitDefEqProofs only[goR,↓Jo,goS,↓reduceIte,reduceCtorEq,seval,F]
   repeat' (first | exact hK | (with_reducible apply And.intro) | exact trivial | assumption | omega)):aRG t K Kp L σ h:=by
 have:=Jid (l2:=L.drop n) (hr _ x)
 rwa [List.take_append_drop]at this
theorem xl(x:K σ h)(hl:L=[]:=by rfl):aRG t K Kp L σ h:=by subst hl; exact x
def gdOk(σ:Nat→AV):Option (Tmp×Bool)→Prop
 | none=>True
 | some (d,w)=>σ d=.c (.d (.v (.bool w)))
theorem Jf0{g:Option (Tmp×Bool)}{run skip:(Nat→AV)→Prop}(hg:gdOk σ g)(hh:run σ):aGd σ g run skip:=by
 cases g with
 | none=>exact hh
 | some p =>
  obtain⟨d,w⟩:=p
  have hg:σ d=.c (.d (.v (.bool w))):=hg
  simp only[aGd,hg]
  refine⟨fun _=>?_,fun hx=>by cases w <;> cases hx⟩
  have:=Jhg (q:=w) hg rfl
  rw[this]; exact hh
theorem xc{l':List RdO}{o:RdO}{f:Nat}{args:List AV}{g:GI}{val:AV}{bs:List (List C)}{ts:List TypeId}{σ2:Nat→AV}{h2:Hp}(r:Ren)(hG:t.G f g)(x:aRG t K Kp l' σ2 h2)
  (hl:L=o::l':=by rfl) (hout:g.out=.ret val bs ts:=by rfl)
  (hgd:gdOk σ o.g:=by simp -implicitDefEqProofs only[gdOk,goR,↓Jo,goS,↓reduceIte,reduceCtorEq,seval,F])
  (hc:JM t σ o.op=some (f,args):=by(simp -implicitDefEqProofs only[goG,goR,↓Jo,goS,↓reduceIte,reduceCtorEq,seval,F]; try rfl))
  (ha:AsWk r args g.args:=by simp -implicitDefEqProofs only[goG,goW,goR,↓Jo,goS,↓reduceIte,reduceCtorEq,seval,F])
  (lb:g.bs.length=r.ps.length:=by rfl) (lt:g.ts.length=r.qs.length:=by rfl) (op:once r.ps=true:=by rfl) (oq:once r.qs=true:=by rfl)
  (bwk:BWk r h 1 g.bs:=by simp -implicitDefEqProofs only[goG,goW,goR,↓Jo,goS,↓reduceIte,reduceCtorEq,seval,F])
  (twk:TWk r h (r.ps.length+1) g.ts:=by simp -implicitDefEqProofs only[goG,goW,goR,↓Jo,goS,↓reduceIte,reduceCtorEq,seval,F])
  (live:∀ row∈g.bs,row≠[]:=by simp -implicitDefEqProofs only[goG,goW,goR,↓Jo,goS,↓reduceIte,reduceCtorEq,seval,F])
  (hs:∀ X:(Nat→AV)→Hp→Prop,X σ2 h2→X (putA σ o.dst (renA (r.back h.nx) val)) (h.after r bs ts):=by
   intro X hX
   simp -implicitDefEqProofs only[goG,goR,↓Jo,goS,↓reduceIte,reduceCtorEq,seval,F]
   exact hX):aRG t K Kp L σ h:=by
 subst hl
 refine Jf0 hgd ?_
 unfold aRun
 rw[hc]
 refine⟨g,r,hG,⟨ha,lb,lt,op,oq,bwk,twk,live⟩,?_⟩
 rw[hout]
 exact hs _ x
theorem xp{l':List RdO}{o:RdO}{f:Nat}{args:List AV}{g:GI}{v:Value}{bs:List (List C)}{ts:List TypeId}{h2:Hp}(r:Ren)(hG:t.G f g)(x:Kp v h2)
  (hl:L=o::l':=by rfl) (hout:g.out=.pan v bs ts:=by rfl)
  (hgd:gdOk σ o.g:=by simp -implicitDefEqProofs only[gdOk,goR,↓Jo,goS,↓reduceIte,reduceCtorEq,seval,F])
  (hc:JM t σ o.op=some (f,args):=by(simp -implicitDefEqProofs only[goG,goR,↓Jo,goS,↓reduceIte,reduceCtorEq,seval,F]; try rfl))
  (ha:AsWk r args g.args:=by simp -implicitDefEqProofs only[goG,goW,goR,↓Jo,goS,↓reduceIte,reduceCtorEq,seval,F])
  (lb:g.bs.length=r.ps.length:=by rfl) (lt:g.ts.length=r.qs.length:=by rfl) (op:once r.ps=true:=by rfl) (oq:once r.qs=true:=by rfl)
  (bwk:BWk r h 1 g.bs:=by simp -implicitDefEqProofs only[goG,goW,goR,↓Jo,goS,↓reduceIte,reduceCtorEq,seval,F])
  (twk:TWk r h (r.ps.length+1) g.ts:=by simp -implicitDefEqProofs only[goG,goW,goR,↓Jo,goS,↓reduceIte,reduceCtorEq,seval,F])
  (live:∀ row∈g.bs,row≠[]:=by simp -implicitDefEqProofs only[goG,goW,goR,↓Jo,goS,↓reduceIte,reduceCtorEq,seval,F])
  (hs:∀ X:Hp→Prop,X h2→X (h.after r bs ts):=by
   intro X hX
   simp -implicitDefEqProofs only[goG,goR,↓Jo,goS,↓reduceIte,reduceCtorEq,seval,F]
   exact hX):aRG t K Kp L σ h:=by
 subst hl
 refine Jf0 hgd ?_
 unfold aRun
 rw[hc]
 refine⟨g,r,hG,⟨ha,lb,lt,op,oq,bwk,twk,live⟩,?_⟩
 rw[hout]
 exact hs _ x
theorem xv{l':List RdO}{o:RdO}{y:Operand}{v:Value}(x:Kp v h)(hl:L=o::l':=by rfl)(hop:o.op=.panic y:=by rfl)
  (hgd:gdOk σ o.g:=by simp -implicitDefEqProofs only[gdOk,goR,↓Jo,goS,↓reduceIte,reduceCtorEq,seval,F])
  (hv:panV σ y=some v:=by simp -implicitDefEqProofs only[panV,goR,↓Jo,goS,↓reduceIte,reduceCtorEq,seval,F]; rfl):aRG t K Kp L σ h:=by
 subst hl
 refine Jf0 hgd ?_
 unfold aRun
 rw[hop]
 have hg:∀ op,isDP op=true→JM t σ op=none:=fun op h=>by cases op <;> first | rfl | cases h
 rw[hg _ rfl]
 simp only[isDP,if_true]
 unfold aDP
 simp only[hv]
 exact x
theorem xw{l':List RdO}{o:RdO}{c:Call}{d:Nat×List C}(x:aRG t K Kp l' (putA (upd σ DS (.df (d::dfL (σ DS)))) o.dst KP) h)(hl:L=o::l':=by rfl)(hop:o.op=.defer c:=by rfl)
  (hgd:gdOk σ o.g:=by simp -implicitDefEqProofs only[gdOk,goR,↓Jo,goS,↓reduceIte,reduceCtorEq,seval,F])
  (hd:JiS σ c=some d:=by simp -implicitDefEqProofs only[JiS,goR,↓Jo,goS,↓reduceIte,reduceCtorEq,seval,F]; rfl):aRG t K Kp L σ h:=by
 subst hl
 refine Jf0 hgd ?_
 unfold aRun
 rw[hop]
 have hg:∀ op,isDP op=true→JM t σ op=none:=fun op h=>by cases op <;> first | rfl | cases h
 rw[hg _ rfl]
 simp only[isDP,if_true]
 unfold aDP
 simp only[hd]
 exact x
section
variable {pure:Nat→Nat} {fl:List Nat} {K:XK} {L:LK} {M:List Hp} {l:List RdO}
theorem xP{P:Program}{pl:List (Nat×PF)}{gl:List (Nat×Bool×(GI→Prop))}{dl:List (Nat×(DI→Prop))}{rt:Nat}{lk:List Nat}{id:Nat}{ops:Array Oper}(ks fl:List Nat)(h2:Jaf P gl)
  (x:aRX (tab P pl gl dl rt lk) (X8 (pl.map Prod.fst) (gl.map fun p=>(p.1,p.2.1))) fl (fun L M σ' h'=>JdU (tab P pl gl dl rt lk) (X8 (pl.map Prod.fst) (gl.map fun p=>(p.1,p.2.1))) fl ops (Q .normal) (fun v h'=>Q (.panic [{ v:=v,recovered:=false }]) (Ku ops σ) h') 0 (Jiz ks (Array.replicate ops.size false)) L M σ' h') (fun v h'=>Q (.panic [{ v:=v,recovered:=false }]) (Ku ops σ) h') ((pick ops ks).map (roOf ops)) (fun _=>True) [] σ h)
  (hlk:lk.contains id=true:=by rfl) (hmn:ops.size=ks.length:=by rfl) (hB:seqX (X8 (pl.map Prod.fst) (gl.map fun p=>(p.1,p.2.1))) fl ops ks (Array.replicate ops.size false)=true:=by kernel_rfl) (hg:((pick ops ks).all (V1 ops))=true:=by rfl):aC (tab P pl gl dl rt lk) (.region id ops true) σ h Q :=
 JqK JeQ (Jhj h2) ks hlk hmn hB hg x
theorem xPp(ds:List Nat){P:Program}{pl:List (Nat×PF)}{gl:List (Nat×Bool×(GI→Prop))}{dl:List (Nat×(DI→Prop))}{rt:Nat}{lk:List Nat}{id:Nat}{ops:Array Oper}(ks fl:List Nat)(h2:Jaf P gl)
  (x:aRX (tab P pl gl dl rt lk) (X8 (pl.map Prod.fst) (gl.map fun p=>(p.1,p.2.1))) fl (fun L M σ' h'=>JdU (tab P pl gl dl rt lk) (X8 (pl.map Prod.fst) (gl.map fun p=>(p.1,p.2.1))) fl ops (Q .normal) (fun v h'=>Q (.panic [{ v:=v,recovered:=false }]) (fgt ds σ) h') 0 (Jiz ks (Array.replicate ops.size false)) L M σ' h') (fun v h'=>Q (.panic [{ v:=v,recovered:=false }]) (fgt ds σ) h') ((pick ops ks).map (roOf ops)) (fun _=>True) [] σ h)
  (hds:ops.toList.filterMap (·.dst)=ds:=by rfl) (hlk:lk.contains id=true:=by rfl) (hmn:ops.size=ks.length:=by rfl) (hB:seqX (X8 (pl.map Prod.fst) (gl.map fun p=>(p.1,p.2.1))) fl ops ks (Array.replicate ops.size false)=true:=by kernel_rfl) (hg:((pick ops ks).all (V1 ops))=true:=by rfl):aC (tab P pl gl dl rt lk) (.region id ops true) σ h Q :=
 JqK JeQ (Jhj h2) ks hlk hmn hB hg (by rw[JmP hds]; exact x)
theorem xsX(n:Nat){σ2:Nat→AV}{h2:Hp}(x:aRX t pure fl K Kp (l.drop n) L M σ2 h2)
  (hc:((l.take n).all fun o=>JuV (clsF pure fl o.op o.dst))=true:=by rfl)
  (hr:∀ K':(Nat→AV)→Hp→Prop,K' σ2 h2→aRO t K' (l.take n) σ h:=by
   intro K' hK
   simp -implicitDefEqProofs only[goR,↓Jo,goS,↓reduceIte,reduceCtorEq,seval,F]
   repeat' (first | exact hK | (with_reducible apply And.intro) | exact trivial | assumption | omega)):aRX t pure fl K Kp l L M σ h:=by
 have:=Jls (Kp:=Kp) hc (hr (fun σ h=>aRX t pure fl K Kp (l.drop n) L M σ h) x)
 rwa [List.take_append_drop]at this
theorem Jv2{c:Nat}{o:RdO}{l':List RdO}{σ2:Nat→AV}{h2:Hp}{L':LK}{M':List Hp}(hc:clsF pure fl o.op o.dst=c)(hgd:gdOk σ o.g)(hr:∀ X:(Nat→AV)→Hp→Prop,X σ2 h2→(aop t.P t.Φ t.Ψ o.op σ h).pre∧X (putA σ o.dst (aop t.P t.Φ t.Ψ o.op σ h).val) (aop t.P t.Φ t.Ψ o.op σ h).h)
  (hx:aRX t pure fl K Kp l' L' M' σ2 h2) (f:∀ X:XK,X L' M' σ2 h2→(aop t.P t.Φ t.Ψ o.op σ h).pre→(∀ Y:(Nat→AV)→Hp→Prop,Y σ2 h2→aRun t o.op o.dst Y Kp σ h)→JaM t c o.op o.dst X Kp L M σ h):aRX t pure fl K Kp (o::l') L M σ h:=by
 refine Jf0 hgd ?_
 rw[hc]
 have hp:=(hr (fun _ _=>True) trivial).1
 refine f _ hx hp fun Y hY=>?_
 obtain⟨q1,q2⟩:=Jk0 hp
 unfold aRun
 rw[q1]
 simp only
 rw[if_neg q2]
 exact hr Y hY
theorem xaX{o:RdO}{l':List RdO}{σ2:Nat→AV}{h2:Hp}(x:aRX t pure fl K Kp l' (fun h'=>L h'∧K3 t o.op σ h h') M σ2 h2)(hl:l=o::l':=by rfl)
  (hc:clsF pure fl o.op o.dst=1:=by rfl)
  (hgd:gdOk σ o.g:=by simp -implicitDefEqProofs only[gdOk,goR,↓Jo,goS,↓reduceIte,reduceCtorEq,seval,F])
  (hr:∀ X:(Nat→AV)→Hp→Prop,X σ2 h2→(aop t.P t.Φ t.Ψ o.op σ h).pre∧X (putA σ o.dst (aop t.P t.Φ t.Ψ o.op σ h).val) (aop t.P t.Φ t.Ψ o.op σ h).h:=by
   intro X hX
   simp -implicitDefEqProofs only[goG,goR,↓Jo,goS,↓reduceIte,reduceCtorEq,seval,F]
   repeat' (first | exact hX | (with_reducible apply And.intro) | exact trivial | assumption | omega))
  (hM:∀ h0∈M,K3 t o.op σ h h0:=by
   simp -implicitDefEqProofs only[K3,List.forall_mem_cons,List.not_mem_nil,false_implies,implies_true,goG,goR,↓Jo,goS,↓reduceIte,reduceCtorEq,seval,F]):aRX t pure fl K Kp l L M σ h:=by
 subst hl
 refine Jv2 hc hgd hr x fun X hX hp hY=>?_
 unfold JaM
 rw[if_pos rfl]
 exact⟨hM,hY _ hX⟩
theorem xbX{o:RdO}{l':List RdO}{σ2:Nat→AV}{h2:Hp}(x:aRX t pure fl K Kp l' L (h::M) σ2 h2)(hl:l=o::l':=by rfl)
  (hc:(clsF pure fl o.op o.dst == 2 || clsF pure fl o.op o.dst == 4)=true:=by rfl)
  (hgd:gdOk σ o.g:=by simp -implicitDefEqProofs only[gdOk,goR,↓Jo,goS,↓reduceIte,reduceCtorEq,seval,F])
  (hr:∀ X:(Nat→AV)→Hp→Prop,X σ2 h2→(aop t.P t.Φ t.Ψ o.op σ h).pre∧X (putA σ o.dst (aop t.P t.Φ t.Ψ o.op σ h).val) (aop t.P t.Φ t.Ψ o.op σ h).h:=by
   intro X hX
   simp -implicitDefEqProofs only[goG,goR,↓Jo,goS,↓reduceIte,reduceCtorEq,seval,F]
   repeat' (first | exact hX | (with_reducible apply And.intro) | exact trivial | assumption | omega))
  (hL:L h2:=by
   simp -implicitDefEqProofs only[K3,goG,goR,↓Jo,goS,↓reduceIte,reduceCtorEq,seval,F]):aRX t pure fl K Kp l L M σ h:=by
 subst hl
 refine Jv2 rfl hgd hr x fun X hX hp hY=>?_
 unfold JaM
 simp only[Bool.or_eq_true,beq_iff_eq]at hc
 rw[if_neg (by omega),if_pos (by omega)]
 exact hY (fun σ' h'=>L h'∧X L (h::M) σ' h') ⟨hL,hX⟩
theorem xcX{o:RdO}{l':List RdO}{f:Nat}{args:List AV}{g:GI}{val:AV}{bs:List (List C)}{ts:List TypeId}{σ2:Nat→AV}{h2:Hp}(r:Ren)(hG:t.G f g)(x:aRX t pure fl K Kp l' L (h::M) σ2 h2)
  (hl:l=o::l':=by rfl) (hout:g.out=.ret val bs ts:=by rfl)
  (hcl:(clsF pure fl o.op o.dst == 2 || clsF pure fl o.op o.dst == 6)=true:=by rfl)
  (hgd:gdOk σ o.g:=by simp -implicitDefEqProofs only[gdOk,goR,↓Jo,goS,↓reduceIte,reduceCtorEq,seval,F])
  (hc:JM t σ o.op=some (f,args):=by(simp -implicitDefEqProofs only[goG,goR,↓Jo,goS,↓reduceIte,reduceCtorEq,seval,F]; try rfl))
  (ha:AsWk r args g.args:=by simp -implicitDefEqProofs only[goG,goW,goR,↓Jo,goS,↓reduceIte,reduceCtorEq,seval,F])
  (lb:g.bs.length=r.ps.length:=by rfl) (lt:g.ts.length=r.qs.length:=by rfl) (op:once r.ps=true:=by rfl) (oq:once r.qs=true:=by rfl)
  (bwk:BWk r h 1 g.bs:=by simp -implicitDefEqProofs only[goG,goW,goR,↓Jo,goS,↓reduceIte,reduceCtorEq,seval,F])
  (twk:TWk r h (r.ps.length+1) g.ts:=by simp -implicitDefEqProofs only[goG,goW,goR,↓Jo,goS,↓reduceIte,reduceCtorEq,seval,F])
  (live:∀ row∈g.bs,row≠[]:=by simp -implicitDefEqProofs only[goG,goW,goR,↓Jo,goS,↓reduceIte,reduceCtorEq,seval,F])
  (hs:∀ X:(Nat→AV)→Hp→Prop,X σ2 h2→X (putA σ o.dst (renA (r.back h.nx) val)) (h.after r bs ts):=by
   intro X hX
   simp -implicitDefEqProofs only[goG,goR,↓Jo,goS,↓reduceIte,reduceCtorEq,seval,F]
   exact hX)
  (hL:L h2:=by
   simp -implicitDefEqProofs only[K3,goG,goR,↓Jo,goS,↓reduceIte,reduceCtorEq,seval,F]):aRX t pure fl K Kp l L M σ h:=by
 subst hl
 refine Jf0 hgd ?_
 unfold JaM
 simp only[Bool.or_eq_true,beq_iff_eq]at hcl
 rw[if_neg (by omega),if_pos (by omega)]
 unfold aRun
 rw[hc]
 refine⟨g,r,hG,⟨ha,lb,lt,op,oq,bwk,twk,live⟩,?_⟩
 rw[hout]
 exact hs (fun σ' h'=>L h'∧aRX t pure fl K Kp l' L (h::M) σ' h') ⟨hL,x⟩
theorem xpX{o:RdO}{l':List RdO}{f:Nat}{args:List AV}{g:GI}{v:Value}{bs:List (List C)}{ts:List TypeId}{h2:Hp}(r:Ren)(hG:t.G f g)(x:Kp v h2)
  (hl:l=o::l':=by rfl) (hout:g.out=.pan v bs ts:=by rfl)
  (hcl:(clsF pure fl o.op o.dst == 2 || clsF pure fl o.op o.dst == 6)=true:=by rfl)
  (hgd:gdOk σ o.g:=by simp -implicitDefEqProofs only[gdOk,goR,↓Jo,goS,↓reduceIte,reduceCtorEq,seval,F])
  (hc:JM t σ o.op=some (f,args):=by(simp -implicitDefEqProofs only[goG,goR,↓Jo,goS,↓reduceIte,reduceCtorEq,seval,F]; try rfl))
  (ha:AsWk r args g.args:=by simp -implicitDefEqProofs only[goG,goW,goR,↓Jo,goS,↓reduceIte,reduceCtorEq,seval,F])
  (lb:g.bs.length=r.ps.length:=by rfl) (lt:g.ts.length=r.qs.length:=by rfl) (op:once r.ps=true:=by rfl) (oq:once r.qs=true:=by rfl)
  (bwk:BWk r h 1 g.bs:=by simp -implicitDefEqProofs only[goG,goW,goR,↓Jo,goS,↓reduceIte,reduceCtorEq,seval,F])
  (twk:TWk r h (r.ps.length+1) g.ts:=by simp -implicitDefEqProofs only[goG,goW,goR,↓Jo,goS,↓reduceIte,reduceCtorEq,seval,F])
  (live:∀ row∈g.bs,row≠[]:=by simp -implicitDefEqProofs only[goG,goW,goR,↓Jo,goS,↓reduceIte,reduceCtorEq,seval,F])
  (hs:∀ X:Hp→Prop,X h2→X (h.after r bs ts):=by
   intro X hX
   simp -implicitDefEqProofs only[goG,goR,↓Jo,goS,↓reduceIte,reduceCtorEq,seval,F]
   exact hX):aRX t pure fl K Kp l L M σ h:=by
 subst hl
 refine Jf0 hgd ?_
 unfold JaM
 simp only[Bool.or_eq_true,beq_iff_eq]at hcl
 rw[if_neg (by omega),if_pos (by omega)]
 unfold aRun
 rw[hc]
 refine⟨g,r,hG,⟨ha,lb,lt,op,oq,bwk,twk,live⟩,?_⟩
 rw[hout]
 exact hs _ x
theorem xlX{ops:Array Oper}{listed:Array Bool}{K:(Nat→AV)→Hp→Prop}(x:K σ h)(hl:l=[]:=by rfl)(hr:Region.ready .any ops listed=[]:=by kernel_rfl):aRX t pure fl (fun L M σ' h'=>JdU t pure fl ops K Kp 0 listed L M σ' h') Kp l L M σ h:=by
 subst hl
 exact⟨hr,x⟩
theorem xm{K:XK}(x:K L M σ h)(hl:l=[]:=by rfl):aRX t pure fl K Kp l L M σ h:=by subst hl; exact x
section
variable {ops:Array Oper} {listed:Array Bool} {K:(Nat→AV)→Hp→Prop}
end
end
variable {fn:Func} {nb:Nat} {val:AV} {bs:List (List C)} {ts:List TypeId}
theorem xOr{out:GOut}(x:QL t fn.results.toList nb out (dfL (σ DS)) none σ h):Je9 t fn nb out .ret σ h:=⟨σ,h,Wk.refl _ _ _,x⟩
theorem xOn{out:GOut}(x:QL t fn.results.toList nb out (dfL (σ DS)) none σ h):Je9 t fn nb out .normal σ h:=⟨σ,h,Wk.refl _ _ _,x⟩
theorem xOp{out:GOut}{v:Value}(x:QL t fn.results.toList nb out (dfL (σ DS)) (some v) σ h):Je9 t fn nb out (.panic [{ v:=v,recovered:=false }]) σ h:=⟨σ,h,Wk.refl _ _ _,v,rfl,x⟩
theorem xOf{out:GOut}{ex:Exit}(n sz:Nat)(l:List D)(cs:List C)(x:Je9 t fn nb out ex (fun i=>frzA n (.sl sz (l++cs.map C.toD)) (l.length+cs.length) (σ i)) (frzH n (.sl sz (l++cs.map C.toD)) (l.length+cs.length) h))
  (hH:h.H n=some (.arr sz l::cs):=by simp -implicitDefEqProofs only[goG,goR,↓Jo,goS,↓reduceIte,reduceCtorEq,seval,Y]) (hD:cs.all C.isD=true:=by rfl) (h1D:(cs.map C.toD).all D.one=true:=by rfl):Je9 t fn nb out ex σ h :=
 let ⟨σ',h',k,q⟩:=x; ⟨σ',h',(Jgk hH hD h1D).trans k,q⟩
theorem qDf{rs:List ResultVar}{u:Option Value}{out:GOut}(dl:List (Nat×List C))(x:QL t rs nb out dl u σ h)
  (hd:dfL (σ DS)=dl:=by simp -implicitDefEqProofs only[goG,goR,↓Jo,goS,↓reduceIte,reduceCtorEq,seval,Y]):QL t rs nb out (dfL (σ DS)) u σ h:=by rw[hd]; exact x
theorem xrD{out:GOut}(dl:List (Nat×List C))(x:QL t fn.results.toList nb out dl none σ h)(hd:dfL (σ DS)=dl:=by simp -implicitDefEqProofs only[goG,goR,↓Jo,goS,↓reduceIte,reduceCtorEq,seval,Y]):Je9 t fn nb out .ret σ h:=xOr (by rw[hd]; exact x)
theorem xnD{out:GOut}(dl:List (Nat×List C))(x:QL t fn.results.toList nb out dl none σ h)(hd:dfL (σ DS)=dl:=by simp -implicitDefEqProofs only[goG,goR,↓Jo,goS,↓reduceIte,reduceCtorEq,seval,Y]):Je9 t fn nb out .normal σ h:=xOn (by rw[hd]; exact x)
theorem xpD{out:GOut}{v:Value}(dl:List (Nat×List C))(x:QL t fn.results.toList nb out dl (some v) σ h)(hd:dfL (σ DS)=dl:=by simp -implicitDefEqProofs only[goG,goR,↓Jo,goS,↓reduceIte,reduceCtorEq,seval,Y]):Je9 t fn nb out (.panic [{ v:=v,recovered:=false }]) σ h:=xOp (by rw[hd]; exact x)
theorem xD{rs:List ResultVar}{u:Option Value}{out:GOut}{f:Nat}{cs:List C}{dl:List (Nat×List C)}{d:DI}{h2:Hp}(r:Ren)(hD:t.D f d)(x:QL t rs nb out dl d.u' σ h2)(hu:d.u=u:=by rfl)
  (ha:AsWk r (cs.map AV.c) d.args:=by simp -implicitDefEqProofs only[goG,goW,goR,↓Jo,goS,↓reduceIte,reduceCtorEq,seval,Y])
  (lb:d.bs.length=r.ps.length:=by rfl) (lt:d.ts.length=r.qs.length:=by rfl) (op:once r.ps=true:=by rfl) (oq:once r.qs=true:=by rfl)
  (bwk:BWk r h 1 d.bs:=by simp -implicitDefEqProofs only[goG,goW,goR,↓Jo,goS,↓reduceIte,reduceCtorEq,seval,Y])
  (twk:TWk r h (r.ps.length+1) d.ts:=by simp -implicitDefEqProofs only[goG,goW,goR,↓Jo,goS,↓reduceIte,reduceCtorEq,seval,Y])
  (live:∀ row∈d.bs,row≠[]:=by simp -implicitDefEqProofs only[goG,goW,goR,↓Jo,goS,↓reduceIte,reduceCtorEq,seval,Y])
  (hs:∀ X:Hp→Prop,X h2→X (h.after r d.bs' d.ts'):=by
   intro X hX
   simp -implicitDefEqProofs only[goG,goR,↓Jo,goS,↓reduceIte,reduceCtorEq,seval,Y]
   exact hX):QL t rs nb out ((f,cs)::dl) u σ h :=
 ⟨d,r,hD,hu,⟨ha,lb,lt,op,oq,bwk,twk,live⟩,hs (fun h=>QL t rs nb out dl d.u' σ h) x⟩
theorem xO{rs:List ResultVar}{av:AV}(r:Ren)(hr:(KK t.P σ h rs).1:=by simp -implicitDefEqProofs only[goG,goQ,goR,↓Jo,goS,↓reduceIte,reduceCtorEq,seval,Y])
  (hj:JdV (KK t.P σ h rs).2=some av:=by simp -implicitDefEqProofs only[goG,goQ,goR,↓Jo,goS,↓reduceIte,reduceCtorEq,seval,Y]; rfl)
  (ha:AWk r av val:=by first | (simp -implicitDefEqProofs only[goG,goW,goR,↓Jo,goS,↓reduceIte,reduceCtorEq,seval,Y]; done) | simp -implicitDefEqProofs only[goG,goW,goR,↓Jo,goS,↓reduceIte,reduceCtorEq,seval,Y,G])
  (lb:bs.length=r.ps.length:=by rfl) (lt:ts.length=r.qs.length:=by rfl) (op:once r.ps=true:=by rfl) (oq:once r.qs=true:=by rfl)
  (bwk:BWk r h 1 bs:=by first | (simp -implicitDefEqProofs only[goG,goW,goR,↓Jo,goS,↓reduceIte,reduceCtorEq,seval,Y]; done) | simp -implicitDefEqProofs only[goG,goW,goR,↓Jo,goS,↓reduceIte,reduceCtorEq,seval,Y,G])
  (twk:TWk r h (r.ps.length+1) ts:=by simp -implicitDefEqProofs only[goG,goW,goR,↓Jo,goS,↓reduceIte,reduceCtorEq,seval,Y])
  (rt:(r.ps.take nb == List.range' 1 nb)=true:=by rfl) (hn:nb≤bs.length:=by exact Nat.le_of_ble_eq_true rfl):QL t rs nb (.ret val bs ts) [] none σ h :=
 ⟨r,av,⟨lb,lt,op,oq,bwk,twk,rt,hn⟩,hr,hj,ha⟩
theorem xOv{rs:List ResultVar}{v:Value}(r:Ren)
  (lb:bs.length=r.ps.length:=by rfl) (lt:ts.length=r.qs.length:=by rfl) (op:once r.ps=true:=by rfl) (oq:once r.qs=true:=by rfl)
  (bwk:BWk r h 1 bs:=by first | (simp -implicitDefEqProofs only[goG,goW,goR,↓Jo,goS,↓reduceIte,reduceCtorEq,seval,Y]; done) | simp -implicitDefEqProofs only[goG,goW,goR,↓Jo,goS,↓reduceIte,reduceCtorEq,seval,Y,G])
  (twk:TWk r h (r.ps.length+1) ts:=by simp -implicitDefEqProofs only[goG,goW,goR,↓Jo,goS,↓reduceIte,reduceCtorEq,seval,Y])
  (rt:(r.ps.take nb == List.range' 1 nb)=true:=by rfl) (hn:nb≤bs.length:=by exact Nat.le_of_ble_eq_true rfl):QL t rs nb (.pan v bs ts) [] (some v) σ h :=
 ⟨rfl,r,⟨lb,lt,op,oq,bwk,twk,rt,hn⟩⟩
theorem xDr{d:DI}(r:Ren)(hr:(KK t.P σ h fn.results.toList).1:=by simp -implicitDefEqProofs only[goG,goQ,goR,↓Jo,goS,↓reduceIte,reduceCtorEq,seval,Y])
  (hj:(JdV (KK t.P σ h fn.results.toList).2).isSome=true:=by first | (simp -implicitDefEqProofs only[goG,goQ,goR,↓Jo,goS,↓reduceIte,reduceCtorEq,seval,Y]; done) | (simp -implicitDefEqProofs only[goG,goQ,goR,↓Jo,goS,↓reduceIte,reduceCtorEq,seval,Y]; rfl))
  (hd:dfL (σ DS)=[]:=by simp -implicitDefEqProofs only[goG,goR,↓Jo,goS,↓reduceIte,reduceCtorEq,seval,Y]) (hu:d.u'=d.u:=by rfl)
  (lb:d.bs'.length=r.ps.length:=by rfl) (lt:d.ts'.length=r.qs.length:=by rfl) (op:once r.ps=true:=by rfl) (oq:once r.qs=true:=by rfl)
  (bwk:BWk r h 1 d.bs':=by simp -implicitDefEqProofs only[goG,goW,goR,↓Jo,goS,↓reduceIte,reduceCtorEq,seval,Y])
  (twk:TWk r h (r.ps.length+1) d.ts':=by simp -implicitDefEqProofs only[goG,goW,goR,↓Jo,goS,↓reduceIte,reduceCtorEq,seval,Y])
  (rt:(r.ps.take d.bs.length == List.range' 1 d.bs.length)=true:=by rfl) (hn:d.bs.length≤d.bs'.length:=by exact Nat.le_of_ble_eq_true rfl):QDf t fn d .ret σ h :=
 ⟨⟨r,lb,lt,op,oq,bwk,twk,rt,hn⟩,hr,hj,hd,hu⟩
theorem xDn{d:DI}(r:Ren)(hr:(KK t.P σ h fn.results.toList).1:=by simp -implicitDefEqProofs only[goG,goQ,goR,↓Jo,goS,↓reduceIte,reduceCtorEq,seval,Y])
  (hj:(JdV (KK t.P σ h fn.results.toList).2).isSome=true:=by first | (simp -implicitDefEqProofs only[goG,goQ,goR,↓Jo,goS,↓reduceIte,reduceCtorEq,seval,Y]; done) | (simp -implicitDefEqProofs only[goG,goQ,goR,↓Jo,goS,↓reduceIte,reduceCtorEq,seval,Y]; rfl))
  (hd:dfL (σ DS)=[]:=by simp -implicitDefEqProofs only[goG,goR,↓Jo,goS,↓reduceIte,reduceCtorEq,seval,Y]) (hu:d.u'=d.u:=by rfl)
  (lb:d.bs'.length=r.ps.length:=by rfl) (lt:d.ts'.length=r.qs.length:=by rfl) (op:once r.ps=true:=by rfl) (oq:once r.qs=true:=by rfl)
  (bwk:BWk r h 1 d.bs':=by simp -implicitDefEqProofs only[goG,goW,goR,↓Jo,goS,↓reduceIte,reduceCtorEq,seval,Y])
  (twk:TWk r h (r.ps.length+1) d.ts':=by simp -implicitDefEqProofs only[goG,goW,goR,↓Jo,goS,↓reduceIte,reduceCtorEq,seval,Y])
  (rt:(r.ps.take d.bs.length == List.range' 1 d.bs.length)=true:=by rfl) (hn:d.bs.length≤d.bs'.length:=by exact Nat.le_of_ble_eq_true rfl):QDf t fn d .normal σ h :=
 xDr r hr hj hd hu lb lt op oq bwk twk rt hn
def Kok(P:Program)(N:Nat)(np:Bool)(S:GI→Prop):Prop:=Jc P N∧(∀ g,S g→Jm P N g)∧(np=true→∀ g,S g→∃ val bs ts,g.out=.ret val bs ts)
inductive GR (E R:Type) where
 | ok (r:R)
 | er (e:E)
def grB{E R β:Type}(x:Option (GR E R))(f:R→Option β)(g:E→Option β):Option β:=match x with
 | none=>none
 | some (.ok r)=>f r
 | some (.er e)=>g e
theorem Zy{E R β:Type}{x:Option (GR E R)}{f:R→Option β}{g:E→Option β}{o:β}(H:grB x f g=some o):
  (∃ r,x=some (.ok r)∧f r=some o)∨(∃ e,x=some (.er e)∧g e=some o):=by
 cases x with
 | none=>cases H
 | some q=>cases q with
  | ok r=>exact .inl ⟨r,rfl,H⟩
  | er e=>exact .inr ⟨e,rfl,H⟩
end Go.Proofs.YtfkhlbhjhdpkoaaGreatDoor
namespace Go.Proofs.YtfkhlbhjhdpkoaaGreatDoor
open Go.RowKit
end Go.Proofs.YtfkhlbhjhdpkoaaGreatDoor
namespace Go.Proofs.YtfkhlbhjhdpkoaaGreatDoor
open Go.RowKit
def Jxb:Bool×List C→D
 | (true,l)=>.ag (l.map C.toD)
 | (false,[c])=>c.toD
 | (false,_)=>.v undef
def Jud:Bool×List C→Bool
 | (true,l)=>l.all C.isD
 | (false,[c])=>c.isD
 | (false,_)=>false
def avD:AV→D
 | .tu l=>.tu (l.map Jxb)
 | a=>a.toD
def avOk:AV→Bool
 | .tu l=>l.all Jud
 | a=>a.isD
theorem RCs.toDs{e:Env}:∀ {l:List C} {vs:List Value},l.all C.isD=true→RCs e l vs→Rn e.w e.S (l.map C.toD) vs
 | [],[],_,_=>.anil
 | c::l,v::vs,h,⟨h1,h2⟩=>by
  simp only[List.all_cons,Bool.and_eq_true]at h
  exact .acons _ _ _ _ (RC.toD h.1 h1) (RCs.toDs h.2 h2)
 | [],_::_,_,h=>h.elim
 | _::_,[],_,h=>h.elim
theorem RT.toD{e:Env}{c:Bool×List C}{v:Value}(h:Jud c=true)(k:RT e c v):R1 e.w e.S (Jxb c) v:=by
 obtain⟨b,l⟩:=c
 cases b with
 | true =>
  obtain⟨vs,rfl,k⟩:=k
  exact .ag _ _ (RCs.toDs h k)
 | false =>
  obtain⟨c,h1,k⟩:=k
  have h1:l=[c]:=h1
  subst h1
  exact RC.toD h k
theorem RTs.toD{e:Env}:∀ {l:List (Bool×List C)} {vs:List Value},l.all Jud=true→RTs e l vs→Rn e.w e.S (l.map Jxb) vs
 | [],[],_,_=>.anil
 | c::l,v::vs,h,⟨h1,h2⟩=>by
  simp only[List.all_cons,Bool.and_eq_true]at h
  exact .acons _ _ _ _ (RT.toD h.1 h1) (RTs.toD h.2 h2)
 | [],_::_,_,h=>h.elim
 | _::_,[],_,h=>h.elim
theorem RA.avD{e:Env}{a:AV}{v:Value}(h:avOk a=true)(k:RA e a v):R1 e.w e.S (avD a) v:=by
 cases a with
 | tu l =>
  obtain⟨vs,rfl,k⟩:=k
  exact .tu _ _ (RTs.toD h k)
 | c x=>exact RA.toD (a:=.c x) h k
 | ag l=>exact RA.toD (a:=.ag l) h k
 | df l=>exact k.elim
theorem Jt5{P:Program}{f:Nat}{A R:Type}{enc:A→List D} [hi:IEnc enc] {fn:A→Option R} {e:R→D} {mk:R→AV} (hG:∀ a r,fn a=some r→Jm P f ⟨(enc a).map fun d=>.c (.d d),[],[],.ret (mk r) [] []⟩)
  (hmk:∀ r,avOk (mk r)=true∧avD (mk r)=e r):JF P f (PF.of enc fn e):=by
 intro w S args vs hg hargs hS hp
 obtain⟨a,r,hle,H⟩:=hp
 have hargs:=Je2 hle hargs
 rw[show(PF.of enc fn e).val args=e r from PF.of_vall hi.inj hle H]
 let e0:Env:=⟨w,S,fun _=>none,fun _=>none⟩
 have hw:WInv (ctxG P 0 0 e0) (hpL [] []) e0:=by
  constructor
  ·exact⟨hg,fun q hq=>⟨let ⟨_,_,h1,_⟩:=hg q hq; (Array.getElem?_eq_some_iff.1 h1).1,fun h=>by
    rcases h with⟨i,h1,h2,_⟩|⟨k,v,h1,h2,_⟩
    ·omega
    omega⟩⟩
  ·rfl
  ·rfl
  ·rfl
  ·exact Nat.le_refl _
  ·exact Nat.le_refl _
  ·intro b _ _; rfl
  ·exact hS
  ·intro b o h _; exact h
  ·exact hS
  ·exact Keep.refl _ _
  ·intro n row h
   exfalso
   obtain⟨h1,h2,_⟩:=Jlx h
   simp at h2; omega
  ·intro n m b h
   exfalso
   refine h ?_
   cases hh:(hpL [] []).H n with
   | none=>rfl
   | some row =>
    obtain⟨h1,h2,_⟩:=Jlx hh
    simp at h2; omega
  ·intro k ty h
   simp[hpL,hpT]at h
  ·intro k m v u b h
   exfalso
   refine h ?_
   simp[hpL,hpT]
  ·intro n hn
   refine⟨?_,by simp[hpL,hpT],rfl,rfl⟩
   cases hh:(hpL [] []).H n with
   | none=>rfl
   | some row =>
    obtain⟨h1,h2,_⟩:=Jlx hh
    simp at h2; omega
  ·exact Nat.one_pos
  exact⟨Nat.one_pos,fun i x hx=>by simp[ctxG]at hx⟩
 have hcan:JhB e0 0:=fun i _=>⟨rfl,rfl⟩
 have hra:∀ {l:List D} {vs:List Value},Rn w S l vs→RAs e0 (l.map fun d=>.c (.d d)) vs:=fun {l}=>by
  induction l with
  | nil=>intro vs h; cases h; trivial
  | cons d l ih=>intro vs h; cases h with | acons _ _ _ _ h1 h2=>exact⟨h1,ih h2⟩
 refine(hG a r H e0 vs hw hcan (hra hargs)).mono ?_
 rintro en w' ⟨v,e',rfl,rfl,⟨hi',_⟩,hv⟩
 have hM:∀ b,¬ MG 0 0 e0 b:=fun b h=>by
  rcases h with⟨i,h1,h2,_⟩|⟨k,v,h1,h2,_⟩
  ·omega
  omega
 refine⟨v,rfl,⟨hi'.os,hi'.tape,hi'.output,hi'.grown,fun k hk=>hi'.old k hk (hM k)⟩,?_⟩
 obtain⟨k1,k2⟩:=hmk r
 rw[← k2]
 exact RD.mono (fun b o x hc hs=>⟨hc,fun h=>hs (hi'.s0 b o h (hM b))⟩) (RA.avD k1 hv)
end Go.Proofs.YtfkhlbhjhdpkoaaGreatDoor
namespace Go.Proofs.YtfkhlbhjhdpkoaaGreatDoor
open Go.RowKit
abbrev FR(l:Nat):Fence:=Fence.wide.inRound l
theorem JCR{l:Nat}{o:Oper}(h:JaW o.op=false)(ρ:Operand→Value):o.semAt (FR l).round ρ=execOp ρ o :=
 Oper.semAt_some l ρ o fun c hc=>by rw[hc]at h; cases h
theorem JBJ{l n:Nat}{P:Program}{f:FuncId}{args:Array Value}{w:World}{R:Ending→World→Prop}(h:Calls P f args w R):CallsIn (FR l) n P f args w R:=CallsIn.inRound l (callsIn_wide.2 h)
theorem JCn{l n:Nat}{P:Program}{r:String}{args:Array Value}{w:World}{R:Value→World→Prop}(h:Rows P r args w R):RowsIn (FR l) n P r args w R :=
 fun c cs _=>let ⟨v,w',q,s⟩:=h c cs; ⟨v,w',q,stepsIn_wide.2 s⟩
theorem Jy6{l n:Nat}{P:Program}{o:Oper}{a:Act}{w:World}{K:Act→World→Prop}{Q:Exit→Act→World→Prop}(hd:JaW o.op=false)(h:o.wp P a w K Q):o.wpIn (FR l) n P a w K Q:=by
 refine⟨fun _ _=>trivial,?_⟩
 rw[JCR hd]
 unfold Oper.wp at h
 revert h
 generalize (execOp a.eval o).run P w=r
 intro h
 cases r with
 | ok x w'=>cases x <;> first | exact h | exact h.elim | exact⟨nofun,JBJ h⟩ | exact⟨nofun,JCn h⟩
 | halt x w'=>cases x <;> first | exact h | exact h.elim
theorem Jng{Γ:Ctx}{t:Tab}{l n:Nat}(ht:TabOk t)(hP:t.P=Γ.P){ops:Array Oper}{K:(Nat→AV)→Hp→Prop}{Kp:Value→Hp→Prop}{Q:Exit→Act→World→Prop}{σ0:Nat→AV}(hall:(ops.toList.all (opIn Γ.nt ops))=true)(hnd:∀ o∈ops.toList,JaW o.op=false)
  (hQ:∀ σ h a e,K σ h→Jv Γ.nt Γ.ds σ a e→WInv Γ h e→Q .normal a e.w)
  (hQp:∀ v h a e,Kp v h→Jv Γ.nt Γ.ds (Ku ops σ0) a e→WInv Γ h e→Q (.panic [{ v:=v,recovered:=false }]) a e.w):∀ (lo:List Oper),(∀ o∈lo,o∈ops.toList)→∀ (σ:Nat→AV) (h:Hp) (a:Act) (e:Env),
   Ku ops σ=Ku ops σ0→aOps t ops K Kp lo σ h→Jv Γ.nt Γ.ds σ a e→WInv Γ h e→wpListIn (FR l) n Γ.P ops Q lo a e.w
 | [],_,σ,h,a,e,_,hh,hs,hw=>hQ σ h a e hh hs hw
 | o::lo,hm,σ,h,a,e,hf,hh,hs,hw=>by
  have ho:=hm o (by simp)
  have hin:=List.all_eq_true.1 hall o ho
  have ih:=Jng (l:=l) (n:=n) ht hP hall hnd hQ hQp lo (fun o h=>hm o (by simp[h]))
  unfold wpListIn
  rcases JfJ hin hs hh with⟨hwant,hrun⟩|⟨hwant,hK⟩
  ·rw[if_pos hwant]
   refine Jy6 (hnd o ho) ?_
   have hop:=JhG hin hs
   unfold aRun at hrun
   split at hrun
   ·split at hrun
    ·exact JhD hop hs (Xj hin) hrun (fun hde=>absurd hde (by rw[hnd o ho]; decide)) (fun v hk=>hQp v h a e hk (by rw[← hf]; exact Jcv hall hs) hw)
    obtain⟨hpre,hK⟩:=hrun
    have hvr:VR Γ o σ h (aop t.P t.Φ t.Ψ o.op σ h).val (aop t.P t.Φ t.Ψ o.op σ h).h:=by
     have:=Jns (Γ:=Γ) (Φ:=t.Φ) (Ψ:=t.Ψ) (σ:=σ) (h:=h) (by rw[← hP]; exact ht.pf) (by rw[← hP]; exact ht.mf) o (by rw[← hP]; exact hpre)
     rw[← hP]at this
     exact this
    refine hvr a e hop hw _ _ fun v e' hw' hle hv=>?_
    exact ih _ _ _ _ (by rw[VY ho]; exact hf) hK ((hs.mono hle).put o.dst (Xj hin) hv) hw'
   rename_i x hx
   exact JgO ht hP hx hrun hop hw (fun av h' v e' hk hw' hle hv=>ih _ _ _ _ (by rw[VY ho]; exact hf) hk ((hs.mono hle).put o.dst (Xj hin) hv) hw')
    (fun v h' e' hk hw' hle=>hQp v h' a e' hk (by rw[← hf]; exact Jcv hall (hs.mono hle)) hw')
  rw[if_neg (by rw[hwant]; simp)]
  exact⟨fun _ _=>trivial,ih _ _ _ _ (by rw[VY ho]; exact hf) hK (hs.put o.dst (Xj hin) (RA.undef e)) hw⟩
section
variable {t:Tab} {ops:Array Oper}
theorem JiL{Γ:Ctx}{l n:Nat}(ht:TabOk t)(hP:t.P=Γ.P){K:(Nat→AV)→Hp→Prop}{Kp:Value→Hp→Prop}{Q:Exit→Act→World→Prop}{σ0:Nat→AV}(hall:(ops.toList.all (opIn Γ.nt ops))=true)(hnd:∀ o∈ops.toList,JaW o.op=false)
  (hQ:∀ σ h a e,K σ h→Jv Γ.nt Γ.ds σ a e→WInv Γ h e→Q .normal a e.w)
  (hQp:∀ v h a e,Kp v h→Jv Γ.nt Γ.ds (Ku ops σ0) a e→WInv Γ h e→Q (.panic [{ v:=v,recovered:=false }]) a e.w):∀ (fuel:Nat) (listed:Array Bool) (σ:Nat→AV) (h:Hp) (a:Act) (e:Env),
   Ku ops σ=Ku ops σ0→aAny t ops K Kp fuel listed σ h→Jv Γ.nt Γ.ds σ a e→WInv Γ h e→wpAnyIn (FR l) n Γ.P .any ops Q fuel listed a e.w
 | 0,_,σ,h,a,e,_,hh,hs,hw=>⟨hh.1,hQ σ h a e hh.2 hs hw⟩
 | fuel+1,listed,σ,h,a,e,hfg,hh,hs,hw=>by
  refine⟨fun h0=>hQ σ h a e (hh.1 h0) hs hw,fun i hi=>?_⟩
  have ih:=JiL (l:=l) (n:=n) ht hP hall hnd hQ hQp fuel (listed.setIfInBounds i true)
  have h1:=hh.2 i hi
  obtain⟨_,o,ho,_⟩:=mem_ready.1 hi
  have hmem:o∈ops.toList:=by simpa using Array.mem_of_getElem? ho
  simp only[JgM,ho]at h1
  simp only[wpOpIn,ho]
  have hin:=List.all_eq_true.1 hall o hmem
  rcases JfJ hin hs h1 with⟨hwant,hrun⟩|⟨hwant,hK⟩
  ·rw[if_pos hwant]
   refine Jy6 (hnd o hmem) ?_
   have hop:=JhG hin hs
   unfold aRun at hrun
   split at hrun
   ·by_cases hdp:isDP o.op=true
    ·rw[if_pos hdp]at hrun
     exact JhD hop hs (Xj hin) hrun (fun hde=>absurd hde (by rw[hnd o hmem]; decide)) (fun v hk=>hQp v h a e hk (by rw[← hfg]; exact Jcv hall hs) hw)
    rw[if_neg hdp]at hrun
    obtain⟨hpre,hK⟩:=hrun
    have hvr:VR Γ o σ h (aop t.P t.Φ t.Ψ o.op σ h).val (aop t.P t.Φ t.Ψ o.op σ h).h:=by
     have:=Jns (Γ:=Γ) (Φ:=t.Φ) (Ψ:=t.Ψ) (σ:=σ) (h:=h) (by rw[← hP]; exact ht.pf) (by rw[← hP]; exact ht.mf) o (by rw[← hP]; exact hpre)
     rw[← hP]at this
     exact this
    exact hvr a e hop hw _ _ fun v e' hw' hle hv=>ih _ _ _ _ (by rw[VY hmem]; exact hfg) hK ((hs.mono hle).put o.dst (Xj hin) hv) hw'
   rename_i x hx
   exact JgO ht hP hx hrun hop hw (fun av h' v e' hk hw' hle hv=>ih _ _ _ _ (by rw[VY hmem]; exact hfg) hk ((hs.mono hle).put o.dst (Xj hin) hv) hw')
    (fun v h' e' hk hw' hle=>hQp v h' a e' hk (by rw[← hfg]; exact Jcv hall (hs.mono hle)) hw')
  rw[if_neg (by rw[hwant]; simp)]
  exact⟨fun _ _=>trivial,ih _ _ _ _ (by rw[VY hmem]; exact hfg) hK (hs.put o.dst (Xj hin) (RA.undef e)) hw⟩
theorem JtC{Γ:Ctx}{pure:Nat→Nat}{l n:Nat}(ht:TabOk t)(hP:t.P=Γ.P)(hm:Γ.P.follows .mixedOrders=true)(hpure:∀ n,pure n=0→(t.Φ n).isSome)(hnp:∀ n,pure n=1→∀ g,t.G n g→∃ val bs ts,g.out=.ret val bs ts){K:(Nat→AV)→Hp→Prop}{Kp:Value→Hp→Prop}{Q:Exit→Act→World→Prop}{id:Nat}{draw:Bool}
  (hall:(ops.toList.all (opIn Γ.nt ops))=true) (hd:draw=true→(t.lk.contains id=true∨Jn6 pure ops=true)) (hnd:(ops.toList.all fun o=>!JaW o.op)=true) {σ:Nat→AV} {h:Hp} {a:Act} {e:Env}
  (hQ:∀ σ h a e,K σ h→Jv Γ.nt Γ.ds σ a e→WInv Γ h e→Q .normal a e.w)
  (hQp:∀ v h a e,Kp v h→Jv Γ.nt Γ.ds (Ku ops σ) a e→WInv Γ h e→Q (.panic [{ v:=v,recovered:=false }]) a e.w) (hh:aReg t id ops draw K Kp σ h) (hs:Jv Γ.nt Γ.ds σ a e) (hw:WInv Γ h e) :
  (Code.region id ops draw).wpIn (FR l) n Γ.P Q a e.w:=by
 have hnd:∀ o∈ops.toList,JaW o.op=false:=fun o ho=>by simpa using List.all_eq_true.1 hnd o ho
 cases draw with
 | false=>exact wpIn_region_list (Jng ht hP hall hnd hQ hQp ops.toList (fun _ h=>h) σ h a e rfl (by simpa [aReg] using hh) hs hw)
 | true =>
  have hlex:=hd rfl
  obtain⟨w1,l1⟩:=hw.drewn
  refine wpIn_region_any hm ?_
  by_cases hlk:t.lk.contains id=true
  ·have h2:=JiL (l:=l) (n:=n) ht hP hall hnd hQ hQp ops.size _ σ h a _ rfl (by simp only[aReg,hlk,Bool.and_self,if_true]at hh; exact hh hw.fr) (hs.mono l1) w1
   simpa using h2
  have hlex:=hlex.resolve_left hlk
  simp only[aReg,hlk,Bool.and_false,if_false,Bool.false_eq_true]at hh
  have h0:∀ m,(Array.replicate ops.size false).getD m false=false:=fun m=>by
   simp only[Array.getD_eq_getD_getElem?,Array.getElem?_replicate]
   split <;> rfl
  have h1:=Jms (t:=t) (ops:=ops) (K:=K) (Kp:=Kp) hpure hnp ops.toList 0 (Array.replicate ops.size false) σ h (by simp[unl]) hw.fr (fun m o _ hm=>by rw[h0]at hm; cases hm) (fun m hm=>by rw[h0]at hm; cases hm) (by simp) (by simpa [Jn6] using hlex) hh
  have h2:=JiL (l:=l) (n:=n) ht hP hall hnd hQ hQp ops.toList.length _ σ h a _ rfl h1 (hs.mono l1) w1
  simpa using h2
end
def JaX:Code→Bool
 | .region _ ops _=>ops.toList.all fun o=>!JaW o.op
 | .seq a b=>JaX a && JaX b
 | .cond _ a b=>JaX a && JaX b
 | .block _ b=>JaX b
 | .loop b=>JaX b
 | _=>true
theorem JdF{Γ:Ctx}{t:Tab}{pure:Nat→Nat}{l n:Nat}(ht:TabOk t)(hP:t.P=Γ.P)(hrt:Γ.root.length=t.rt)(hm:Γ.P.follows .mixedOrders=true)(hpure:∀ n,pure n=0→(t.Φ n).isSome)(hnp:∀ n,pure n=1→∀ g,t.G n g→∃ val bs ts,g.out=.ret val bs ts)(hlk:t.lk.contains 999999=true):
  ∀ (c:Code) (Q:Kl) (Q':Exit→Act→World→Prop),Kd pure t.lk Γ.nt c=true→JaX c=true→(∀ ex σ h a e,Q ex σ h→Jv Γ.nt Γ.ds σ a e→WInv Γ h e→Q' ex a e.w) →
   ∀ (σ:Nat→AV) (h:Hp) (a:Act) (e:Env),aC t c σ h Q→Jv Γ.nt Γ.ds σ a e→WInv Γ h e→c.wpIn (FR l) n Γ.P Q' a e.w
 | .skip,Q,Q',hc,hd,hQ,σ,h,a,e,hh,hs,hw=>wpIn_skip (hQ _ _ _ _ _ hh hs hw)
 | .region id ops draw,Q,Q',hc,hd,hQ,σ,h,a,e,hh,hs,hw=>by
  simp only[Kd,Bool.and_eq_true,Bool.or_eq_true]at hc
  obtain⟨hc,hnt⟩:=hc
  obtain⟨σ1,h1,hwk,hh⟩:=hh
  obtain⟨e1,he,hs,hw⟩:=hwk Γ a e hrt hs hw
  rw[← he]
  rcases hh with hh | ⟨σ2,h2,hr,hq⟩
  case inr=>exact absurd (hr.1.symm.trans hlk) (by decide)
  exact JtC ht hP hm hpure hnp hc.1.1 (fun hd=>by rcases hc.2 with h | h; rw[hd]at h; cases h; exact h.1) hd (fun σ h a e hk=>hQ _ σ h a e hk) (fun v h a e hk=>hQ _ _ h a e hk) hh hs hw
 | .seq x y,Q,Q',hc,hd,hQ,σ,h,a,e,hh,hs,hw=>by
  simp only[Kd,Bool.and_eq_true]at hc
  simp only[JaX,Bool.and_eq_true]at hd
  refine wpIn_seq (JdF ht hP hrt hm hpure hnp hlk x _ _ hc.1 hd.1 (fun ex σ h a e hk hs hw=>?_) σ h a e hh hs hw)
  cases ex with
  | normal =>
   obtain⟨σ2,h2,hwk,hk⟩:=hk
   obtain⟨e2,he,hs2,hw2⟩:=hwk Γ a e hrt hs hw
   rw[← he]
   exact JdF ht hP hrt hm hpure hnp hlk y Q Q' hc.2 hd.2 hQ σ2 h2 a e2 (hk.get hw2.good) hs2 hw2
  | exit id=>exact hQ _ _ _ _ _ hk hs hw
  | goto l=>exact hQ _ _ _ _ _ hk hs hw
  | ret=>exact hQ _ _ _ _ _ hk hs hw
  | panic ch=>exact hQ _ _ _ _ _ hk hs hw
  | outgrown=>exact hQ _ _ _ _ _ hk hs hw
 | .cond c x y,Q,Q',hc,hd,hQ,σ,h,a,e,hh,hs,hw=>by
  simp only[Kd,Bool.and_eq_true]at hc
  simp only[JaX,Bool.and_eq_true]at hd
  simp only[aC]at hh
  split at hh
  ·rename_i p hp
   have hr:=Jlu hs c (fun t ht=>by subst ht; simpa using hc.1.1)
   rw[hp]at hr
   have hr:=R1.vInv hr
   exact wpIn_cond_split hr (fun h1=>JdF ht hP hrt hm hpure hnp hlk x Q Q' hc.1.2 hd.1 hQ σ h a e (hh.1 h1) hs hw) (fun h1=>JdF ht hP hrt hm hpure hnp hlk y Q Q' hc.2 hd.2 hQ σ h a e (hh.2 h1) hs hw)
  exact hh.elim
 | .block id b,Q,Q',hc,hd,hQ,σ,h,a,e,hh,hs,hw=>by
  refine wpIn_block (JdF ht hP hrt hm hpure hnp hlk b _ _ hc hd (fun ex σ h a e hk hs hw=>?_) σ h a e hh hs hw)
  cases ex with
  | normal=>exact hQ _ _ _ _ _ hk hs hw
  | exit j =>
   simp only[Exit.inBlock]
   simp only at hk
   split at hk
   ·rename_i hj; rw[if_pos hj]; exact hQ _ _ _ _ _ hk hs hw
   rename_i hj; rw[if_neg hj]; exact hQ _ _ _ _ _ hk hs hw
  | goto l=>exact hQ _ _ _ _ _ hk hs hw
  | ret=>exact hQ _ _ _ _ _ hk hs hw
  | panic ch=>exact hQ _ _ _ _ _ hk hs hw
  | outgrown=>exact hQ _ _ _ _ _ hk hs hw
 | .loop b,Q,Q',hc,hd,hQ,σ,h,a,e,hh,hs,hw=>by
  obtain⟨I,⟨n₀,σ1,h1,hwk,h0⟩,hround⟩:=hh
  obtain⟨e1,he,hs1,hw1⟩:=hwk Γ a e hrt hs hw
  refine wpIn_loop_ghost (fun n a' w'=>∃ σ' h' e',e'.w=w'∧I n σ' h'∧Jv Γ.nt Γ.ds σ' a' e'∧WInv Γ h' e') n₀ ⟨σ1,h1,e1,he,h0,hs1,hw1⟩ ?_
  rintro n a' w' ⟨σ',h',e',rfl,hI,hs',hw'⟩
  refine JdF ht hP hrt hm hpure hnp hlk b _ _ hc hd (fun ex σ h a e hk hs hw=>?_) σ' h' a' e' (hround n σ' h' hI hw'.good) hs' hw'
  cases ex with
  | normal =>
   obtain⟨m,σ3,h3,hm,hwk,hI'⟩:=hk
   obtain⟨e3,he3,hs3,hw3⟩:=hwk Γ a e hrt hs hw
   exact⟨m,hm,σ3,h3,e3,he3,hI',hs3,hw3⟩
  | exit id=>exact hQ _ _ _ _ _ hk hs hw
  | goto l=>exact hQ _ _ _ _ _ hk hs hw
  | ret=>exact hQ _ _ _ _ _ hk hs hw
  | panic ch=>exact hQ _ _ _ _ _ hk hs hw
  | outgrown=>exact hQ _ _ _ _ _ hk hs hw
 | .exit id,Q,Q',_,_,hQ,σ,h,a,e,hh,hs,hw=>wpIn_exit (hQ _ _ _ _ _ hh hs hw)
 | .ret,Q,Q',_,_,hQ,σ,h,a,e,hh,hs,hw=>wpIn_ret (hQ _ _ _ _ _ hh hs hw)
 | .rangeFunc _ _ _ _,_,_,_,_,_,_,_,_,_,hh,_,_=>hh.elim
 | .scope _,_,_,_,_,_,_,_,_,_,hh,_,_=>hh.elim
 | .label _,_,_,_,_,_,_,_,_,_,hh,_,_=>hh.elim
 | .goto _,_,_,_,_,_,_,_,_,_,hh,_,_=>hh.elim
 | .refuse _,_,_,_,_,_,_,_,_,_,hh,_,_=>hh.elim
def ownB(h:Hp)(e:Env)(b:Nat):Prop:=(∃ n,h.H n≠none∧e.ρ n=some b)∨∃ k v,h.T k≠none∧e.τ k=some v∧v.ownBlock=some b∧¬ Vk v
theorem WInv.own{Γ:Ctx}{h:Hp}{e:Env}(hw:WInv Γ h e){b:Nat}(hb:ownB h e b):(Γ.B≤b∨Γ.M b)∧∃ cs ty fz,e.w.heap[b]? = some (.cells cs ty fz):=by
 rcases hb with⟨n,hn,hρ⟩|⟨k,v,hk,hτ,hv,hf⟩
 ·obtain⟨row,hr⟩:=Option.ne_none_iff_exists'.1 hn
  obtain⟨ob,h1,h2,_,h4⟩:=hw.boxAny hρ row hr
  refine⟨h4,?_⟩
  unfold RO at h2
  split at h2
  ·obtain⟨_,cs,fz,_,rfl,_⟩:=h2; exact⟨_,_,_,h1⟩
  obtain⟨cs,ty,rfl,_⟩:=h2; exact⟨_,_,_,h1⟩
 obtain⟨ty,hty⟩:=Option.ne_none_iff_exists'.1 hk
 obtain⟨_,u,h1,hor⟩:=hw.tok k ty hty
 rw[hτ]at h1; simp at h1; subst h1
 obtain⟨sz,n,xs,_,h2,_⟩:=hor.resolve_left hf
 refine⟨h2.2 b hv,?_⟩
 rcases h2.1.2 with⟨rfl,_⟩|⟨g,cap,cur,rfl,_,r2,_⟩
 ·cases hv
 simp[Value.ownBlock]at hv; subst hv; exact⟨_,_,_,r2⟩
def Ctx.rb(Γ:Ctx)(h:Hp)(e:Env)(ds:List Deferred)(rt:List (Option Nat×Option Value)):Ctx:={ Γ with w0:=e.w,B:=e.w.heap.size,S0:=e.S,M:=ownB h e,ds:=ds,root:=rt }
theorem WInv.rb{Γ:Ctx}{h:Hp}{e:Env}(hw:WInv Γ h e)(ds:List Deferred){rt:List (Option Nat×Option Value)}(hr:rt.length<h.nx∧∀ i x,rt[i]? = some x→e.ρ (i+1)=x.1∧e.τ (i+1)=x.2):WInv (Γ.rb h e ds rt) h e:=by
 constructor
 ·refine⟨hw.gw,fun q hq=>?_⟩
  obtain⟨g1,g2⟩:=hw.g0.2 q hq
  exact⟨Nat.lt_of_lt_of_le g1 hw.hB,fun hb=>by rcases (hw.own hb).1 with h | h; omega; exact g2 h⟩
 ·rfl
 ·rfl
 ·rfl
 ·exact Nat.le_refl _
 ·exact Nat.le_refl _
 ·intro b _ _; rfl
 ·exact hw.sdom
 ·intro b o h _; exact h
 ·exact hw.sdom
 ·exact Keep.refl _ _
 ·intro n row hn
  rcases hw.box n row hn with hz | ⟨b,ob,h1,h2,h3,h4,_⟩
  ·exact .inl hz
  exact .inr ⟨b,ob,h1,h2,h3,h4,.inr (.inl ⟨n,by rw[hn]; simp,h1⟩)⟩
 ·exact hw.inj
 ·intro k ty hk
  obtain⟨h0,v,h1,hor⟩:=hw.tok k ty hk
  by_cases hf:Vk v
  ·exact⟨h0,v,h1,.inl hf⟩
  obtain⟨sz,n,xs,hsz,h2,h3⟩:=hor.resolve_left hf
  exact⟨h0,v,h1,.inr ⟨sz,n,xs,hsz,⟨h2.1,fun b hb=>.inr (.inr ⟨k,v,by rw[hk]; simp,h1,hb,hf⟩)⟩,h3⟩⟩
 ·exact hw.tokinj
 ·exact hw.fresh
 ·exact hw.nx0
 exact hr
theorem WInv.unrb{Γ:Ctx}{h h2:Hp}{e e2:Env}{ds:List Deferred}{rt:List (Option Nat×Option Value)}(hroot:Γ.root=[])(hw:WInv Γ h e)(hk:WInv (Γ.rb h e ds rt) h2 e2):WInv Γ h2 e2:=by
 have hM:∀ b,b<Γ.B→¬ Γ.M b→¬ ownB h e b:=fun b hb hm ho=>by rcases (hw.own ho).1 with h | h; omega; exact hm h
 have hBM:∀ b,(e.w.heap.size≤b∨ownB h e b)→Γ.B≤b∨Γ.M b:=fun b hb=>by
  rcases hb with hb | hb
  ·exact .inl (Nat.le_trans hw.hB hb)
  exact(hw.own hb).1
 constructor
 ·exact hw.g0
 ·exact hk.os.trans hw.os
 ·exact hk.tape.trans hw.tape
 ·exact hk.output.trans hw.output
 ·exact Nat.le_trans hw.grown hk.grown
 ·exact Nat.le_trans hw.hB hk.grown
 ·intro b hb hm
  exact(hk.old b (Nat.lt_of_lt_of_le hb hw.hB) (hM b hb hm)).trans (hw.old b hb hm)
 ·exact hk.sdom
 ·intro b o h0 hm
  exact hk.s0 b o (hw.s0 b o h0 hm) (hM b (hw.s0B b o h0) hm)
 ·exact hw.s0B
 ·exact hw.keep.trans hk.keep
 ·intro n row hn
  rcases hk.box n row hn with hz | ⟨b,ob,h1,h2,h3,h4,h5⟩
  ·exact .inl hz
  exact .inr ⟨b,ob,h1,h2,h3,h4,hBM b h5⟩
 ·exact hk.inj
 ·intro k ty hkt
  obtain⟨h0,v,h1,hor⟩:=hk.tok k ty hkt
  refine⟨h0,v,h1,hor.imp id ?_⟩
  rintro ⟨sz,n,xs,hsz,h2,h3⟩
  exact⟨sz,n,xs,hsz,⟨h2.1,fun b hb=>hBM b (h2.2 b hb)⟩,h3⟩
 ·exact hk.tokinj
 ·exact hk.fresh
 ·exact hk.nx0
 exact⟨by rw[hroot]; exact hk.nx0,fun i x hx=>by rw[hroot]at hx; cases hx⟩
theorem WInv.stays{Γ:Ctx}{h h2:Hp}{e e2:Env}{ds:List Deferred}{rt:List (Option Nat×Option Value)}(hw:WInv Γ h e)(hk:WInv (Γ.rb h e ds rt) h2 e2){l:Nat}{o:Obj}(hl:e.w.heap[l]? = some o)(ho:∀ cs ty fz,o≠.cells cs ty fz):e2.w.heap[l]? = some o :=
 (hk.old l (Array.getElem?_eq_some_iff.1 hl).1 (fun hb=>by obtain⟨_,cs,ty,fz,h1⟩:=hw.own hb; rw[hl]at h1; cases h1; exact ho _ _ _ rfl)).trans hl
theorem WInv.foreign{Γ:Ctx}{h:Hp}{e:Env}(hw:WInv Γ h e){l:Nat}{o o':Obj}(hl:e.w.heap[l]? = some o)(ho:o.isCells=false)(ho':o'.isCells=false)(hB:Γ.B≤l):
  WInv Γ h { e with w:=e.w.putObj l o' }∧e.le { e with w:=e.w.putObj l o' }:=by
 have hne:∀ b cs ty fz,e.w.heap[b]? = some (.cells cs ty fz)→b≠l:=fun b cs ty fz hb hbl=>by subst hbl; rw[hl]at hb; cases hb; cases ho
 have hoth:∀ b,b≠l→(e.w.putObj l o').heap[b]? = e.w.heap[b]? := fun b hb=>World.putObj_heap_other hb
 have hle:e.le { e with w:=e.w.putObj l o' }:=⟨fun b i x hc hs=>by
  refine⟨?_,hs⟩
  have hbl:b≠l:=fun hbl=>by
   subst hbl
   unfold World.cell? at hc
   rw[hl]at hc
   cases o with
   | cells=>cases ho
   | _=>cases hc
  exact(World.cell?_of_block (hoth b hbl)).trans hc,fun _ _ h=>h,fun _ _ h=>h⟩
 refine⟨?_,hle⟩
 constructor
 ·exact hw.g0
 ·exact hw.os
 ·exact hw.tape
 ·exact hw.output
 ·show Γ.w0.heap.size≤(e.w.putObj l o').heap.size
  rw[World.putObj_size]; exact hw.grown
 ·show Γ.B≤(e.w.putObj l o').heap.size
  rw[World.putObj_size]; exact hw.hB
 ·intro b hb hm
  exact(hoth b (by omega)).trans (hw.old b hb hm)
 ·intro b o hb
  show b<(e.w.putObj l o').heap.size
  rw[World.putObj_size]; exact hw.sdom b o hb
 ·exact hw.s0
 ·exact hw.s0B
 ·exact hw.keep.trans hle.keep
 ·intro n row hn
  rcases hw.box n row hn with hz | ⟨b,ob,h1,h2,h3,h4,h5⟩
  ·exact .inl hz
  obtain⟨_,cs,ty,fz,hc⟩:=hw.own (b:=b) (.inl ⟨n,by rw[hn]; simp,h1⟩)
  exact .inr ⟨b,ob,h1,(hoth b (hne b _ _ _ hc)).trans h2,RO.mono hle h3,h4,h5⟩
 ·exact hw.inj
 ·intro k ty hk
  obtain⟨h0,v,h1,hor⟩:=hw.tok k ty hk
  by_cases hf:Vk v
  ·exact⟨h0,v,h1,.inl hf⟩
  obtain⟨sz,n,xs,hsz,h2,h3,h4⟩:=hor.resolve_left hf
  have hsame:∀ b,v.ownBlock=some b→(e.w.putObj l o').heap[b]? = e.w.heap[b]? := fun b hb=>by
   obtain⟨_,cs,ty',fz,hc⟩:=hw.own (b:=b) (.inr ⟨k,v,by rw[hk]; simp,h1,hb,hf⟩)
   exact hoth b (hne b _ _ _ hc)
  refine⟨h0,v,h1,.inr ⟨sz,n,xs,hsz,⟨ZC h2.1 hsame,h2.2⟩,fun b o hb ho hc=>?_,h4⟩⟩
  exact h3 b o hb ho (by rw[← World.cell?_of_block (hsame b hb)]; exact hc)
 ·exact hw.tokinj
 ·exact hw.fresh
 ·exact hw.nx0
 exact hw.rt
end Go.Proofs.YtfkhlbhjhdpkoaaGreatDoor
namespace Go.Proofs.YtfkhlbhjhdpkoaaGreatDoor
open Go.RowKit
def splV(c:UInt8):List UInt8→List (List UInt8)
 | []=>[[]]
 | x::r=>if x=c then []::splV c r else match splV c r with | p::ps=>(x::p)::ps | []=>[[x]]
theorem JkJ{c:UInt8}:∀ {l:List UInt8},(∀ k:Nat,l[k]?≠some c)→splV c l=[l]
 | [],_=>rfl
 | x::r,h=>by
  have hx:x≠c:=fun e=>h 0 (by simp[e])
  have hr:=JkJ (l:=r) (fun k=>by simpa using h (k+1))
  unfold splV
  rw[if_neg hx,hr]
theorem Jk3{c:UInt8}:∀ {l:List UInt8} {o:Nat},l[o]? = some c→(∀ k:Nat,k<o→l[k]?≠some c)→splV c l=l.take o::splV c (l.drop (o+1))
 | [],o,h,_=>by simp at h
 | x::r,0,h,_=>by
  have:x=c:=by simpa using h
  rw[splV.eq_2,if_pos this]; simp
 | x::r,o+1,h,hk=>by
  have hx:x≠c:=fun e=>hk 0 (by omega) (by simp[e])
  have hr:=Jk3 (l:=r) (o:=o) (by simpa using h) (fun k hko=>by simpa using hk (k+1) (by omega))
  rw[splV.eq_2,if_neg hx,hr]; simp
end Go.Proofs.YtfkhlbhjhdpkoaaGreatDoor
namespace Go.Proofs.YtfkhlbhjhdpkoaaGreatDoor
open Go.RowKit
def bsl(l:List UInt8):ByteArray:=⟨⟨l⟩⟩
def Jly(P:Program)(N:Nat):Prop:=(∀ args w,(callFunc N args).run P w=.ok (.enter N args) w) ∧
 ∀ (l bs bp bk n:Nat),1≤n→∀ (c:UInt8) (t0:List UInt8),t0.length≤4611686018427387904→∀ (J:Nat→ByteArray→World→Prop) (Jx:World→Prop),bs≠bp∧bs≠bk →
  (∀ k s W,J k s W→W.cell? ⟨bs,0,none⟩=some (.string s)∧W.cell? ⟨bp,0,none⟩=some (.string ⟨#[c]⟩)∧W.cell? ⟨bk,0,none⟩=some (.int .i64 0)∧W.frozen? ⟨bs,0,none⟩=false) →
  (∀ k s s' W,J k s W→J k s' (W.setCell ⟨bs,0,none⟩ (.string s'))) →
  (∀ k s x W,J k s W→(splV c t0)[k]? = some x→YieldAt Fence.wide (n-1) P l #[.string (bsl x)] W fun e W'=>(e=.returned (.bool true)∧J (k+1) s W')∨(e=.returned (.bool false)∧Jx W')) →
  ∀ W,J 0 (bsl t0) W→CallsIn Fence.wide n P N #[.func (.yield l) #[] #[],.pointer (some ⟨bp,0,none⟩),.pointer (some ⟨bs,0,none⟩),.pointer (some ⟨bk,0,none⟩)] W fun e W'=>(∃ v,e=.returned v) ∧
   ((∃ s,J (splV c t0).length s W')∨Jx W')
structure Loose (Γ:Ctx) (h:Hp) (e:Env) (b:Nat) (v:Value):Prop where
 lo:Γ.B≤b
 no:¬ ownB h e b
 hp:∃ ty,e.w.heap[b]? = some (.cells #[v] ty (0,0))
 S:e.S b 0
theorem Loose.cell{Γ:Ctx}{h:Hp}{e:Env}{b:Nat}{v:Value}(k:Loose Γ h e b v):e.w.cell? ⟨b,0,none⟩=some v:=by
 obtain⟨ty,hb⟩:=k.hp
 exact Jg7 hb (by simp)
theorem Loose.frozen{Γ:Ctx}{h:Hp}{e:Env}{b:Nat}{v:Value}(k:Loose Γ h e b v):e.w.frozen? ⟨b,0,none⟩=false:=by
 obtain⟨ty,hb⟩:=k.hp
 simp[World.frozen?,hb]
theorem Loose.stays{Γ:Ctx}{h h2:Hp}{e e2:Env}{b:Nat}{v:Value}{ds:List Deferred}{rt:List (Option Nat×Option Value)}(k:Loose Γ h e b v)(hk:WInv (Γ.rb h e ds rt) h2 e2):Loose Γ h2 e2 b v:=by
 obtain⟨ty,hb⟩:=k.hp
 have hlt:=(Array.getElem?_eq_some_iff.1 hb).1
 refine⟨k.lo,fun ho=>?_,⟨ty,(hk.old b hlt k.no).trans hb⟩,hk.s0 b 0 k.S k.no⟩
 rcases (hk.own ho).1 with h1 | h1
 ·exact absurd hlt (Nat.not_lt.2 h1)
 exact k.no h1
theorem Loose.foreign{Γ:Ctx}{h:Hp}{e:Env}{b l:Nat}{v:Value}{o o':Obj}(k:Loose Γ h e b v)(hl:e.w.heap[l]? = some o)(ho:o.isCells=false):Loose Γ h { e with w:=e.w.putObj l o' } b v:=by
 obtain⟨ty,hb⟩:=k.hp
 have hne:b≠l:=fun he=>by subst he; rw[hl]at hb; cases hb; cases ho
 exact⟨k.lo,k.no,⟨ty,(World.putObj_heap_other hne).trans hb⟩,k.S⟩
theorem JbH(w:World)(b i:Nat)(v:Value)(h:i≠b):(w.setCell ⟨b,0,none⟩ v).heap[i]? = w.heap[i]? := by
 simp[World.setCell,Array.getElem?_modify,Ne.symm h]
theorem JlM{w:World}{b:Nat}{u v:Value}{ty:TypeId}(h:w.heap[b]? = some (.cells #[u] ty (0,0))):(w.setCell ⟨b,0,none⟩ v).heap[b]? = some (.cells #[v] ty (0,0)):=by
 simp[World.setCell,Array.getElem?_modify,h]
theorem Loose.set{Γ:Ctx}{h:Hp}{e:Env}(hw:WInv Γ h e){b:Nat}{u:Value}(k:Loose Γ h e b u)(v:Value):
  WInv Γ h { e with w:=e.w.setCell ⟨b,0,none⟩ v }∧e.le { e with w:=e.w.setCell ⟨b,0,none⟩ v }∧Loose Γ h { e with w:=e.w.setCell ⟨b,0,none⟩ v } b v:=by
 obtain⟨ty,hb⟩:=k.hp
 have hoth:∀ i,i≠b→(e.w.setCell ⟨b,0,none⟩ v).heap[i]? = e.w.heap[i]? := fun i hi=>JbH _ _ _ _ hi
 have hle:e.le { e with w:=e.w.setCell ⟨b,0,none⟩ v }:=⟨fun i o x hc hs=>by
  refine⟨?_,hs⟩
  have hne:i≠b:=fun he=>by
   subst he
   have ho:o=0:=by
    unfold World.cell? at hc
    rw[hb]at hc
    have:o<(#[u]:Array Value).size:=by
     have:=(Array.getElem?_eq_some_iff.1 (show(#[u]:Array Value)[o]? = some x by simpa using hc)).1
     exact this
    simpa using this
   subst ho
   exact hs k.S
  exact(World.cell?_of_block (hoth i hne)).trans hc,fun _ _ h=>h,fun _ _ h=>h⟩
 have hown:∀ i,ownB h e i→i≠b:=fun i hi he=>k.no (he ▸ hi)
 refine⟨?_,hle,⟨k.lo,k.no,⟨ty,JlM hb⟩,k.S⟩⟩
 constructor
 ·exact hw.g0
 ·exact hw.os
 ·exact hw.tape
 ·exact hw.output
 ·show Γ.w0.heap.size≤(e.w.setCell ⟨b,0,none⟩ v).heap.size
  rw[World.size_setCell]; exact hw.grown
 ·show Γ.B≤(e.w.setCell ⟨b,0,none⟩ v).heap.size
  rw[World.size_setCell]; exact hw.hB
 ·intro i hi hm
  exact(hoth i (by have:=k.lo; omega)).trans (hw.old i hi hm)
 ·intro i o hi
  show i<(e.w.setCell ⟨b,0,none⟩ v).heap.size
  rw[World.size_setCell]; exact hw.sdom i o hi
 ·exact hw.s0
 ·exact hw.s0B
 ·exact hw.keep.trans hle.keep
 ·intro n row hn
  rcases hw.box n row hn with hz | ⟨i,ob,h1,h2,h3,h4,h5⟩
  ·exact .inl hz
  exact .inr ⟨i,ob,h1,(hoth i (hown i (.inl ⟨n,by rw[hn]; simp,h1⟩))).trans h2,RO.mono hle h3,h4,h5⟩
 ·exact hw.inj
 ·intro j tj hk
  obtain⟨h0,u,h1,hor⟩:=hw.tok j tj hk
  by_cases hf:Vk u
  ·exact⟨h0,u,h1,.inl hf⟩
  obtain⟨sz,n,xs,hsz,h2,h3,h4⟩:=hor.resolve_left hf
  have hsame:∀ i,u.ownBlock=some i→(e.w.setCell ⟨b,0,none⟩ v).heap[i]? = e.w.heap[i]? := fun i hi=>hoth i (hown i (.inr ⟨j,u,by rw[hk]; simp,h1,hi,hf⟩))
  refine⟨h0,u,h1,.inr ⟨sz,n,xs,hsz,⟨ZC h2.1 hsame,h2.2⟩,fun i o hi ho hc=>?_,h4⟩⟩
  exact h3 i o hi ho (by rw[← World.cell?_of_block (hsame i hi)]; exact hc)
 ·exact hw.tokinj
 ·exact hw.fresh
 ·exact hw.nx0
 exact hw.rt
theorem Loose.other{Γ:Ctx}{h:Hp}{e:Env}{b i:Nat}{u v:Value}(k:Loose Γ h e i u)(hne:i≠b):Loose Γ h { e with w:=e.w.setCell ⟨b,0,none⟩ v } i u:=by
 obtain⟨ty,hb⟩:=k.hp
 exact⟨k.lo,k.no,⟨ty,(JbH _ _ _ _ hne).trans hb⟩,k.S⟩
theorem Jmn{Γ:Ctx}{h:Hp}{e:Env}(hw:WInv Γ h e)(hM:∀ b,¬ Γ.M b){n:Nat}{v:Value}(hn:h.H n=some [.d (.v v)]):∃ b,e.ρ n=some b∧Loose Γ { h with H:=upd h.H n none } e b v:=by
 obtain⟨b,cs,ty,h1,h2,h3,h4,h5⟩:∃ b cs ty,e.ρ n=some b∧e.w.heap[b]? = some (.cells cs ty (0,0))∧RB e n [.d (.v v)] cs.toList∧(∀ o,o<cs.size→e.S b o)∧(Γ.B≤b∨Γ.M b):=by
  rcases hw.box n _ hn with hz | ⟨b,ob,h1,h2⟩
  ·rcases hz.2 with⟨sz,hz,_⟩ | hz
   ·cases hz
   cases hz
  exact hw.boxAt h1 _ hn rfl
 have hc:=h3.plain rfl
 have hcs:cs=#[v]:=by
  cases hl:cs.toList with
  | nil=>rw[hl]at hc; exact hc.elim
  | cons x xs =>
   rw[hl]at hc
   cases xs with
   | cons y ys=>exact hc.2.elim
   | nil =>
    have:x=v:=R1.vInv hc.1
    subst this
    exact Array.ext' hl
 subst hcs
 refine⟨b,h1,⟨h5.resolve_right (hM b),fun ho=>?_,⟨ty,h2⟩,h4 0 (by simp)⟩⟩
 rcases ho with⟨m,hm,hρ⟩|⟨k,u,hk,hτ,hu,hf⟩
 ·simp only[upd]at hm
  by_cases hmn:m=n
  ·simp[hmn]at hm
  rw[if_neg hmn]at hm
  exact hmn (hw.inj m n b hm (by rw[hn]; simp) hρ h1)
 obtain⟨tk,htk⟩:=Option.ne_none_iff_exists'.1 hk
 obtain⟨_,u',h6,hor⟩:=hw.tok k tk htk
 rw[hτ]at h6; simp at h6; subst h6
 obtain⟨_,_,_,_,_,_,h7⟩:=hor.resolve_left hf
 exact h7 b hu n (by rw[hn]; simp) h1
def Jea(h:Hp)(p1 p2 p3:Nat):Hp:={ h with H:=upd (upd (upd h.H p1 none) p2 none) p3 none }
def RQ(t:Tab)(I:Nat→Hp→Prop)(Q2:Kl)(σ:Nat→AV)(k:Nat):Kl:=fun ex σ2 h2=>match ex with
 | .normal=>∃ σ3 h3,Wk t.rt σ2 h2 σ3 h3∧I (k+1) h3
 | .ret=>Q2 .ret σ h2
 | .exit id=>Q2 (.exit id) σ h2
 | _=>False
def nzA:AV→Bool
 | .c (.d _)=>true
 | .c (.pt n _)=>n != 0
 | .c (.os n _ _ _)=>n != 0
 | .c .top=>true
 | _=>false
theorem RA.nz{e e2:Env}(hk:Keep e.w e.S e2.w e2.S)(hr:∀ n,n≠0→(∀ b,e.ρ n=some b→e2.ρ n=some b)∧∀ b,e.τ n=some b→e2.τ n=some b):∀ {x:AV} {v:Value},nzA x=true→RA e x v→RA e2 x v:=by
 intro x v hz h
 unfold nzA at hz
 split at hz
 ·exact RD.mono hk h
 ·obtain⟨b,h1,h2⟩:=h
  exact⟨b,(hr _ (by simpa using hz)).1 _ h1,h2⟩
 ·rcases h with h | ⟨b,cap,h1,h2,h3⟩
  ·exact .inl h
  exact .inr ⟨b,cap,(hr _ (by simpa using hz)).1 _ h1,(hr _ (by simpa using hz)).2 _ h2,h3⟩
 ·trivial
 cases hz
theorem JoR{Γ:Ctx}{h:Hp}{e e2:Env}(hw:WInv Γ h e){m:Nat}(hm:h.nx=m+1)(hr:∀ i,i<m→e2.ρ (i+1)=e.ρ (i+1)∧e2.τ (i+1)=e.τ (i+1)):
  ∀ n,n≠0→(∀ b,e.ρ n=some b→e2.ρ n=some b)∧∀ b,e.τ n=some b→e2.τ n=some b:=by
 intro n hn
 obtain⟨i,rfl⟩:∃ i,n=i+1:=⟨n-1,by omega⟩
 by_cases hi:i<m
 ·rw[(hr i hi).1,(hr i hi).2]; exact⟨fun _ h=>h,fun _ h=>h⟩
 have:=(hw.fresh (i+1) (by omega)).2.2
 rw[this.1,this.2]
 exact⟨fun _ h=>(by cases h),fun _ h=>(by cases h)⟩
def VL(e:Env)(m:Nat):List (Option Nat×Option Value):=(List.range m).map fun i=>(e.ρ (i+1),e.τ (i+1))
theorem Jva{e:Env}{m i:Nat}{x:Option Nat×Option Value}(h:(VL e m)[i]? = some x):i<m∧x=(e.ρ (i+1),e.τ (i+1)):=by
 have hi:i<m:=by
  have:=(List.getElem?_eq_some_iff.1 h).1
  simpa [VL] using this
 refine⟨hi,?_⟩
 simp[VL,hi]at h
 exact h.symm
theorem JnW(e:Env){m i:Nat}(h:i<m):(VL e m)[i]? = some (e.ρ (i+1),e.τ (i+1)):=by simp[VL,h]
theorem Jv.nz{nt:Nat}{ds:List Deferred}{σ σ1:Nat→AV}{a:Act}{e e2:Env}(hs:Jv nt ds σ a e)(hk:Keep e.w e.S e2.w e2.S)(hr:∀ n,n≠0→(∀ b,e.ρ n=some b→e2.ρ n=some b)∧∀ b,e.τ n=some b→e2.τ n=some b)
  (hσ:∀ i,i<nt→nzA (σ1 i)=true∧(σ1 i=σ i∨σ1 i=.c .top)) (hdf:dfL (σ1 DS)=[]) {ds':List Deferred}:Jv nt ds' σ1 { a with defers:=ds' } e2:=by
 refine⟨hs.1,⟨⟨[],rfl,by rw[hdf]; trivial⟩,hs.2.1.2⟩,fun i hi=>?_⟩
 obtain⟨h1,h2⟩:=hσ i hi
 rcases h2 with h2 | h2
 ·rw[h2]at h1 ⊢
  exact RA.nz hk hr h1 (hs.2.2 i hi)
 rw[h2]; trivial
theorem Jh3{α:Type}{f:Nat→Option α}{d n:Nat}(h:upd f d none n≠none):f n≠none:=by
 unfold upd at h
 split at h
 ·exact absurd rfl h
 exact h
theorem Jvd{Γ:Ctx}{t:Tab}{pure:Nat→Nat}{m:Nat}(ht:TabOk t)(hP:t.P=Γ.P)(hroot:Γ.root=[])(hds:Γ.ds=[])(hM:∀ b,¬ Γ.M b)(hm:Γ.P.follows .mixedOrders=true)(hpure:∀ n,pure n=0→(t.Φ n).isSome)
  (hnp:∀ n,pure n=1→∀ g,t.G n g→∃ val bs ts,g.out=.ret val bs ts) (hlk:t.lk.contains 999999=true) (hrt:t.rt=m) {N:Nat} (hIt:Jly Γ.P N) {g:Operand} {pt:Tmp} {assign body:Code}
  (hca:Kd pure t.lk Γ.nt assign=true) (hcb:Kd pure t.lk Γ.nt body=true) (hda:JaX assign=true) (hdb:JaX body=true) (hpt:pt<Γ.nt) (hgt:∀ t,g=.tmp t→t<Γ.nt)
  {σ σ1:Nat→AV} {h:Hp} {a:Act} {e:Env} (hs:Jv Γ.nt Γ.ds σ a e) (hw:WInv Γ h e) {p1 p2 p3:Nat} (hg:evA σ g=.c (.clo N [p1,p2,p3])) (hdf:dfL (σ DS)=[]) (hdf1:dfL (σ1 DS)=[])
  (hσ:∀ i,i<Γ.nt→nzA (σ1 i)=true∧(σ1 i=σ i∨σ1 i=.c .top)) {c:UInt8} {t0:List UInt8}
  (h1:h.H p1=some [.d (.v (.string ⟨#[c]⟩))]) (h2:h.H p2=some [.d (.v (str t0))]) (h3:h.H p3=some [.d (.v (.int .i64 0))]) (hlen:t0.length≤4611686018427387904) (hne:p1≠p2∧p2≠p3∧p1≠p3) (hnx:h.nx=m+1)
  (Q2:Kl) (I:Nat→Hp→Prop) (h0:I 0 (Jea h p1 p2 p3))
  (hI:∀ k x h',(splV c t0)[k]? = some x→I k h'→h'.Good→aC t assign (upd σ1 pt (.c (.d (.v (str x))))) h' (fun ex σ' h1=>ex=.normal∧aC t body σ' h1 (RQ t I Q2 σ1 k)))
  (hend:∀ h',I (splV c t0).length h'→Q2 .normal σ1 h') {Q':Exit→Act→World→Prop}
  (hQ:∀ ex h' e' r,Q2 ex σ1 h'→ex=.normal∨ex=.ret∨(∃ id,ex=.exit id)→Jv Γ.nt [{ target:=.collected r,args:=#[] }] σ1 { a with defers:=[{ target:=.collected r,args:=#[] }] } e'→WInv Γ h' e'→e'.w.heap[r]? = some (.deferred (some []))→Γ.B≤r →
   Q' ex { a with defers:=[{ target:=.collected r,args:=#[] }] } e'.w) :
  (Code.rangeFunc g #[pt] assign body).wp Γ.P Q' a e.w:=by
 refine(wpIn_wide (n:=9)).1 (wpIn_rangeFunc ?_)
 intro fn hfn
 obtain⟨vs,hvs,hav⟩:∃ vs,RP e [p1,p2,p3] vs∧a.eval g=.func (.func N) #[] vs.toArray:=by
  have:=Jlu hs g hgt
  rw[hg]at this
  exact this
 have hd0:a.defers=[]:=RDf.nil hdf (hds ▸ hs.2.1.1)
 -- the three boxes are let go
 obtain⟨b1,r1,L1⟩:=Jmn hw hM h1
 have w1:=hw.dropBox p1
 obtain⟨b2,r2,L2⟩:=Jmn w1 hM (n:=p2) (v:=str t0) (by simp[upd,Ne.symm hne.1,h2])
 have w2:=w1.dropBox p2
 obtain⟨b3,r3,L3⟩:=Jmn w2 hM (n:=p3) (v:=.int .i64 0) (by simp[upd,Ne.symm hne.2.1,Ne.symm hne.2.2,h3])
 have w3:WInv Γ (Jea h p1 p2 p3) e:=w2.dropBox p3
 have sub:∀ {b:Nat} {h':Hp},(∀ n,(Jea h p1 p2 p3).H n≠none→h'.H n≠none)→h'.T=h.T→¬ ownB h' e b→¬ ownB (Jea h p1 p2 p3) e b:=fun hs hT hno ho=>hno (by
  rcases ho with⟨n,hn,hρ⟩|⟨k,v,hk,hh⟩
  ·exact .inl ⟨n,hs n hn,hρ⟩
  exact .inr ⟨k,v,by rw[hT]; exact hk,hh⟩)
 have M1:Loose Γ (Jea h p1 p2 p3) e b1 (.string ⟨#[c]⟩):=⟨L1.lo,sub (h':={ h with H:=upd h.H p1 none }) (fun n hn=>Jh3 (Jh3 hn)) rfl L1.no,L1.hp,L1.S⟩
 have M2:Loose Γ (Jea h p1 p2 p3) e b2 (str t0):=⟨L2.lo,sub (h':={ h with H:=upd (upd h.H p1 none) p2 none }) (fun n hn=>Jh3 hn) rfl L2.no,L2.hp,L2.S⟩
 have M3:Loose Γ (Jea h p1 p2 p3) e b3 (.int .i64 0):=⟨L3.lo,L3.no,L3.hp,L3.S⟩
 have bne:b2≠b1∧b2≠b3:=⟨fun hb=>hne.1 (hw.inj p1 p2 b1 (by rw[h1]; simp) (by rw[h2]; simp) r1 (hb ▸ r2)),fun hb=>hne.2.1 (hw.inj p2 p3 b2 (by rw[h2]; simp) (by rw[h3]; simp) r2 (hb ▸ r3))⟩
 have hvals:vs=[.pointer (some ⟨b1,0,none⟩),.pointer (some ⟨b2,0,none⟩),.pointer (some ⟨b3,0,none⟩)]:=by
  match vs,hvs with
  | [x,y,z],⟨⟨_,k1,k2⟩,⟨_,k3,k4⟩,⟨_,k5,k6⟩,_⟩ =>
   rw[r1]at k1; rw[r2]at k3; rw[r3]at k5
   cases k1; cases k3; cases k5
   rw[k2,k4,k6]
 subst hvals
 -- the record
 obtain⟨rec,hrec⟩:∃ rec:LoopState→Option Code→Loop,rec=fun st pe=>{ state:=st,pending:=pe,fn,tmps:=a.tmps,params:=#[pt],assign,body,defers:=e.w.heap.size }:=⟨_,rfl⟩
 obtain⟨l,hl⟩:∃ l,l=e.w.heap.size+1:=⟨_,rfl⟩
 obtain⟨r,hr⟩:∃ r,r=e.w.heap.size:=⟨_,rfl⟩
 obtain⟨W1,hW1⟩:∃ W1,(e.w.alloc (.deferred (some []))).alloc (.loop (rec .ready none))=W1:=⟨_,rfl⟩
 have hBr:Γ.B≤r:=by rw[hr]; exact hw.hB
 have hBl:Γ.B≤l:=by rw[hl]; have:=hw.hB; omega
 have hrl:r≠l:=by omega
 have hL1:W1.heap[l]? = some (.loop (rec .ready none)):=by
  rw[← hW1,hl]; have:=World.alloc_heap_new (e.w.alloc (.deferred (some []))) (.loop (rec .ready none)); rwa [World.size_alloc]at this
 have hK1:W1.heap[r]? = some (.deferred (some [])):=by
  rw[← hW1,hr]; exact(Below.heap_alloc _ _ _ (by simp)).trans (World.alloc_heap_new e.w _)
 have hgr:Grows e.w W1:=by rw[← hW1]; exact(Grows.alloc _ _).trans (Grows.alloc _ _)
 obtain⟨v3,l3⟩:=w3.quiet hgr
 have keepL:∀ {b:Nat} {v:Value},Loose Γ (Jea h p1 p2 p3) e b v→Loose Γ (Jea h p1 p2 p3) { e with w:=W1 } b v:=fun k=>by
  obtain⟨ty,hb⟩:=k.hp
  exact⟨k.lo,k.no,⟨ty,(hgr.block _ (Array.getElem?_eq_some_iff.1 hb).1).trans hb⟩,k.S⟩
 let Cm:Env→Hp→Prop:=fun e' h'=>WInv Γ h' e'∧Keep e.w e.S e'.w e'.S∧(∀ i,i<m→e'.ρ (i+1)=e.ρ (i+1)∧e'.τ (i+1)=e.τ (i+1))∧e'.w.heap[r]? = some (.deferred (some []))
 let J:Nat→ByteArray→World→Prop:=fun k s W=>∃ e' h',e'.w=W∧I k h'∧Cm e' h'∧m<h'.nx∧W.heap[l]? = some (.loop (rec .ready none))∧Loose Γ h' e' b1 (.string ⟨#[c]⟩)∧Loose Γ h' e' b2 (.string s)∧Loose Γ h' e' b3 (.int .i64 0)
 let Jx:World→Prop:=fun W=>∃ e' h' ex cc,e'.w=W∧Q2 ex σ1 h'∧((ex=.ret∧cc=Code.ret)∨∃ id,ex=.exit id∧cc=Code.exit id)∧Cm e' h'∧W.heap[l]? = some (.loop (rec .done (some cc)))
 have slots:∀ {e' h'},Cm e' h'→∀ ds',Jv Γ.nt ds' σ1 { a with defers:=ds' } e':=fun hc ds'=>hs.nz hc.2.1 (JoR hw hnx hc.2.2.1) hσ hdf1
 refine⟨l,[{ target:=.collected r,args:=#[] }],W1,{ target:=.fn (.func N) (List.toArray [.pointer (some ⟨b1,0,none⟩),.pointer (some ⟨b2,0,none⟩),.pointer (some ⟨b3,0,none⟩)]),args:=#[.func (.yield l) #[] #[]] },W1,N,
  #[.func (.yield l) #[] #[]]++List.toArray [.pointer (some ⟨b1,0,none⟩),.pointer (some ⟨b2,0,none⟩),.pointer (some ⟨b3,0,none⟩)],W1,?_,?_,fun _ _=>trivial,?_,nofun,?_⟩
 ·rw[← hW1,hrec,hl,hr]; exact run_enterLoop_outer _ _ _ _ _
 ·simp only[resolve,hav]
  simp[go_sem]
 ·simp[invoke,go_sem,hIt.1]
 refine(hIt.2 l b2 b1 b3 8 (by omega) c t0 hlen J Jx bne ?_ ?_ ?_ W1 ⟨_,_,rfl,h0,⟨v3,l3.keep,fun _ _=>⟨rfl,rfl⟩,hK1⟩,by show m<h.nx; omega,hL1,keepL M1,keepL M2,keepL M3⟩).mono ?_
 ·rintro k s _ ⟨e',h',rfl,_,_,_,_,q1,q2,q3⟩
  exact⟨q2.cell,q1.cell,q3.cell,q2.frozen⟩
 ·rintro k s s' _ ⟨e',h',rfl,hi,hc,hnx',hrc,q1,q2,q3⟩
  obtain⟨x1,x2,x3⟩:=q2.set hc.1 (.string s')
  have hlb:l≠b2:=fun hb=>by obtain⟨ty,hp⟩:=q2.hp; rw[← hb,hrc]at hp; cases hp
  have hrb:r≠b2:=fun hb=>by obtain⟨ty,hp⟩:=q2.hp; rw[← hb,hc.2.2.2]at hp; cases hp
  exact⟨_,h',rfl,hi,⟨x1,hc.2.1.trans x2.keep,hc.2.2.1,(JbH _ _ _ _ hrb).trans hc.2.2.2⟩,hnx',(JbH _ _ _ _ hlb).trans hrc,q1.other bne.1.symm,x3,q3.other bne.2.symm⟩
 ·rintro k s x _ ⟨e',h',rfl,hi,hc,hnx',hrc,q1,q2,q3⟩ hx
  have hxs:bsl x=⟨⟨x⟩⟩:=rfl
  have hy:=run_yield (P:=Γ.P) (args:=#[.string (bsl x)]) hrc (by rw[hrec]; rfl)
  have hlr:(rec .ready none).fn=fn∧(rec .ready none).assign=assign∧(rec .ready none).body=body∧(rec .ready none).tmps=a.tmps∧(rec .ready none).params=#[pt]∧(rec .ready none).state=.ready:=by rw[hrec]; exact⟨rfl,rfl,rfl,rfl,rfl,rfl⟩
  rw[hlr.1,hlr.2.1,hlr.2.2.1,hlr.2.2.2.1,hlr.2.2.2.2.1]at hy
  refine⟨fn,_,assign,body,hy,roundIn_of_wpIn trivial ?_⟩
  -- from here on
  have hrt':(VL e m).length<h'.nx∧∀ i x,(VL e m)[i]? = some x→e'.ρ (i+1)=x.1∧e'.τ (i+1)=x.2:=⟨by simpa [VL] using hnx',fun i x hx=>by
   obtain⟨him,rfl⟩:=Jva hx
   exact hc.2.2.1 i him⟩
  have v1:=hc.1.rb [] hrt'
  have hpD:some pt≠some DS:=fun hh=>by
   cases hh
   exact absurd hpt (Nat.not_lt.2 hs.2.1.2)
  have s1:Jv Γ.nt [] (upd σ1 pt (.c (.d (.v (str x))))) { tmps:=((#[pt]:Array Tmp).zip #[.string (bsl x)]).foldl (fun tmps (t,a)=>tmps.setIfInBounds t a) a.tmps,defers:=[] } e':=by
   have:=(slots hc []).put (some pt) hpD (x:=.c (.d (.v (str x)))) (v:=.string (bsl x)) (RD.v _)
   simpa [putA,Act.put] using this
  have hlen1:(VL e m).length=t.rt:=by rw[hrt]; simp[VL]
  refine JdF (Γ:=Γ.rb h' e' [] (VL e m)) (l:=l) ht hP hlen1 hm hpure hnp hlk assign _ _ hca hda (fun ex σ' h4 a4 e4 hk hs4 hw4=>?_) _ h' _ e' (hI k x h' hx hi hc.1.good) s1 v1
  obtain⟨rfl,hk⟩:=hk
  have hl4:=hc.1.stays hw4 hrc (fun _ _ _ h=>by cases h)
  have hr4:=hc.1.stays hw4 hc.2.2.2 (fun _ _ _ h=>by cases h)
  have u4:=hc.1.unrb hroot hw4
  obtain⟨f1,f2⟩:=u4.foreign (o':=.loop { rec .ready none with state:=.busy }) hl4 rfl rfl hBl
  have root4:∀ i,i<m→e4.ρ (i+1)=e.ρ (i+1)∧e4.τ (i+1)=e.τ (i+1):=fun i hi=>hw4.rt.2 i _ (JnW e hi)
  have hlt4:l<e4.w.heap.size:=(Array.getElem?_eq_some_iff.1 hl4).1
  refine⟨_,run_beginRound hl4 hlr.2.2.2.2.2,?_⟩
  have keep4:Keep e.w e.S e4.w e4.S:=hc.2.1.trans hw4.keep
  have m1:=(q1.stays hw4).foreign (o':=.loop { rec .ready none with state:=.busy }) hl4 rfl
  have m2:=(q2.stays hw4).foreign (o':=.loop { rec .ready none with state:=.busy }) hl4 rfl
  have m3:=(q3.stays hw4).foreign (o':=.loop { rec .ready none with state:=.busy }) hl4 rfl
  have hlb:(e4.w.putObj l (.loop { rec .ready none with state:=.busy })).heap[l]? = some (.loop { rec .ready none with state:=.busy }):=World.putObj_heap_same hlt4
  have hrb:(e4.w.putObj l (.loop { rec .ready none with state:=.busy })).heap[r]? = some (.deferred (some [])):=(World.putObj_heap_other hrl).trans hr4
  have hrt4:(VL e m).length<h4.nx∧∀ i x,(VL e m)[i]? = some x→e4.ρ (i+1)=x.1∧e4.τ (i+1)=x.2:=hw4.rt
  have v2:=f1.rb [] hrt4
  have fin:∀ (jump:Option Code) (h6:Hp) (e6:Env),WInv (Γ.rb h4 { e4 with w:=e4.w.putObj l (.loop { rec .ready none with state:=.busy }) } [] (VL e m)) h6 e6 →
    ∃ w6,(Instr.endRound l jump).run Γ.P e6.w=.ok (.bool jump.isNone) w6∧Cm { e6 with w:=w6 } h6∧m<h6.nx∧w6.heap[l]? = some (.loop (rec (if jump.isNone then .ready else .done) jump)) ∧
     Loose Γ h6 { e6 with w:=w6 } b1 (.string ⟨#[c]⟩)∧Loose Γ h6 { e6 with w:=w6 } b2 (.string s)∧Loose Γ h6 { e6 with w:=w6 } b3 (.int .i64 0):=fun jump h6 e6 hw6=>by
   have hl6:=f1.stays hw6 hlb (fun _ _ _ h=>by cases h)
   have hr6:=f1.stays hw6 hrb (fun _ _ _ h=>by cases h)
   have u6:=f1.unrb hroot hw6
   have hrun:=run_endRound (P:=Γ.P) jump hl6
   have hrc6:({ { rec .ready none with state:=.busy } with state:=if jump.isNone then LoopState.ready else .done,pending:=jump }:Loop)=rec (if jump.isNone then .ready else .done) jump:=by rw[hrec]
   rw[hrc6]at hrun
   obtain⟨g1,g2⟩:=u6.foreign (o':=.loop (rec (if jump.isNone then .ready else .done) jump)) hl6 rfl rfl hBl
   refine⟨_,hrun,⟨g1,(keep4.trans f2.keep).trans (hw6.keep.trans g2.keep),fun i hi=>hw6.rt.2 i _ (JnW e hi),(World.putObj_heap_other hrl).trans hr6⟩,?_,World.putObj_heap_same (Array.getElem?_eq_some_iff.1 hl6).1,(m1.stays hw6).foreign hl6 rfl,(m2.stays hw6).foreign hl6 rfl,(m3.stays hw6).foreign hl6 rfl⟩
   have:=hw6.rt.1
   have h7:(VL e m).length=m:=by simp[VL]
   have h8:(VL e m).length<h6.nx:=this
   omega
  refine JdF (Γ:=Γ.rb h4 { e4 with w:=e4.w.putObj l (.loop { rec .ready none with state:=.busy }) } [] (VL e m)) (l:=l) ht hP hlen1 hm hpure hnp hlk body _ _ hcb hdb (fun ex σ5 h5 a5 e5 hk5 hs5 hw5=>?_) σ' h4 a4 _ hk (hs4.mono f2) v2
  cases ex with
  | normal =>
   obtain⟨σ6,h6,hwk,hi6⟩:=hk5
   obtain⟨e6,he6,hs6,hw6⟩:=hwk _ a5 e5 hlen1 hs5 hw5
   obtain⟨w6,x1,x2,x3,x4,x5,x6,x7⟩:=fin none h6 e6 hw6
   rw[← he6]
   exact⟨_,w6,x1,.inl ⟨rfl,_,h6,rfl,hi6,x2,x3,x4,x5,x6,x7⟩⟩
  | ret =>
   obtain⟨w6,x1,x2,x3,x4,_⟩:=fin (some .ret) h5 e5 hw5
   exact⟨_,w6,x1,.inr ⟨rfl,_,h5,.ret,.ret,rfl,hk5,.inl ⟨rfl,rfl⟩,x2,x4⟩⟩
  | exit id =>
   obtain⟨w6,x1,x2,x3,x4,_⟩:=fin (some (.exit id)) h5 e5 hw5
   exact⟨_,w6,x1,.inr ⟨rfl,_,h5,.exit id,.exit id,rfl,hk5,.inr ⟨id,rfl,rfl⟩,x2,x4⟩⟩
  | goto l=>exact hk5.elim
  | panic ch=>exact hk5.elim
  | outgrown=>exact hk5.elim
 rintro en W2 ⟨⟨v,rfl⟩,(⟨s,e',h',rfl,hi,hc,_,hrc,_⟩|⟨e',h',ex,cc,rfl,hq,hcc,hc,hrc⟩)⟩
 ·have hel:=run_endLoop (P:=Γ.P) hrc (by rw[hrec]; simp)
  obtain⟨y1,y2⟩:=hc.1.foreign (o':=.loop { rec .ready none with state:=.exhausted }) hrc rfl rfl hBl
  have hc2:Cm { e' with w:=e'.w.putObj l (.loop { rec .ready none with state:=.exhausted }) } h':=⟨y1,hc.2.1.trans y2.keep,hc.2.2.1,(World.putObj_heap_other hrl).trans hc.2.2.2⟩
  refine⟨none,e'.w.putObj l (.loop { rec .ready none with state:=.exhausted }),hel.trans (congrArg (fun j=>Result.ok j _) (show(rec .ready none).pending=none from by rw[hrec])),?_⟩
  rw[hd0]
  exact hQ .normal h' _ r (hend h' hi) (.inl rfl) (slots hc2 _) hc2.1 hc2.2.2.2 hBr
 have hel:=run_endLoop (P:=Γ.P) hrc (by rw[hrec]; simp)
 obtain⟨y1,y2⟩:=hc.1.foreign (o':=.loop { rec .done (some cc) with state:=.exhausted }) hrc rfl rfl hBl
 have hc2:Cm { e' with w:=e'.w.putObj l (.loop { rec .done (some cc) with state:=.exhausted }) } h':=⟨y1,hc.2.1.trans y2.keep,hc.2.2.1,(World.putObj_heap_other hrl).trans hc.2.2.2⟩
 refine⟨some cc,e'.w.putObj l (.loop { rec .done (some cc) with state:=.exhausted }),hel.trans (congrArg (fun j=>Result.ok j _) (show(rec .done (some cc)).pending=some cc from by rw[hrec])),?_⟩
 rw[hd0]
 rcases hcc with⟨rfl,rfl⟩|⟨id,rfl,rfl⟩
 ·exact wpIn_ret (hQ .ret h' _ r hq (.inr (.inl rfl)) (slots hc2 _) hc2.1 hc2.2.2.2 hBr)
 exact wpIn_exit (hQ (.exit id) h' _ r hq (.inr (.inr ⟨id,rfl⟩)) (slots hc2 _) hc2.1 hc2.2.2.2 hBr)
theorem TabOk.root{t:Tab}(ht:TabOk t)(m:Nat):TabOk { t with rt:=m }:=⟨ht.pf,ht.mf,ht.gf,ht.df⟩
def Jgh:Code→Bool
 | .seq a b=>Jgh a || Jgh b
 | .block _ b=>Jgh b
 | .rangeFunc _ _ _ _=>true
 | _=>false
def Je1(pure:Nat→Nat)(lk:List Nat)(nt:Nat):Code→Bool
 | .seq a b=>if Jgh a=true then Je1 pure lk nt a && Kd pure lk nt b else Kd pure lk nt a && Je1 pure lk nt b
 | .block _ b=>Je1 pure lk nt b
 | .rangeFunc g ps assign body=>Kd pure lk nt assign && Kd pure lk nt body && JaX assign && JaX body && (match g with | .tmp t=>decide (t<nt) | _=>true) && ps.toList.all fun p=>decide (p<nt)
 | c=>Kd pure lk nt c
def aRF(t:Tab)(nt:Nat)(g:Operand)(ps:Array Tmp)(assign body:Code)(σ:Nat→AV)(h:Hp)(Q2:Kl):Prop :=
 ∃ σ' h',Wk t.rt σ h σ' h'∧∃ (N m p1 p2 p3:Nat) (c:UInt8) (t0:List UInt8) (σ1:Nat→AV) (I:Nat→Hp→Prop) (pt:Tmp),ps=#[pt]∧Jly t.P N∧evA σ' g=.c (.clo N [p1,p2,p3])∧dfL (σ' DS)=[]∧dfL (σ1 DS)=[] ∧
  (∀ i,i<nt→nzA (σ1 i)=true∧(σ1 i=σ' i∨σ1 i=.c .top))∧h'.H p1=some [.d (.v (.string ⟨#[c]⟩))]∧h'.H p2=some [.d (.v (str t0))]∧h'.H p3=some [.d (.v (.int .i64 0))]∧t0.length≤4611686018427387904 ∧
  (p1≠p2∧p2≠p3∧p1≠p3)∧h'.nx=m+1∧I 0 (Jea h' p1 p2 p3) ∧
  (∀ k x h'',(splV c t0)[k]? = some x→I k h''→h''.Good→aC { t with rt:=m } assign (upd σ1 pt (.c (.d (.v (str x))))) h'' (fun ex σ2 h2=>ex=.normal∧aC { t with rt:=m } body σ2 h2 (RQ { t with rt:=m } I Q2 σ1 k))) ∧
  ∀ h'',I (splV c t0).length h''→Q2 .normal σ1 h''
def aL(t:Tab)(nt:Nat):Code→(Nat→AV)→Hp→Kl→Kl→Prop
 | .seq a b,σ,h,Q1,Q2=>if Jgh a=true then aL t nt a σ h (fun ex σ' h'=>match ex with | .normal=>False | ex=>Q1 ex σ' h') (fun ex σ' h'=>match ex with | .normal=>∃ σ2 h2,Wk t.rt σ' h' σ2 h2∧Given h2.Good (aC t b σ2 h2 Q2) | ex=>Q2 ex σ' h')
   else aC t a σ h (fun ex σ' h'=>match ex with | .normal=>∃ σ2 h2,Wk t.rt σ' h' σ2 h2∧Given h2.Good (aL t nt b σ2 h2 Q1 Q2) | ex=>Q1 ex σ' h')
 | .block id b,σ,h,Q1,Q2=>aL t nt b σ h (fun ex σ' h'=>match ex with | .exit j=>if j=id then Q1 .normal σ' h' else Q1 (.exit j) σ' h' | ex=>Q1 ex σ' h') (fun ex σ' h'=>match ex with | .exit j=>if j=id then Q2 .normal σ' h' else Q2 (.exit j) σ' h' | ex=>Q2 ex σ' h')
 | .rangeFunc g ps assign body,σ,h,_,Q2=>aRF t nt g ps assign body σ h Q2
 | _,_,_,_,_=>False
abbrev mk1(r:Nat):List Deferred:=[{ target:=.collected r,args:=#[] }]
theorem Ji7{Γ:Ctx}{t:Tab}{pure:Nat→Nat}(ht:TabOk t)(hP:t.P=Γ.P)(hroot:Γ.root=[])(hds:Γ.ds=[])(hrt:t.rt=0)(hM:∀ b,¬ Γ.M b)(hm:Γ.P.follows .mixedOrders=true)(hpure:∀ n,pure n=0→(t.Φ n).isSome)
  (hnp:∀ n,pure n=1→∀ g,t.G n g→∃ val bs ts,g.out=.ret val bs ts) (hlk:t.lk.contains 999999=true) :
  ∀ (c:Code) (Q1 Q2:Kl) (Q':Exit→Act→World→Prop),Je1 pure t.lk Γ.nt c=true →
   (∀ ex σ h a e,Q1 ex σ h→Jv Γ.nt [] σ a e→WInv Γ h e→Q' ex a e.w) →
   (∀ ex σ h a e r,Q2 ex σ h→Jv Γ.nt (mk1 r) σ a e→WInv Γ h e→e.w.heap[r]? = some (.deferred (some []))→Γ.B≤r→Q' ex a e.w) →
   ∀ (σ:Nat→AV) (h:Hp) (a:Act) (e:Env),aL t Γ.nt c σ h Q1 Q2→Jv Γ.nt [] σ a e→WInv Γ h e→c.wp Γ.P Q' a e.w
 | .seq x y,Q1,Q2,Q',hc,h1,h2,σ,h,a,e,hh,hs,hw=>by
  simp only[Je1]at hc
  simp only[aL]at hh
  by_cases hx:Jgh x=true
  ·rw[if_pos hx]at hh hc
   rw[Bool.and_eq_true]at hc
   refine wp_seq (Ji7 ht hP hroot hds hrt hM hm hpure hnp hlk x _ _ _ hc.1 (fun ex σ h a e hk hs hw=>?_) (fun ex σ h a e r hk hs hw hr hB=>?_) σ h a e hh hs hw)
   ·cases ex with
    | normal=>exact hk.elim
    | exit id=>exact h1 _ _ _ _ _ hk hs hw
    | goto l=>exact h1 _ _ _ _ _ hk hs hw
    | ret=>exact h1 _ _ _ _ _ hk hs hw
    | panic ch=>exact h1 _ _ _ _ _ hk hs hw
    | outgrown=>exact h1 _ _ _ _ _ hk hs hw
   cases ex with
   | normal =>
    obtain⟨σ2,h2',hwk,hk⟩:=hk
    have v0:=hw.rb (mk1 r) (rt:=[]) ⟨hw.nx0,fun i x hx=>by cases hx⟩
    obtain⟨e2,he,hs2,hw2⟩:=hwk (Γ.rb h e (mk1 r) []) a e hrt.symm hs v0
    have he:e2.w=e.w:=he
    rw[← he]
    refine Jaa (Γ:=Γ.rb h e (mk1 r) []) ht hP hrt.symm hm hpure hnp y Q2 Q' hc.2 (fun ex σ3 h3 a3 e3 hk3 hs3 hw3=>?_) σ2 h2' a e2 (hk.get hw2.good) hs2 hw2
    exact h2 ex σ3 h3 a3 e3 r hk3 hs3 (hw.unrb hroot hw3) (hw.stays hw3 hr (fun _ _ _ h=>by cases h)) hB
   | exit id=>exact h2 _ _ _ _ _ _ hk hs hw hr hB
   | goto l=>exact h2 _ _ _ _ _ _ hk hs hw hr hB
   | ret=>exact h2 _ _ _ _ _ _ hk hs hw hr hB
   | panic ch=>exact h2 _ _ _ _ _ _ hk hs hw hr hB
   | outgrown=>exact h2 _ _ _ _ _ _ hk hs hw hr hB
  rw[if_neg hx]at hh hc
  rw[Bool.and_eq_true]at hc
  refine wp_seq (Jaa ht hP (by rw[hroot,hrt]; rfl) hm hpure hnp x _ _ hc.1 (fun ex σ h a e hk hs hw=>?_) σ h a e hh (by rw[hds]; exact hs) hw)
  rw[hds]at hs
  cases ex with
  | normal =>
   obtain⟨σ2,h2',hwk,hk⟩:=hk
   obtain⟨e2,he,hs2,hw2⟩:=hwk Γ a e (by rw[hroot,hrt]; rfl) (by rw[hds]; exact hs) hw
   rw[hds]at hs2
   rw[← he]
   exact Ji7 ht hP hroot hds hrt hM hm hpure hnp hlk y Q1 Q2 Q' hc.2 h1 h2 σ2 h2' a e2 (hk.get hw2.good) hs2 hw2
  | exit id=>exact h1 _ _ _ _ _ hk hs hw
  | goto l=>exact h1 _ _ _ _ _ hk hs hw
  | ret=>exact h1 _ _ _ _ _ hk hs hw
  | panic ch=>exact h1 _ _ _ _ _ hk hs hw
  | outgrown=>exact h1 _ _ _ _ _ hk hs hw
 | .block id b,Q1,Q2,Q',hc,h1,h2,σ,h,a,e,hh,hs,hw=>by
  refine wp_block (Ji7 ht hP hroot hds hrt hM hm hpure hnp hlk b _ _ _ hc (fun ex σ h a e hk hs hw=>?_) (fun ex σ h a e r hk hs hw hr hB=>?_) σ h a e hh hs hw)
  ·cases ex with
   | exit j =>
    simp only[Exit.inBlock]
    simp only at hk
    split at hk
    ·rename_i hj; rw[if_pos hj]; exact h1 _ _ _ _ _ hk hs hw
    rename_i hj; rw[if_neg hj]; exact h1 _ _ _ _ _ hk hs hw
   | normal=>exact h1 _ _ _ _ _ hk hs hw
   | goto l=>exact h1 _ _ _ _ _ hk hs hw
   | ret=>exact h1 _ _ _ _ _ hk hs hw
   | panic ch=>exact h1 _ _ _ _ _ hk hs hw
   | outgrown=>exact h1 _ _ _ _ _ hk hs hw
  cases ex with
  | exit j =>
   simp only[Exit.inBlock]
   simp only at hk
   split at hk
   ·rename_i hj; rw[if_pos hj]; exact h2 _ _ _ _ _ _ hk hs hw hr hB
   rename_i hj; rw[if_neg hj]; exact h2 _ _ _ _ _ _ hk hs hw hr hB
  | normal=>exact h2 _ _ _ _ _ _ hk hs hw hr hB
  | goto l=>exact h2 _ _ _ _ _ _ hk hs hw hr hB
  | ret=>exact h2 _ _ _ _ _ _ hk hs hw hr hB
  | panic ch=>exact h2 _ _ _ _ _ _ hk hs hw hr hB
  | outgrown=>exact h2 _ _ _ _ _ _ hk hs hw hr hB
 | .rangeFunc g ps assign body,Q1,Q2,Q',hc,h1,h2,σ,h,a,e,hh,hs,hw=>by
  obtain⟨σ',h',hwk,N,m,p1,p2,p3,c,t0,σ1,I,pt,rfl,hit,hg,hdf,hdf1,hσ,k1,k2,k3,hlen,hne,hnx,h0,hI,hend⟩:=hh
  obtain⟨e2,he,hs2,hw2⟩:=hwk Γ a e (by rw[hroot,hrt]; rfl) (by rw[hds]; exact hs) hw
  rw[← he]
  simp only[Je1,Bool.and_eq_true]at hc
  refine Jvd (t:={ t with rt:=m }) (ht.root m) hP hroot hds hM hm hpure hnp hlk rfl (hP ▸ hit) hc.1.1.1.1.1 hc.1.1.1.1.2 hc.1.1.1.2 hc.1.1.2 (by simpa using hc.2) (fun t ht=>by subst ht; simpa using hc.1.2) hs2 hw2 hg hdf hdf1 hσ k1 k2 k3 hlen hne hnx Q2 I h0 hI hend (fun ex h'' e' r hq _ hs3 hw3 hr hB=>?_)
  exact h2 ex σ1 h'' _ e' r hq hs3 hw3 hr hB
 | .skip,_,_,_,_,_,_,_,_,_,_,hh,_,_=>hh.elim
 | .region _ _ _,_,_,_,_,_,_,_,_,_,_,hh,_,_=>hh.elim
 | .cond _ _ _,_,_,_,_,_,_,_,_,_,_,hh,_,_=>hh.elim
 | .loop _,_,_,_,_,_,_,_,_,_,_,hh,_,_=>hh.elim
 | .exit _,_,_,_,_,_,_,_,_,_,_,hh,_,_=>hh.elim
 | .ret,_,_,_,_,_,_,_,_,_,_,hh,_,_=>hh.elim
 | .scope _,_,_,_,_,_,_,_,_,_,_,hh,_,_=>hh.elim
 | .label _,_,_,_,_,_,_,_,_,_,_,hh,_,_=>hh.elim
 | .goto _,_,_,_,_,_,_,_,_,_,_,hh,_,_=>hh.elim
 | .refuse _,_,_,_,_,_,_,_,_,_,_,hh,_,_=>hh.elim
theorem JwR{t:Tab}{pure:Nat→Nat}(ht:TabOk t)(hm:t.P.follows .mixedOrders=true)(hpure:∀ n,pure n=0→(t.Φ n).isSome)(hnp:∀ n,pure n=1→∀ g,t.G n g→∃ val bs ts,g.out=.ret val bs ts)(hlk:t.lk.contains 999999=true){f:Nat}{fn:Func}{c:Code}(hf:t.P.funcs[f]? = some fn)(hb:fn.body=some c)
  (hcode:(Je1 pure t.lk fn.ntmps c && fn.results.toList.all (VW fn.ntmps) && fn.ntmps.ble DS)=true) (pf:PF)
  (h:∀ args,pf.pre args→args.length≤fn.ntmps∧t.rt=0∧∃ σ h,Wk t.rt (sig0 (args.map fun d=>.c (.d d))) hp0 σ h∧(h.Good→aL t fn.ntmps c σ h (Je7 t.P t.rt fn (pf.val args)) (Je7 t.P t.rt fn (pf.val args)))):JF t.P f pf:=by
 simp only[Bool.and_eq_true]at hcode
 intro w S args vs hG hargs hS hp
 obtain⟨hn,hrt,σ1,h1,hwk,hC⟩:=h args hp
 have hlen:=hargs.length
 refine callsIn_wide.1 (callsIn_of_wp_marks (n:=9) hf hb trivial (wpIn_wide.2 ?_) rfl)
 let Γ:Ctx:=⟨t.P,w,w.heap.size,S,fun _=>False,fn.ntmps,[],[]⟩
 let e:Env:=⟨w,S,fun _=>none,fun _=>none⟩
 have hw:WInv Γ hp0 e:=by
  constructor
  ·exact⟨hG,fun q hq=>⟨let ⟨_,_,h1,_⟩:=hG q hq; (Array.getElem?_eq_some_iff.1 h1).1,fun h=>h⟩⟩
  ·rfl
  ·rfl
  ·rfl
  ·exact Nat.le_refl _
  ·exact Nat.le_refl _
  ·intro b _ _; rfl
  ·exact hS
  ·intro b o h _; exact h
  ·exact hS
  ·exact Keep.refl _ _
  ·intro n row h; cases h
  ·intro n m b h; exact absurd rfl h
  ·intro k ty h; cases h
  ·intro k m v u b h; exact absurd rfl h
  ·intro n _; exact⟨rfl,rfl,rfl,rfl⟩
  ·exact Nat.one_pos
  exact⟨Nat.one_pos,fun i x hx=>by simp[Γ]at hx⟩
 have hs:Jv Γ.nt Γ.ds (sig0 (args.map fun d=>.c (.d d))) { tmps:=(⟨vs⟩:Array Value)++Array.replicate (fn.ntmps-(⟨vs⟩:Array Value).size) undef,defers:=[] } e:=by
  refine⟨by simp[hlen,Γ]; omega,⟨⟨[],rfl,by rw[JoL (by simp; have:=Nat.le_of_ble_eq_true hcode.2; omega)]; trivial⟩,Nat.le_of_ble_eq_true hcode.2⟩,fun i hi=>?_⟩
  rcases Nat.lt_or_ge i args.length with hlt | hge
  ·obtain⟨v,h1,h2⟩:=hargs.get i args[i] (List.getElem?_eq_getElem hlt)
   have e1:sig0 (args.map fun d=>AV.c (.d d)) i=.c (.d args[i]):=by simp[sig0,hlt]
   have e2:((⟨vs⟩:Array Value)++Array.replicate (fn.ntmps-(⟨vs⟩:Array Value).size) undef).getD i undef=v:=by
    have hiv:i<vs.length:=by omega
    simp only[Array.getD_eq_getD_getElem?]
    rw[Array.getElem?_append_left (by simpa using hiv)]
    simp[h1]
   rw[e1,e2]
   exact h2
  have e1:sig0 (args.map fun d=>AV.c (.d d)) i=KP:=by simp[sig0,hge]
  have e2:((⟨vs⟩:Array Value)++Array.replicate (fn.ntmps-(⟨vs⟩:Array Value).size) undef).getD i undef=undef:=by
   simp only[Array.getD_eq_getD_getElem?]
   rw[Array.getElem?_append_right (by simp; omega),Array.getElem?_replicate]
   split <;> rfl
  rw[e1,e2]
  exact RA.undef e
 obtain⟨e1,he1,hs1,hw1⟩:=hwk Γ _ e hrt.symm hs hw
 have he1':e1.w=w:=he1
 suffices hsuf:∀ w1,w1=e1.w→c.wp t.P (bodyPostM Fence.wide 9 t.P fn (fun en w'=>∃ v,en=Ending.returned v∧Grows w w'∧R1 w' S (pf.val args) v)) { tmps:=(⟨vs⟩:Array Value)++Array.replicate (fn.ntmps-(⟨vs⟩:Array Value).size) undef,defers:=[] } w1 from hsuf w he1'.symm
 rintro _ rfl
 have fin:∀ {σ h a e' ds},Jv Γ.nt ds σ a e'→WInv Γ h e'→aRet t.P fn.results.toList σ h (pf.val args)→∃ v,(results fn a.tmps).run t.P e'.w=.ok v e'.w∧∃ v',Ending.returned v=.returned v'∧Grows w e'.w∧R1 e'.w S (pf.val args) v':=fun {σ h a e' ds} hs' hw' hr=>by
  have hs2:Jv { Γ with ds:=ds }.nt { Γ with ds:=ds }.ds σ a e':=hs'
  have hw2:WInv { Γ with ds:=ds } h e':=hw'.reCtx rfl rfl rfl rfl rfl rfl
  obtain⟨v,h1,h2⟩:=Jjs (Γ:={ Γ with ds:=ds }) hs2 hw2 hcode.1.2 hr
  refine⟨v,h1,v,rfl,⟨hw'.os,hw'.tape,hw'.output,hw'.grown,fun k hk=>hw'.old k hk (fun h=>h.elim)⟩,RD.mono (fun b o x hc hS'=>⟨hc,fun h=>hS' (hw'.s0 b o h (fun h=>h.elim))⟩) h2⟩
 refine Ji7 (Γ:=Γ) (t:=t) (pure:=pure) ht rfl rfl rfl hrt (fun _ h=>h) hm hpure hnp hlk c _ _ _ hcode.1.1 (fun ex σ h a e2 hk hs2 hw2=>?_) (fun ex σ h a e2 r hk hs2 hw2 hr hB=>?_) _ _ _ e1 (hC hw1.good) hs1 hw1
 ·obtain⟨σ,h,hwk,hk⟩:=hk
  obtain⟨e',he',hs',hw'⟩:=hwk Γ a e2 hrt.symm hs2 hw2
  rw[← he']
  have key:aRet t.P fn.results.toList σ h (pf.val args)∧dfL (σ DS)=[]→LeavesInM Fence.wide 9 t.P fn a.tmps (fun en w'=>∃ v,en=Ending.returned v∧Grows w w'∧R1 w' S (pf.val args) v) a.defers .returning e'.w:=fun hr=>by
   rw[RDf.nil hr.2 hs'.2.1.1]
   exact fin hs' hw' hr.1
  cases ex with
  | normal=>exact key hk
  | ret=>exact key hk
  | exit id=>exact hk.elim
  | goto l=>exact hk.elim
  | panic ch=>exact hk.elim
  | outgrown=>exact hk.elim
 obtain⟨σ,h,hwk,hk⟩:=hk
 obtain⟨e',he',hs',hw'⟩:=hwk { Γ with ds:=mk1 r } a e2 hrt.symm hs2 (hw2.reCtx rfl rfl rfl rfl rfl rfl)
 have hw':WInv Γ h e':=hw'.reCtx rfl rfl rfl rfl rfl rfl
 rw[← he']at hr ⊢
 have key:aRet t.P fn.results.toList σ h (pf.val args)∧dfL (σ DS)=[]→LeavesInM Fence.wide 9 t.P fn a.tmps (fun en w'=>∃ v,en=Ending.returned v∧Grows w w'∧R1 w' S (pf.val args) v) a.defers .returning e'.w:=fun hret=>by
  obtain⟨q,hq,hq2⟩:=hs'.2.1.1
  rw[hret.2]at hq2
  have hd:a.defers=mk1 r:=by
   cases q with
   | nil=>simpa using hq
   | cons _ _=>exact hq2.elim
  rw[hd]
  obtain⟨f1,f2⟩:=hw'.foreign (o':=.deferred none) hr rfl rfl hB
  exact⟨by simp,.inl ⟨r,_,rfl,run_takeDeferred hr,fin (hs'.mono f2) f1 hret.1⟩⟩
 cases ex with
 | normal=>exact key hk
 | ret=>exact key hk
 | exit id=>exact hk.elim
 | goto l=>exact hk.elim
 | panic ch=>exact hk.elim
 | outgrown=>exact hk.elim
end Go.Proofs.YtfkhlbhjhdpkoaaGreatDoor
namespace Go.Proofs.YtfkhlbhjhdpkoaaGreatDoor
open Go.RowKit
theorem xFL{P:Program}(hm:P.follows .mixedOrders=true){A R:Type}{enc:A→List D}{f:A→Option R}{e:R→D} [IEnc enc] (lk:List Nat) (l:List (Nat×PF)) (gl:List (Nat×Bool×(GI→Prop))) (h1:Jd6 P l) (h2:Jaf P gl)
  {k:Nat} {fn:Func} {c:Code} (hf:P.funcs[k]? = some fn)
  (h:∀ a r,f a=some r→aL (tab P l gl [] 0 (999999::lk)) fn.ntmps c (sig0 ((enc a).map fun d=>.c (.d d))) hp0 (Je7 P 0 fn (e r)) (Je7 P 0 fn (e r)))
  (hb:fn.body=some c:=by rfl) (hcode:(Je1 (X8 (l.map Prod.fst) (gl.map fun p=>(p.1,p.2.1))) (999999::lk) fn.ntmps c && fn.results.toList.all (VW fn.ntmps) && fn.ntmps.ble DS)=true:=by kernel_rfl)
  (hl:∀ a,(enc a).length≤fn.ntmps:=by intro a; exact Nat.le_of_ble_eq_true rfl):JF P k (PF.of enc f e):=by
 have hx:∀ a r,f a=some r→JF P k ⟨fun l=>l=enc a,fun _=>e r⟩:=fun a r H=>by
  refine JwR (t:=tab P l gl [] 0 (999999::lk)) (JkZ h1 h2 trivial) hm JeQ (Jhj h2) (by simp[tab]) hf hb hcode _ ?_
  rintro args rfl
  exact⟨hl a,rfl,_,_,Wk.refl _ _ _,fun _=>h a r H⟩
 intro w S args vs hG hargs hS hp
 obtain⟨a,r,hle,H⟩:=hp
 have:=hx a r H w S (enc a) vs hG (Je2 hle hargs) hS rfl
 rwa [PF.of_vall IEnc.inj hle H]
def Jw2(t:Tab)(nt:Nat)(b:Code)(Q1 Q2:Kl):Kl:=fun ex σ' h'=>match ex with | .normal=>∃ σ2 h2,Wk t.rt σ' h' σ2 h2∧Given h2.Good (aL t nt b σ2 h2 Q1 Q2) | ex=>Q1 ex σ' h'
def NoN(Q:Kl):Kl:=fun ex σ' h'=>match ex with | .normal=>False | ex=>Q ex σ' h'
variable {t:Tab} {nt:Nat} {σ:Nat→AV} {h:Hp} {Q1 Q2:Kl}
theorem JiI{a b:Code}(hh:aC t a σ h (Jw2 t nt b Q1 Q2))(hx:Jgh a=false:=by rfl):aL t nt (.seq a b) σ h Q1 Q2:=by
 show(if Jgh a=true then _ else _)
 rw[if_neg (by rw[hx]; decide)]
 refine Je0 a σ h _ _ (fun ex σ h hk=>?_) hh
 cases ex <;> exact hk
theorem JxN{a b:Code}(hh:aL t nt a σ h (NoN Q1) (Then t b Q2))(hx:Jgh a=true:=by rfl):aL t nt (.seq a b) σ h Q1 Q2:=by
 show(if Jgh a=true then _ else _)
 rw[if_pos hx]
 exact hh
theorem JvK{id:Nat}{b:Code}(hh:aL t nt b σ h (Jc8 id Q1) (Jc8 id Q2)):aL t nt (.block id b) σ h Q1 Q2:=hh
theorem JeN{b:Code}(hh:aL t nt b σ h Q1 Q2):Jw2 t nt b Q1 Q2 .normal σ h:=⟨σ,h,Wk.refl _ _ _,⟨fun _=>hh⟩⟩
theorem JC1{b:Code}(hh:Q1 .ret σ h):Jw2 t nt b Q1 Q2 .ret σ h:=hh
theorem Jv9{g:Operand}{pt:Tmp}{assign body:Code}(N m:Nat)(p1 p2 p3:Nat)(c:UInt8)(t0:List UInt8)(L:List (Nat×AV))(L1:List (Nat×AV))(bs:List (List C))(I:Nat→List (List C)→Prop)
  (hit:Jly t.P N) (hwk:Wk t.rt σ h (sigL L) (hpL bs [])) (hg:evA (sigL L) g=.c (.clo N [p1,p2,p3])) (hdf:dfL (sigL L DS)=[]) (hdf1:dfL (sigL L1 DS)=[])
  (hσ:∀ i,i<nt→nzA (sigL L1 i)=true∧(sigL L1 i=sigL L i∨sigL L1 i=.c .top))
  (k1:hpH bs p1=some [.d (.v (.string ⟨#[c]⟩))]) (k2:hpH bs p2=some [.d (.v (str t0))]) (k3:hpH bs p3=some [.d (.v (.int .i64 0))]) (hlen:t0.length≤4611686018427387904) (hne:p1≠p2∧p2≠p3∧p1≠p3) (hnx:bs.length=m)
  (bs1:List (List C)) (hd:Jea (hpL bs []) p1 p2 p3=hpL bs1 []) (h0:I 0 bs1)
  (hI:∀ k x bs,(splV c t0)[k]? = some x→I k bs→aC { t with rt:=m } assign (upd (sigL L1) pt (.c (.d (.v (str x))))) (hpL bs []) (fun ex σ2 h2=>ex=.normal∧aC { t with rt:=m } body σ2 h2 (RQ { t with rt:=m } (fun k h=>∃ bs,h=hpL bs []∧I k bs) Q2 (sigL L1) k)))
  (hend:∀ bs,I (splV c t0).length bs→Q2 .normal (sigL L1) (hpL bs [])):aL t nt (.rangeFunc g #[pt] assign body) σ h Q1 Q2:=by
 refine⟨_,_,hwk,N,m,p1,p2,p3,c,t0,sigL L1,fun k h=>∃ bs,h=hpL bs []∧I k bs,pt,rfl,hit,hg,hdf,hdf1,hσ,k1,k2,k3,hlen,hne,by simp[hpL,hnx],⟨bs1,hd,h0⟩,?_,?_⟩
 ·rintro k x _ hx ⟨bs,rfl,hi⟩ _
  exact hI k x bs hx hi
 rintro _ ⟨bs,rfl,hi⟩
 exact hend bs hi
theorem Jnb{I:Nat→Hp→Prop}{Q:Kl}{σ σ2:Nat→AV}{k:Nat}{h:Hp}(hh:Q .ret σ h):RQ t I Q σ k .ret σ2 h:=hh
theorem JB8{I:Nat→List (List C)→Prop}{Q:Kl}{σ σ2:Nat→AV}{k:Nat}{bs:List (List C)}(hh:I (k+1) bs):RQ t (fun k h=>∃ bs,h=hpL bs []∧I k bs) Q σ k .normal σ2 (hpL bs []):=⟨_,_,Wk.refl _ _ _,bs,rfl,hh⟩
theorem Jlt{I:Nat→List (List C)→Prop}{Q:Kl}{σ σ2:Nat→AV}{k:Nat}{h2:Hp}(bs:List (List C))(hwk:Wk t.rt σ2 h2 (sigL []) (hpL bs []))(hh:I (k+1) bs):RQ t (fun k h=>∃ bs,h=hpL bs []∧I k bs) Q σ k .normal σ2 h2:=⟨_,_,hwk,bs,rfl,hh⟩
theorem Jku{α:Type}{l:List α}{k:Nat}{x:α}(h:l[k]? = some x):l.drop k=x::l.drop (k+1):=by
 obtain⟨h1,h2⟩:=List.getElem?_eq_some_iff.1 h
 rw[← h2]; exact List.drop_eq_getElem_cons h1
def Jiy{α:Type}(f:α→Option Bool):List α→Option Bool
 | []=>some true
 | x::l=>(f x).bind fun b=>if b=true then Jiy f l else some false
def JhK{S R α:Type}(f:S→α→Option (S ⊕ R)):S→List α→Option (S ⊕ R)
 | s,[]=>some (.inl s)
 | s,x::l=>(f s x).bind fun o=>match o with | .inl s=>JhK f s l | .inr r=>some (.inr r)
theorem Jzw{S R α:Type}{f:S→α→Option (S ⊕ R)}{l:List α}{k:Nat}{x:α}{s:S}{o:S ⊕ R}(h:l[k]? = some x)(H:JhK f s (l.drop k)=some o):
  (∃ s',f s x=some (.inl s')∧JhK f s' (l.drop (k+1))=some o)∨∃ r,f s x=some (.inr r)∧o=.inr r:=by
 rw[Jku h]at H
 simp only[JhK]at H
 cases hf:f s x with
 | none=>rw[hf]at H; cases H
 | some b=>cases b with
  | inl s'=>rw[hf]at H; exact .inl ⟨s',rfl,H⟩
  | inr r=>rw[hf]at H; exact .inr ⟨r,rfl,(Option.some.inj H).symm⟩
theorem JqP{S R α:Type}{f:S→α→Option (S ⊕ R)}{l:List α}{s:S}{o:S ⊕ R}(H:JhK f s (l.drop l.length)=some o):o=.inl s:=by
 rw[List.drop_length]at H
 exact(Option.some.inj H).symm
theorem Jze{α:Type}{f:α→Option Bool}{l:List α}{k:Nat}{x:α}{o:Bool}(h:l[k]? = some x)(H:Jiy f (l.drop k)=some o):∃ b,f x=some b∧(if b=true then Jiy f (l.drop (k+1)) else some false)=some o:=by
 rw[Jku h]at H
 simp only[Jiy]at H
 cases hf:f x with
 | none=>rw[hf]at H; cases H
 | some b=>rw[hf]at H; exact⟨b,rfl,H⟩
theorem Jyk{α:Type}{f:α→Option Bool}{l:List α}{o:Bool}(H:Jiy f (l.drop l.length)=some o):o=true:=by
 rw[List.drop_length]at H
 exact(Option.some.inj H).symm
/-! Short words. -/
theorem oI{α:Type}{a b:α}(h:some a=some b):a=b:=Option.some.inj h
theorem xB{α:Type}{e:Bool}{A B o:Option α}{a g c d c' d':Prop}(F:a)(G:g)(H:(if e=true then A else B)=o)
  (h1:e=true→c:=by intro y; (try (simp -implicitDefEqProofs only[goR,↓Jo,goS,↓reduceIte,reduceCtorEq,seval,Y]at y)); exact y) (h2:e=true→d:=by intro y; (try (simp only[goT]at y)); exact y)
  (k1:e=false→c':=by intro y; (try (simp -implicitDefEqProofs only[goR,↓Jo,goS,↓reduceIte,reduceCtorEq,seval,Y]at y)); exact y) (k2:e=false→d':=by intro y; (try (simp only[goT]at y)); exact y) :
  (e=true∧A=o∧(a∧c)∧(c∧g)∧d)∨(e=false∧B=o∧(a∧c')∧(c'∧g)∧d'):=by
 rcases Ja1 H with⟨h,H⟩|⟨h,H⟩
 ·exact .inl ⟨h,H,⟨F,h1 h⟩,⟨h1 h,G⟩,h2 h⟩
 ·exact .inr ⟨h,H,⟨F,k1 h⟩,⟨k1 h,G⟩,k2 h⟩
def Sg1{A0 R:Type}(f:A0→Option R)(g:A0→R→GI):GI→Prop:=fun y=>∃ x0 r,f x0=some r∧y=g x0 r
theorem cg1{A0 R:Type}{f:A0→Option R}{g:A0→R→GI}{x0:A0}{r:R}(H:f x0=some r):Sg1 f g (g x0 r):=⟨_,_,H,rfl⟩
def Sg2{A0 A1 R:Type}(f:A0→A1→Option R)(g:A0→A1→R→GI):GI→Prop:=fun y=>∃ x0 x1 r,f x0 x1=some r∧y=g x0 x1 r
theorem cg2{A0 A1 R:Type}{f:A0→A1→Option R}{g:A0→A1→R→GI}{x0:A0}{x1:A1}{r:R}(H:f x0 x1=some r):Sg2 f g (g x0 x1 r):=⟨_,_,_,H,rfl⟩
def Sg3{A0 A1 A2 R:Type}(f:A0→A1→A2→Option R)(g:A0→A1→A2→R→GI):GI→Prop:=fun y=>∃ x0 x1 x2 r,f x0 x1 x2=some r∧y=g x0 x1 x2 r
theorem cg3{A0 A1 A2 R:Type}{f:A0→A1→A2→Option R}{g:A0→A1→A2→R→GI}{x0:A0}{x1:A1}{x2:A2}{r:R}(H:f x0 x1 x2=some r):Sg3 f g (g x0 x1 x2 r):=⟨_,_,_,_,H,rfl⟩
def Sg4{A0 A1 A2 A3 R:Type}(f:A0→A1→A2→A3→Option R)(g:A0→A1→A2→A3→R→GI):GI→Prop:=fun y=>∃ x0 x1 x2 x3 r,f x0 x1 x2 x3=some r∧y=g x0 x1 x2 x3 r
theorem cg4{A0 A1 A2 A3 R:Type}{f:A0→A1→A2→A3→Option R}{g:A0→A1→A2→A3→R→GI}{x0:A0}{x1:A1}{x2:A2}{x3:A3}{r:R}(H:f x0 x1 x2 x3=some r):Sg4 f g (g x0 x1 x2 x3 r):=⟨_,_,_,_,_,H,rfl⟩
def Sg5{A0 A1 A2 A3 A4 R:Type}(f:A0→A1→A2→A3→A4→Option R)(g:A0→A1→A2→A3→A4→R→GI):GI→Prop:=fun y=>∃ x0 x1 x2 x3 x4 r,f x0 x1 x2 x3 x4=some r∧y=g x0 x1 x2 x3 x4 r
theorem cg5{A0 A1 A2 A3 A4 R:Type}{f:A0→A1→A2→A3→A4→Option R}{g:A0→A1→A2→A3→A4→R→GI}{x0:A0}{x1:A1}{x2:A2}{x3:A3}{x4:A4}{r:R}(H:f x0 x1 x2 x3 x4=some r):Sg5 f g (g x0 x1 x2 x3 x4 r):=⟨_,_,_,_,_,_,H,rfl⟩
def Sg6{A0 A1 A2 A3 A4 A5 R:Type}(f:A0→A1→A2→A3→A4→A5→Option R)(g:A0→A1→A2→A3→A4→A5→R→GI):GI→Prop:=fun y=>∃ x0 x1 x2 x3 x4 x5 r,f x0 x1 x2 x3 x4 x5=some r∧y=g x0 x1 x2 x3 x4 x5 r
theorem cg6{A0 A1 A2 A3 A4 A5 R:Type}{f:A0→A1→A2→A3→A4→A5→Option R}{g:A0→A1→A2→A3→A4→A5→R→GI}{x0:A0}{x1:A1}{x2:A2}{x3:A3}{x4:A4}{x5:A5}{r:R}(H:f x0 x1 x2 x3 x4 x5=some r):Sg6 f g (g x0 x1 x2 x3 x4 x5 r):=⟨_,_,_,_,_,_,_,H,rfl⟩
def Sg7{A0 A1 A2 A3 A4 A5 A6 R:Type}(f:A0→A1→A2→A3→A4→A5→A6→Option R)(g:A0→A1→A2→A3→A4→A5→A6→R→GI):GI→Prop:=fun y=>∃ x0 x1 x2 x3 x4 x5 x6 r,f x0 x1 x2 x3 x4 x5 x6=some r∧y=g x0 x1 x2 x3 x4 x5 x6 r
theorem cg7{A0 A1 A2 A3 A4 A5 A6 R:Type}{f:A0→A1→A2→A3→A4→A5→A6→Option R}{g:A0→A1→A2→A3→A4→A5→A6→R→GI}{x0:A0}{x1:A1}{x2:A2}{x3:A3}{x4:A4}{x5:A5}{x6:A6}{r:R}(H:f x0 x1 x2 x3 x4 x5 x6=some r):Sg7 f g (g x0 x1 x2 x3 x4 x5 x6 r):=⟨_,_,_,_,_,_,_,_,H,rfl⟩
def Sg8{A0 A1 A2 A3 A4 A5 A6 A7 R:Type}(f:A0→A1→A2→A3→A4→A5→A6→A7→Option R)(g:A0→A1→A2→A3→A4→A5→A6→A7→R→GI):GI→Prop:=fun y=>∃ x0 x1 x2 x3 x4 x5 x6 x7 r,f x0 x1 x2 x3 x4 x5 x6 x7=some r∧y=g x0 x1 x2 x3 x4 x5 x6 x7 r
theorem cg8{A0 A1 A2 A3 A4 A5 A6 A7 R:Type}{f:A0→A1→A2→A3→A4→A5→A6→A7→Option R}{g:A0→A1→A2→A3→A4→A5→A6→A7→R→GI}{x0:A0}{x1:A1}{x2:A2}{x3:A3}{x4:A4}{x5:A5}{x6:A6}{x7:A7}{r:R}(H:f x0 x1 x2 x3 x4 x5 x6 x7=some r):Sg8 f g (g x0 x1 x2 x3 x4 x5 x6 x7 r):=⟨_,_,_,_,_,_,_,_,_,H,rfl⟩
def Sg10{A0 A1 A2 A3 A4 A5 A6 A7 A8 A9 R:Type}(f:A0→A1→A2→A3→A4→A5→A6→A7→A8→A9→Option R)(g:A0→A1→A2→A3→A4→A5→A6→A7→A8→A9→R→GI):GI→Prop:=fun y=>∃ x0 x1 x2 x3 x4 x5 x6 x7 x8 x9 r,f x0 x1 x2 x3 x4 x5 x6 x7 x8 x9=some r∧y=g x0 x1 x2 x3 x4 x5 x6 x7 x8 x9 r
theorem cg10{A0 A1 A2 A3 A4 A5 A6 A7 A8 A9 R:Type}{f:A0→A1→A2→A3→A4→A5→A6→A7→A8→A9→Option R}{g:A0→A1→A2→A3→A4→A5→A6→A7→A8→A9→R→GI}{x0:A0}{x1:A1}{x2:A2}{x3:A3}{x4:A4}{x5:A5}{x6:A6}{x7:A7}{x8:A8}{x9:A9}{r:R}(H:f x0 x1 x2 x3 x4 x5 x6 x7 x8 x9=some r):Sg10 f g (g x0 x1 x2 x3 x4 x5 x6 x7 x8 x9 r):=⟨_,_,_,_,_,_,_,_,_,_,_,H,rfl⟩
def Sg12{A0 A1 A2 A3 A4 A5 A6 A7 A8 A9 A10 A11 R:Type}(f:A0→A1→A2→A3→A4→A5→A6→A7→A8→A9→A10→A11→Option R)(g:A0→A1→A2→A3→A4→A5→A6→A7→A8→A9→A10→A11→R→GI):GI→Prop:=fun y=>∃ x0 x1 x2 x3 x4 x5 x6 x7 x8 x9 x10 x11 r,f x0 x1 x2 x3 x4 x5 x6 x7 x8 x9 x10 x11=some r∧y=g x0 x1 x2 x3 x4 x5 x6 x7 x8 x9 x10 x11 r
theorem cg12{A0 A1 A2 A3 A4 A5 A6 A7 A8 A9 A10 A11 R:Type}{f:A0→A1→A2→A3→A4→A5→A6→A7→A8→A9→A10→A11→Option R}{g:A0→A1→A2→A3→A4→A5→A6→A7→A8→A9→A10→A11→R→GI}{x0:A0}{x1:A1}{x2:A2}{x3:A3}{x4:A4}{x5:A5}{x6:A6}{x7:A7}{x8:A8}{x9:A9}{x10:A10}{x11:A11}{r:R}(H:f x0 x1 x2 x3 x4 x5 x6 x7 x8 x9 x10 x11=some r):Sg12 f g (g x0 x1 x2 x3 x4 x5 x6 x7 x8 x9 x10 x11 r):=⟨_,_,_,_,_,_,_,_,_,_,_,_,_,H,rfl⟩
def Sg15{A0 A1 A2 A3 A4 A5 A6 A7 A8 A9 A10 A11 A12 A13 A14 R:Type}(f:A0→A1→A2→A3→A4→A5→A6→A7→A8→A9→A10→A11→A12→A13→A14→Option R)(g:A0→A1→A2→A3→A4→A5→A6→A7→A8→A9→A10→A11→A12→A13→A14→R→GI):GI→Prop:=fun y=>∃ x0 x1 x2 x3 x4 x5 x6 x7 x8 x9 x10 x11 x12 x13 x14 r,f x0 x1 x2 x3 x4 x5 x6 x7 x8 x9 x10 x11 x12 x13 x14=some r∧y=g x0 x1 x2 x3 x4 x5 x6 x7 x8 x9 x10 x11 x12 x13 x14 r
theorem cg15{A0 A1 A2 A3 A4 A5 A6 A7 A8 A9 A10 A11 A12 A13 A14 R:Type}{f:A0→A1→A2→A3→A4→A5→A6→A7→A8→A9→A10→A11→A12→A13→A14→Option R}{g:A0→A1→A2→A3→A4→A5→A6→A7→A8→A9→A10→A11→A12→A13→A14→R→GI}{x0:A0}{x1:A1}{x2:A2}{x3:A3}{x4:A4}{x5:A5}{x6:A6}{x7:A7}{x8:A8}{x9:A9}{x10:A10}{x11:A11}{x12:A12}{x13:A13}{x14:A14}{r:R}(H:f x0 x1 x2 x3 x4 x5 x6 x7 x8 x9 x10 x11 x12 x13 x14=some r):Sg15 f g (g x0 x1 x2 x3 x4 x5 x6 x7 x8 x9 x10 x11 x12 x13 x14 r):=⟨_,_,_,_,_,_,_,_,_,_,_,_,_,_,_,_,H,rfl⟩
abbrev kI(e:Int):C:=.d (.v (.int .i64 e))
abbrev kB(e:Bool):C:=.d (.v (.bool e))
abbrev kS(e:List UInt8):C:=.d (.v (str e))
abbrev cI(e:Int):AV:=.c (.d (.v (.int .i64 e)))
abbrev cB(e:Bool):AV:=.c (.d (.v (.bool e)))
abbrev cS(e:List UInt8):AV:=.c (.d (.v (str e)))
end Go.Proofs.YtfkhlbhjhdpkoaaGreatDoor
