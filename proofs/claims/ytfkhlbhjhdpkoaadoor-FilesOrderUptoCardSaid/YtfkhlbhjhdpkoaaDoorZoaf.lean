/- Regions in whatever order,where what is read stays what it was: locks. -/
import Derived.Test.YtfkhlbhjhdpkoaaDoorZoad
set_option linter.unusedVariables false
set_option linter.unusedSimpArgs false
namespace Go.Proofs.YtfkhlbhjhdpkoaaDoor
open Go.RowKit
section
variable {t:Tab} {ops:Array Oper} {pure:Nat→Nat} {fl:List Nat}
abbrev LK:=Hp→Prop
abbrev XK:=LK→List Hp→(Nat→AV)→Hp→Prop
def Je7(pure:Nat→Nat)(op:Op)(c:Nat):Prop:=cls pure op=c∨(c=8∧cls pure op=1)∨(c=5∧cls pure op=2)
theorem Je7.ne{pure:Nat→Nat}{op:Op}{c:Nat}(h:Je7 pure op c)(h8:c≠8)(h5:c≠5:=by first | decide | omega):cls pure op=c:=h.resolve_right fun x=>x.elim (fun x=>h8 x.1) (fun x=>h5 x.1)
theorem Je7.read{pure:Nat→Nat}{op:Op}{c:Nat}(h:Je7 pure op c)(h8:c=1∨c=8):cls pure op=1:=by
 rcases h with h | h
 ·rcases h8 with h8 | h8
  ·rw[h,h8]
  ·exfalso
   rw[h8]at h
   have:∀ op,cls pure op≠8:=fun op h=>by
    cases op <;> simp only[cls]at h <;> first | (exact absurd h (by decide)) | skip
    case call c =>
     obtain⟨callee,args,ts⟩:=c
     cases callee with
     | invoke _ _=>simp at h
     | value f=>cases f <;> simp at h; (repeat' split at h) <;> simp at h
     | builtin b=>cases b <;> simp at h; (have:=Jal ts.toList; omega)
   exact this op h
 ·rcases h with h | h
  ·exact h.2
  ·exfalso; omega
def pick(ops:Array Oper):List Nat→List Oper
 | []=>[]
 | k::ks=>match ops[k]? with
  | some o=>o::pick ops ks
  | none=>pick ops ks
end
end Go.Proofs.YtfkhlbhjhdpkoaaDoor
namespace Go.Proofs.YtfkhlbhjhdpkoaaDoor
open Go.RowKit
variable {t:Tab} {σ:Nat→AV} {h:Hp} {Q:Kn}
theorem Jhr{b:Code}{ch:List PanicEntry}(hh:Q (.panic ch) σ h):Then t b Q (.panic ch) σ h:=hh
theorem Jgx{id:Nat}{ch:List PanicEntry}(hh:Q (.panic ch) σ h):Xv id Q (.panic ch) σ h:=hh
theorem Jgy{rt n:Nat}{I:Nat→(Nat→AV)→Hp→Prop}{ch:List PanicEntry}(hh:Q (.panic ch) σ h):Jdg rt n I Q (.panic ch) σ h:=hh
theorem Jiw{rt:Nat}{R:(Nat→AV)→Hp→Prop}{ch:List PanicEntry}(hh:Q (.panic ch) σ h):Cut rt R Q (.panic ch) σ h:=hh
theorem xS{p q:Prop}(x:p)(f:p→q:=by intro x; (repeat (with_reducible (first | refine Jbf ?_ | refine KH ?_ | refine JgY ?_ | refine JfC ?_ | refine Jga ?_ | refine Jh2 ?_ | refine JeW ?_ | refine Jdj ?_ | refine JkX ?_ | refine Ji9 ?_ | refine Jiy ?_ | refine Jh0 ?_ | refine Jc4 ?_ | refine Jj2 ?_ | refine Ji0 ?_ | refine Jgu rfl ?_ | refine Jhr ?_ | refine Jgx ?_ | refine Jgy ?_ | refine Jiw ?_ | refine JjQ ?_ | refine Jku ?_ | refine JjN ?_ | refine Jjn ?_))); exact x):q:=f x
theorem xR{p:Prop}{id:Nat}{ops:Array Oper}{draw:Bool}{σ2:Nat→AV}{h2:Hp}(x:p)
  (hl:(draw && t.lk.contains id)=false:=by rfl) (hg:(ops.toList.all (Xb ops))=true:=by rfl)
  (hr:∀ K:(Nat→AV)→Hp→Prop,K σ2 h2→aRO t K (ops.toList.map (roOf ops)) σ h:=by
   intro K hK
   simp -implicitDefEqProofs only[goR,↓JD,goS,↓reduceIte,reduceCtorEq,seval,F]
   repeat' (first | exact hK | (with_reducible apply And.intro) | exact trivial | assumption | omega))
  (f:p→Q .normal σ2 h2:=by intro x; refine xS ?_; exact x):aC t (.region id ops draw) σ h Q :=
 Jbx hl hg fun K hK=>hr K (hK _ _ (f x))
theorem xT{p:Prop}{c:Operand}{a b:Code}(x:p)(hc:evA σ c=.c (.d (.v (.bool true))):=by simp -implicitDefEqProofs only[goR,↓JD,goS,↓reduceIte,reduceCtorEq,seval,F])
  (f:p→aC t a σ h Q:=by intro x; refine xS ?_; exact x):aC t (.cond c a b) σ h Q:=Jg8 hc (f x)
theorem xE{p:Prop}{c:Operand}{a b:Code}(x:p)(hc:evA σ c=.c (.d (.v (.bool false))):=by simp -implicitDefEqProofs only[goR,↓JD,goS,↓reduceIte,reduceCtorEq,seval,F])
  (f:p→aC t b σ h Q:=by intro x; refine xS ?_; exact x):aC t (.cond c a b) σ h Q:=JdG hc (f x)
theorem xr{p:Prop}{id:Nat}{ops:Array Oper}{draw:Bool}{σ2:Nat→AV}{h2:Hp}(x:p)
  (hl:(draw && t.lk.contains id)=false:=by rfl) (hg:(ops.toList.all (Xb ops))=true:=by rfl)
  (hr:∀ K:(Nat→AV)→Hp→Prop,K σ2 h2→aRO t K (ops.toList.map (roOf ops)) σ h:=by
   intro K hK
   simp -implicitDefEqProofs only[goR,↓JD,goS,↓reduceIte,reduceCtorEq,seval,Y]
   repeat' (first | exact hK | (with_reducible apply And.intro) | exact trivial | assumption | omega))
  (f:p→Q .normal σ2 h2:=by intro x; refine xS ?_; exact x):aC t (.region id ops draw) σ h Q :=
 Jbx hl hg fun K hK=>hr K (hK _ _ (f x))
theorem xt{p:Prop}{c:Operand}{a b:Code}(x:p)(hc:evA σ c=.c (.d (.v (.bool true))):=by simp -implicitDefEqProofs only[goR,↓JD,goS,↓reduceIte,reduceCtorEq,seval,Y])
  (f:p→aC t a σ h Q:=by intro x; refine xS ?_; exact x):aC t (.cond c a b) σ h Q:=Jg8 hc (f x)
theorem xe{p:Prop}{c:Operand}{a b:Code}(x:p)(hc:evA σ c=.c (.d (.v (.bool false))):=by simp -implicitDefEqProofs only[goR,↓JD,goS,↓reduceIte,reduceCtorEq,seval,Y])
  (f:p→aC t b σ h Q:=by intro x; refine xS ?_; exact x):aC t (.cond c a b) σ h Q:=JdG hc (f x)
theorem xR0{id:Nat}{ops:Array Oper}{draw:Bool}{σ2:Nat→AV}{h2:Hp}(x:Q .normal σ2 h2)
  (hl:(draw && t.lk.contains id)=false:=by rfl) (hg:(ops.toList.all (Xb ops))=true:=by rfl)
  (hr:∀ K:(Nat→AV)→Hp→Prop,K σ2 h2→aRO t K (ops.toList.map (roOf ops)) σ h:=by
   intro K hK
   simp -implicitDefEqProofs only[goR,↓JD,goS,↓reduceIte,reduceCtorEq,seval,F]
   repeat' (first | exact hK | (with_reducible apply And.intro) | exact trivial | assumption | omega)):aC t (.region id ops draw) σ h Q :=
 Jbx hl hg fun K hK=>hr K (hK _ _ x)
theorem xr0{id:Nat}{ops:Array Oper}{draw:Bool}{σ2:Nat→AV}{h2:Hp}(x:Q .normal σ2 h2)
  (hl:(draw && t.lk.contains id)=false:=by rfl) (hg:(ops.toList.all (Xb ops))=true:=by rfl)
  (hr:∀ K:(Nat→AV)→Hp→Prop,K σ2 h2→aRO t K (ops.toList.map (roOf ops)) σ h:=by
   intro K hK
   simp -implicitDefEqProofs only[goR,↓JD,goS,↓reduceIte,reduceCtorEq,seval,Y]
   repeat' (first | exact hK | (with_reducible apply And.intro) | exact trivial | assumption | omega)):aC t (.region id ops draw) σ h Q :=
 Jbx hl hg fun K hK=>hr K (hK _ _ x)
theorem xE0{c:Operand}{a b:Code}(x:aC t b σ h Q)(hc:evA σ c=.c (.d (.v (.bool false))):=by simp -implicitDefEqProofs only[goR,↓JD,goS,↓reduceIte,reduceCtorEq,seval,F]):aC t (.cond c a b) σ h Q:=JdG hc x
theorem xK{rt:Nat}{L:List (Nat×AV)}{bs:List (List C)}{ts:List TypeId}(r:Ren)(hb:bs.length=r.ps.length:=by rfl)(ht:ts.length=r.qs.length:=by rfl)
  (hp:once r.ps=true:=by rfl) (hq:once r.qs=true:=by rfl)
  (h1:BWk r h 1 bs:=by first | (simp -implicitDefEqProofs only[goW,goR,↓JD,goS,↓reduceIte,reduceCtorEq,seval,Y]; done) | simp -implicitDefEqProofs only[goW,goR,↓JD,goS,↓reduceIte,reduceCtorEq,seval,Y,G])
  (h2:TWk r h (r.ps.length+1) ts:=by first | (simp -implicitDefEqProofs only[goW,goR,↓JD,goS,↓reduceIte,reduceCtorEq,seval,Y]; done) | simp -implicitDefEqProofs only[goW,goR,↓JD,goS,↓reduceIte,reduceCtorEq,seval,Y,G])
  (h3:LWk r σ L:=by first | (simp -implicitDefEqProofs only[goW,goR,↓JD,goS,↓reduceIte,reduceCtorEq,seval,Y]; done) | simp -implicitDefEqProofs only[goW,goR,↓JD,goS,↓reduceIte,reduceCtorEq,seval,Y,G])
  (hds:DlWk r (dfL (σ DS)) (dfL (sigL L DS)):=by first | (simp -implicitDefEqProofs only[goW,goR,↓JD,goS,↓reduceIte,reduceCtorEq,seval,Y]; done) | simp -implicitDefEqProofs only[goW,goR,↓JD,goS,↓reduceIte,reduceCtorEq,seval,Y,G])
  (hrt:(r.ps.take rt == List.range' 1 rt)=true:=by rfl):Wk rt σ h (sigL L) (hpL bs ts):=JkG r hb ht hp rfl hq h1 h2 h3 hds hrt
theorem xH{a b c d g:Prop}(F:a)(G:g)(y:b)(h1:b→c:=by intro y; (try (simp -implicitDefEqProofs only[goR,↓JD,goS,↓reduceIte,reduceCtorEq,seval,Y]at y)); exact y)
  (h2:b→d:=by intro y; (try (simp only[goT]at y)); exact y):(a∧c)∧(c∧g)∧d:=⟨⟨F,h1 y⟩,⟨h1 y,G⟩,h2 y⟩
theorem xC{a b c:Prop}(F:a)(y:b)(h1:b→c:=by intro y; (try (simp -implicitDefEqProofs only[goR,↓JD,goS,↓reduceIte,reduceCtorEq,seval,Y]at y)); exact y):a∧c:=⟨F,h1 y⟩
theorem xCf{a b c:Prop}(F:a)(y:b)(h1:b→c:=by intro y; (try (simp -implicitDefEqProofs only[goR,↓JD,goS,↓reduceIte,reduceCtorEq,seval,F]at y)); exact y):a∧c:=⟨F,h1 y⟩
theorem xZ{a b:Prop}(x:a)(y:b):a∧b:=⟨x,y⟩
theorem xN{P:Program}{rt:Nat}{fn:Func}{d:D}{ex:Exit}(q:QRet P fn d ex σ h:=by first | (simp -implicitDefEqProofs only[goQ,goR,↓JD,goS,↓reduceIte,reduceCtorEq,seval,Y]; done) | simp -implicitDefEqProofs only[goQ,goR,↓JD,goS,↓reduceIte,reduceCtorEq,seval,Y,G]):ZK P rt fn d ex σ h :=
 ⟨σ,h,Wk.refl _ _ _,q⟩
theorem xNf{P:Program}{rt:Nat}{fn:Func}{d:D}{ex:Exit}(n sz:Nat)(l:List D)(cs:List C)(x:ZK P rt fn d ex (fun i=>frzA n (.sl sz (l++cs.map C.toD)) (l.length+cs.length) (σ i)) (frzH n (.sl sz (l++cs.map C.toD)) (l.length+cs.length) h))
  (hH:h.H n=some (.arr sz l::cs):=by simp -implicitDefEqProofs only[goG,goR,↓JD,goS,↓reduceIte,reduceCtorEq,seval,Y]) (hD:cs.all C.isD=true:=by rfl) (h1D:(cs.map C.toD).all D.one=true:=by rfl):ZK P rt fn d ex σ h :=
 let ⟨σ',h',k,q⟩:=x; ⟨σ',h',(JeO hH hD h1D).trans k,q⟩
class DInj {A:Type} (e:A→D):Prop where
 s:∀ a b,K9 (e a)=K9 (e b)→a=b
 i:∀ a b,e a=e b→a=b
instance:DInj dI:=⟨fun a b h=>VP a b h,VP⟩
instance:DInj dB:=⟨fun a b h=>JiV a b h,JiV⟩
instance:DInj dS:=⟨fun a b h=>Jae a b h,Jae⟩
instance:DInj dU:=⟨fun a b h=>JiO a b h,JiO⟩
instance {A:Type} {e:A→D} {sz:Nat} [he:DInj e]:DInj (dL sz e):=⟨fun _ _ h=>Jik (sz:=0) he.i _ _ h,Jik he.i⟩
def dF(n:Nat):D:=.v (.func (.func n) #[] #[])
theorem JiS(a b:Nat)(h:dF a=dF b):a=b:=by simpa [dF] using h
instance:DInj dF:=⟨fun a b h=>JiS a b h,JiS⟩
class IEnc {A:Type} (enc:A→List D):Prop where
 inj:Inj enc
def E0:Unit→List D:=fun _=>[]
section
variable {A1 A2 A3 A4 A5 A6 A7 A8:Type}
def E1(e1:A1→D):A1→List D:=fun a=>[e1 a]
def E2(e1:A1→D)(e2:A2→D):A1×A2→List D:=fun a=>[e1 a.1,e2 a.2]
def E3(e1:A1→D)(e2:A2→D)(e3:A3→D):A1×A2×A3→List D:=fun a=>[e1 a.1,e2 a.2.1,e3 a.2.2]
def E4(e1:A1→D)(e2:A2→D)(e3:A3→D)(e4:A4→D):A1×A2×A3×A4→List D:=fun a=>[e1 a.1,e2 a.2.1,e3 a.2.2.1,e4 a.2.2.2]
def E5(e1:A1→D)(e2:A2→D)(e3:A3→D)(e4:A4→D)(e5:A5→D):A1×A2×A3×A4×A5→List D:=fun a=>[e1 a.1,e2 a.2.1,e3 a.2.2.1,e4 a.2.2.2.1,e5 a.2.2.2.2]
def E6(e1:A1→D)(e2:A2→D)(e3:A3→D)(e4:A4→D)(e5:A5→D)(e6:A6→D):A1×A2×A3×A4×A5×A6→List D:=fun a=>[e1 a.1,e2 a.2.1,e3 a.2.2.1,e4 a.2.2.2.1,e5 a.2.2.2.2.1,e6 a.2.2.2.2.2]
instance:IEnc E0:=⟨fun _ _ _=>rfl⟩
instance {e1:A1→D} [h1:DInj e1]:IEnc (E1 e1):=⟨fun a b h=>by
 simp only[E1,List.map_cons,List.map_nil,List.cons.injEq,and_true]at h
 exact h1.s _ _ h⟩
instance {e1:A1→D} {e2:A2→D} [h1:DInj e1] [h2:DInj e2]:IEnc (E2 e1 e2):=⟨fun a b h=>by
 simp only[E2,List.map_cons,List.map_nil,List.cons.injEq,and_true]at h
 exact Prod.ext (h1.s _ _ h.1) (h2.s _ _ h.2)⟩
instance {e1:A1→D} {e2:A2→D} {e3:A3→D} [h1:DInj e1] [h2:DInj e2] [h3:DInj e3]:IEnc (E3 e1 e2 e3):=⟨fun a b h=>by
 simp only[E3,List.map_cons,List.map_nil,List.cons.injEq,and_true]at h
 exact Prod.ext (h1.s _ _ h.1) (Prod.ext (h2.s _ _ h.2.1) (h3.s _ _ h.2.2))⟩
instance {e1:A1→D} {e2:A2→D} {e3:A3→D} {e4:A4→D} [h1:DInj e1] [h2:DInj e2] [h3:DInj e3] [h4:DInj e4]:IEnc (E4 e1 e2 e3 e4):=⟨fun a b h=>by
 simp only[E4,List.map_cons,List.map_nil,List.cons.injEq,and_true]at h
 exact Prod.ext (h1.s _ _ h.1) (Prod.ext (h2.s _ _ h.2.1) (Prod.ext (h3.s _ _ h.2.2.1) (h4.s _ _ h.2.2.2)))⟩
instance {e1:A1→D} {e2:A2→D} {e3:A3→D} {e4:A4→D} {e5:A5→D} [h1:DInj e1] [h2:DInj e2] [h3:DInj e3] [h4:DInj e4] [h5:DInj e5]:IEnc (E5 e1 e2 e3 e4 e5):=⟨fun a b h=>by
 simp only[E5,List.map_cons,List.map_nil,List.cons.injEq,and_true]at h
 exact Prod.ext (h1.s _ _ h.1) (Prod.ext (h2.s _ _ h.2.1) (Prod.ext (h3.s _ _ h.2.2.1) (Prod.ext (h4.s _ _ h.2.2.2.1) (h5.s _ _ h.2.2.2.2))))⟩
instance {e1:A1→D} {e2:A2→D} {e3:A3→D} {e4:A4→D} {e5:A5→D} {e6:A6→D} [h1:DInj e1] [h2:DInj e2] [h3:DInj e3] [h4:DInj e4] [h5:DInj e5] [h6:DInj e6]:IEnc (E6 e1 e2 e3 e4 e5 e6):=⟨fun a b h=>by
 simp only[E6,List.map_cons,List.map_nil,List.cons.injEq,and_true]at h
 exact Prod.ext (h1.s _ _ h.1) (Prod.ext (h2.s _ _ h.2.1) (Prod.ext (h3.s _ _ h.2.2.1) (Prod.ext (h4.s _ _ h.2.2.2.1) (Prod.ext (h5.s _ _ h.2.2.2.2.1) (h6.s _ _ h.2.2.2.2.2)))))⟩
def T0:Unit→D:=fun _=>.tu []
def T2(e1:A1→D)(e2:A2→D):A1×A2→D:=fun r=>.tu [e1 r.1,e2 r.2]
def T3(e1:A1→D)(e2:A2→D)(e3:A3→D):A1×A2×A3→D:=fun r=>.tu [e1 r.1,e2 r.2.1,e3 r.2.2]
def T4(e1:A1→D)(e2:A2→D)(e3:A3→D)(e4:A4→D):A1×A2×A3×A4→D:=fun r=>.tu [e1 r.1,e2 r.2.1,e3 r.2.2.1,e4 r.2.2.2]
end
abbrev PC(pf:PF)(l:List D)(d:D):Prop:=pf.pre l=True∧pf.val l=d
theorem PF.c{A R:Type}{enc:A→List D}{f:A→Option R}{e:R→D} [IEnc enc] {a:A} {r:R} (H:f a=some r):PC (PF.of enc f e) (enc a) (e r) :=
 ⟨PF.of_pre H,PF.of_val IEnc.inj H⟩
theorem PF.cl{A R:Type}{enc:A→List D}{f:A→Option R}{e:R→D} [IEnc enc] {l:List D} {a:A} {r:R} (H:f a=some r) (hl:les1 l (enc a)):PC (PF.of enc f e) l (e r) :=
 ⟨PF.of_prel hl H,PF.of_vall IEnc.inj hl H⟩
theorem xFl{P:Program}(hm:P.follows .mixedOrders=true){A R:Type}{enc:A→List D}{f:A→Option R}{e:R→D} [IEnc enc] (lk:List Nat) (l:List (Nat×PF)) (gl:List (Nat×Bool×(GI→Prop))) (h1:Z3 P l) (h2:XG P gl)
  {k:Nat} {fn:Func} {c:Code} (hf:P.funcs[k]? = some fn)
  (h:∀ a r,f a=some r→aC (tab P l gl [] 0 lk) c (sig0 ((enc a).map fun d=>.c (.d d))) hp0 (ZK P 0 fn (e r)))
  (hb:fn.body=some c:=by rfl) (hcode:(Kq (Zz (l.map Prod.fst) (gl.map fun p=>(p.1,p.2.1))) lk fn.ntmps c && fn.results.toList.all (Vg fn.ntmps) && fn.ntmps.ble DS)=true:=by kernel_rfl)
  (hl:∀ a,(enc a).length≤fn.ntmps:=by intro a; exact Nat.le_of_ble_eq_true rfl):Ks P k (PF.of enc f e) :=
 Jkc (t:=tab P l gl [] 0 lk) IEnc.inj rfl (Jfg h1 h2 trivial) hm JcK (Jfa h2) hf hb hcode hl h
theorem xF{P:Program}(hm:P.follows .mixedOrders=true){A R:Type}{enc:A→List D}{f:A→Option R}{e:R→D} [IEnc enc] (l:List (Nat×PF)) (gl:List (Nat×Bool×(GI→Prop))) (h1:Z3 P l) (h2:XG P gl)
  {k:Nat} {fn:Func} {c:Code} (hf:P.funcs[k]? = some fn)
  (h:∀ a r,f a=some r→aC (tab P l gl [] 0 []) c (sig0 ((enc a).map fun d=>.c (.d d))) hp0 (ZK P 0 fn (e r)))
  (hb:fn.body=some c:=by rfl) (hcode:(Kq (Zz (l.map Prod.fst) (gl.map fun p=>(p.1,p.2.1))) [] fn.ntmps c && fn.results.toList.all (Vg fn.ntmps) && fn.ntmps.ble DS)=true:=by kernel_rfl)
  (hl:∀ a,(enc a).length≤fn.ntmps:=by intro a; exact Nat.le_of_ble_eq_true rfl):Ks P k (PF.of enc f e) :=
 xFl hm [] l gl h1 h2 hf h hb hcode hl
theorem xGnl{P:Program}(hm:P.follows .mixedOrders=true)(lk:List Nat)(l:List (Nat×PF))(gl:List (Nat×Bool×(GI→Prop)))(dl:List (Nat×(DI→Prop)))(h1:Z3 P l)(h2:XG P gl)(h3:JaD P dl)
  {k:Nat} {fn:Func} {c:Code} (hf:P.funcs[k]? = some fn) (g:GI) (h:aC (tab P l gl dl g.bs.length lk) c (sig0 g.args) (hpL g.bs g.ts) (Jbg (tab P l gl dl g.bs.length lk) fn g.bs.length g.out))
  (hb:fn.body=some c:=by rfl) (hcode:(Kq (Zz (l.map Prod.fst) (gl.map fun p=>(p.1,p.2.1))) lk fn.ntmps c && fn.results.toList.all (Vg fn.ntmps) && fn.ntmps.ble DS)=true:=by kernel_rfl)
  (hl:g.args.length≤fn.ntmps:=by exact Nat.le_of_ble_eq_true rfl):Kd P k g :=
 Jh6 (t:=tab P l gl dl g.bs.length lk) (Jfg h1 h2 h3) hm JcK (Jfa h2) hf hb hcode g rfl hl h
theorem xGn{P:Program}(hm:P.follows .mixedOrders=true)(l:List (Nat×PF))(gl:List (Nat×Bool×(GI→Prop)))(dl:List (Nat×(DI→Prop)))(h1:Z3 P l)(h2:XG P gl)(h3:JaD P dl)
  {k:Nat} {fn:Func} {c:Code} (hf:P.funcs[k]? = some fn) (g:GI) (h:aC (tab P l gl dl g.bs.length []) c (sig0 g.args) (hpL g.bs g.ts) (Jbg (tab P l gl dl g.bs.length []) fn g.bs.length g.out))
  (hb:fn.body=some c:=by rfl) (hcode:(Kq (Zz (l.map Prod.fst) (gl.map fun p=>(p.1,p.2.1))) [] fn.ntmps c && fn.results.toList.all (Vg fn.ntmps) && fn.ntmps.ble DS)=true:=by kernel_rfl)
  (hl:g.args.length≤fn.ntmps:=by exact Nat.le_of_ble_eq_true rfl):Kd P k g :=
 xGnl hm [] l gl dl h1 h2 h3 hf g h hb hcode hl
theorem tabG{P:Program}{l:List (Nat×PF)}{gl:List (Nat×Bool×(GI→Prop))}{dl:List (Nat×(DI→Prop))}{rt n:Nat}{lk:List Nat}{np:Bool}{S:GI→Prop}{g:GI}(i:Nat)(hs:S g)(h:gl[i]? = some (n,np,S):=by rfl):(tab P l gl dl rt lk).G n g :=
 ⟨(n,np,S),List.mem_of_getElem? h,rfl,hs⟩
variable {K:(Nat→AV)→Hp→Prop} {Kp:Value→Hp→Prop} {L:List RdO}
theorem xQ{id:Nat}{ops:Array Oper}{draw:Bool}(x:aRG t (Q .normal) (fun v h'=>Q (.panic [{ v:=v,recovered:=false }]) (KB ops σ) h') (ops.toList.map (roOf ops)) σ h)
  (hl:(draw && t.lk.contains id)=false:=by rfl) (hg:(ops.toList.all (Xb ops))=true:=by rfl):aC t (.region id ops draw) σ h Q:=Jil hl hg x
def fgt:List Nat→(Nat→AV)→(Nat→AV)
 | [],σ=>σ
 | d::l,σ=>upd (fgt l σ) d (.c .top)
theorem xfz{id:Nat}{ops:Array Oper}{draw:Bool}(n sz:Nat)(l:List D)(cs:List C)(x:aC t (.region id ops draw) (fun i=>frzA n (.sl sz (l++cs.map C.toD)) (l.length+cs.length) (σ i)) (frzH n (.sl sz (l++cs.map C.toD)) (l.length+cs.length) h) Q)
  (hH:h.H n=some (.arr sz l::cs):=by simp -implicitDefEqProofs only[goR,↓JD,goS,↓reduceIte,reduceCtorEq,seval,Y]) (hD:cs.all C.isD=true:=by rfl) (h1D:(cs.map C.toD).all D.one=true:=by rfl):aC t (.region id ops draw) σ h Q :=
 let ⟨σ1,h1,k,q⟩:=x; ⟨σ1,h1,(JeO hH hD h1D).trans k,q⟩
theorem xft{id:Nat}{ops:Array Oper}{draw:Bool}(n k:Nat){sz:Nat}{l:List D}(x:aC t (.region id ops draw) σ { h with H:=upd h.H n (some [.arr sz (l.take k)]) } Q)
  (hH:h.H n=some [.arr sz l]:=by simp -implicitDefEqProofs only[goR,↓JD,goS,↓reduceIte,reduceCtorEq,seval,Y]; rfl) (hk:k≤l.length:=by simp -implicitDefEqProofs only[goR,↓JD,goS,↓reduceIte,reduceCtorEq,seval,Y]; omega):aC t (.region id ops draw) σ h Q :=
 let ⟨σ1,h1,k',q⟩:=x; ⟨σ1,h1,(JiZ (k:=k) hH rfl rfl hk).trans (by simpa using k'),q⟩
theorem xs(n:Nat){σ2:Nat→AV}{h2:Hp}(x:aRG t K Kp (L.drop n) σ2 h2)
  (hr:∀ K':(Nat→AV)→Hp→Prop,K' σ2 h2→aRO t K' (L.take n) σ h:=by
   intro K' hK
   simp -implicitDefEqProofs only[goR,↓JD,goS,↓reduceIte,reduceCtorEq,seval,F]
   repeat' (first | exact hK | (with_reducible apply And.intro) | exact trivial | assumption | omega)):aRG t K Kp L σ h:=by
 have:=Ja7 (l2:=L.drop n) (hr _ x)
 rwa [List.take_append_drop]at this
theorem xl(x:K σ h)(hl:L=[]:=by rfl):aRG t K Kp L σ h:=by subst hl; exact x
def gdOk(σ:Nat→AV):Option (Tmp×Bool)→Prop
 | none=>True
 | some (d,w)=>σ d=.c (.d (.v (.bool w)))
theorem Jhg{g:Option (Tmp×Bool)}{run skip:(Nat→AV)→Prop}(hg:gdOk σ g)(hh:run σ):aGd σ g run skip:=by
 cases g with
 | none=>exact hh
 | some p =>
  obtain⟨d,w⟩:=p
  have hg:σ d=.c (.d (.v (.bool w))):=hg
  simp only[aGd,hg]
  refine⟨fun _=>?_,fun hx=>by cases w <;> cases hx⟩
  have:=JcP (q:=w) hg rfl
  rw[this]; exact hh
theorem xc{l':List RdO}{o:RdO}{f:Nat}{args:List AV}{g:GI}{val:AV}{bs:List (List C)}{ts:List TypeId}{σ2:Nat→AV}{h2:Hp}(r:Ren)(hG:t.G f g)(x:aRG t K Kp l' σ2 h2)
  (hl:L=o::l':=by rfl) (hout:g.out=.ret val bs ts:=by rfl)
  (hgd:gdOk σ o.g:=by simp -implicitDefEqProofs only[gdOk,goR,↓JD,goS,↓reduceIte,reduceCtorEq,seval,F])
  (hc:KE t σ o.op=some (f,args):=by(simp -implicitDefEqProofs only[goG,goR,↓JD,goS,↓reduceIte,reduceCtorEq,seval,F]; try rfl))
  (ha:AsWk r args g.args:=by simp -implicitDefEqProofs only[goG,goW,goR,↓JD,goS,↓reduceIte,reduceCtorEq,seval,F])
  (lb:g.bs.length=r.ps.length:=by rfl) (lt:g.ts.length=r.qs.length:=by rfl) (op:once r.ps=true:=by rfl) (oq:once r.qs=true:=by rfl)
  (bwk:BWk r h 1 g.bs:=by simp -implicitDefEqProofs only[goG,goW,goR,↓JD,goS,↓reduceIte,reduceCtorEq,seval,F])
  (twk:TWk r h (r.ps.length+1) g.ts:=by simp -implicitDefEqProofs only[goG,goW,goR,↓JD,goS,↓reduceIte,reduceCtorEq,seval,F])
  (live:∀ row∈g.bs,row≠[]:=by simp -implicitDefEqProofs only[goG,goW,goR,↓JD,goS,↓reduceIte,reduceCtorEq,seval,F])
  (hs:∀ X:(Nat→AV)→Hp→Prop,X σ2 h2→X (putA σ o.dst (renA (r.back h.nx) val)) (h.after r bs ts):=by
   intro X hX
   simp -implicitDefEqProofs only[goG,goR,↓JD,goS,↓reduceIte,reduceCtorEq,seval,F]
   exact hX):aRG t K Kp L σ h:=by
 subst hl
 refine Jhg hgd ?_
 unfold aRun
 rw[hc]
 refine⟨g,r,hG,⟨ha,lb,lt,op,oq,bwk,twk,live⟩,?_⟩
 rw[hout]
 exact hs _ x
theorem xv{l':List RdO}{o:RdO}{y:Operand}{v:Value}(x:Kp v h)(hl:L=o::l':=by rfl)(hop:o.op=.panic y:=by rfl)
  (hgd:gdOk σ o.g:=by simp -implicitDefEqProofs only[gdOk,goR,↓JD,goS,↓reduceIte,reduceCtorEq,seval,F])
  (hv:panV σ y=some v:=by simp -implicitDefEqProofs only[panV,goR,↓JD,goS,↓reduceIte,reduceCtorEq,seval,F]; rfl):aRG t K Kp L σ h:=by
 subst hl
 refine Jhg hgd ?_
 unfold aRun
 rw[hop]
 have hg:∀ op,isDP op=true→KE t σ op=none:=fun op h=>by cases op <;> first | rfl | cases h
 rw[hg _ rfl]
 simp only[isDP,if_true]
 unfold aDP
 simp only[hv]
 exact x
section
variable {pure:Nat→Nat} {fl:List Nat} {K:XK} {L:LK} {M:List Hp} {l:List RdO}
section
variable {ops:Array Oper} {listed:Array Bool} {K:(Nat→AV)→Hp→Prop}
end
end
variable {fn:Func} {nb:Nat} {val:AV} {bs:List (List C)} {ts:List TypeId}
theorem xOr{out:GOut}(x:QL t fn.results.toList nb out (dfL (σ DS)) none σ h):Jbg t fn nb out .ret σ h:=⟨σ,h,Wk.refl _ _ _,x⟩
theorem xOn{out:GOut}(x:QL t fn.results.toList nb out (dfL (σ DS)) none σ h):Jbg t fn nb out .normal σ h:=⟨σ,h,Wk.refl _ _ _,x⟩
theorem qDf{rs:List ResultVar}{u:Option Value}{out:GOut}(dl:List (Nat×List C))(x:QL t rs nb out dl u σ h)
  (hd:dfL (σ DS)=dl:=by simp -implicitDefEqProofs only[goG,goR,↓JD,goS,↓reduceIte,reduceCtorEq,seval,Y]):QL t rs nb out (dfL (σ DS)) u σ h:=by rw[hd]; exact x
theorem xrD{out:GOut}(dl:List (Nat×List C))(x:QL t fn.results.toList nb out dl none σ h)(hd:dfL (σ DS)=dl:=by simp -implicitDefEqProofs only[goG,goR,↓JD,goS,↓reduceIte,reduceCtorEq,seval,Y]):Jbg t fn nb out .ret σ h:=xOr (by rw[hd]; exact x)
theorem xnD{out:GOut}(dl:List (Nat×List C))(x:QL t fn.results.toList nb out dl none σ h)(hd:dfL (σ DS)=dl:=by simp -implicitDefEqProofs only[goG,goR,↓JD,goS,↓reduceIte,reduceCtorEq,seval,Y]):Jbg t fn nb out .normal σ h:=xOn (by rw[hd]; exact x)
theorem xO{rs:List ResultVar}{av:AV}(r:Ren)(hr:(VD t.P σ h rs).1:=by simp -implicitDefEqProofs only[goG,goQ,goR,↓JD,goS,↓reduceIte,reduceCtorEq,seval,Y])
  (hj:Jbs (VD t.P σ h rs).2=some av:=by simp -implicitDefEqProofs only[goG,goQ,goR,↓JD,goS,↓reduceIte,reduceCtorEq,seval,Y]; rfl)
  (ha:AWk r av val:=by first | (simp -implicitDefEqProofs only[goG,goW,goR,↓JD,goS,↓reduceIte,reduceCtorEq,seval,Y]; done) | simp -implicitDefEqProofs only[goG,goW,goR,↓JD,goS,↓reduceIte,reduceCtorEq,seval,Y,G])
  (lb:bs.length=r.ps.length:=by rfl) (lt:ts.length=r.qs.length:=by rfl) (op:once r.ps=true:=by rfl) (oq:once r.qs=true:=by rfl)
  (bwk:BWk r h 1 bs:=by first | (simp -implicitDefEqProofs only[goG,goW,goR,↓JD,goS,↓reduceIte,reduceCtorEq,seval,Y]; done) | simp -implicitDefEqProofs only[goG,goW,goR,↓JD,goS,↓reduceIte,reduceCtorEq,seval,Y,G])
  (twk:TWk r h (r.ps.length+1) ts:=by simp -implicitDefEqProofs only[goG,goW,goR,↓JD,goS,↓reduceIte,reduceCtorEq,seval,Y])
  (rt:(r.ps.take nb == List.range' 1 nb)=true:=by rfl) (hn:nb≤bs.length:=by exact Nat.le_of_ble_eq_true rfl):QL t rs nb (.ret val bs ts) [] none σ h :=
 ⟨r,av,⟨lb,lt,op,oq,bwk,twk,rt,hn⟩,hr,hj,ha⟩
def Kok(P:Program)(N:Nat)(np:Bool)(S:GI→Prop):Prop:=Jf P N∧(∀ g,S g→Kd P N g)∧(np=true→∀ g,S g→∃ val bs ts,g.out=.ret val bs ts)
end Go.Proofs.YtfkhlbhjhdpkoaaDoor
namespace Go.Proofs.YtfkhlbhjhdpkoaaDoor
open Go.RowKit
theorem xFL{P:Program}(hm:P.follows .mixedOrders=true){A R:Type}{enc:A→List D}{f:A→Option R}{e:R→D} [IEnc enc] (lk:List Nat) (l:List (Nat×PF)) (gl:List (Nat×Bool×(GI→Prop))) (h1:Z3 P l) (h2:XG P gl)
  {k:Nat} {fn:Func} {c:Code} (hf:P.funcs[k]? = some fn)
  (h:∀ a r,f a=some r→aL (tab P l gl [] 0 (999999::lk)) fn.ntmps c (sig0 ((enc a).map fun d=>.c (.d d))) hp0 (ZK P 0 fn (e r)) (ZK P 0 fn (e r)))
  (hb:fn.body=some c:=by rfl) (hcode:(Zm (Zz (l.map Prod.fst) (gl.map fun p=>(p.1,p.2.1))) (999999::lk) fn.ntmps c && fn.results.toList.all (Vg fn.ntmps) && fn.ntmps.ble DS)=true:=by kernel_rfl)
  (hl:∀ a,(enc a).length≤fn.ntmps:=by intro a; exact Nat.le_of_ble_eq_true rfl):Ks P k (PF.of enc f e):=by
 have hx:∀ a r,f a=some r→Ks P k ⟨fun l=>l=enc a,fun _=>e r⟩:=fun a r H=>by
  refine JhT (t:=tab P l gl [] 0 (999999::lk)) (Jfg h1 h2 trivial) hm JcK (Jfa h2) (by simp[tab]) hf hb hcode _ ?_
  rintro args rfl
  exact⟨hl a,rfl,_,_,Wk.refl _ _ _,fun _=>h a r H⟩
 intro w S args vs hG hargs hS hp
 obtain⟨a,r,hle,H⟩:=hp
 have:=hx a r H w S (enc a) vs hG (Jbd hle hargs) hS rfl
 rwa [PF.of_vall IEnc.inj hle H]
def JhS(t:Tab)(nt:Nat)(b:Code)(Q1 Q2:Kn):Kn:=fun ex σ' h'=>match ex with | .normal=>∃ σ2 h2,Wk t.rt σ' h' σ2 h2∧Given h2.Good (aL t nt b σ2 h2 Q1 Q2) | ex=>Q1 ex σ' h'
def NoN(Q:Kn):Kn:=fun ex σ' h'=>match ex with | .normal=>False | ex=>Q ex σ' h'
variable {t:Tab} {nt:Nat} {σ:Nat→AV} {h:Hp} {Q1 Q2:Kn}
theorem Jbo{a b:Code}(hh:aC t a σ h (JhS t nt b Q1 Q2))(hx:Z4 a=false:=by rfl):aL t nt (.seq a b) σ h Q1 Q2:=by
 show(if Z4 a=true then _ else _)
 rw[if_neg (by rw[hx]; decide)]
 refine Zq a σ h _ _ (fun ex σ h hk=>?_) hh
 cases ex <;> exact hk
theorem Jix{a b:Code}(hh:aL t nt a σ h (NoN Q1) (Then t b Q2))(hx:Z4 a=true:=by rfl):aL t nt (.seq a b) σ h Q1 Q2:=by
 show(if Z4 a=true then _ else _)
 rw[if_pos hx]
 exact hh
theorem JgS{id:Nat}{b:Code}(hh:aL t nt b σ h (Xv id Q1) (Xv id Q2)):aL t nt (.block id b) σ h Q1 Q2:=hh
theorem Zf{b:Code}(hh:aL t nt b σ h Q1 Q2):JhS t nt b Q1 Q2 .normal σ h:=⟨σ,h,Wk.refl _ _ _,⟨fun _=>hh⟩⟩
theorem JkV{b:Code}(hh:Q1 .ret σ h):JhS t nt b Q1 Q2 .ret σ h:=hh
theorem Jhl{g:Operand}{pt:Tmp}{assign body:Code}(N m:Nat)(p1 p2 p3:Nat)(c:UInt8)(t0:List UInt8)(L:List (Nat×AV))(L1:List (Nat×AV))(bs:List (List C))(I:Nat→List (List C)→Prop)
  (hit:Jcy t.P N) (hwk:Wk t.rt σ h (sigL L) (hpL bs [])) (hg:evA (sigL L) g=.c (.clo N [p1,p2,p3])) (hdf:dfL (sigL L DS)=[]) (hdf1:dfL (sigL L1 DS)=[])
  (hσ:∀ i,i<nt→nzA (sigL L1 i)=true∧(sigL L1 i=sigL L i∨sigL L1 i=.c .top))
  (k1:hpH bs p1=some [.d (.v (.string ⟨#[c]⟩))]) (k2:hpH bs p2=some [.d (.v (str t0))]) (k3:hpH bs p3=some [.d (.v (.int .i64 0))]) (hlen:t0.length≤4611686018427387904) (hne:p1≠p2∧p2≠p3∧p1≠p3) (hnx:bs.length=m)
  (bs1:List (List C)) (hd:XM (hpL bs []) p1 p2 p3=hpL bs1 []) (h0:I 0 bs1)
  (hI:∀ k x bs,(splV c t0)[k]? = some x→I k bs→aC { t with rt:=m } assign (upd (sigL L1) pt (.c (.d (.v (str x))))) (hpL bs []) (fun ex σ2 h2=>ex=.normal∧aC { t with rt:=m } body σ2 h2 (RQ { t with rt:=m } (fun k h=>∃ bs,h=hpL bs []∧I k bs) Q2 (sigL L1) k)))
  (hend:∀ bs,I (splV c t0).length bs→Q2 .normal (sigL L1) (hpL bs [])):aL t nt (.rangeFunc g #[pt] assign body) σ h Q1 Q2:=by
 refine⟨_,_,hwk,N,m,p1,p2,p3,c,t0,sigL L1,fun k h=>∃ bs,h=hpL bs []∧I k bs,pt,rfl,hit,hg,hdf,hdf1,hσ,k1,k2,k3,hlen,hne,by simp[hpL,hnx],⟨bs1,hd,h0⟩,?_,?_⟩
 ·rintro k x _ hx ⟨bs,rfl,hi⟩ _
  exact hI k x bs hx hi
 ·rintro _ ⟨bs,rfl,hi⟩
  exact hend bs hi
theorem Jdy{I:Nat→Hp→Prop}{Q:Kn}{σ σ2:Nat→AV}{k:Nat}{h:Hp}(hh:Q .ret σ h):RQ t I Q σ k .ret σ2 h:=hh
theorem JjS{I:Nat→List (List C)→Prop}{Q:Kn}{σ σ2:Nat→AV}{k:Nat}{bs:List (List C)}(hh:I (k+1) bs):RQ t (fun k h=>∃ bs,h=hpL bs []∧I k bs) Q σ k .normal σ2 (hpL bs []):=⟨_,_,Wk.refl _ _ _,bs,rfl,hh⟩
theorem Jcp{I:Nat→List (List C)→Prop}{Q:Kn}{σ σ2:Nat→AV}{k:Nat}{h2:Hp}(bs:List (List C))(hwk:Wk t.rt σ2 h2 (sigL []) (hpL bs []))(hh:I (k+1) bs):RQ t (fun k h=>∃ bs,h=hpL bs []∧I k bs) Q σ k .normal σ2 h2:=⟨_,_,hwk,bs,rfl,hh⟩
theorem JbZ{α:Type}{l:List α}{k:Nat}{x:α}(h:l[k]? = some x):l.drop k=x::l.drop (k+1):=by
 obtain⟨h1,h2⟩:=List.getElem?_eq_some_iff.1 h
 rw[← h2]; exact List.drop_eq_getElem_cons h1
def Jaj{α:Type}(f:α→Option Bool):List α→Option Bool
 | []=>some true
 | x::l=>(f x).bind fun b=>if b=true then Jaj f l else some false
def JaQ{S R α:Type}(f:S→α→Option (S ⊕ R)):S→List α→Option (S ⊕ R)
 | s,[]=>some (.inl s)
 | s,x::l=>(f s x).bind fun o=>match o with | .inl s=>JaQ f s l | .inr r=>some (.inr r)
theorem Jjw{S R α:Type}{f:S→α→Option (S ⊕ R)}{l:List α}{k:Nat}{x:α}{s:S}{o:S ⊕ R}(h:l[k]? = some x)(H:JaQ f s (l.drop k)=some o):
  (∃ s',f s x=some (.inl s')∧JaQ f s' (l.drop (k+1))=some o)∨∃ r,f s x=some (.inr r)∧o=.inr r:=by
 rw[JbZ h]at H
 simp only[JaQ]at H
 cases hf:f s x with
 | none=>rw[hf]at H; cases H
 | some b=>cases b with
  | inl s'=>rw[hf]at H; exact .inl ⟨s',rfl,H⟩
  | inr r=>rw[hf]at H; exact .inr ⟨r,rfl,(Option.some.inj H).symm⟩
theorem JdZ{S R α:Type}{f:S→α→Option (S ⊕ R)}{l:List α}{s:S}{o:S ⊕ R}(H:JaQ f s (l.drop l.length)=some o):o=.inl s:=by
 rw[List.drop_length]at H
 exact(Option.some.inj H).symm
theorem Ji5{α:Type}{f:α→Option Bool}{l:List α}{k:Nat}{x:α}{o:Bool}(h:l[k]? = some x)(H:Jaj f (l.drop k)=some o):∃ b,f x=some b∧(if b=true then Jaj f (l.drop (k+1)) else some false)=some o:=by
 rw[JbZ h]at H
 simp only[Jaj]at H
 cases hf:f x with
 | none=>rw[hf]at H; cases H
 | some b=>rw[hf]at H; exact⟨b,rfl,H⟩
theorem JiQ{α:Type}{f:α→Option Bool}{l:List α}{o:Bool}(H:Jaj f (l.drop l.length)=some o):o=true:=by
 rw[List.drop_length]at H
 exact(Option.some.inj H).symm
end Go.Proofs.YtfkhlbhjhdpkoaaDoor
namespace Go.Proofs.YtfkhlbhjhdpkoaaDoor
open Go.RowKit
end Go.Proofs.YtfkhlbhjhdpkoaaDoor
