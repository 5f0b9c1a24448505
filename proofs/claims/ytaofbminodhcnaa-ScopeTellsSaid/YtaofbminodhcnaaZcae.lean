/- Regions in whatever order,where what is read stays what it was: locks. -/
import Derived.Test.YtaofbminodhcnaaZcad
set_option linter.unusedVariables false
set_option linter.unusedSimpArgs false
namespace Go.Proofs.Ytaofbminodhcnaa
open Go.RowKit
section
variable {t:Tab} {ops:Array Oper} {pure:Nat→Nat} {fl:List Nat}
abbrev LK:=Hp→Prop
abbrev XK:=LK→List Hp→(Nat→AV)→Hp→Prop
def isSt:Op→Bool
 | .store _ _ _=>true
 | _=>false
theorem JhO{t:Tab}{σ:Nat→AV}{op:Op}{x:Nat×List AV}(h:J3 t σ op=some x):isSt op=false:=by
 cases op <;> first | rfl | (simp[J3]at h)
def clsF(pure:Nat→Nat)(fl:List Nat)(op:Op)(dst:Option Tmp):Nat :=
 if cls pure op=1∧(match dst with | some d=>fl.contains d | none=>false)=false then 8 else if cls pure op=2∧isSt op=true∧fl.contains 888888=true then 5 else cls pure op
def JgT(pure:Nat→Nat)(op:Op)(c:Nat):Prop:=cls pure op=c∨(c=8∧cls pure op=1)∨(c=5∧cls pure op=2)
theorem Jjz(pure:Nat→Nat)(fl:List Nat)(op:Op)(dst:Option Tmp):JgT pure op (clsF pure fl op dst):=by
 unfold JgT clsF
 by_cases h:cls pure op=1∧(match dst with | some d=>fl.contains d | none=>false)=false
 ·rw[if_pos h]; exact .inr (.inl ⟨rfl,h.1⟩)
 ·rw[if_neg h]
  by_cases h5:cls pure op=2∧isSt op=true∧fl.contains 888888=true
  ·rw[if_pos h5]; exact .inr (.inr ⟨rfl,h5.1⟩)
  ·rw[if_neg h5]; exact .inl rfl
theorem JgT.ne{pure:Nat→Nat}{op:Op}{c:Nat}(h:JgT pure op c)(h8:c≠8)(h5:c≠5:=by first | decide | omega):cls pure op=c:=h.resolve_right fun x=>x.elim (fun x=>h8 x.1) (fun x=>h5 x.1)
theorem JgT.read{pure:Nat→Nat}{op:Op}{c:Nat}(h:JgT pure op c)(h8:c=1∨c=8):cls pure op=1:=by
 rcases h with h | h
 ·rcases h8 with h8 | h8
  ·rw[h,h8]
  ·exfalso
   rw[h8]at h
   have:∀ op,cls pure op≠8:=fun op h=>by
    cases op <;> simp only[cls]at h <;> first | (exact absurd h (by decide)) | skip
    case call c =>
     obtain⟨callee,args,ts⟩:=c
     cases callee with
     | invoke _ _=>simp at h
     | value f=>cases f <;> simp at h; (repeat' split at h) <;> simp at h
     | builtin b=>cases b <;> simp at h; (have:=Jf7 ts.toList; omega)
   exact this op h
 ·rcases h with h | h
  ·exact h.2
  ·exfalso; omega
def VS(t:Tab)(op:Op)(σ:Nat→AV)(h h':Hp):Prop:=(aop t.P t.Φ t.Ψ op σ h').pre∧(aop t.P t.Φ t.Ψ op σ h').val=(aop t.P t.Φ t.Ψ op σ h).val
def Jby(t:Tab)(c:Nat)(op:Op)(dst:Option Tmp)(K:XK)(Kp:Value→Hp→Prop)(L:LK)(M:List Hp)(σ:Nat→AV)(h:Hp):Prop :=
 if c=1 then(∀ h0∈M,VS t op σ h h0)∧aRun t op dst (K (fun h'=>L h'∧VS t op σ h h') M) Kp σ h
 else if c=2∨c=4∨c=6 then aRun t op dst (fun σ' h'=>L h'∧K L (h::M) σ' h') Kp σ h
 else aRun t op dst (K L M) Kp σ h
def aOpX(t:Tab)(pure:Nat→Nat)(fl:List Nat)(ops:Array Oper)(o:Oper)(K:XK)(Kp:Value→Hp→Prop)(L:LK)(M:List Hp)(σ:Nat→AV)(h:Hp):Prop :=
 J9 ops σ o.guard (Jby t (clsF pure fl o.op o.dst) o.op o.dst K Kp L M σ h) (K L M (putA σ o.dst VV) h)
def Je4(K:XK):Prop:=∀ (L L':LK) (M M':List Hp) (σ:Nat→AV) (h:Hp),(∀ h,L h→L' h)→(∀ x∈M',x∈M)→K L M σ h→K L' M' σ h
theorem Jh5{c:Nat}{op:Op}{dst:Option Tmp}{K K':XK}{Kp Kp':Value→Hp→Prop}(hk:∀ L M σ h,K L M σ h→K' L M σ h)(hp:∀ v h,Kp v h→Kp' v h){L:LK}{M:List Hp}{σ:Nat→AV}{h:Hp}(hh:Jby t c op dst K Kp L M σ h):Jby t c op dst K' Kp' L M σ h:=by
 unfold Jby at *
 split at hh
 ·rename_i h0; rw[if_pos h0]; exact⟨hh.1,X3 (fun _ _=>hk _ _ _ _) hp hh.2⟩
 ·rename_i h0; rw[if_neg h0]
  split at hh
  ·rename_i h1; rw[if_pos h1]; exact X3 (fun _ _ x=>⟨x.1,hk _ _ _ _ x.2⟩) hp hh
  ·rename_i h1; rw[if_neg h1]; exact X3 (fun _ _=>hk _ _ _ _) hp hh
theorem Jjb{o:Oper}{K K':XK}{Kp Kp':Value→Hp→Prop}(hk:∀ L M σ h,K L M σ h→K' L M σ h)(hp:∀ v h,Kp v h→Kp' v h){L:LK}{M:List Hp}{σ:Nat→AV}{h:Hp}(hh:aOpX t pure fl ops o K Kp L M σ h):aOpX t pure fl ops o K' Kp' L M σ h :=
 Jy (Jh5 hk hp) (hk _ _ _ _) hh
theorem Jru{o:Oper}{K:XK}{Kp:Value→Hp→Prop}(hk:Je4 K){L L':LK}{M M':List Hp}{σ:Nat→AV}{h:Hp}(hL:∀ h,L h→L' h)(hM:∀ x∈M',x∈M)(hh:aOpX t pure fl ops o K Kp L M σ h):aOpX t pure fl ops o K Kp L' M' σ h:=by
 refine Jy (fun x=>?_) (hk _ _ _ _ _ _ hL hM) hh
 unfold Jby at *
 split at x
 ·rename_i h0; rw[if_pos h0]
  exact⟨fun h0 hm=>x.1 h0 (hM _ hm),X3 (fun _ _=>hk _ _ _ _ _ _ (fun h' q=>⟨hL _ q.1,q.2⟩) hM) (fun _ _ x=>x) x.2⟩
 ·rename_i h0; rw[if_neg h0]
  split at x
  ·rename_i h1; rw[if_pos h1]
   exact X3 (fun _ _ q=>⟨hL _ q.1,hk _ _ _ _ _ _ hL (fun y hy=>by
    rcases List.mem_cons.1 hy with rfl | hy
    ·simp
    ·exact List.mem_cons_of_mem _ (hM _ hy)) q.2⟩) (fun _ _ x=>x) x
  ·rename_i h1; rw[if_neg h1]
   exact X3 (fun _ _=>hk _ _ _ _ _ _ hL hM) (fun _ _ x=>x) x
theorem JsS{c:Nat}{op:Op}{dst:Option Tmp}{K:XK}{Kp:Value→Hp→Prop}{L:LK}{M:List Hp}{σ:Nat→AV}{h:Hp}(hh:Jby t c op dst K Kp L M σ h):aRun t op dst (fun σ' h'=>∃ L M,K L M σ' h') Kp σ h:=by
 unfold Jby at hh
 split at hh
 ·exact X3 (fun _ _ x=>⟨_,_,x⟩) (fun _ _ x=>x) hh.2
 ·split at hh
  ·exact X3 (fun _ _ x=>⟨_,_,x.2⟩) (fun _ _ x=>x) hh
  ·exact X3 (fun _ _ x=>⟨_,_,x⟩) (fun _ _ x=>x) hh
theorem Jhy{op:Op}{dst:Option Tmp}{K:(Nat→AV)→Hp→Prop}{Kp:Value→Hp→Prop}{σ:Nat→AV}{h:Hp}(hf:h.Fr)(x:aRun t op dst K Kp σ h):aRun t op dst (fun σ' h'=>h'.Fr∧K σ' h') Kp σ h:=by
 unfold aRun at *
 split at x
 ·split at x
  ·rename_i hd
   rw[if_pos hd]
   unfold aDP at *
   split at x
   ·split at x
    ·exact⟨hf,x⟩
    ·exact x.elim
   ·split at x
    ·exact x
    ·exact x.elim
   ·exact x.elim
  ·rename_i hd
   rw[if_neg hd]
   exact⟨x.1,JnT hf,x.2⟩
 ·obtain⟨g,r,k1,k2,k3⟩:=x
  refine⟨g,r,k1,k2,?_⟩
  split at k3
  ·rename_i ho; exact⟨Jke hf k2 _ _,k3⟩
  ·exact k3
theorem Jlf{o:Oper}{K:XK}{Kp:Value→Hp→Prop}{L:LK}{M:List Hp}{σ:Nat→AV}{h:Hp}(hf:h.Fr)(hh:aOpX t pure fl ops o K Kp L M σ h):aOpX t pure fl ops o (fun L M σ' h'=>h'.Fr∧K L M σ' h') Kp L M σ h:=by
 refine Jy (fun x=>?_) (fun x=>⟨hf,x⟩) hh
 unfold Jby at *
 split at x
 ·rename_i h0; rw[if_pos h0]; exact⟨x.1,Jhy hf x.2⟩
 ·rename_i h0; rw[if_neg h0]
  split at x
  ·rename_i h1; rw[if_pos h1]; exact X3 (fun _ _ q=>⟨q.2.1,q.1,q.2.2⟩) (fun _ _ q=>q) (Jhy hf x)
  ·rename_i h1; rw[if_neg h1]; exact Jhy hf x
theorem Jut{o:Oper}{K:XK}{Kp:Value→Hp→Prop}{L:LK}{M:List Hp}{σ:Nat→AV}{h:Hp}(hh:aOpX t pure fl ops o K Kp L M σ h):aOp t ops o (fun σ' h'=>∃ L M,K L M σ' h') Kp σ h :=
 Jy JsS (fun x=>⟨_,_,x⟩) hh
def JdE(i j:Nat):Bool:=i != 7 && j != 7 && (i == 0 || (j == 0 && i != 6) || (i == 1 && (j == 1 || j == 2 || j == 3 || j == 4 || j == 6 || j == 8)) || (i == 8 && (j == 1 || j == 3 || j == 4 || j == 8)) || ((i == 2 || i == 3 || i == 4) && j == 1) || (i == 3 && j == 8))
theorem JxS{σ:Nat→AV}{g g':Option (Nat×Bool)}{Pi Pj RR RS SR SS RR' RS' SR' SS':Prop}(hh:J9 ops σ g (Pi∧J9 ops σ g' RR RS) (J9 ops σ g' SR SS))
  (h1:Pi→RR→Pj∧RR') (h2:SR→Pj∧SR') (h3:Pi→RS→RS') (h4:SS→SS'):J9 ops σ g' (Pj∧J9 ops σ g RR' SR') (J9 ops σ g RS' SS'):=by
 have k:=Jc8 (Jy (r':=J9 ops σ g' (Pj∧RR') RS') (s':=J9 ops σ g' (Pj∧SR') SS') (fun x=>Jy (h1 x.1) (h3 x.1) x.2) (fun x=>Jy h2 h4 x) hh)
 exact Jy (fun x=>JhE x) (fun x=>x) k
def preX(t:Tab)(c:Nat)(op:Op)(L:LK)(M:List Hp)(σ:Nat→AV)(h:Hp):Prop :=
 (c=1→∀ h0∈M,VS t op σ h h0)∧(aop t.P t.Φ t.Ψ op σ h).pre∧((c=2∨c=4∨c=6)→L (aop t.P t.Φ t.Ψ op σ h).h)
def lkX(t:Tab)(c:Nat)(op:Op)(L:LK)(σ:Nat→AV)(h:Hp):LK:=fun h'=>L h'∧(c=1→VS t op σ h h')
def mX(c:Nat)(M:List Hp)(h:Hp):List Hp:=if c=2∨c=4∨c=6 then h::M else M
theorem Jua{c:Nat}{op:Op}{dst:Option Tmp}{K:XK}(hk:Je4 K){Kp:Value→Hp→Prop}{L:LK}{M:List Hp}{σ:Nat→AV}{h:Hp}(hg:J3 t σ op=none)(hd:¬ isDP op=true):
  Jby t c op dst K Kp L M σ h↔preX t c op L M σ h∧K (lkX t c op L σ h) (mX c M h) (putA σ dst (aop t.P t.Φ t.Ψ op σ h).val) (aop t.P t.Φ t.Ψ op σ h).h:=by
 unfold Jby aRun preX mX
 simp only[hg,if_neg hd]
 by_cases h1:c=1
 ·subst h1
  simp only[if_true,true_implies]
  constructor
  ·rintro ⟨a,b,d⟩
   exact⟨⟨a,b,fun hx=>by rcases hx with hx | hx | hx <;> cases hx⟩,hk _ _ _ _ _ _ (fun h' q=>⟨q.1,fun _=>q.2⟩) (fun x hx=>hx) d⟩
  ·rintro ⟨⟨a,b,_⟩,d⟩
   exact⟨a,b,hk _ _ _ _ _ _ (fun h' q=>⟨q.1,q.2 rfl⟩) (fun x hx=>hx) d⟩
 ·rw[if_neg h1]
  by_cases h2:c=2∨c=4∨c=6
  ·simp only[if_pos h2]
   constructor
   ·rintro ⟨b,l,d⟩
    exact⟨⟨fun hx=>absurd hx h1,b,fun _=>l⟩,hk _ _ _ _ _ _ (fun h' q=>⟨q,fun hx=>absurd hx h1⟩) (fun x hx=>hx) d⟩
   ·rintro ⟨⟨_,b,l⟩,d⟩
    exact⟨b,l h2,hk _ _ _ _ _ _ (fun h' q=>q.1) (fun x hx=>hx) d⟩
  ·simp only[if_neg h2]
   constructor
   ·rintro ⟨b,d⟩
    exact⟨⟨fun hx=>absurd hx h1,b,fun hx=>absurd hx h2⟩,hk _ _ _ _ _ _ (fun h' q=>⟨q,fun hx=>absurd hx h1⟩) (fun x hx=>hx) d⟩
   ·rintro ⟨⟨_,b,_⟩,d⟩
    exact⟨b,hk _ _ _ _ _ _ (fun h' q=>q.1) (fun x hx=>hx) d⟩
theorem Je4.opX{o:Oper}{K:XK}{Kp:Value→Hp→Prop}(hk:Je4 K):Je4 (fun L M σ h=>aOpX t pure fl ops o K Kp L M σ h):=fun _ _ _ _ _ _ hL hM hh=>Jru hk hL hM hh
theorem Jx8(hpure:∀ n,pure n=0→(t.Φ n).isSome){i j:Op}{ci cj:Nat}(hi:JgT pure i ci)(hj:JgT pure j cj)(hc:JdE ci cj=true){L:LK}{M:List Hp}{σ:Nat→AV}{h:Hp}(hfr:h.Fr)
  (h1:preX t ci i L M σ h) (h2:preX t cj j (lkX t ci i L σ h) (mX ci M h) σ (aop t.P t.Φ t.Ψ i σ h).h) :
  preX t cj j L M σ h∧(preX t ci i (lkX t cj j L σ h) (mX cj M h) σ (aop t.P t.Φ t.Ψ j σ h).h) ∧
  (aop t.P t.Φ t.Ψ j σ h).val=(aop t.P t.Φ t.Ψ j σ (aop t.P t.Φ t.Ψ i σ h).h).val∧(aop t.P t.Φ t.Ψ i σ (aop t.P t.Φ t.Ψ j σ h).h).val=(aop t.P t.Φ t.Ψ i σ h).val ∧
  (aop t.P t.Φ t.Ψ i σ (aop t.P t.Φ t.Ψ j σ h).h).h=(aop t.P t.Φ t.Ψ j σ (aop t.P t.Φ t.Ψ i σ h).h).h ∧
  (∀ x∈mX ci (mX cj M h) (aop t.P t.Φ t.Ψ j σ h).h,x∈mX cj (mX ci M h) (aop t.P t.Φ t.Ψ i σ h).h) ∧
  (∀ h',lkX t cj j (lkX t ci i L σ h) σ (aop t.P t.Φ t.Ψ i σ h).h h'→lkX t ci i (lkX t cj j L σ h) σ (aop t.P t.Φ t.Ψ j σ h).h h'):=by
 simp only[JdE,Bool.and_eq_true,Bool.or_eq_true,beq_iff_eq,bne_iff_ne]at hc
 obtain⟨_,hc⟩:=hc
 unfold preX at *
 rcases hc with((((hc | hc) | ⟨hci,hcj⟩) | ⟨hci,hcj⟩) | ⟨hci,hcj⟩) | ⟨hci,hcj⟩
 ·-- it only reckons
  subst hc
  have hc:=hi.ne (by decide)
  have a:=fun h h'=>XU (P:=t.P) (Φ:=t.Φ) (Ψ:=t.Ψ) hpure hc σ h h'
  have ah:=fun h=>(a h h).2.2
  simp only[mX,lkX]at *
  simp only[ah]at *
  refine⟨⟨?_,h2.2.1,fun q=>(h2.2.2 q).1⟩,⟨by simp,by rw[(a _ h).1]; exact h1.2.1,by simp⟩,trivial,(a _ h).2.1,trivial,by simp,fun h' q=>⟨⟨q.1.1,q.2⟩,by simp⟩⟩
  intro q; have:=h2.1 q; simpa using this
 ·obtain⟨hc,hi6⟩:=hc
  subst hc
  have hc:=hj.ne (by decide)
  have a:=fun h h'=>XU (P:=t.P) (Φ:=t.Φ) (Ψ:=t.Ψ) hpure hc σ h h'
  have ah:=fun h=>(a h h).2.2
  simp only[mX,lkX]at *
  simp only[ah]at *
  refine⟨⟨by simp,by rw[(a h (aop t.P t.Φ t.Ψ i σ h).h).1]; exact h2.2.1,by simp⟩,⟨?_,h1.2.1,fun q=>⟨h1.2.2 q,by simp⟩⟩,(a _ _).2.1,trivial,trivial,by simp,fun h' q=>⟨⟨q.1.1,by simp⟩,q.1.2⟩⟩
  intro q; have:=h1.1 q; simpa using this
 ·-- it reads,with a lock
  subst hci
  have hci:=hi.ne (by decide)
  have ah:=fun h=>Xf (P:=t.P) (Φ:=t.Φ) (Ψ:=t.Ψ) hci σ h
  simp only[mX,lkX]at h1 h2 ⊢
  simp only[ah]at h1 h2 ⊢
  simp only[true_implies,show ¬ ((1:Nat)=2∨1=4∨1=6) by decide,if_false]at h1 h2 ⊢
  have hl:(aop t.P t.Φ t.Ψ i σ (aop t.P t.Φ t.Ψ j σ h).h).pre∧(aop t.P t.Φ t.Ψ i σ (aop t.P t.Φ t.Ψ j σ h).h).val=(aop t.P t.Φ t.Ψ i σ h).val:=by
   have hvy:(cj=2∨cj=4∨cj=6)→VS t i σ h (aop t.P t.Φ t.Ψ j σ h).h:=fun q=>(h2.2.2 q).2
   rcases hcj with((((hcj | hcj) | hcj) | hcj) | hcj) | hcj
   ·rw[Xf (P:=t.P) (Φ:=t.Φ) (Ψ:=t.Ψ) (hj.read (.inl hcj)) σ h]; exact⟨h1.2.1,rfl⟩
   ·exact hvy (.inl hcj)
   ·have b1:=Je9 (P:=t.P) (Φ:=t.Φ) (Ψ:=t.Ψ) ((hj.ne (by omega)).trans hcj) σ h
    rw[Jc0 (P:=t.P) (Φ:=t.Φ) (Ψ:=t.Ψ) hci σ b1]; exact⟨h1.2.1,rfl⟩
   ·exact hvy (.inr (.inl hcj))
   ·exact hvy (.inr (.inr hcj))
   ·rw[Xf (P:=t.P) (Φ:=t.Φ) (Ψ:=t.Ψ) (hj.read (.inr hcj)) σ h]; exact⟨h1.2.1,rfl⟩
  refine⟨⟨h2.1,h2.2.1,fun q=>(h2.2.2 q).1⟩,⟨?_,hl.1,by simp⟩,trivial,hl.2,trivial,by simp,fun h' q=>⟨⟨q.1.1,q.2⟩,?_⟩⟩
  ·intro h0 hm
   unfold VS
   rw[hl.2]
   split at hm
   ·rcases List.mem_cons.1 hm with rfl | hm
    ·exact⟨h1.2.1,rfl⟩
    ·exact h1.1 h0 hm
   ·exact h1.1 h0 hm
  ·have:=q.1.2
   unfold VS at *
   rw[hl.2]; exact this
 ·-- it reads,without one
  subst hci
  have hci:=hi.read (.inr rfl)
  have ah:=fun h=>Xf (P:=t.P) (Φ:=t.Φ) (Ψ:=t.Ψ) hci σ h
  simp only[mX,lkX]at h1 h2 ⊢
  simp only[ah]at h1 h2 ⊢
  simp only[show ¬ ((8:Nat)=1) by decide,show ¬ ((8:Nat)=2∨8=4∨8=6) by decide,if_false,false_implies,and_true,true_and]at h1 h2 ⊢
  have hl:(aop t.P t.Φ t.Ψ i σ (aop t.P t.Φ t.Ψ j σ h).h).pre∧(aop t.P t.Φ t.Ψ i σ (aop t.P t.Φ t.Ψ j σ h).h).val=(aop t.P t.Φ t.Ψ i σ h).val:=by
   rcases hcj with((hcj | hcj) | hcj) | hcj
   ·rw[Xf (P:=t.P) (Φ:=t.Φ) (Ψ:=t.Ψ) (hj.read (.inl hcj)) σ h]; exact⟨h1,rfl⟩
   ·have b1:=Je9 (P:=t.P) (Φ:=t.Φ) (Ψ:=t.Ψ) ((hj.ne (by omega)).trans hcj) σ h
    rw[Jc0 (P:=t.P) (Φ:=t.Φ) (Ψ:=t.Ψ) hci σ b1]; exact⟨h1,rfl⟩
   ·refine Jp0 hci σ h _ (fun n row hn=>?_) h1
    obtain⟨row',hr⟩:=JoT (P:=t.P) (Φ:=t.Φ) (Ψ:=t.Ψ) ((hj.ne (by omega)).trans hcj) σ h
    rw[hr]
    have hne:n≠h.nx:=fun he=>by have:=hfr n (by omega); rw[this]at hn; cases hn
    simp[Hp.box,upd,hne,hn]
   ·rw[Xf (P:=t.P) (Φ:=t.Φ) (Ψ:=t.Ψ) (hj.read (.inr hcj)) σ h]; exact⟨h1,rfl⟩
  exact⟨h2,hl.1,hl.2,fun x hx=>hx,fun h' q=>q⟩
 ·-- it is read,with a lock
  subst hcj
  have hcj:=hj.ne (by decide)
  have ah:=fun h=>Xf (P:=t.P) (Φ:=t.Φ) (Ψ:=t.Ψ) hcj σ h
  simp only[mX,lkX]at h1 h2 ⊢
  simp only[ah]at h1 h2 ⊢
  simp only[true_implies,show ¬ ((1:Nat)=2∨1=4∨1=6) by decide,if_false]at h1 h2 ⊢
  have hi1:ci≠1:=by omega
  have hl:(aop t.P t.Φ t.Ψ j σ h).pre∧(aop t.P t.Φ t.Ψ j σ h).val=(aop t.P t.Φ t.Ψ j σ (aop t.P t.Φ t.Ψ i σ h).h).val:=by
   have hvy:(ci=2∨ci=4∨ci=6)→VS t j σ (aop t.P t.Φ t.Ψ i σ h).h h:=fun q=>h2.1 h (by rw[if_pos q]; simp)
   rcases hci with(hci | hci) | hci
   ·exact hvy (.inl hci)
   ·have b1:=Je9 (P:=t.P) (Φ:=t.Φ) (Ψ:=t.Ψ) ((hi.ne (by omega)).trans hci) σ h
    have:=h2.2.1
    rw[Jc0 (P:=t.P) (Φ:=t.Φ) (Ψ:=t.Ψ) hcj σ b1]at this ⊢; exact⟨this,rfl⟩
   ·exact hvy (.inr (.inl hci))
  refine⟨⟨?_,hl.1,by simp⟩,⟨fun q=>absurd q hi1,h1.2.1,fun q=>⟨h1.2.2 q,?_⟩⟩,hl.2,trivial,trivial,by simp,fun h' q=>⟨⟨q.1.1,?_⟩,fun q=>absurd q hi1⟩⟩
  ·intro h0 hm
   unfold VS
   rw[hl.2]
   exact h2.1 h0 (by split <;> simp[hm])
  ·unfold VS
   rw[hl.2]; exact⟨h2.2.1,rfl⟩
  ·have:=q.2
   unfold VS at *
   rw[hl.2]; exact this
 ·-- it is read behind an append to a token
  subst hci hcj
  have hcj:=hj.read (.inr rfl)
  have hci:=hi.ne (by decide)
  have ah:=fun h=>Xf (P:=t.P) (Φ:=t.Φ) (Ψ:=t.Ψ) hcj σ h
  simp only[mX,lkX]at h1 h2 ⊢
  simp only[ah]at h1 h2 ⊢
  simp only[show ¬ ((8:Nat)=1) by decide,show ¬ ((3:Nat)=1) by decide,show ¬ ((8:Nat)=2∨8=4∨8=6) by decide,show ¬ ((3:Nat)=2∨3=4∨3=6) by decide,if_false,false_implies,and_true,true_and]at h1 h2 ⊢
  have b1:=Je9 (P:=t.P) (Φ:=t.Φ) (Ψ:=t.Ψ) hci σ h
  rw[Jc0 (P:=t.P) (Φ:=t.Φ) (Ψ:=t.Ψ) hcj σ b1]at h2 ⊢
  exact⟨h2,h1,rfl,fun x hx=>hx,fun h' q=>q⟩
theorem Jlu{o:Oper}{σ:Nat→AV}{dst:Option Tmp}{v:AV}{h h':Hp}(hd:∀ d,dst=some d→d∉o.looksAt ops):VS t o.op (putA σ dst v) h h'=VS t o.op σ h h':=by
 unfold VS; rw[Jct hd,Jct hd]
theorem JhY{o:Oper}{c:Nat}{L:LK}{M:List Hp}{σ:Nat→AV}{dst:Option Tmp}{v:AV}{h:Hp}(hd:∀ d,dst=some d→d∉o.looksAt ops):preX t c o.op L M (putA σ dst v) h=preX t c o.op L M σ h:=by
 unfold preX; simp only[Jlu hd,Jct hd]
theorem Jjv{o:Oper}{c:Nat}{L:LK}{σ:Nat→AV}{dst:Option Tmp}{v:AV}{h:Hp}(hd:∀ d,dst=some d→d∉o.looksAt ops):lkX t c o.op L (putA σ dst v) h=lkX t c o.op L σ h:=by
 unfold lkX; simp only[Jlu hd]
theorem Jdn{o:Oper}{K:XK}(hk:Je4 K){Kp:Value→Hp→Prop}{L:LK}{M:List Hp}{σ:Nat→AV}{h:Hp}(hg:J3 t σ o.op=none)(hd:¬ isDP o.op=true):
  aOpX t pure fl ops o K Kp L M σ h=J9 ops σ o.guard (preX t (clsF pure fl o.op o.dst) o.op L M σ h∧K (lkX t (clsF pure fl o.op o.dst) o.op L σ h) (mX (clsF pure fl o.op o.dst) M h) (putA σ o.dst (aop t.P t.Φ t.Ψ o.op σ h).val) (aop t.P t.Φ t.Ψ o.op σ h).h) (K L M (putA σ o.dst VV) h):=by
 unfold aOpX
 rw[propext (Jua hk hg hd)]
theorem Jom{i j:Nat}(h:JdE i j=true):i≠7∧j≠7:=by
 simp only[JdE,Bool.and_eq_true,bne_iff_ne]at h
 exact h.1
theorem Jud{op:Op}{dst:Option Tmp}(h:cls pure op=7):clsF pure fl op dst=7:=by
 unfold clsF
 rw[if_neg (by rw[h]; simp),if_neg (by rw[h]; simp),h]
theorem JkQ{op:Op}{dst:Option Tmp}(h:cls pure op=2∨cls pure op=6)(hs:isSt op=false):clsF pure fl op dst=cls pure op:=by
 unfold clsF
 rw[if_neg (by omega),if_neg (by rw[hs]; simp)]
theorem Jtb(hpure:∀ n,pure n=0→(t.Φ n).isSome){oi oj:Oper}(hap:oi.apart ops oj=true)(hc:JdE (clsF pure fl oi.op oi.dst) (clsF pure fl oj.op oj.dst)=true){K:XK}(hk:Je4 K){Kp:Value→Hp→Prop}{L:LK}{M:List Hp}{σ:Nat→AV}{h:Hp}(hfr:h.Fr)
  (hgi:J3 t σ oi.op=none) (hgj:J3 t σ oj.op=none) (hh:aOpX t pure fl ops oi (fun L M σ h=>aOpX t pure fl ops oj K Kp L M σ h) Kp L M σ h):aOpX t pure fl ops oj (fun L M σ h=>aOpX t pure fl ops oi K Kp L M σ h) Kp L M σ h:=by
 obtain⟨h1,h2,h3⟩:=Oper.apart_spec hap
 have hd1:=Jdx (pure:=pure) (fun h=>(Jom hc).1 ((Jud h)))
 have hd2:=Jdx (pure:=pure) (fun h=>(Jom hc).2 ((Jud h)))
 have gj:∀ v,J3 t (putA σ oi.dst v) oj.op=none:=fun v=>by rw[ZN h1]; exact hgj
 have gi:∀ v,J3 t (putA σ oj.dst v) oi.op=none:=fun v=>by rw[ZN h3]; exact hgi
 rw[Jdn hk.opX hgi hd1]at hh
 rw[Jdn hk.opX hgj hd2]
 simp only[Jdn hk (gj _) hd2,XQ (o:=oj) h1,JhY (o:=oj) h1,Jjv (o:=oj) h1,Jct (o:=oj) h1]at hh
 simp only[Jdn hk (gi _) hd1,XQ (o:=oi) h3,JhY (o:=oi) h3,Jjv (o:=oi) h3,Jct (o:=oi) h3]
 refine JxS hh (fun a b=>?_) (fun b=>⟨b.1,?_⟩) (fun a b=>⟨a,?_⟩) (fun b=>?_)
 ·obtain⟨s1,s2,s3,s4,s5,s6,s7⟩:=Jx8 hpure (Jjz pure fl oi.op oi.dst) (Jjz pure fl oj.op oj.dst) hc hfr a b.1
  refine⟨s1,s2,?_⟩
  rw[s5,s4,s3,← Kv h2]
  exact hk _ _ _ _ _ _ s7 s6 b.2
 ·rw[← Kv h2]; exact b.2
 ·rw[← Kv h2]; exact b
 ·rw[← Kv h2]; exact b
theorem JhI(hpure:∀ n,pure n=0→(t.Φ n).isSome){o:Oper}{K:XK}{Kp:Value→Hp→Prop}{L:LK}{M:List Hp}{σ:Nat→AV}{h:Hp}{x:Nat×List AV}(hx:J3 t σ o.op=some x):
  aOpX t pure fl ops o K Kp L M σ h=J9 ops σ o.guard (aGen t x h (fun v h'=>L h'∧K L (h::M) (putA σ o.dst v) h') Kp) (K L M (putA σ o.dst VV) h):=by
 have hc:=Jb8 hpure hx
 have he:=JkQ (fl:=fl) (dst:=o.dst) hc (JhO hx)
 unfold aOpX Jby
 simp only[he]
 rw[if_neg (by omega),if_pos (by omega)]
 unfold aRun
 simp only[hx]
theorem JuY(hpure:∀ n,pure n=0→(t.Φ n).isSome){i:Op}(hc:cls pure i=0∨cls pure i=1){L:LK}{M:List Hp}{σ:Nat→AV}{h h':Hp}(h1:preX t (cls pure i) i L M σ h)(h2:lkX t (cls pure i) i L σ h h'):
  preX t (cls pure i) i L (h::M) σ h'∧(aop t.P t.Φ t.Ψ i σ h').val=(aop t.P t.Φ t.Ψ i σ h).val∧(aop t.P t.Φ t.Ψ i σ h').h=h'∧(∀ h2,lkX t (cls pure i) i L σ h h2→lkX t (cls pure i) i L σ h' h2):=by
 rcases hc with hc | hc
 ·have a:=fun h h'=>XU (P:=t.P) (Φ:=t.Φ) (Ψ:=t.Ψ) hpure hc σ h h'
  unfold preX lkX at *
  simp only[hc]at *
  exact⟨⟨by simp,by rw[(a h' h).1]; exact h1.2.1,by simp⟩,(a _ _).2.1,(a h' h).2.2,fun _ q=>⟨q.1,by simp⟩⟩
 ·have ah:=fun h=>Xf (P:=t.P) (Φ:=t.Φ) (Ψ:=t.Ψ) hc σ h
  unfold preX lkX at *
  simp only[hc,true_implies]at *
  refine⟨⟨fun h0 hm=>?_,h2.2.1,by simp⟩,h2.2.2,ah _,fun h3 q=>⟨q.1,?_⟩⟩
  ·unfold VS
   rw[h2.2.2]
   rcases List.mem_cons.1 hm with rfl | hm
   ·exact⟨h1.2.1,rfl⟩
   ·exact h1.1 h0 hm
  ·have:=q.2
   unfold VS at *
   rw[h2.2.2]; exact this
theorem Jub(hpure:∀ n,pure n=0→(t.Φ n).isSome){oi oj:Oper}(hap:oi.apart ops oj=true)(hc:clsF pure fl oi.op oi.dst=0∨clsF pure fl oi.op oi.dst=1){K:XK}(hk:Je4 K){Kp:Value→Hp→Prop}{L:LK}{M:List Hp}{σ:Nat→AV}{h:Hp}
  {x:Nat×List AV} (hx:J3 t σ oj.op=some x) (hgi:J3 t σ oi.op=none) (hh:aOpX t pure fl ops oi (fun L M σ h=>aOpX t pure fl ops oj K Kp L M σ h) Kp L M σ h):aOpX t pure fl ops oj (fun L M σ h=>aOpX t pure fl ops oi K Kp L M σ h) Kp L M σ h:=by
 obtain⟨h1,h2,h3⟩:=Oper.apart_spec hap
 have he:clsF pure fl oi.op oi.dst=cls pure oi.op:=((Jjz pure fl oi.op oi.dst).ne (by omega)).symm
 simp only[he]at hc
 have hd1:¬ isDP oi.op=true:=Jdx (pure:=pure) (by omega)
 have gj:∀ v,J3 t (putA σ oi.dst v) oj.op=some x:=fun v=>by rw[ZN h1]; exact hx
 have gi:∀ v,J3 t (putA σ oj.dst v) oi.op=none:=fun v=>by rw[ZN h3]; exact hgi
 rw[Jdn hk.opX hgi hd1]at hh
 rw[JhI hpure hx]
 simp only[JhI hpure (gj _),XQ (o:=oj) h1]at hh
 simp only[Jdn hk (gi _) hd1,XQ (o:=oi) h3,JhY (o:=oi) h3,Jjv (o:=oi) h3,Jct (o:=oi) h3]
 simp only[he]at hh ⊢
 have hhi:(aop t.P t.Φ t.Ψ oi.op σ h).h=h:=by
  rcases hc with hc | hc
  ·exact(XU (P:=t.P) (Φ:=t.Φ) (Ψ:=t.Ψ) hpure hc σ h h).2.2
  ·exact Xf (P:=t.P) (Φ:=t.Φ) (Ψ:=t.Ψ) hc σ h
 have hmi:∀ M h,mX (cls pure oi.op) M h=M:=fun M h=>by unfold mX; rw[if_neg (by omega)]
 simp only[hhi,hmi]at hh ⊢
 have hh':=Jc8 (Jy (fun x=>Jy (fun y=>(⟨x.1,y⟩:preX t (cls pure oi.op) oi.op L M σ h∧_)) (fun y=>(⟨x.1,y⟩:preX t (cls pure oi.op) oi.op L M σ h∧_)) x.2) (fun x=>x) hh)
 refine Jy (fun y=>?_) (fun y=>?_) hh'
 ·refine Ja8 (fun v h' k=>?_) (fun _ _ k=>k) (Jno y)
  refine JhE (Jy (fun z=>?_) (fun z=>?_) k)
  ·obtain⟨z1,z2,z3⟩:=z
   obtain⟨a1,a2,a3,a4⟩:=JuY hpure hc z1 z2
   refine⟨z2.1,a1,?_⟩
   rw[a2,a3,← Kv h2]
   exact hk _ _ _ _ _ _ a4 (fun _ q=>q) z3
  ·refine⟨z.1,?_⟩
   rw[← Kv h2]; exact z.2
 ·refine Jy (fun z=>?_) (fun z=>?_) y
  ·refine⟨z.1,?_⟩
   rw[← Kv h2]; exact z.2
  ·rw[← Kv h2]; exact z
theorem Jsr(hpure:∀ n,pure n=0→(t.Φ n).isSome)(hnp:∀ n,pure n=1→∀ g,t.G n g→∃ val bs ts,g.out=.ret val bs ts){oi oj:Oper}(hap:oi.apart ops oj=true)(hc:clsF pure fl oj.op oj.dst=0∨clsF pure fl oj.op oj.dst=1)(h6:cls pure oi.op≠6){K:XK}(hk:Je4 K){Kp:Value→Hp→Prop}{L:LK}{M:List Hp}{σ:Nat→AV}{h:Hp}
  {x:Nat×List AV} (hx:J3 t σ oi.op=some x) (hgj:J3 t σ oj.op=none) (hh:aOpX t pure fl ops oi (fun L M σ h=>aOpX t pure fl ops oj K Kp L M σ h) Kp L M σ h):aOpX t pure fl ops oj (fun L M σ h=>aOpX t pure fl ops oi K Kp L M σ h) Kp L M σ h:=by
 obtain⟨h1,h2,h3⟩:=Oper.apart_spec hap
 have hret:∀ g,t.G x.1 g→∃ val bs ts,g.out=.ret val bs ts:=by
  have hc:=Jb8 hpure hx
  unfold J3 at hx
  split at hx
  case h_2=>cases hx
  rename_i c heq
  rw[heq]at hc h6
  obtain⟨callee,args,ts⟩:=c
  simp only at hx
  split at hx
  case h_2=>cases hx
  rename_i f
  cases f with
  | func n =>
   simp only[evA]at hx
   split at hx
   ·cases hx
    simp only[cls]at hc h6
    split at h6
    ·rename_i hz; rw[if_pos hz]at hc; omega
    ·split at h6
     ·rename_i h1; exact hnp n h1
     ·exact absurd rfl h6
   ·cases hx
  | _=>exact absurd rfl h6
 have he:clsF pure fl oj.op oj.dst=cls pure oj.op:=((Jjz pure fl oj.op oj.dst).ne (by omega)).symm
 simp only[he]at hc
 have hd1:¬ isDP oj.op=true:=Jdx (pure:=pure) (by omega)
 have gj:∀ v,J3 t (putA σ oi.dst v) oj.op=none:=fun v=>by rw[ZN h1]; exact hgj
 have gi:∀ v,J3 t (putA σ oj.dst v) oi.op=some x:=fun v=>by rw[ZN h3]; exact hx
 rw[JhI hpure hx]at hh
 rw[Jdn hk.opX hgj hd1]
 simp only[Jdn hk (gj _) hd1,XQ (o:=oj) h1,JhY (o:=oj) h1,Jjv (o:=oj) h1,Jct (o:=oj) h1]at hh
 simp only[JhI hpure (gi _),XQ (o:=oi) h3]
 simp only[he]at hh ⊢
 have hhj:∀ h,(aop t.P t.Φ t.Ψ oj.op σ h).h=h:=fun h=>by
  rcases hc with hc | hc
  ·exact(XU (P:=t.P) (Φ:=t.Φ) (Ψ:=t.Ψ) hpure hc σ h h).2.2
  ·exact Xf (P:=t.P) (Φ:=t.Φ) (Ψ:=t.Ψ) hc σ h
 have hmj:∀ M h,mX (cls pure oj.op) M h=M:=fun M h=>by unfold mX; rw[if_neg (by omega)]
 simp only[hhj,hmj]at hh ⊢
 -- what it reads behind the call it reads ahead of it
 have back:∀ h',preX t (cls pure oj.op) oj.op L (h::M) σ h'→preX t (cls pure oj.op) oj.op L M σ h∧(aop t.P t.Φ t.Ψ oj.op σ h).val=(aop t.P t.Φ t.Ψ oj.op σ h').val∧(∀ h2,lkX t (cls pure oj.op) oj.op L σ h' h2→lkX t (cls pure oj.op) oj.op L σ h h2)∧(L h'→lkX t (cls pure oj.op) oj.op L σ h h'):=by
  intro h' q
  rcases hc with hc | hc
  ·have a:=fun h h'=>XU (P:=t.P) (Φ:=t.Φ) (Ψ:=t.Ψ) hpure hc σ h h'
   unfold preX lkX at *
   simp only[hc]at *
   exact⟨⟨by simp,by rw[(a h h').1]; exact q.2.1,by simp⟩,(a _ _).2.1,fun _ q=>⟨q.1,by simp⟩,fun q=>⟨q,by simp⟩⟩
  ·unfold preX lkX at *
   simp only[hc,true_implies]at *
   have q0:=q.1 h (by simp)
   unfold VS at q0
   refine⟨⟨fun h0 hm=>?_,q0.1,by simp⟩,q0.2,fun h3 r=>⟨r.1,?_⟩,fun r=>⟨r,?_⟩⟩
   ·have:=q.1 h0 (by simp[hm])
    unfold VS at *
    rw[q0.2]; exact this
   ·have:=r.2
    unfold VS at *
    rw[q0.2]; exact this
   ·unfold VS
    rw[q0.2]; exact⟨q.2.1,rfl⟩
 have pull:∀ {g:Option (Nat×Bool)} {A B:AV→Hp→Prop},aGen t x h (fun v h'=>L h'∧J9 ops σ g (A v h') (B v h')) Kp→J9 ops σ g (aGen t x h (fun v h'=>L h'∧A v h') Kp) (aGen t x h (fun v h'=>L h'∧B v h') Kp):=by
  intro g A B hg
  obtain⟨gi,r,k1,k2,k3⟩:=hg
  obtain⟨val,bs,ts,ho⟩:=hret gi k1
  rw[ho]at k3
  refine Jy (fun y=>?_) (fun y=>?_) k3.2
  ·exact⟨gi,r,k1,k2,by rw[ho]; exact⟨k3.1,y⟩⟩
  ·exact⟨gi,r,k1,k2,by rw[ho]; exact⟨k3.1,y⟩⟩
 have hh':=Jc8 (Jy (fun y=>pull y) (fun y=>y) hh)
 refine Jy (fun y=>JhE (Jy (fun z=>?_) (fun z=>?_) y)) (fun y=>Jy (fun z=>?_) (fun z=>?_) y) hh'
 ·obtain⟨gi,r,k1,k2,k3⟩:=z
  obtain⟨val,bs,ts,ho⟩:=hret gi k1
  rw[ho]at k3
  obtain⟨b1,b2,b3,b4⟩:=back _ k3.2.1
  refine⟨b1,gi,r,k1,k2,?_⟩
  rw[ho]
  refine⟨b4 k3.1,?_⟩
  rw[b2,← Kv h2]
  exact hk _ _ _ _ _ _ b3 (fun _ q=>q) k3.2.2
 ·refine⟨z.1,?_⟩
  rw[← Kv h2]; exact z.2
 ·refine Ja8 (fun v h' k=>⟨k.1,?_⟩) (fun _ _ k=>k) z
  rw[← Kv h2]; exact k.2
 ·rw[← Kv h2]; exact z
theorem Jx9(hpure:∀ n,pure n=0→(t.Φ n).isSome)(hnp:∀ n,pure n=1→∀ g,t.G n g→∃ val bs ts,g.out=.ret val bs ts){oi oj:Oper}(hap:oi.apart ops oj=true)(hc:JdE (clsF pure fl oi.op oi.dst) (clsF pure fl oj.op oj.dst)=true){K:XK}(hk:Je4 K){Kp:Value→Hp→Prop}{L:LK}{M:List Hp}{σ:Nat→AV}{h:Hp}(hfr:h.Fr)
  (hh:aOpX t pure fl ops oi (fun L M σ h=>aOpX t pure fl ops oj K Kp L M σ h) Kp L M σ h):aOpX t pure fl ops oj (fun L M σ h=>aOpX t pure fl ops oi K Kp L M σ h) Kp L M σ h:=by
 have hc':=hc
 simp only[JdE,Bool.and_eq_true,Bool.or_eq_true,beq_iff_eq,bne_iff_ne]at hc'
 cases hgi:J3 t σ oi.op with
 | some xi =>
  have k1:=Jb8 hpure hgi
  have e1:=JkQ (fl:=fl) (dst:=oi.dst) k1 (JhO hgi)
  cases hgj:J3 t σ oj.op with
  | some xj =>
   have k2:=Jb8 hpure hgj
   have e2:=JkQ (fl:=fl) (dst:=oj.dst) k2 (JhO hgj)
   omega
  | none=>exact Jsr hpure hnp hap (by omega) (by omega) hk hgi hgj hh
 | none =>
  cases hgj:J3 t σ oj.op with
  | some xj =>
   have k2:=Jb8 hpure hgj
   have e2:=JkQ (fl:=fl) (dst:=oj.dst) k2 (JhO hgj)
   exact Jub hpure hap (by omega) hk hgj hgi hh
  | none=>exact Jtb hpure hap hc hk hfr hgi hgj hh
def Jgy(t:Tab)(pure:Nat→Nat)(fl:List Nat)(ops:Array Oper)(i:Nat)(K:XK)(Kp:Value→Hp→Prop)(L:LK)(M:List Hp)(σ:Nat→AV)(h:Hp):Prop :=
 match ops[i]? with
 | none=>K L M σ h
 | some o=>aOpX t pure fl ops o K Kp L M σ h
def Jd9(t:Tab)(pure:Nat→Nat)(fl:List Nat)(ops:Array Oper)(K:(Nat→AV)→Hp→Prop)(Kp:Value→Hp→Prop):Nat→Array Bool→LK→List Hp→(Nat→AV)→Hp→Prop
 | 0,listed,_,_,σ,h=>Region.ready .any ops listed=[]∧K σ h
 | f+1,listed,L,M,σ,h=>(Region.ready .any ops listed=[]→K σ h)∧∀ i∈Region.ready .any ops listed,Jgy t pure fl ops i (fun L M σ h=>Jd9 t pure fl ops K Kp f (listed.setIfInBounds i true) L M σ h) Kp L M σ h
theorem JkB{K:(Nat→AV)→Hp→Prop}{Kp:Value→Hp→Prop}:∀ {f:Nat} {listed:Array Bool},Je4 (fun L M σ h=>Jd9 t pure fl ops K Kp f listed L M σ h)
 | 0,_,_,_,_,_,_,_,_,_,hh=>hh
 | f+1,_,_,_,_,_,_,_,hL,hM,hh=>⟨hh.1,fun i hi=>by
  have:=hh.2 i hi
  unfold Jgy at *
  split
  ·rename_i h0; rw[h0]at this; exact JkB _ _ _ _ _ _ hL hM this
  ·rename_i o h0; rw[h0]at this; exact Jru JkB hL hM this⟩
theorem JhA{K:(Nat→AV)→Hp→Prop}{Kp:Value→Hp→Prop}:∀ {f:Nat} {listed:Array Bool} {L:LK} {M:List Hp} {σ:Nat→AV} {h:Hp},Jd9 t pure fl ops K Kp f listed L M σ h→aAny t ops K Kp f listed σ h
 | 0,_,_,_,_,_,hh=>hh
 | f+1,_,_,_,_,_,hh=>⟨hh.1,fun i hi=>by
  have:=hh.2 i hi
  unfold Jgy at this
  unfold JgQ
  split
  ·rename_i h0; rw[h0]at this; exact JhA this
  ·rename_i o h0; rw[h0]at this
   exact Jfl (fun _ _ ⟨_,_,x⟩=>JhA x) (fun _ _ x=>x) (Jut this)⟩
def Jfc(pure:Nat→Nat)(fl:List Nat)(ops:Array Oper)(listed:Array Bool)(k:Nat):Bool :=
 match ops[k]? with
 | none=>false
 | some ok=>(List.range ops.size).all fun j=>j == k || listed.getD j true || Jc7 ops j k ||
   (match ops[j]? with
    | some oj=>ok.apart ops oj && (JdE (clsF pure fl ok.op ok.dst) (clsF pure fl oj.op oj.dst) || JgU ops 9 j k)
    | none=>true)
theorem JqJ{listed:Array Bool}{i j:Nat}{oi oj:Oper}(hi:ops[i]? = some oi)(hj:ops[j]? = some oj)(hji:j≠i)(hdc:DC ops listed)(hin:∀ m,listed.getD m false=true→(ops[m]?).isSome)
  (hf:Jfc pure fl ops listed i=true) (hiun:listed.getD i true=false) (hr:j∈Region.ready .any ops listed):oi.apart ops oj=true∧JdE (clsF pure fl oi.op oi.dst) (clsF pure fl oj.op oj.dst)=true:=by
 obtain⟨hjun,oj',hoj',hall⟩:=mem_ready.1 hr
 rw[hj]at hoj'; cases hoj'
 have hjlt:j<ops.size:=(Array.getElem?_eq_some_iff.1 hj).1
 simp only[Jfc,hi,List.all_eq_true,List.mem_range]at hf
 have h1:=hf j hjlt
 simp only[hj,hjun,Bool.or_eq_true,beq_iff_eq,hji,Bool.false_eq_true,or_false,false_or,Bool.and_eq_true]at h1
 have hnot:listed.getD i false=false:=Jrp hiun
 rcases h1 with h1 | ⟨h1,h2 | h2⟩
 ·simp only[Jc7,hj,List.any_eq_true,Bool.and_eq_true,beq_iff_eq]at h1
  obtain⟨e,he,hb,rfl⟩:=h1
  have:=hall e (by simpa using he) hb
  rw[hnot]at this; cases this
 ·exact⟨h1,h2⟩
 ·have:=Jdt hdc 9 j oj hj hall hin h2
  rw[hnot]at this; cases this
theorem Jqq{listed:Array Bool}{i j:Nat}(h:Jfc pure fl ops listed i=true)(hji:j≠i):Jfc pure fl ops (listed.setIfInBounds j true) i=true:=by
 unfold Jfc at *
 split
 ·simp_all
 ·rename_i ok hk
  simp only[hk,List.all_eq_true,List.mem_range]at h ⊢
  intro m hm
  have:=h m hm
  by_cases hmj:j=m
  ·subst hmj
   have hs:(listed.setIfInBounds j true).getD j true=true:=by simp[Array.getElem?_setIfInBounds]; split <;> simp_all
   simp[hs]
  ·rw[getD_set_ne true hmj]; exact this
theorem Jqm{K:(Nat→AV)→Hp→Prop}{Kp:Value→Hp→Prop}(hpure:∀ n,pure n=0→(t.Φ n).isSome)(hnp:∀ n,pure n=1→∀ g,t.G n g→∃ val bs ts,g.out=.ret val bs ts){i:Nat}{oi:Oper}(hi:ops[i]? = some oi):
  ∀ (fuel:Nat) (listed:Array Bool) (L:LK) (M:List Hp) (σ:Nat→AV) (h:Hp),unl listed≤fuel+1→h.Fr→DC ops listed→(∀ m,listed.getD m false=true→(ops[m]?).isSome)→Jfc pure fl ops listed i=true→i∈Region.ready .any ops listed →
   aOpX t pure fl ops oi (fun L M σ h=>Jd9 t pure fl ops K Kp fuel (listed.setIfInBounds i true) L M σ h) Kp L M σ h→Jd9 t pure fl ops K Kp (fuel+1) listed L M σ h:=by
 intro fuel
 induction fuel with
 | zero =>
  intro listed L M σ h hu hfr hdc hin hf hr H
  refine⟨fun h'=>(by rw[h']at hr; cases hr),fun j hj=>?_⟩
  by_cases hji:j=i
  ·subst hji; simp only[Jgy,hi]; exact H
  ·have h2:=ready_mono hj hji
   have h3:Region.ready .any ops (listed.setIfInBounds i true)=[]:=Jey (by have:=JdI (mem_ready.1 hr).1; omega)
   rw[h3]at h2
   cases h2
 | succ fuel ih =>
  intro listed L M σ h hu hfr hdc hin hf hr H
  refine⟨fun h'=>(by rw[h']at hr; cases hr),fun j hj=>?_⟩
  by_cases hji:j=i
  ·subst hji; simp only[Jgy,hi]; exact H
  ·obtain⟨hjun,oj,hoj,hall⟩:=mem_ready.1 hj
   have hiun:=(mem_ready.1 hr).1
   obtain⟨hap,hc⟩:=JqJ hi hoj hji hdc hin hf hiun hj
   have h1:aOpX t pure fl ops oi (fun L M σ h=>aOpX t pure fl ops oj (fun L M σ h=>Jd9 t pure fl ops K Kp fuel ((listed.setIfInBounds i true).setIfInBounds j true) L M σ h) Kp L M σ h) Kp L M σ h:=Jjb (fun L' M' σ' h' hx=>by
    have:=hx.2 j (ready_mono hj hji)
    simp only[Jgy,hoj]at this
    exact this) (fun _ _ x=>x) H
   have h2:=Jlf hfr (Jx9 hpure hnp hap hc JkB hfr h1)
   simp only[Jgy,hoj]
   refine Jjb (fun L' M' σ' h' hx=>ih (listed.setIfInBounds j true) L' M' σ' h' (by have:=JdI hjun; omega) hx.1 (hdc.set hj) (JgD hin (by rw[hoj]; rfl)) (Jqq hf hji) (ready_mono hr (Ne.symm hji)) ?_) (fun _ _ x=>x) h2
   rw[Array.setIfInBounds_comm _ _ hji]
   exact hx.2
def JjM(t:Tab)(pure:Nat→Nat)(fl:List Nat)(ops:Array Oper)(K:XK)(Kp:Value→Hp→Prop):List Oper→LK→List Hp→(Nat→AV)→Hp→Prop
 | [],L,M,σ,h=>K L M σ h
 | o::l,L,M,σ,h=>aOpX t pure fl ops o (fun L M σ h=>JjM t pure fl ops K Kp l L M σ h) Kp L M σ h
def seqX(pure:Nat→Nat)(fl:List Nat)(ops:Array Oper):List Nat→Array Bool→Bool
 | [],_=>true
 | k::ks,listed=>(Region.ready .any ops listed).contains k && Jfc pure fl ops listed k && seqX pure fl ops ks (listed.setIfInBounds k true)
def Jju:List Nat→Array Bool→Array Bool
 | [],l=>l
 | k::ks,l=>Jju ks (l.setIfInBounds k true)
def pick(ops:Array Oper):List Nat→List Oper
 | []=>[]
 | k::ks=>match ops[k]? with
  | some o=>o::pick ops ks
  | none=>pick ops ks
theorem Jm1{K:(Nat→AV)→Hp→Prop}{Kp:Value→Hp→Prop}(hpure:∀ n,pure n=0→(t.Φ n).isSome)(hnp:∀ n,pure n=1→∀ g,t.G n g→∃ val bs ts,g.out=.ret val bs ts)(n:Nat):∀ (ks:List Nat) (listed:Array Bool) (L:LK) (M:List Hp) (σ:Nat→AV) (h:Hp),unl listed≤ks.length+n→h.Fr→DC ops listed→(∀ m,listed.getD m false=true→(ops[m]?).isSome) →
  seqX pure fl ops ks listed=true→JjM t pure fl ops (fun L M σ h=>Jd9 t pure fl ops K Kp n (Jju ks listed) L M σ h) Kp (pick ops ks) L M σ h→Jd9 t pure fl ops K Kp (ks.length+n) listed L M σ h
 | [],_,_,_,_,_,_,_,_,_,_,hh=>by simpa [JjM,Jju,pick] using hh
 | k::ks,listed,L,M,σ,h,hu,hfr,hdc,hin,hB,hh=>by
  simp only[seqX,Bool.and_eq_true]at hB
  obtain⟨⟨hr,hf⟩,hB'⟩:=hB
  have hr':k∈Region.ready .any ops listed:=by simpa using hr
  obtain⟨_,o,h0,_⟩:=mem_ready.1 hr'
  have e:(k::ks).length+n=(ks.length+n)+1:=by simp; omega
  rw[e]
  simp only[pick,h0]at hh
  refine Jqm hpure hnp h0 (ks.length+n) listed L M σ h (by rw[← e]; exact hu) hfr hdc hin hf hr' ?_
  refine Jjb (fun L' M' σ' h' hx=>?_) (fun _ _ x=>x) (Jlf hfr hh)
  exact Jm1 hpure hnp n ks _ L' M' σ' h' (by have:=JdI (mem_ready.1 hr').1; rw[e]at hu; omega) hx.1 (hdc.set hr') (JgD hin (by rw[h0]; rfl)) hB' hx.2
theorem JuQ{K:(Nat→AV)→Hp→Prop}{Kp:Value→Hp→Prop}(hpure:∀ n,pure n=0→(t.Φ n).isSome)(hnp:∀ n,pure n=1→∀ g,t.G n g→∃ val bs ts,g.out=.ret val bs ts){id:Nat}{σ:Nat→AV}{h:Hp}(ks:List Nat)(n:Nat)(hlk:t.lk.contains id=true)
  (hmn:ops.size=ks.length+n) (hB:seqX pure fl ops ks (Array.replicate ops.size false)=true) (hh:JjM t pure fl ops (fun L M σ h=>Jd9 t pure fl ops K Kp n (Jju ks (Array.replicate ops.size false)) L M σ h) Kp (pick ops ks) (fun _=>True) [] σ h):aReg t id ops true K Kp σ h:=by
 unfold aReg
 rw[if_pos (by simpa using hlk)]
 intro hfr
 have h0:∀ m,(Array.replicate ops.size false).getD m false=false:=fun m=>by
  simp only[Array.getD_eq_getD_getElem?,Array.getElem?_replicate]
  split <;> rfl
 have:=Jm1 (t:=t) (pure:=pure) (ops:=ops) (K:=K) (Kp:=Kp) hpure hnp n ks (Array.replicate ops.size false) (fun _=>True) [] σ h (by rw[← hmn]; simp[unl]) hfr (fun m o _ hm=>by rw[h0]at hm; cases hm) (fun m hm=>by rw[h0]at hm; cases hm) hB hh
 rw[← hmn]at this
 exact JhA this
def aRX(t:Tab)(pure:Nat→Nat)(fl:List Nat)(K:XK)(Kp:Value→Hp→Prop):List RdO→LK→List Hp→(Nat→AV)→Hp→Prop
 | [],L,M,σ,h=>K L M σ h
 | o::l,L,M,σ,h=>aGd σ o.g (fun σ=>Jby t (clsF pure fl o.op o.dst) o.op o.dst (fun L M σ h=>aRX t pure fl K Kp l L M σ h) Kp L M σ h) (fun σ=>aRX t pure fl K Kp l L M (putA σ o.dst VV) h)
theorem Jj8{K:XK}{Kp:Value→Hp→Prop}:∀ (l:List Oper) (L:LK) (M:List Hp) (σ:Nat→AV) (h:Hp),(l.all (Zi ops))=true→aRX t pure fl K Kp (l.map (roOf ops)) L M σ h→JjM t pure fl ops K Kp l L M σ h
 | [],_,_,_,_,_,hh=>hh
 | o::l,L,M,σ,h,hg,hh=>by
  simp only[List.all_cons,Bool.and_eq_true]at hg
  simp only[List.map_cons,aRX]at hh
  simp only[JjM,aOpX]
  have ih:=fun L M σ h=>Jj8 (K:=K) (Kp:=Kp) l L M σ h hg.2
  have h1:=hg.1
  unfold Zi at h1
  unfold aGd roOf at hh
  unfold J9
  split
  ·rename_i hgd; rw[hgd]at hh; exact Jh5 (fun _ _ _ _=>ih _ _ _ _) (fun _ _ x=>x) hh
  ·rename_i j want hgd
   rw[hgd]at hh h1
   simp only at hh h1
   split
   ·rename_i hs; rw[hs]at h1; cases h1
   ·rename_i d hs
    rw[hs]at hh
    simp only at hh
    split
    ·rename_i p hp
     rw[hp]at hh
     refine⟨fun x=>?_,fun x=>?_⟩
     ·have:=hh.1 x
      rw[Jgp hp x]at this
      exact Jh5 (fun _ _ _ _=>ih _ _ _ _) (fun _ _ x=>x) this
     ·have:=hh.2 x
      rw[Jgp hp x]at this
      exact ih _ _ _ _ this
    ·rename_i hp; rw[hp]at hh; exact ih _ _ _ _ hh
    ·rename_i h2 h3
     split at hh
     ·rename_i p hp; exact(h2 _ hp).elim
     ·rename_i vs hp; exact(h3 _ hp).elim
     ·exact hh.elim
def Jqj(c:Nat):Bool:=!(c == 1 || c == 2 || c == 4 || c == 6)
theorem JjD{K:XK}{Kp:Value→Hp→Prop}{L:LK}{M:List Hp}{l2:List RdO}:∀ {l1:List RdO} {σ:Nat→AV} {h:Hp},(l1.all fun o=>Jqj (clsF pure fl o.op o.dst))=true→aRO t (fun σ h=>aRX t pure fl K Kp l2 L M σ h) l1 σ h→aRX t pure fl K Kp (l1++l2) L M σ h
 | [],_,_,_,hh=>hh
 | o::l1,σ,h,hc,hh=>by
  simp only[List.all_cons,Bool.and_eq_true]at hc
  simp only[aRO,aRX,List.cons_append]at hh ⊢
  unfold aGd at *
  have hcl:clsF pure fl o.op o.dst≠1∧¬ (clsF pure fl o.op o.dst=2∨clsF pure fl o.op o.dst=4∨clsF pure fl o.op o.dst=6):=by
   have:=hc.1
   simp only[Jqj,Bool.not_eq_true',Bool.or_eq_false_iff,beq_eq_false_iff_ne]at this
   omega
  have run:∀ σ,((aop t.P t.Φ t.Ψ o.op σ h).pre∧aRO t (fun σ h=>aRX t pure fl K Kp l2 L M σ h) l1 (putA σ o.dst (aop t.P t.Φ t.Ψ o.op σ h).val) (aop t.P t.Φ t.Ψ o.op σ h).h)→Jby t (clsF pure fl o.op o.dst) o.op o.dst (fun L M σ h=>aRX t pure fl K Kp (l1++l2) L M σ h) Kp L M σ h:=fun σ x=>by
   obtain⟨q1,q2⟩:=Jis x.1
   unfold Jby
   rw[if_neg hcl.1,if_neg hcl.2]
   unfold aRun
   rw[q1]
   simp only
   rw[if_neg q2]
   exact⟨x.1,JjD hc.2 x.2⟩
  split at hh
  ·exact run _ hh
  ·split at hh
   ·exact⟨fun x=>run _ (hh.1 x),fun x=>JjD hc.2 (hh.2 x)⟩
   ·exact JjD hc.2 hh
   ·exact hh.elim
theorem Jt6{id:Nat}{Q:KA}{σ:Nat→AV}{h:Hp}(hpure:∀ n,pure n=0→(t.Φ n).isSome)(hnp:∀ n,pure n=1→∀ g,t.G n g→∃ val bs ts,g.out=.ret val bs ts)(ks:List Nat)(n:Nat)(hlk:t.lk.contains id=true)
  (hmn:ops.size=ks.length+n) (hB:seqX pure fl ops ks (Array.replicate ops.size false)=true) (hg:((pick ops ks).all (Zi ops))=true)
  (hh:aRX t pure fl (fun L M σ' h'=>Jd9 t pure fl ops (Q .normal) (fun v h'=>Q (.panic [{ v:=v,recovered:=false }]) (Xc ops σ) h') n (Jju ks (Array.replicate ops.size false)) L M σ' h') (fun v h'=>Q (.panic [{ v:=v,recovered:=false }]) (Xc ops σ) h') ((pick ops ks).map (roOf ops)) (fun _=>True) [] σ h):aC t (.region id ops true) σ h Q :=
 ⟨σ,h,Wk.refl _ _ _,.inl (JuQ hpure hnp ks n hlk hmn hB (Jj8 _ _ _ _ _ hg hh))⟩
end
end Go.Proofs.Ytaofbminodhcnaa
namespace Go.Proofs.Ytaofbminodhcnaa
open Go.RowKit
variable {t:Tab} {σ:Nat→AV} {h:Hp} {Q:KA}
theorem Jr9{b:Code}{ch:List PanicEntry}(hh:Q (.panic ch) σ h):Then t b Q (.panic ch) σ h:=hh
theorem Jqv{id:Nat}{ch:List PanicEntry}(hh:Q (.panic ch) σ h):Jex id Q (.panic ch) σ h:=hh
theorem Jqu{rt n:Nat}{I:Nat→(Nat→AV)→Hp→Prop}{ch:List PanicEntry}(hh:Q (.panic ch) σ h):Jll rt n I Q (.panic ch) σ h:=hh
theorem Js0{rt:Nat}{R:(Nat→AV)→Hp→Prop}{ch:List PanicEntry}(hh:Q (.panic ch) σ h):Cut rt R Q (.panic ch) σ h:=hh
theorem xS{p q:Prop}(x:p)(f:p→q:=by intro x; (repeat (with_reducible (first | refine Zn ?_ | refine Jq ?_ | refine Jge ?_ | refine JoN ?_ | refine Jbu ?_ | refine Js8 ?_ | refine Jnz ?_ | refine Jlw ?_ | refine Jyo ?_ | refine Jvi ?_ | refine Js5 ?_ | refine JuC ?_ | refine Jle ?_ | refine JvT ?_ | refine Ju4 ?_ | refine Jqy rfl ?_ | refine Jr9 ?_ | refine Jqv ?_ | refine Jqu ?_ | refine Js0 ?_ | refine Jw3 ?_ | refine JxX ?_ | refine Jwg ?_ | refine JuF ?_))); exact x):q:=f x
theorem xR{p:Prop}{id:Nat}{ops:Array Oper}{draw:Bool}{σ2:Nat→AV}{h2:Hp}(x:p)
  (hl:(draw && t.lk.contains id)=false:=by rfl) (hg:(ops.toList.all (Zi ops))=true:=by rfl)
  (hr:∀ K:(Nat→AV)→Hp→Prop,K σ2 h2→aRO t K (ops.toList.map (roOf ops)) σ h:=by
   intro K hK
   simp -implicitDefEqProofs only[goR,↓Jk,goS,↓reduceIte,reduceCtorEq,seval,F]
   repeat' (first | exact hK | (with_reducible apply And.intro) | exact trivial | assumption | omega))
  (f:p→Q .normal σ2 h2:=by intro x; refine xS ?_; exact x):aC t (.region id ops draw) σ h Q :=
 JhK hl hg fun K hK=>hr K (hK _ _ (f x))
theorem xT{p:Prop}{c:Operand}{a b:Code}(x:p)(hc:evA σ c=.c (.d (.v (.bool true))):=by simp -implicitDefEqProofs only[goR,↓Jk,goS,↓reduceIte,reduceCtorEq,seval,F])
  (f:p→aC t a σ h Q:=by intro x; refine xS ?_; exact x):aC t (.cond c a b) σ h Q:=JlO hc (f x)
theorem xE{p:Prop}{c:Operand}{a b:Code}(x:p)(hc:evA σ c=.c (.d (.v (.bool false))):=by simp -implicitDefEqProofs only[goR,↓Jk,goS,↓reduceIte,reduceCtorEq,seval,F])
  (f:p→aC t b σ h Q:=by intro x; refine xS ?_; exact x):aC t (.cond c a b) σ h Q:=JlS hc (f x)
theorem xr{p:Prop}{id:Nat}{ops:Array Oper}{draw:Bool}{σ2:Nat→AV}{h2:Hp}(x:p)
  (hl:(draw && t.lk.contains id)=false:=by rfl) (hg:(ops.toList.all (Zi ops))=true:=by rfl)
  (hr:∀ K:(Nat→AV)→Hp→Prop,K σ2 h2→aRO t K (ops.toList.map (roOf ops)) σ h:=by
   intro K hK
   simp -implicitDefEqProofs only[goR,↓Jk,goS,↓reduceIte,reduceCtorEq,seval,Y]
   repeat' (first | exact hK | (with_reducible apply And.intro) | exact trivial | assumption | omega))
  (f:p→Q .normal σ2 h2:=by intro x; refine xS ?_; exact x):aC t (.region id ops draw) σ h Q :=
 JhK hl hg fun K hK=>hr K (hK _ _ (f x))
theorem xt{p:Prop}{c:Operand}{a b:Code}(x:p)(hc:evA σ c=.c (.d (.v (.bool true))):=by simp -implicitDefEqProofs only[goR,↓Jk,goS,↓reduceIte,reduceCtorEq,seval,Y])
  (f:p→aC t a σ h Q:=by intro x; refine xS ?_; exact x):aC t (.cond c a b) σ h Q:=JlO hc (f x)
theorem xe{p:Prop}{c:Operand}{a b:Code}(x:p)(hc:evA σ c=.c (.d (.v (.bool false))):=by simp -implicitDefEqProofs only[goR,↓Jk,goS,↓reduceIte,reduceCtorEq,seval,Y])
  (f:p→aC t b σ h Q:=by intro x; refine xS ?_; exact x):aC t (.cond c a b) σ h Q:=JlS hc (f x)
theorem xR0{id:Nat}{ops:Array Oper}{draw:Bool}{σ2:Nat→AV}{h2:Hp}(x:Q .normal σ2 h2)
  (hl:(draw && t.lk.contains id)=false:=by rfl) (hg:(ops.toList.all (Zi ops))=true:=by rfl)
  (hr:∀ K:(Nat→AV)→Hp→Prop,K σ2 h2→aRO t K (ops.toList.map (roOf ops)) σ h:=by
   intro K hK
   simp -implicitDefEqProofs only[goR,↓Jk,goS,↓reduceIte,reduceCtorEq,seval,F]
   repeat' (first | exact hK | (with_reducible apply And.intro) | exact trivial | assumption | omega)):aC t (.region id ops draw) σ h Q :=
 JhK hl hg fun K hK=>hr K (hK _ _ x)
theorem xr0{id:Nat}{ops:Array Oper}{draw:Bool}{σ2:Nat→AV}{h2:Hp}(x:Q .normal σ2 h2)
  (hl:(draw && t.lk.contains id)=false:=by rfl) (hg:(ops.toList.all (Zi ops))=true:=by rfl)
  (hr:∀ K:(Nat→AV)→Hp→Prop,K σ2 h2→aRO t K (ops.toList.map (roOf ops)) σ h:=by
   intro K hK
   simp -implicitDefEqProofs only[goR,↓Jk,goS,↓reduceIte,reduceCtorEq,seval,Y]
   repeat' (first | exact hK | (with_reducible apply And.intro) | exact trivial | assumption | omega)):aC t (.region id ops draw) σ h Q :=
 JhK hl hg fun K hK=>hr K (hK _ _ x)
theorem xT0{c:Operand}{a b:Code}(x:aC t a σ h Q)(hc:evA σ c=.c (.d (.v (.bool true))):=by simp -implicitDefEqProofs only[goR,↓Jk,goS,↓reduceIte,reduceCtorEq,seval,F]):aC t (.cond c a b) σ h Q:=JlO hc x
theorem xE0{c:Operand}{a b:Code}(x:aC t b σ h Q)(hc:evA σ c=.c (.d (.v (.bool false))):=by simp -implicitDefEqProofs only[goR,↓Jk,goS,↓reduceIte,reduceCtorEq,seval,F]):aC t (.cond c a b) σ h Q:=JlS hc x
theorem xK{rt:Nat}{L:List (Nat×AV)}{bs:List (List C)}{ts:List TypeId}(r:Ren)(hb:bs.length=r.ps.length:=by rfl)(ht:ts.length=r.qs.length:=by rfl)
  (hp:once r.ps=true:=by rfl) (hq:once r.qs=true:=by rfl)
  (h1:BWk r h 1 bs:=by first | (simp -implicitDefEqProofs only[goW,goR,↓Jk,goS,↓reduceIte,reduceCtorEq,seval,Y]; done) | simp -implicitDefEqProofs only[goW,goR,↓Jk,goS,↓reduceIte,reduceCtorEq,seval,Y,G])
  (h2:TWk r h (r.ps.length+1) ts:=by first | (simp -implicitDefEqProofs only[goW,goR,↓Jk,goS,↓reduceIte,reduceCtorEq,seval,Y]; done) | simp -implicitDefEqProofs only[goW,goR,↓Jk,goS,↓reduceIte,reduceCtorEq,seval,Y,G])
  (h3:LWk r σ L:=by first | (simp -implicitDefEqProofs only[goW,goR,↓Jk,goS,↓reduceIte,reduceCtorEq,seval,Y]; done) | simp -implicitDefEqProofs only[goW,goR,↓Jk,goS,↓reduceIte,reduceCtorEq,seval,Y,G])
  (hds:DlWk r (dfL (σ DS)) (dfL (sigL L DS)):=by first | (simp -implicitDefEqProofs only[goW,goR,↓Jk,goS,↓reduceIte,reduceCtorEq,seval,Y]; done) | simp -implicitDefEqProofs only[goW,goR,↓Jk,goS,↓reduceIte,reduceCtorEq,seval,Y,G])
  (hrt:(r.ps.take rt == List.range' 1 rt)=true:=by rfl):Wk rt σ h (sigL L) (hpL bs ts):=Jx1 r hb ht hp rfl hq h1 h2 h3 hds hrt
theorem xH{a b c d g:Prop}(F:a)(G:g)(y:b)(h1:b→c:=by intro y; (try (simp -implicitDefEqProofs only[goR,↓Jk,goS,↓reduceIte,reduceCtorEq,seval,Y]at y)); exact y)
  (h2:b→d:=by intro y; (try (simp only[goT]at y)); exact y):(a∧c)∧(c∧g)∧d:=⟨⟨F,h1 y⟩,⟨h1 y,G⟩,h2 y⟩
theorem xC{a b c:Prop}(F:a)(y:b)(h1:b→c:=by intro y; (try (simp -implicitDefEqProofs only[goR,↓Jk,goS,↓reduceIte,reduceCtorEq,seval,Y]at y)); exact y):a∧c:=⟨F,h1 y⟩
theorem xCf{a b c:Prop}(F:a)(y:b)(h1:b→c:=by intro y; (try (simp -implicitDefEqProofs only[goR,↓Jk,goS,↓reduceIte,reduceCtorEq,seval,F]at y)); exact y):a∧c:=⟨F,h1 y⟩
theorem xZ{a b:Prop}(x:a)(y:b):a∧b:=⟨x,y⟩
theorem xN{P:Program}{rt:Nat}{fn:Func}{d:D}{ex:Exit}(q:QRet P fn d ex σ h:=by first | (simp -implicitDefEqProofs only[goQ,goR,↓Jk,goS,↓reduceIte,reduceCtorEq,seval,Y]; done) | simp -implicitDefEqProofs only[goQ,goR,↓Jk,goS,↓reduceIte,reduceCtorEq,seval,Y,G]):JkW P rt fn d ex σ h :=
 ⟨σ,h,Wk.refl _ _ _,q⟩
class DInj {A:Type} (e:A→D):Prop where
 s:∀ a b,VC (e a)=VC (e b)→a=b
 i:∀ a b,e a=e b→a=b
instance:DInj dI:=⟨fun a b h=>K9 a b h,K9⟩
instance:DInj dB:=⟨fun a b h=>Jhd a b h,Jhd⟩
instance:DInj dS:=⟨fun a b h=>Jd4 a b h,Jd4⟩
instance:DInj dU:=⟨fun a b h=>Juu a b h,Juu⟩
instance {A:Type} {e:A→D} {sz:Nat} [he:DInj e]:DInj (dL sz e):=⟨fun _ _ h=>Jfz (sz:=0) he.i _ _ h,Jfz he.i⟩
def dF(n:Nat):D:=.v (.func (.func n) #[] #[])
theorem Juw(a b:Nat)(h:dF a=dF b):a=b:=by simpa [dF] using h
instance:DInj dF:=⟨fun a b h=>Juw a b h,Juw⟩
class IEnc {A:Type} (enc:A→List D):Prop where
 inj:Inj enc
def E0:Unit→List D:=fun _=>[]
section
variable {A1 A2 A3 A4 A5 A6 A7 A8:Type}
def E1(e1:A1→D):A1→List D:=fun a=>[e1 a]
def E2(e1:A1→D)(e2:A2→D):A1×A2→List D:=fun a=>[e1 a.1,e2 a.2]
def E3(e1:A1→D)(e2:A2→D)(e3:A3→D):A1×A2×A3→List D:=fun a=>[e1 a.1,e2 a.2.1,e3 a.2.2]
def E4(e1:A1→D)(e2:A2→D)(e3:A3→D)(e4:A4→D):A1×A2×A3×A4→List D:=fun a=>[e1 a.1,e2 a.2.1,e3 a.2.2.1,e4 a.2.2.2]
def E5(e1:A1→D)(e2:A2→D)(e3:A3→D)(e4:A4→D)(e5:A5→D):A1×A2×A3×A4×A5→List D:=fun a=>[e1 a.1,e2 a.2.1,e3 a.2.2.1,e4 a.2.2.2.1,e5 a.2.2.2.2]
def E6(e1:A1→D)(e2:A2→D)(e3:A3→D)(e4:A4→D)(e5:A5→D)(e6:A6→D):A1×A2×A3×A4×A5×A6→List D:=fun a=>[e1 a.1,e2 a.2.1,e3 a.2.2.1,e4 a.2.2.2.1,e5 a.2.2.2.2.1,e6 a.2.2.2.2.2]
instance:IEnc E0:=⟨fun _ _ _=>rfl⟩
instance {e1:A1→D} [h1:DInj e1]:IEnc (E1 e1):=⟨fun a b h=>by
 simp only[E1,List.map_cons,List.map_nil,List.cons.injEq,and_true]at h
 exact h1.s _ _ h⟩
instance {e1:A1→D} {e2:A2→D} [h1:DInj e1] [h2:DInj e2]:IEnc (E2 e1 e2):=⟨fun a b h=>by
 simp only[E2,List.map_cons,List.map_nil,List.cons.injEq,and_true]at h
 exact Prod.ext (h1.s _ _ h.1) (h2.s _ _ h.2)⟩
instance {e1:A1→D} {e2:A2→D} {e3:A3→D} [h1:DInj e1] [h2:DInj e2] [h3:DInj e3]:IEnc (E3 e1 e2 e3):=⟨fun a b h=>by
 simp only[E3,List.map_cons,List.map_nil,List.cons.injEq,and_true]at h
 exact Prod.ext (h1.s _ _ h.1) (Prod.ext (h2.s _ _ h.2.1) (h3.s _ _ h.2.2))⟩
instance {e1:A1→D} {e2:A2→D} {e3:A3→D} {e4:A4→D} [h1:DInj e1] [h2:DInj e2] [h3:DInj e3] [h4:DInj e4]:IEnc (E4 e1 e2 e3 e4):=⟨fun a b h=>by
 simp only[E4,List.map_cons,List.map_nil,List.cons.injEq,and_true]at h
 exact Prod.ext (h1.s _ _ h.1) (Prod.ext (h2.s _ _ h.2.1) (Prod.ext (h3.s _ _ h.2.2.1) (h4.s _ _ h.2.2.2)))⟩
instance {e1:A1→D} {e2:A2→D} {e3:A3→D} {e4:A4→D} {e5:A5→D} [h1:DInj e1] [h2:DInj e2] [h3:DInj e3] [h4:DInj e4] [h5:DInj e5]:IEnc (E5 e1 e2 e3 e4 e5):=⟨fun a b h=>by
 simp only[E5,List.map_cons,List.map_nil,List.cons.injEq,and_true]at h
 exact Prod.ext (h1.s _ _ h.1) (Prod.ext (h2.s _ _ h.2.1) (Prod.ext (h3.s _ _ h.2.2.1) (Prod.ext (h4.s _ _ h.2.2.2.1) (h5.s _ _ h.2.2.2.2))))⟩
instance {e1:A1→D} {e2:A2→D} {e3:A3→D} {e4:A4→D} {e5:A5→D} {e6:A6→D} [h1:DInj e1] [h2:DInj e2] [h3:DInj e3] [h4:DInj e4] [h5:DInj e5] [h6:DInj e6]:IEnc (E6 e1 e2 e3 e4 e5 e6):=⟨fun a b h=>by
 simp only[E6,List.map_cons,List.map_nil,List.cons.injEq,and_true]at h
 exact Prod.ext (h1.s _ _ h.1) (Prod.ext (h2.s _ _ h.2.1) (Prod.ext (h3.s _ _ h.2.2.1) (Prod.ext (h4.s _ _ h.2.2.2.1) (Prod.ext (h5.s _ _ h.2.2.2.2.1) (h6.s _ _ h.2.2.2.2.2)))))⟩
def T0:Unit→D:=fun _=>.tu []
def T2(e1:A1→D)(e2:A2→D):A1×A2→D:=fun r=>.tu [e1 r.1,e2 r.2]
def T3(e1:A1→D)(e2:A2→D)(e3:A3→D):A1×A2×A3→D:=fun r=>.tu [e1 r.1,e2 r.2.1,e3 r.2.2]
def T4(e1:A1→D)(e2:A2→D)(e3:A3→D)(e4:A4→D):A1×A2×A3×A4→D:=fun r=>.tu [e1 r.1,e2 r.2.1,e3 r.2.2.1,e4 r.2.2.2]
end
abbrev PC(pf:PF)(l:List D)(d:D):Prop:=pf.pre l=True∧pf.val l=d
theorem PF.c{A R:Type}{enc:A→List D}{f:A→Option R}{e:R→D} [IEnc enc] {a:A} {r:R} (H:f a=some r):PC (PF.of enc f e) (enc a) (e r) :=
 ⟨PF.of_pre H,PF.of_val IEnc.inj H⟩
theorem PF.cl{A R:Type}{enc:A→List D}{f:A→Option R}{e:R→D} [IEnc enc] {l:List D} {a:A} {r:R} (H:f a=some r) (hl:les1 l (enc a)):PC (PF.of enc f e) l (e r) :=
 ⟨PF.of_prel hl H,PF.of_vall IEnc.inj hl H⟩
theorem xFl{P:Program}(hm:P.follows .mixedOrders=true){A R:Type}{enc:A→List D}{f:A→Option R}{e:R→D} [IEnc enc] (lk:List Nat) (l:List (Nat×PF)) (gl:List (Nat×Bool×(GI→Prop))) (h1:Jfr P l) (h2:JcZ P gl)
  {k:Nat} {fn:Func} {c:Code} (hf:P.funcs[k]? = some fn)
  (h:∀ a r,f a=some r→aC (tab P l gl [] 0 lk) c (sig0 ((enc a).map fun d=>.c (.d d))) hp0 (JkW P 0 fn (e r)))
  (hb:fn.body=some c:=by rfl) (hcode:(KY (JcV (l.map Prod.fst) (gl.map fun p=>(p.1,p.2.1))) lk fn.ntmps c && fn.results.toList.all (Jag fn.ntmps) && fn.ntmps.ble DS)=true:=by kernel_rfl)
  (hl:∀ a,(enc a).length≤fn.ntmps:=by intro a; exact Nat.le_of_ble_eq_true rfl):Kl P k (PF.of enc f e) :=
 JwF (t:=tab P l gl [] 0 lk) IEnc.inj rfl (JkM h1 h2 trivial) hm Jgl (Jjn h2) hf hb hcode hl h
theorem xF{P:Program}(hm:P.follows .mixedOrders=true){A R:Type}{enc:A→List D}{f:A→Option R}{e:R→D} [IEnc enc] (l:List (Nat×PF)) (gl:List (Nat×Bool×(GI→Prop))) (h1:Jfr P l) (h2:JcZ P gl)
  {k:Nat} {fn:Func} {c:Code} (hf:P.funcs[k]? = some fn)
  (h:∀ a r,f a=some r→aC (tab P l gl [] 0 []) c (sig0 ((enc a).map fun d=>.c (.d d))) hp0 (JkW P 0 fn (e r)))
  (hb:fn.body=some c:=by rfl) (hcode:(KY (JcV (l.map Prod.fst) (gl.map fun p=>(p.1,p.2.1))) [] fn.ntmps c && fn.results.toList.all (Jag fn.ntmps) && fn.ntmps.ble DS)=true:=by kernel_rfl)
  (hl:∀ a,(enc a).length≤fn.ntmps:=by intro a; exact Nat.le_of_ble_eq_true rfl):Kl P k (PF.of enc f e) :=
 xFl hm [] l gl h1 h2 hf h hb hcode hl
theorem xGnl{P:Program}(hm:P.follows .mixedOrders=true)(lk:List Nat)(l:List (Nat×PF))(gl:List (Nat×Bool×(GI→Prop)))(dl:List (Nat×(DI→Prop)))(h1:Jfr P l)(h2:JcZ P gl)(h3:JgC P dl)
  {k:Nat} {fn:Func} {c:Code} (hf:P.funcs[k]? = some fn) (g:GI) (h:aC (tab P l gl dl g.bs.length lk) c (sig0 g.args) (hpL g.bs g.ts) (Jfw (tab P l gl dl g.bs.length lk) fn g.bs.length g.out))
  (hb:fn.body=some c:=by rfl) (hcode:(KY (JcV (l.map Prod.fst) (gl.map fun p=>(p.1,p.2.1))) lk fn.ntmps c && fn.results.toList.all (Jag fn.ntmps) && fn.ntmps.ble DS)=true:=by kernel_rfl)
  (hl:g.args.length≤fn.ntmps:=by exact Nat.le_of_ble_eq_true rfl):Jx P k g :=
 Jtm (t:=tab P l gl dl g.bs.length lk) (JkM h1 h2 h3) hm Jgl (Jjn h2) hf hb hcode g rfl hl h
theorem xGn{P:Program}(hm:P.follows .mixedOrders=true)(l:List (Nat×PF))(gl:List (Nat×Bool×(GI→Prop)))(dl:List (Nat×(DI→Prop)))(h1:Jfr P l)(h2:JcZ P gl)(h3:JgC P dl)
  {k:Nat} {fn:Func} {c:Code} (hf:P.funcs[k]? = some fn) (g:GI) (h:aC (tab P l gl dl g.bs.length []) c (sig0 g.args) (hpL g.bs g.ts) (Jfw (tab P l gl dl g.bs.length []) fn g.bs.length g.out))
  (hb:fn.body=some c:=by rfl) (hcode:(KY (JcV (l.map Prod.fst) (gl.map fun p=>(p.1,p.2.1))) [] fn.ntmps c && fn.results.toList.all (Jag fn.ntmps) && fn.ntmps.ble DS)=true:=by kernel_rfl)
  (hl:g.args.length≤fn.ntmps:=by exact Nat.le_of_ble_eq_true rfl):Jx P k g :=
 xGnl hm [] l gl dl h1 h2 h3 hf g h hb hcode hl
theorem xRcl{P:Program}(hm:P.follows .mixedOrders=true)(lk:List Nat)(l:List (Nat×PF))(gl:List (Nat×Bool×(GI→Prop)))(h1:Jfr P l)(h2:JcZ P gl)
  {f:Nat} {fn:Func} {id k ty:Nat} {ps:String} {c:Code} (hf:P.funcs[f]? = some fn) (d:DI)
  (h:aC (tab P l gl [] d.bs.length lk) c (upd (sig0 d.args) k (.c (.d (.v (d.u.getD .nilIface))))) (hpL d.bs d.ts) (QDf (tab P l gl [] d.bs.length lk) fn { d with u':=d.u }))
  (hu:d.u'=none:=by rfl) (hb:fn.body=some (.seq (.region id (Jla k ty ps) false) c):=by rfl) (hcode:(KY (JcV (l.map Prod.fst) (gl.map fun p=>(p.1,p.2.1))) lk fn.ntmps c && fn.results.toList.all (Jag fn.ntmps) && fn.ntmps.ble DS && k.blt DS)=true:=by kernel_rfl)
  (hl:d.args.length≤fn.ntmps:=by exact Nat.le_of_ble_eq_true rfl):DOk P f d :=
 Jqn (t:=tab P l gl [] d.bs.length lk) (JkM h1 h2 trivial) hm Jgl (Jjn h2) hf hb hcode d hu rfl hl h
theorem tabG{P:Program}{l:List (Nat×PF)}{gl:List (Nat×Bool×(GI→Prop))}{dl:List (Nat×(DI→Prop))}{rt n:Nat}{lk:List Nat}{np:Bool}{S:GI→Prop}{g:GI}(i:Nat)(hs:S g)(h:gl[i]? = some (n,np,S):=by rfl):(tab P l gl dl rt lk).G n g :=
 ⟨(n,np,S),List.mem_of_getElem? h,rfl,hs⟩
theorem tabD{P:Program}{l:List (Nat×PF)}{gl:List (Nat×Bool×(GI→Prop))}{dl:List (Nat×(DI→Prop))}{rt n:Nat}{lk:List Nat}{S:DI→Prop}{d:DI}(i:Nat)(hs:S d)(h:dl[i]? = some (n,S):=by rfl):(tab P l gl dl rt lk).D n d :=
 ⟨(n,S),List.mem_of_getElem? h,rfl,hs⟩
variable {K:(Nat→AV)→Hp→Prop} {Kp:Value→Hp→Prop} {L:List RdO}
theorem xQ{id:Nat}{ops:Array Oper}{draw:Bool}(x:aRG t (Q .normal) (fun v h'=>Q (.panic [{ v:=v,recovered:=false }]) (Xc ops σ) h') (ops.toList.map (roOf ops)) σ h)
  (hl:(draw && t.lk.contains id)=false:=by rfl) (hg:(ops.toList.all (Zi ops))=true:=by rfl):aC t (.region id ops draw) σ h Q:=JnW hl hg x
def fgt:List Nat→(Nat→AV)→(Nat→AV)
 | [],σ=>σ
 | d::l,σ=>upd (fgt l σ) d (.c .top)
theorem JtQ:∀ (ds:List Nat) (σ:Nat→AV) (i:Nat),fgt ds σ i=if ds.contains i then .c .top else σ i
 | [],σ,i=>by simp[fgt]
 | d::l,σ,i=>by
  unfold fgt upd
  rw[JtQ l σ i]
  by_cases h:i=d
  ·simp[h]
  ·simp[h]
theorem JsQ{ops:Array Oper}{ds:List Nat}(h:ops.toList.filterMap (·.dst)=ds)(σ:Nat→AV):Xc ops σ=fgt ds σ:=by
 subst h
 funext i
 rw[JtQ]
 unfold Xc
 have:(ops.toList.any fun o=>o.dst == some i)=(ops.toList.filterMap (·.dst)).contains i:=by
  induction ops.toList with
  | nil=>rfl
  | cons o l ih =>
   rw[List.any_cons,ih,List.filterMap_cons]
   cases hd:o.dst with
   | none=>simp
   | some k=>simp only[List.contains_cons]; congr 1; simp only[Option.some_beq_some]; exact Bool.eq_iff_iff.2 (by simp only[beq_iff_eq]; exact eq_comm)
 rw[this]
theorem xQp(ds:List Nat){id:Nat}{ops:Array Oper}{draw:Bool}(x:aRG t (Q .normal) (fun v h'=>Q (.panic [{ v:=v,recovered:=false }]) (fgt ds σ) h') (ops.toList.map (roOf ops)) σ h)
  (hds:ops.toList.filterMap (·.dst)=ds:=by rfl) (hl:(draw && t.lk.contains id)=false:=by rfl) (hg:(ops.toList.all (Zi ops))=true:=by rfl):aC t (.region id ops draw) σ h Q :=
 JnW hl hg (by rw[JsQ hds]; exact x)
theorem xbp{id:Nat}{ops:Array Oper}{draw:Bool}(n:Nat)(l:List D)(x:aC t (.region id ops draw) (fun i=>bxA n l (σ i)) (bxH n l h) Q)
  (hH:h.H n=some (l.map .d):=by simp -implicitDefEqProofs only[goR,↓Jk,goS,↓reduceIte,reduceCtorEq,seval,Y]; done) (hne:l≠[]:=by exact List.cons_ne_nil _ _):aC t (.region id ops draw) σ h Q :=
 let ⟨σ1,h1,k,q⟩:=x; ⟨σ1,h1,(JxT hH hne).trans k,q⟩
theorem xs(n:Nat){σ2:Nat→AV}{h2:Hp}(x:aRG t K Kp (L.drop n) σ2 h2)
  (hr:∀ K':(Nat→AV)→Hp→Prop,K' σ2 h2→aRO t K' (L.take n) σ h:=by
   intro K' hK
   simp -implicitDefEqProofs only[goR,↓Jk,goS,↓reduceIte,reduceCtorEq,seval,F]
   repeat' (first | exact hK | (with_reducible apply And.intro) | exact trivial | assumption | omega)):aRG t K Kp L σ h:=by
 have:=Jhf (l2:=L.drop n) (hr _ x)
 rwa [List.take_append_drop]at this
theorem xl(x:K σ h)(hl:L=[]:=by rfl):aRG t K Kp L σ h:=by subst hl; exact x
def gdOk(σ:Nat→AV):Option (Tmp×Bool)→Prop
 | none=>True
 | some (d,w)=>σ d=.c (.d (.v (.bool w)))
theorem Jgb{g:Option (Tmp×Bool)}{run skip:(Nat→AV)→Prop}(hg:gdOk σ g)(hh:run σ):aGd σ g run skip:=by
 cases g with
 | none=>exact hh
 | some p =>
  obtain⟨d,w⟩:=p
  have hg:σ d=.c (.d (.v (.bool w))):=hg
  simp only[aGd,hg]
  refine⟨fun _=>?_,fun hx=>by cases w <;> cases hx⟩
  have:=Jgp (q:=w) hg rfl
  rw[this]; exact hh
theorem xc{l':List RdO}{o:RdO}{f:Nat}{args:List AV}{g:GI}{val:AV}{bs:List (List C)}{ts:List TypeId}{σ2:Nat→AV}{h2:Hp}(r:Ren)(hG:t.G f g)(x:aRG t K Kp l' σ2 h2)
  (hl:L=o::l':=by rfl) (hout:g.out=.ret val bs ts:=by rfl)
  (hgd:gdOk σ o.g:=by simp -implicitDefEqProofs only[gdOk,goR,↓Jk,goS,↓reduceIte,reduceCtorEq,seval,F])
  (hc:J3 t σ o.op=some (f,args):=by(simp -implicitDefEqProofs only[goG,goR,↓Jk,goS,↓reduceIte,reduceCtorEq,seval,F]; try rfl))
  (ha:AsWk r args g.args:=by simp -implicitDefEqProofs only[goG,goW,goR,↓Jk,goS,↓reduceIte,reduceCtorEq,seval,F])
  (lb:g.bs.length=r.ps.length:=by rfl) (lt:g.ts.length=r.qs.length:=by rfl) (op:once r.ps=true:=by rfl) (oq:once r.qs=true:=by rfl)
  (bwk:BWk r h 1 g.bs:=by simp -implicitDefEqProofs only[goG,goW,goR,↓Jk,goS,↓reduceIte,reduceCtorEq,seval,F])
  (twk:TWk r h (r.ps.length+1) g.ts:=by simp -implicitDefEqProofs only[goG,goW,goR,↓Jk,goS,↓reduceIte,reduceCtorEq,seval,F])
  (live:∀ row∈g.bs,row≠[]:=by simp -implicitDefEqProofs only[goG,goW,goR,↓Jk,goS,↓reduceIte,reduceCtorEq,seval,F])
  (hs:∀ X:(Nat→AV)→Hp→Prop,X σ2 h2→X (putA σ o.dst (renA (r.back h.nx) val)) (h.after r bs ts):=by
   intro X hX
   simp -implicitDefEqProofs only[goG,goR,↓Jk,goS,↓reduceIte,reduceCtorEq,seval,F]
   exact hX):aRG t K Kp L σ h:=by
 subst hl
 refine Jgb hgd ?_
 unfold aRun
 rw[hc]
 refine⟨g,r,hG,⟨ha,lb,lt,op,oq,bwk,twk,live⟩,?_⟩
 rw[hout]
 exact hs _ x
theorem xp{l':List RdO}{o:RdO}{f:Nat}{args:List AV}{g:GI}{v:Value}{bs:List (List C)}{ts:List TypeId}{h2:Hp}(r:Ren)(hG:t.G f g)(x:Kp v h2)
  (hl:L=o::l':=by rfl) (hout:g.out=.pan v bs ts:=by rfl)
  (hgd:gdOk σ o.g:=by simp -implicitDefEqProofs only[gdOk,goR,↓Jk,goS,↓reduceIte,reduceCtorEq,seval,F])
  (hc:J3 t σ o.op=some (f,args):=by(simp -implicitDefEqProofs only[goG,goR,↓Jk,goS,↓reduceIte,reduceCtorEq,seval,F]; try rfl))
  (ha:AsWk r args g.args:=by simp -implicitDefEqProofs only[goG,goW,goR,↓Jk,goS,↓reduceIte,reduceCtorEq,seval,F])
  (lb:g.bs.length=r.ps.length:=by rfl) (lt:g.ts.length=r.qs.length:=by rfl) (op:once r.ps=true:=by rfl) (oq:once r.qs=true:=by rfl)
  (bwk:BWk r h 1 g.bs:=by simp -implicitDefEqProofs only[goG,goW,goR,↓Jk,goS,↓reduceIte,reduceCtorEq,seval,F])
  (twk:TWk r h (r.ps.length+1) g.ts:=by simp -implicitDefEqProofs only[goG,goW,goR,↓Jk,goS,↓reduceIte,reduceCtorEq,seval,F])
  (live:∀ row∈g.bs,row≠[]:=by simp -implicitDefEqProofs only[goG,goW,goR,↓Jk,goS,↓reduceIte,reduceCtorEq,seval,F])
  (hs:∀ X:Hp→Prop,X h2→X (h.after r bs ts):=by
   intro X hX
   simp -implicitDefEqProofs only[goG,goR,↓Jk,goS,↓reduceIte,reduceCtorEq,seval,F]
   exact hX):aRG t K Kp L σ h:=by
 subst hl
 refine Jgb hgd ?_
 unfold aRun
 rw[hc]
 refine⟨g,r,hG,⟨ha,lb,lt,op,oq,bwk,twk,live⟩,?_⟩
 rw[hout]
 exact hs _ x
theorem xv{l':List RdO}{o:RdO}{y:Operand}{v:Value}(x:Kp v h)(hl:L=o::l':=by rfl)(hop:o.op=.panic y:=by rfl)
  (hgd:gdOk σ o.g:=by simp -implicitDefEqProofs only[gdOk,goR,↓Jk,goS,↓reduceIte,reduceCtorEq,seval,F])
  (hv:panV σ y=some v:=by simp -implicitDefEqProofs only[panV,goR,↓Jk,goS,↓reduceIte,reduceCtorEq,seval,F]; rfl):aRG t K Kp L σ h:=by
 subst hl
 refine Jgb hgd ?_
 unfold aRun
 rw[hop]
 have hg:∀ op,isDP op=true→J3 t σ op=none:=fun op h=>by cases op <;> first | rfl | cases h
 rw[hg _ rfl]
 simp only[isDP,if_true]
 unfold aDP
 simp only[hv]
 exact x
theorem xw{l':List RdO}{o:RdO}{c:Call}{d:Nat×List C}(x:aRG t K Kp l' (putA (upd σ DS (.df (d::dfL (σ DS)))) o.dst VV) h)(hl:L=o::l':=by rfl)(hop:o.op=.defer c:=by rfl)
  (hgd:gdOk σ o.g:=by simp -implicitDefEqProofs only[gdOk,goR,↓Jk,goS,↓reduceIte,reduceCtorEq,seval,F])
  (hd:JhN σ c=some d:=by simp -implicitDefEqProofs only[JhN,goR,↓Jk,goS,↓reduceIte,reduceCtorEq,seval,F]; rfl):aRG t K Kp L σ h:=by
 subst hl
 refine Jgb hgd ?_
 unfold aRun
 rw[hop]
 have hg:∀ op,isDP op=true→J3 t σ op=none:=fun op h=>by cases op <;> first | rfl | cases h
 rw[hg _ rfl]
 simp only[isDP,if_true]
 unfold aDP
 simp only[hd]
 exact x
section
variable {pure:Nat→Nat} {fl:List Nat} {K:XK} {L:LK} {M:List Hp} {l:List RdO}
theorem xP{P:Program}{pl:List (Nat×PF)}{gl:List (Nat×Bool×(GI→Prop))}{dl:List (Nat×(DI→Prop))}{rt:Nat}{lk:List Nat}{id:Nat}{ops:Array Oper}(ks:List Nat)(fl:List Nat)(h2:JcZ P gl)
  (x:aRX (tab P pl gl dl rt lk) (JcV (pl.map Prod.fst) (gl.map fun p=>(p.1,p.2.1))) fl (fun L M σ' h'=>Jd9 (tab P pl gl dl rt lk) (JcV (pl.map Prod.fst) (gl.map fun p=>(p.1,p.2.1))) fl ops (Q .normal) (fun v h'=>Q (.panic [{ v:=v,recovered:=false }]) (Xc ops σ) h') 0 (Jju ks (Array.replicate ops.size false)) L M σ' h') (fun v h'=>Q (.panic [{ v:=v,recovered:=false }]) (Xc ops σ) h') ((pick ops ks).map (roOf ops)) (fun _=>True) [] σ h)
  (hlk:lk.contains id=true:=by rfl) (hmn:ops.size=ks.length:=by rfl) (hB:seqX (JcV (pl.map Prod.fst) (gl.map fun p=>(p.1,p.2.1))) fl ops ks (Array.replicate ops.size false)=true:=by kernel_rfl) (hg:((pick ops ks).all (Zi ops))=true:=by rfl):aC (tab P pl gl dl rt lk) (.region id ops true) σ h Q :=
 Jt6 Jgl (Jjn h2) ks 0 hlk hmn hB hg x
theorem xsX(n:Nat){σ2:Nat→AV}{h2:Hp}(x:aRX t pure fl K Kp (l.drop n) L M σ2 h2)
  (hc:((l.take n).all fun o=>Jqj (clsF pure fl o.op o.dst))=true:=by rfl)
  (hr:∀ K':(Nat→AV)→Hp→Prop,K' σ2 h2→aRO t K' (l.take n) σ h:=by
   intro K' hK
   simp -implicitDefEqProofs only[goR,↓Jk,goS,↓reduceIte,reduceCtorEq,seval,F]
   repeat' (first | exact hK | (with_reducible apply And.intro) | exact trivial | assumption | omega)):aRX t pure fl K Kp l L M σ h:=by
 have:=JjD (Kp:=Kp) hc (hr (fun σ h=>aRX t pure fl K Kp (l.drop n) L M σ h) x)
 rwa [List.take_append_drop]at this
theorem JrA{c:Nat}{o:RdO}{l':List RdO}{σ2:Nat→AV}{h2:Hp}{L':LK}{M':List Hp}(hc:clsF pure fl o.op o.dst=c)(hgd:gdOk σ o.g)(hr:∀ X:(Nat→AV)→Hp→Prop,X σ2 h2→(aop t.P t.Φ t.Ψ o.op σ h).pre∧X (putA σ o.dst (aop t.P t.Φ t.Ψ o.op σ h).val) (aop t.P t.Φ t.Ψ o.op σ h).h)
  (hx:aRX t pure fl K Kp l' L' M' σ2 h2) (f:∀ X:XK,X L' M' σ2 h2→(aop t.P t.Φ t.Ψ o.op σ h).pre→(∀ Y:(Nat→AV)→Hp→Prop,Y σ2 h2→aRun t o.op o.dst Y Kp σ h)→Jby t c o.op o.dst X Kp L M σ h):aRX t pure fl K Kp (o::l') L M σ h:=by
 refine Jgb hgd ?_
 rw[hc]
 have hp:=(hr (fun _ _=>True) trivial).1
 refine f _ hx hp fun Y hY=>?_
 obtain⟨q1,q2⟩:=Jis hp
 unfold aRun
 rw[q1]
 simp only
 rw[if_neg q2]
 exact hr Y hY
theorem xaX{o:RdO}{l':List RdO}{σ2:Nat→AV}{h2:Hp}(x:aRX t pure fl K Kp l' (fun h'=>L h'∧VS t o.op σ h h') M σ2 h2)(hl:l=o::l':=by rfl)
  (hc:clsF pure fl o.op o.dst=1:=by rfl)
  (hgd:gdOk σ o.g:=by simp -implicitDefEqProofs only[gdOk,goR,↓Jk,goS,↓reduceIte,reduceCtorEq,seval,F])
  (hr:∀ X:(Nat→AV)→Hp→Prop,X σ2 h2→(aop t.P t.Φ t.Ψ o.op σ h).pre∧X (putA σ o.dst (aop t.P t.Φ t.Ψ o.op σ h).val) (aop t.P t.Φ t.Ψ o.op σ h).h:=by
   intro X hX
   simp -implicitDefEqProofs only[goG,goR,↓Jk,goS,↓reduceIte,reduceCtorEq,seval,F]
   repeat' (first | exact hX | (with_reducible apply And.intro) | exact trivial | assumption | omega))
  (hM:∀ h0∈M,VS t o.op σ h h0:=by
   simp -implicitDefEqProofs only[VS,List.forall_mem_cons,List.not_mem_nil,false_implies,implies_true,goG,goR,↓Jk,goS,↓reduceIte,reduceCtorEq,seval,F]):aRX t pure fl K Kp l L M σ h:=by
 subst hl
 refine JrA hc hgd hr x fun X hX hp hY=>?_
 unfold Jby
 rw[if_pos rfl]
 exact⟨hM,hY _ hX⟩
theorem xbX{o:RdO}{l':List RdO}{σ2:Nat→AV}{h2:Hp}(x:aRX t pure fl K Kp l' L (h::M) σ2 h2)(hl:l=o::l':=by rfl)
  (hc:(clsF pure fl o.op o.dst == 2 || clsF pure fl o.op o.dst == 4)=true:=by rfl)
  (hgd:gdOk σ o.g:=by simp -implicitDefEqProofs only[gdOk,goR,↓Jk,goS,↓reduceIte,reduceCtorEq,seval,F])
  (hr:∀ X:(Nat→AV)→Hp→Prop,X σ2 h2→(aop t.P t.Φ t.Ψ o.op σ h).pre∧X (putA σ o.dst (aop t.P t.Φ t.Ψ o.op σ h).val) (aop t.P t.Φ t.Ψ o.op σ h).h:=by
   intro X hX
   simp -implicitDefEqProofs only[goG,goR,↓Jk,goS,↓reduceIte,reduceCtorEq,seval,F]
   repeat' (first | exact hX | (with_reducible apply And.intro) | exact trivial | assumption | omega))
  (hL:L h2:=by
   simp -implicitDefEqProofs only[VS,goG,goR,↓Jk,goS,↓reduceIte,reduceCtorEq,seval,F]):aRX t pure fl K Kp l L M σ h:=by
 subst hl
 refine JrA rfl hgd hr x fun X hX hp hY=>?_
 unfold Jby
 simp only[Bool.or_eq_true,beq_iff_eq]at hc
 rw[if_neg (by omega),if_pos (by omega)]
 exact hY (fun σ' h'=>L h'∧X L (h::M) σ' h') ⟨hL,hX⟩
theorem xcX{o:RdO}{l':List RdO}{f:Nat}{args:List AV}{g:GI}{val:AV}{bs:List (List C)}{ts:List TypeId}{σ2:Nat→AV}{h2:Hp}(r:Ren)(hG:t.G f g)(x:aRX t pure fl K Kp l' L (h::M) σ2 h2)
  (hl:l=o::l':=by rfl) (hout:g.out=.ret val bs ts:=by rfl)
  (hcl:(clsF pure fl o.op o.dst == 2 || clsF pure fl o.op o.dst == 6)=true:=by rfl)
  (hgd:gdOk σ o.g:=by simp -implicitDefEqProofs only[gdOk,goR,↓Jk,goS,↓reduceIte,reduceCtorEq,seval,F])
  (hc:J3 t σ o.op=some (f,args):=by(simp -implicitDefEqProofs only[goG,goR,↓Jk,goS,↓reduceIte,reduceCtorEq,seval,F]; try rfl))
  (ha:AsWk r args g.args:=by simp -implicitDefEqProofs only[goG,goW,goR,↓Jk,goS,↓reduceIte,reduceCtorEq,seval,F])
  (lb:g.bs.length=r.ps.length:=by rfl) (lt:g.ts.length=r.qs.length:=by rfl) (op:once r.ps=true:=by rfl) (oq:once r.qs=true:=by rfl)
  (bwk:BWk r h 1 g.bs:=by simp -implicitDefEqProofs only[goG,goW,goR,↓Jk,goS,↓reduceIte,reduceCtorEq,seval,F])
  (twk:TWk r h (r.ps.length+1) g.ts:=by simp -implicitDefEqProofs only[goG,goW,goR,↓Jk,goS,↓reduceIte,reduceCtorEq,seval,F])
  (live:∀ row∈g.bs,row≠[]:=by simp -implicitDefEqProofs only[goG,goW,goR,↓Jk,goS,↓reduceIte,reduceCtorEq,seval,F])
  (hs:∀ X:(Nat→AV)→Hp→Prop,X σ2 h2→X (putA σ o.dst (renA (r.back h.nx) val)) (h.after r bs ts):=by
   intro X hX
   simp -implicitDefEqProofs only[goG,goR,↓Jk,goS,↓reduceIte,reduceCtorEq,seval,F]
   exact hX)
  (hL:L h2:=by
   simp -implicitDefEqProofs only[VS,goG,goR,↓Jk,goS,↓reduceIte,reduceCtorEq,seval,F]):aRX t pure fl K Kp l L M σ h:=by
 subst hl
 refine Jgb hgd ?_
 unfold Jby
 simp only[Bool.or_eq_true,beq_iff_eq]at hcl
 rw[if_neg (by omega),if_pos (by omega)]
 unfold aRun
 rw[hc]
 refine⟨g,r,hG,⟨ha,lb,lt,op,oq,bwk,twk,live⟩,?_⟩
 rw[hout]
 exact hs (fun σ' h'=>L h'∧aRX t pure fl K Kp l' L (h::M) σ' h') ⟨hL,x⟩
theorem xlX{ops:Array Oper}{listed:Array Bool}{K:(Nat→AV)→Hp→Prop}(x:K σ h)(hl:l=[]:=by rfl)(hr:Region.ready .any ops listed=[]:=by kernel_rfl):aRX t pure fl (fun L M σ' h'=>Jd9 t pure fl ops K Kp 0 listed L M σ' h') Kp l L M σ h:=by
 subst hl
 exact⟨hr,x⟩
section
variable {ops:Array Oper} {listed:Array Bool} {K:(Nat→AV)→Hp→Prop}
end
end
variable {fn:Func} {nb:Nat} {val:AV} {bs:List (List C)} {ts:List TypeId}
theorem xOr{out:GOut}(x:QL t fn.results.toList nb out (dfL (σ DS)) none σ h):Jfw t fn nb out .ret σ h:=⟨σ,h,Wk.refl _ _ _,x⟩
theorem xOn{out:GOut}(x:QL t fn.results.toList nb out (dfL (σ DS)) none σ h):Jfw t fn nb out .normal σ h:=⟨σ,h,Wk.refl _ _ _,x⟩
theorem xOp{out:GOut}{v:Value}(x:QL t fn.results.toList nb out (dfL (σ DS)) (some v) σ h):Jfw t fn nb out (.panic [{ v:=v,recovered:=false }]) σ h:=⟨σ,h,Wk.refl _ _ _,v,rfl,x⟩
theorem xrD{out:GOut}(dl:List (Nat×List C))(x:QL t fn.results.toList nb out dl none σ h)(hd:dfL (σ DS)=dl:=by simp -implicitDefEqProofs only[goG,goR,↓Jk,goS,↓reduceIte,reduceCtorEq,seval,Y]):Jfw t fn nb out .ret σ h:=xOr (by rw[hd]; exact x)
theorem xnD{out:GOut}(dl:List (Nat×List C))(x:QL t fn.results.toList nb out dl none σ h)(hd:dfL (σ DS)=dl:=by simp -implicitDefEqProofs only[goG,goR,↓Jk,goS,↓reduceIte,reduceCtorEq,seval,Y]):Jfw t fn nb out .normal σ h:=xOn (by rw[hd]; exact x)
theorem xpD{out:GOut}{v:Value}(dl:List (Nat×List C))(x:QL t fn.results.toList nb out dl (some v) σ h)(hd:dfL (σ DS)=dl:=by simp -implicitDefEqProofs only[goG,goR,↓Jk,goS,↓reduceIte,reduceCtorEq,seval,Y]):Jfw t fn nb out (.panic [{ v:=v,recovered:=false }]) σ h:=xOp (by rw[hd]; exact x)
theorem xD{rs:List ResultVar}{u:Option Value}{out:GOut}{f:Nat}{cs:List C}{dl:List (Nat×List C)}{d:DI}{h2:Hp}(r:Ren)(hD:t.D f d)(x:QL t rs nb out dl d.u' σ h2)(hu:d.u=u:=by rfl)
  (ha:AsWk r (cs.map AV.c) d.args:=by simp -implicitDefEqProofs only[goG,goW,goR,↓Jk,goS,↓reduceIte,reduceCtorEq,seval,Y])
  (lb:d.bs.length=r.ps.length:=by rfl) (lt:d.ts.length=r.qs.length:=by rfl) (op:once r.ps=true:=by rfl) (oq:once r.qs=true:=by rfl)
  (bwk:BWk r h 1 d.bs:=by simp -implicitDefEqProofs only[goG,goW,goR,↓Jk,goS,↓reduceIte,reduceCtorEq,seval,Y])
  (twk:TWk r h (r.ps.length+1) d.ts:=by simp -implicitDefEqProofs only[goG,goW,goR,↓Jk,goS,↓reduceIte,reduceCtorEq,seval,Y])
  (live:∀ row∈d.bs,row≠[]:=by simp -implicitDefEqProofs only[goG,goW,goR,↓Jk,goS,↓reduceIte,reduceCtorEq,seval,Y])
  (hs:∀ X:Hp→Prop,X h2→X (h.after r d.bs' d.ts'):=by
   intro X hX
   simp -implicitDefEqProofs only[goG,goR,↓Jk,goS,↓reduceIte,reduceCtorEq,seval,Y]
   exact hX):QL t rs nb out ((f,cs)::dl) u σ h :=
 ⟨d,r,hD,hu,⟨ha,lb,lt,op,oq,bwk,twk,live⟩,hs (fun h=>QL t rs nb out dl d.u' σ h) x⟩
theorem xO{rs:List ResultVar}{av:AV}(r:Ren)(hr:(VT t.P σ h rs).1:=by simp -implicitDefEqProofs only[goG,goQ,goR,↓Jk,goS,↓reduceIte,reduceCtorEq,seval,Y])
  (hj:Jee (VT t.P σ h rs).2=some av:=by simp -implicitDefEqProofs only[goG,goQ,goR,↓Jk,goS,↓reduceIte,reduceCtorEq,seval,Y]; rfl)
  (ha:AWk r av val:=by first | (simp -implicitDefEqProofs only[goG,goW,goR,↓Jk,goS,↓reduceIte,reduceCtorEq,seval,Y]; done) | simp -implicitDefEqProofs only[goG,goW,goR,↓Jk,goS,↓reduceIte,reduceCtorEq,seval,Y,G])
  (lb:bs.length=r.ps.length:=by rfl) (lt:ts.length=r.qs.length:=by rfl) (op:once r.ps=true:=by rfl) (oq:once r.qs=true:=by rfl)
  (bwk:BWk r h 1 bs:=by first | (simp -implicitDefEqProofs only[goG,goW,goR,↓Jk,goS,↓reduceIte,reduceCtorEq,seval,Y]; done) | simp -implicitDefEqProofs only[goG,goW,goR,↓Jk,goS,↓reduceIte,reduceCtorEq,seval,Y,G])
  (twk:TWk r h (r.ps.length+1) ts:=by simp -implicitDefEqProofs only[goG,goW,goR,↓Jk,goS,↓reduceIte,reduceCtorEq,seval,Y])
  (rt:(r.ps.take nb == List.range' 1 nb)=true:=by rfl) (hn:nb≤bs.length:=by exact Nat.le_of_ble_eq_true rfl):QL t rs nb (.ret val bs ts) [] none σ h :=
 ⟨r,av,⟨lb,lt,op,oq,bwk,twk,rt,hn⟩,hr,hj,ha⟩
theorem xOv{rs:List ResultVar}{v:Value}(r:Ren)
  (lb:bs.length=r.ps.length:=by rfl) (lt:ts.length=r.qs.length:=by rfl) (op:once r.ps=true:=by rfl) (oq:once r.qs=true:=by rfl)
  (bwk:BWk r h 1 bs:=by first | (simp -implicitDefEqProofs only[goG,goW,goR,↓Jk,goS,↓reduceIte,reduceCtorEq,seval,Y]; done) | simp -implicitDefEqProofs only[goG,goW,goR,↓Jk,goS,↓reduceIte,reduceCtorEq,seval,Y,G])
  (twk:TWk r h (r.ps.length+1) ts:=by simp -implicitDefEqProofs only[goG,goW,goR,↓Jk,goS,↓reduceIte,reduceCtorEq,seval,Y])
  (rt:(r.ps.take nb == List.range' 1 nb)=true:=by rfl) (hn:nb≤bs.length:=by exact Nat.le_of_ble_eq_true rfl):QL t rs nb (.pan v bs ts) [] (some v) σ h :=
 ⟨rfl,r,⟨lb,lt,op,oq,bwk,twk,rt,hn⟩⟩
theorem xDr{d:DI}(r:Ren)(hr:(VT t.P σ h fn.results.toList).1:=by simp -implicitDefEqProofs only[goG,goQ,goR,↓Jk,goS,↓reduceIte,reduceCtorEq,seval,Y])
  (hj:(Jee (VT t.P σ h fn.results.toList).2).isSome=true:=by first | (simp -implicitDefEqProofs only[goG,goQ,goR,↓Jk,goS,↓reduceIte,reduceCtorEq,seval,Y]; done) | (simp -implicitDefEqProofs only[goG,goQ,goR,↓Jk,goS,↓reduceIte,reduceCtorEq,seval,Y]; rfl))
  (hd:dfL (σ DS)=[]:=by simp -implicitDefEqProofs only[goG,goR,↓Jk,goS,↓reduceIte,reduceCtorEq,seval,Y]) (hu:d.u'=d.u:=by rfl)
  (lb:d.bs'.length=r.ps.length:=by rfl) (lt:d.ts'.length=r.qs.length:=by rfl) (op:once r.ps=true:=by rfl) (oq:once r.qs=true:=by rfl)
  (bwk:BWk r h 1 d.bs':=by simp -implicitDefEqProofs only[goG,goW,goR,↓Jk,goS,↓reduceIte,reduceCtorEq,seval,Y])
  (twk:TWk r h (r.ps.length+1) d.ts':=by simp -implicitDefEqProofs only[goG,goW,goR,↓Jk,goS,↓reduceIte,reduceCtorEq,seval,Y])
  (rt:(r.ps.take d.bs.length == List.range' 1 d.bs.length)=true:=by rfl) (hn:d.bs.length≤d.bs'.length:=by exact Nat.le_of_ble_eq_true rfl):QDf t fn d .ret σ h :=
 ⟨⟨r,lb,lt,op,oq,bwk,twk,rt,hn⟩,hr,hj,hd,hu⟩
theorem xDn{d:DI}(r:Ren)(hr:(VT t.P σ h fn.results.toList).1:=by simp -implicitDefEqProofs only[goG,goQ,goR,↓Jk,goS,↓reduceIte,reduceCtorEq,seval,Y])
  (hj:(Jee (VT t.P σ h fn.results.toList).2).isSome=true:=by first | (simp -implicitDefEqProofs only[goG,goQ,goR,↓Jk,goS,↓reduceIte,reduceCtorEq,seval,Y]; done) | (simp -implicitDefEqProofs only[goG,goQ,goR,↓Jk,goS,↓reduceIte,reduceCtorEq,seval,Y]; rfl))
  (hd:dfL (σ DS)=[]:=by simp -implicitDefEqProofs only[goG,goR,↓Jk,goS,↓reduceIte,reduceCtorEq,seval,Y]) (hu:d.u'=d.u:=by rfl)
  (lb:d.bs'.length=r.ps.length:=by rfl) (lt:d.ts'.length=r.qs.length:=by rfl) (op:once r.ps=true:=by rfl) (oq:once r.qs=true:=by rfl)
  (bwk:BWk r h 1 d.bs':=by simp -implicitDefEqProofs only[goG,goW,goR,↓Jk,goS,↓reduceIte,reduceCtorEq,seval,Y])
  (twk:TWk r h (r.ps.length+1) d.ts':=by simp -implicitDefEqProofs only[goG,goW,goR,↓Jk,goS,↓reduceIte,reduceCtorEq,seval,Y])
  (rt:(r.ps.take d.bs.length == List.range' 1 d.bs.length)=true:=by rfl) (hn:d.bs.length≤d.bs'.length:=by exact Nat.le_of_ble_eq_true rfl):QDf t fn d .normal σ h :=
 xDr r hr hj hd hu lb lt op oq bwk twk rt hn
def Kok(P:Program)(N:Nat)(np:Bool)(S:GI→Prop):Prop:=Jh P N∧(∀ g,S g→Jx P N g)∧(np=true→∀ g,S g→∃ val bs ts,g.out=.ret val bs ts)
inductive GR (E R:Type) where
 | ok (r:R)
 | er (e:E)
def grB{E R β:Type}(x:Option (GR E R))(f:R→Option β)(g:E→Option β):Option β:=match x with
 | none=>none
 | some (.ok r)=>f r
 | some (.er e)=>g e
theorem Ja0{E R β:Type}{x:Option (GR E R)}{f:R→Option β}{g:E→Option β}{o:β}(H:grB x f g=some o):
  (∃ r,x=some (.ok r)∧f r=some o)∨(∃ e,x=some (.er e)∧g e=some o):=by
 cases x with
 | none=>cases H
 | some q=>cases q with
  | ok r=>exact .inl ⟨r,rfl,H⟩
  | er e=>exact .inr ⟨e,rfl,H⟩
end Go.Proofs.Ytaofbminodhcnaa
