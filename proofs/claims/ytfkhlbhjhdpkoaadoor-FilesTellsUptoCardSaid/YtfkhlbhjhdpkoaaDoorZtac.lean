/- What is known may be said otherwise: names anew,less of it. -/
import Derived.Test.YtfkhlbhjhdpkoaaDoorZtab
import Derived.Defers
set_option linter.unusedVariables false
set_option linter.unusedSimpArgs false
namespace Go.Proofs.YtfkhlbhjhdpkoaaDoor
open Go.RowKit
def Wk(rt:Nat)(σ:Nat→AV)(h:Hp)(σ':Nat→AV)(h':Hp):Prop :=
 ∀ (Γ:Ctx) (a:Act) (e:Env),Γ.root.length=rt→Jm Γ.nt Γ.ds σ a e→WInv Γ h e→∃ e',e'.w=e.w∧Jm Γ.nt Γ.ds σ' a e'∧WInv Γ h' e'
theorem Wk.refl(rt:Nat)(σ:Nat→AV)(h:Hp):Wk rt σ h σ h:=fun _ _ e _ hs hw=>⟨e,rfl,hs,hw⟩
theorem Wk.trans{rt:Nat}{σ σ1 σ2:Nat→AV}{h h1 h2:Hp}(k:Wk rt σ h σ1 h1)(k':Wk rt σ1 h1 σ2 h2):Wk rt σ h σ2 h2:=fun Γ a e hΓ hs hw=>by
 obtain⟨e1,q1,q2,q3⟩:=k Γ a e hΓ hs hw
 obtain⟨e2,p1,p2,p3⟩:=k' Γ a e1 hΓ q2 q3
 exact⟨e2,p1.trans q1,p2,p3⟩
def sigL:List (Nat×AV)→Nat→AV
 | [],_=>.c .top
 | (i,a)::l,j=>if j=i then a else sigL l j
theorem JfW(i:Nat)(a:AV)(l:List (Nat×AV))(j:Nat):sigL ((i,a)::l) j=if j=i then a else sigL l j:=rfl
theorem Jh2(j:Nat):sigL [] j=.c .top:=rfl
def Jbl:List C→Option (List C)
 | []=>none
 | c::l=>some (c::l)
theorem Jdc{row row':List C}(h:Jbl row=some row'):row'=row∧row≠[]:=by
 cases row with
 | nil=>cases h
 | cons c l=>simp[Jbl]at h; exact⟨h.symm,by simp⟩
def hpH(bs:List (List C))(n:Nat):Option (List C):=if n=0 then none else bs[n-1]?.bind Jbl
def hpT(nb:Nat)(ts:List TypeId)(n:Nat):Option TypeId:=if n≤nb then none else ts[n-nb-1]?
def hpL(bs:List (List C))(ts:List TypeId):Hp:=⟨hpH bs,hpT bs.length ts,bs.length+ts.length+1⟩
structure Ren where
 ps:List Nat
 qs:List Nat
def Ren.p(r:Ren)(n:Nat):Nat:=r.ps.getD (n-1) 0
def Ren.q(r:Ren)(n:Nat):Nat:=r.qs.getD (n-r.ps.length-1) 0
def NsWk(r:Ren):List Nat→List Nat→Prop
 | [],[]=>True
 | n::ns,m::ms=>(r.p m=n∧n≠0∧0<m∧m≤r.ps.length)∧NsWk r ns ms
 | _,_=>False
def CWk(r:Ren):C→C→Prop
 | .arr sz l,.arr sz' l'=>sz=sz'∧l=l'
 | .arr _ _,_=>False
 | .bar l,.bar l'=>l=l'
 | .bar _,_=>False
 | _,.top=>True
 | .d x,.d y=>x=y
 | .sl sz l k,.sl sz' l' k'=>l=l'∧(sz=sz'∨l=[])∧(k=0∨(r.q k'=k∧r.ps.length<k'∧k'≤r.ps.length+r.qs.length))
 | .sl sz l _,.d (.sl sz' l')=>l=l'∧(sz=sz'∨l=[])
 | .sl _ l k,.os _ _ _ len=>l=[]∧k=0∧len=0
 | .sl sz l k,.fs sz' l'=>l=l'∧(sz=sz'∨l=[])∧k=0
 | .fs _ l,.os _ _ _ len=>l=[]∧len=0
 | .fs sz l,.fs sz' l'=>l=l'∧(sz=sz'∨l=[])
 | .fs sz l,.sl sz' l' _=>l=l'∧(sz=sz'∨l=[])
 | .fs sz l,.d (.sl sz' l')=>l=l'∧(sz=sz'∨l=[])
 | .os n sz off len,.os n' sz' off' len'=>r.p n'=n∧n≠0∧sz=sz'∧off=off'∧len=len'∧0<n'∧n'≤r.ps.length
 | .clo f ns,.clo f' ns'=>f=f'∧NsWk r ns ns'
 | .op p n o,.op p' n' o'=>p=p'∧o=o'∧r.p n'=n∧n≠0∧0<n'∧n'≤r.ps.length
 | .ex v d,.ex v' d'=>v=v'∧d=d'
 | .ex _ (.sl sz l),.d (.sl sz' l')=>l=l'∧(sz=sz'∨l=[])
 | .ex v _,.os _ _ _ len=>v=.slice none 0 0∧len=0
 | .pt n o,.pt n' o'=>r.p n'=n∧n≠0∧o=o'∧0<n'∧n'≤r.ps.length
 | .pa n sz i o,.pa n' sz' i' o'=>r.p n'=n∧n≠0∧sz=sz'∧i=i'∧o=o'∧0<n'∧n'≤r.ps.length
 | .pp l,.pp l'=>l=l'
 | _,_=>False
def CsWk(r:Ren):List C→List C→Prop
 | [],[]=>True
 | x::l,y::m=>CWk r x y∧CsWk r l m
 | _,_=>False
def TcWk(r:Ren):Bool×List C→Bool×List C→Prop
 | (true,l),(true,m)=>CsWk r l m
 | (false,[x]),(false,[y])=>CWk r x y
 | (true,l),(false,[.d (.ag m)])=>CsWk r l (m.map .d)
 | (false,[.d (.ag l)]),(true,m)=>CsWk r (l.map .d) m
 | _,_=>False
def TuWk(r:Ren):List (Bool×List C)→List (Bool×List C)→Prop
 | [],[]=>True
 | x::l,y::m=>TcWk r x y∧TuWk r l m
 | _,_=>False
def AWk(r:Ren):AV→AV→Prop
 | _,.c .top=>True
 | .c (.d (.ag l)),.ag m=>CsWk r (l.map .d) m
 | .ag l,.c (.d (.ag m))=>CsWk r l (m.map .d)
 | .tu l,.tu m=>TuWk r l m
 | .c x,.c y=>CWk r x y
 | .ag l,.ag m=>CsWk r l m
 | .df _,.df _=>True
 | _,_=>False
def LWk(r:Ren)(σ:Nat→AV):List (Nat×AV)→Prop
 | []=>True
 | (i,a)::l=>AWk r (σ i) a∧LWk r σ l
def BWk1(r:Ren):Option (List C)→List C→Prop
 | some row,row'=>CsWk r row row'
 | none,_=>False
def Jac:List C→Prop
 | [.arr sz []]=>0<sz
 | [.bar []]=>True
 | _=>False
def BWk(r:Ren)(h:Hp):Nat→List (List C)→Prop
 | _,[]=>True
 | n,[]::bs=>BWk r h (n+1) bs
 | n,(c::row)::bs=>(if r.p n=0 then Jac (c::row) else BWk1 r (h.H (r.p n)) (c::row))∧BWk r h (n+1) bs
def TWk(r:Ren)(h:Hp):Nat→List TypeId→Prop
 | _,[]=>True
 | n,ty::ts=>(r.q n=0∨h.T (r.q n)=some ty)∧TWk r h (n+1) ts
def renE(r:Ren)(e:Env):Env :=
 ⟨e.w,e.S,fun n=>if(0<n∧n≤r.ps.length)∧r.p n≠0 then e.ρ (r.p n) else none,
  fun n=>if 0<n∧n≤r.ps.length then(if r.p n=0 then none else e.τ (r.p n)) else if r.ps.length<n∧n≤r.ps.length+r.qs.length then(if r.q n=0 then some (.slice none 0 0) else e.τ (r.q n)) else none⟩
theorem Zl{r:Ren}{e:Env}{n:Nat}(h1:0<n)(h2:n≤r.ps.length)(h3:r.p n≠0):(renE r e).ρ n=e.ρ (r.p n):=by simp[renE,h1,h2,h3]
theorem Jbe{r:Ren}{e:Env}{n:Nat}(h1:0<n)(h2:n≤r.ps.length)(h3:r.p n≠0):(renE r e).τ n=e.τ (r.p n):=by simp[renE,h1,h2,h3]
theorem JfP{r:Ren}{e:Env}{n:Nat}(h3:r.p n=0):(renE r e).ρ n=none:=by simp[renE,h3]
theorem JdY{r:Ren}{e:Env}{n:Nat}(h1:r.ps.length<n)(h2:n≤r.ps.length+r.qs.length):(renE r e).τ n=if r.q n=0 then some (.slice none 0 0) else e.τ (r.q n):=by
 have:¬ n≤r.ps.length:=by omega
 simp[renE,this,h1,h2]
theorem R1.resize'{w:World}{S:Nat→Nat→Prop}{sz sz':Nat}{l l':List D}{v:Value}(h:R1 w S (.sl sz l) v)(he:l=l')(hl:sz=sz'∨l=[]):R1 w S (.sl sz' l') v:=by
 subst he; exact h.resize hl.symm
theorem NsWk.rp{r:Ren}{e:Env}:∀ {ns ms:List Nat} {vs:List Value},NsWk r ns ms→RP e ns vs→RP (renE r e) ms vs
 | [],[],[],_,_=>trivial
 | _::_,_::_,_::_,⟨⟨h1,h2,h3,h4⟩,h5⟩,⟨⟨b,k1,k2⟩,k3⟩=>⟨⟨b,by rw[Zl h3 h4 (by rw[h1]; exact h2),h1]; exact k1,k2⟩,NsWk.rp h5 k3⟩
 | [],_::_,_,h,_=>h.elim
 | _::_,[],_,h,_=>h.elim
 | [],[],_::_,_,h=>h.elim
 | _::_,_::_,[],_,h=>h.elim
theorem KX.nil{w:World}{S:Nat→Nat→Prop}{sz:Nat}{v:Value}(k1:R1 w S (.sl sz []) v)(k2:KX v):∃ o,v=.slice o 0 0:=by
 obtain⟨a,m,rfl⟩:=k2
 rcases k1.slInv with⟨_,o,h⟩|⟨vs,b,o,cap,h,_⟩
 ·exact⟨o,h⟩
 ·simp only[List.length_nil,Value.slice.injEq]at h
  obtain⟨_,rfl,rfl⟩:=h
  exact⟨_,rfl⟩
theorem CWk.rc{r:Ren}{e:Env}{c c':C}{v:Value}(h:CWk r c c')(k:RC e c v):RC (renE r e) c' v:=by
 unfold CWk at h
 split at h
 ·exact k.elim
 ·exact h.elim
 ·exact k.elim
 ·exact h.elim
 ·trivial
 ·cases h; exact k
 ·obtain⟨h1,h2,h3⟩:=h
  obtain⟨k1,k2⟩:=k
  refine⟨k1.resize' h1 h2,?_⟩
  rcases k2 with k2 | ⟨k2,k3⟩
  ·exact .inl k2
  ·rcases h3 with h3 | ⟨h3,h4,h5⟩
   ·exact absurd h3 k2
   ·refine .inr ⟨by omega,?_⟩
    rw[JdY h4 h5,h3,if_neg k2]; exact k3
 ·obtain⟨h1,h2⟩:=h
  exact k.1.resize' h1 h2
 ·obtain⟨rfl,rfl,rfl⟩:=h
  obtain⟨k1,k2⟩:=k
  exact .inl ⟨rfl,KX.nil k1 (k2.resolve_right (fun h=>h.1 rfl))⟩
 ·obtain⟨h1,h2,rfl⟩:=h
  obtain⟨k1,k2⟩:=k
  exact⟨k1.resize' h1 h2,k2.resolve_right (fun h=>h.1 rfl)⟩
 ·obtain⟨rfl,rfl⟩:=h
  exact .inl ⟨rfl,KX.nil k.1 k.2⟩
 ·obtain⟨h1,h2⟩:=h
  exact⟨k.1.resize' h1 h2,k.2⟩
 ·obtain⟨h1,h2⟩:=h
  exact⟨k.1.resize' h1 h2,.inl k.2⟩
 ·obtain⟨h1,h2⟩:=h
  exact k.1.resize' h1 h2
 ·obtain⟨h1,h2,rfl,rfl,rfl,h5,h6⟩:=h
  rcases k with k | ⟨b,cap,k1,k2,k3⟩
  ·exact .inl k
  ·have hne:r.p _≠0:=h1 ▸ h2
   exact .inr ⟨b,cap,by rw[Zl h5 h6 hne,h1]; exact k1,by rw[Jbe h5 h6 hne,h1]; exact k2,k3⟩
 ·obtain⟨rfl,h1⟩:=h
  obtain⟨vs,k1,k2⟩:=k
  exact⟨vs,h1.rp k1,k2⟩
 ·obtain⟨rfl,rfl,h1,h2,h3,h4⟩:=h
  obtain⟨kτ,k⟩:=k
  have hne:r.p _≠0:=h1 ▸ h2
  refine⟨by rw[Jbe h3 h4 hne,h1]; exact kτ,?_⟩
  rcases k with k | ⟨k0,b,k1,k2⟩
  ·exact .inl k
  ·exact .inr ⟨k0,b,by rw[Zl h3 h4 hne,h1]; exact k1,k2⟩
 ·obtain⟨rfl,rfl⟩:=h; exact k
 ·obtain⟨h1,h2⟩:=h
  exact k.2.resize' h1 h2
 ·obtain⟨rfl,rfl⟩:=h
  exact .inl ⟨rfl,none,k.1⟩
 ·obtain⟨h1,h2,rfl,h5,h6⟩:=h
  obtain⟨b,k1,k2⟩:=k
  have hne:r.p _≠0:=h1 ▸ h2
  exact⟨b,by rw[Zl h5 h6 hne,h1]; exact k1,k2⟩
 ·obtain⟨h1,h2,rfl,rfl,rfl,h5,h6⟩:=h
  obtain⟨b,k1,k2⟩:=k
  have hne:r.p _≠0:=h1 ▸ h2
  exact⟨b,by rw[Zl h5 h6 hne,h1]; exact k1,k2⟩
 ·cases h; exact k
 ·exact h.elim
theorem CsWk.rcs{r:Ren}{e:Env}:∀ {l l':List C} {vs:List Value},CsWk r l l'→RCs e l vs→RCs (renE r e) l' vs
 | [],[],[],_,_=>trivial
 | _::_,_::_,_::_,⟨h1,h2⟩,⟨k1,k2⟩=>⟨CWk.rc h1 k1,CsWk.rcs h2 k2⟩
 | [],[],_::_,_,h=>h.elim
 | _::_,_::_,[],_,h=>h.elim
 | [],_::_,_,h,_=>h.elim
 | _::_,[],_,h,_=>h.elim
theorem CsWk.rowP{r:Ren}:∀ {l l':List C},CsWk r l l'→rowP l'=true→rowP l=true
 | [],_,_,_=>rfl
 | _::_,[],h,_=>h.elim
 | c::_,c'::_,⟨h,_⟩,hp=>by
  cases c <;> first | rfl | skip
  ·cases c' <;> first | exact h.elim | exact hp
  ·cases c' <;> first | exact h.elim | exact hp
theorem CsWk.ro{r:Ren}{e:Env}{n':Nat}{l l':List C}{ob:Obj}(h1:0<n')(h2:n'≤r.ps.length)(h3:r.p n'≠0)(h:CsWk r l l')(hrb:Jc6 l=true→∀ cs:List Value,RB e (r.p n') l cs→RB (renE r e) n' l' cs)(k:RO e (r.p n') l ob):RO (renE r e) n' l' ob:=by
 unfold RO at k
 split at k
 ·rename_i m rr
  obtain⟨k0,cs,fz,zs,k1,k2,k3,k4,k5⟩:=k
  subst k0
  cases l' with
  | nil=>exact h.elim
  | cons c' cs' =>
   obtain⟨g1,g2⟩:=h
   cases cs' with
   | cons _ _=>exact g2.elim
   | nil =>
    cases c' <;> first | exact g1.elim | skip
    have g1:m=_:=g1
    subst g1
    exact⟨rfl,cs,fz,zs,k1,k2,k3,k4,by rw[Jbe h1 h2 h3]; exact k5⟩
 ·rename_i hnb
  obtain⟨cs,ty,rfl,k2,k3⟩:=k
  refine RO.of (hrb ?_ _ k2) (fun hp=>by rw[Jbe h1 h2 h3]; exact k3 (h.rowP hp))
  cases l with
  | nil=>rfl
  | cons c rr=>cases c <;> first | rfl | exact absurd rfl (hnb _ _)
theorem CWk.arrL{r:Ren}{sz:Nat}{l:List D}{c:C}(h:CWk r (.arr sz l) c):c=.arr sz l:=by
 cases c <;> first | exact h.elim | (obtain⟨rfl,rfl⟩:=h; rfl)
theorem CsWk.rb{r:Ren}{e:Env}{n':Nat}{l l':List C}{vs:List Value}(h1:0<n')(h2:n'≤r.ps.length)(h3:r.p n'≠0)(h:CsWk r l l')(k:RB e (r.p n') l vs):RB (renE r e) n' l' vs:=by
 unfold RB at k
 split at k
 ·rename_i sz m cs
  obtain⟨us,ts,zs,cap,k1,k2,k3,k4,k5,k6,k7,k8,k9⟩:=k
  cases l' with
  | nil=>exact h.elim
  | cons c' cs' =>
   obtain⟨g1,g2⟩:=h
   have:=g1.arrL
   subst this
   refine⟨us,ts,zs,cap,k1,k2,k3,CsWk.rcs g2 k4,k5.imp (fun h=>?_) id,k6,k7,k8,by rw[Jbe h1 h2 h3]; exact k9⟩
   subst h
   cases cs' with
   | nil=>rfl
   | cons _ _=>exact g2.elim
 ·exact .of (CsWk.rcs h k)
theorem RCs.unD{e:Env}:∀ {l:List D} {vs:List Value},RCs e (l.map C.d) vs→Rn e.w e.S l vs
 | [],[],_=>.anil
 | _::_,_::_,⟨h1,h2⟩=>.acons _ _ _ _ h1 (RCs.unD h2)
theorem TcWk.rt{r:Ren}{e:Env}{x y:Bool×List C}{v:Value}(h:TcWk r x y)(k:RT e x v):RT (renE r e) y v:=by
 unfold TcWk at h
 split at h
 ·obtain⟨vs,rfl,k2⟩:=k
  exact⟨vs,rfl,CsWk.rcs h k2⟩
 ·obtain⟨c,h1,h2⟩:=k
  simp only[List.cons.injEq,and_true]at h1
  subst h1
  exact⟨_,rfl,CWk.rc h h2⟩
 ·obtain⟨vs,rfl,k2⟩:=k
  exact⟨_,rfl,.ag _ _ (RCs.unD (CsWk.rcs h k2))⟩
 ·obtain⟨c,h1,h2⟩:=k
  simp only[List.cons.injEq,and_true]at h1
  subst h1
  obtain⟨vs,rfl,k2⟩:=R1.agInv h2
  exact⟨vs,rfl,CsWk.rcs h (RCs.ofD k2)⟩
 ·exact h.elim
theorem TuWk.rts{r:Ren}{e:Env}:∀ {l l':List (Bool×List C)} {vs:List Value},TuWk r l l'→RTs e l vs→RTs (renE r e) l' vs
 | [],[],[],_,_=>trivial
 | _::_,_::_,_::_,⟨h1,h2⟩,⟨k1,k2⟩=>⟨TcWk.rt h1 k1,TuWk.rts h2 k2⟩
 | [],[],_::_,_,h=>h.elim
 | _::_,_::_,[],_,h=>h.elim
 | [],_::_,_,h,_=>h.elim
 | _::_,[],_,h,_=>h.elim
theorem AWk.ra{r:Ren}{e:Env}{a a':AV}{v:Value}(h:AWk r a a')(k:RA e a v):RA (renE r e) a' v:=by
 unfold AWk at h
 split at h
 ·trivial
 ·obtain⟨vs,rfl,k2⟩:=R1.agInv k
  exact⟨vs,rfl,CsWk.rcs h (RCs.ofD k2)⟩
 ·obtain⟨vs,rfl,k2⟩:=k
  exact .ag _ _ (RCs.unD (CsWk.rcs h k2))
 ·obtain⟨vs,rfl,k2⟩:=k
  exact⟨vs,rfl,TuWk.rts h k2⟩
 ·exact CWk.rc h k
 ·obtain⟨vs,rfl,k2⟩:=k
  exact⟨vs,rfl,CsWk.rcs h k2⟩
 ·exact(show False from k).elim
 ·exact h.elim
theorem LWk.at{r:Ren}{σ:Nat→AV}:∀ {L:List (Nat×AV)},LWk r σ L→∀ i,AWk r (σ i) (sigL L i)
 | [],_,i=>by simp[sigL,AWk]
 | (j,a)::L,⟨h1,h2⟩,i=>by
  simp only[sigL]
  split
  ·rename_i h; subst h; exact h1
  ·exact LWk.at h2 i
theorem BWk.at{r:Ren}{h:Hp}:∀ {bs:List (List C)} {n:Nat},BWk r h n bs→∀ (j:Nat) (row:List C),bs[j]? = some row→row≠[] →
  (r.p (n+j)=0∧Jac row)∨(r.p (n+j)≠0∧∃ row0,h.H (r.p (n+j))=some row0∧CsWk r row0 row)
 | [],_,_,j,row,hj,_=>by simp at hj
 | []::bs,n,h2,j,row,hj,hne=>by
  cases j with
  | zero=>simp at hj; exact absurd hj hne
  | succ j =>
   have:=BWk.at (bs:=bs) h2 j row (by simpa using hj) hne
   rwa [show n+1+j=n+(j+1) by omega]at this
 | (c::b)::bs,n,⟨h1,h2⟩,j,row,hj,hne=>by
  cases j with
  | zero =>
   simp at hj; subst hj
   rw[Nat.add_zero]
   by_cases hp:r.p n=0
   ·rw[if_pos hp]at h1; exact .inl ⟨hp,h1⟩
   ·rw[if_neg hp]at h1
    refine .inr ⟨hp,?_⟩
    cases hr:h.H (r.p n) with
    | none=>rw[hr]at h1; exact h1.elim
    | some row0=>rw[hr]at h1; exact⟨row0,by first | rfl | exact hr,h1⟩
  | succ j =>
   have:=BWk.at h2 j row (by simpa using hj) hne
   rwa [show n+1+j=n+(j+1) by omega]at this
theorem TWk.at{r:Ren}{h:Hp}:∀ {ts:List TypeId} {n:Nat},TWk r h n ts→∀ (j:Nat) (ty:TypeId),ts[j]? = some ty→r.q (n+j)=0∨h.T (r.q (n+j))=some ty
 | [],_,_,j,row,hj=>by simp at hj
 | b::bs,n,⟨h1,h2⟩,j,row,hj=>by
  cases j with
  | zero=>simp at hj; subst hj; exact h1
  | succ j =>
   have:=TWk.at h2 j row (by simpa using hj)
   rwa [show n+1+j=n+(j+1) by omega]at this
def once:List Nat→Bool
 | []=>true
 | n::l=>(n == 0 || !l.contains n) && once l
theorem JcP:∀ {l:List Nat},once l=true→∀ {i j:Nat},l.getD i 0=l.getD j 0→l.getD i 0≠0→i=j
 | [],_,i,j,_,h=>by simp at h
 | n::l,h,i,j,he,hn=>by
  simp only[once,Bool.and_eq_true,Bool.or_eq_true,beq_iff_eq,Bool.not_eq_true',List.contains_eq_mem,decide_eq_false_iff_not]at h
  have mem:∀ k,l.getD k 0≠0→l.getD k 0∈l:=fun k hk=>by
   by_cases hkl:k<l.length
   ·simp only[List.getD_eq_getElem?_getD,List.getElem?_eq_getElem hkl,Option.getD_some]; exact List.getElem_mem _
   ·rw[List.getD_eq_getElem?_getD,List.getElem?_eq_none (by omega)]at hk; simp at hk
  cases i with
  | zero =>
   cases j with
   | zero=>rfl
   | succ j =>
    simp only[List.getD_cons_zero,List.getD_cons_succ]at he hn
    exact absurd (he ▸ mem j (he ▸ hn)) (h.1.resolve_left hn)
  | succ i =>
   cases j with
   | zero =>
    simp only[List.getD_cons_zero,List.getD_cons_succ]at he hn
    exact absurd (he ▸ mem i hn) (h.1.resolve_left (he ▸ hn))
   | succ j =>
    simp only[List.getD_cons_succ]at he hn
    rw[JcP h.2 he hn]
theorem JfJ{rt:Nat}{Γ:Ctx}{e:Env}{h:Hp}{bs:List (List C)}{ts:List TypeId}(r:Ren)(hb:bs.length=r.ps.length)(ht:ts.length=r.qs.length)
  (hp:once r.ps=true) (hq:once r.qs=true) (h1:BWk r h 1 bs) (h2:TWk r h (r.ps.length+1) ts) (hrt:(r.ps.take rt == List.range' 1 rt)=true) (hΓ:Γ.root.length=rt) (hw:WInv Γ h e):WInv Γ (hpL bs ts) (renE r e):=by
 have boxIn:∀ n row,(hpL bs ts).H n=some row→0<n∧n≤r.ps.length∧((r.p n=0∧Jac row)∨(r.p n≠0∧∃ row0,h.H (r.p n)=some row0∧CsWk r row0 row)):=fun n row hn=>by
  simp only[hpL,hpH]at hn
  split at hn
  ·cases hn
  ·obtain⟨row',hn,hl⟩:=Option.bind_eq_some_iff.1 hn
   obtain⟨rfl,hne⟩:=Jdc hl
   have hlt:=(List.getElem?_eq_some_iff.1 hn).1
   have g:=h1.at (n-1) row hn hne
   rw[show 1+(n-1)=n by omega]at g
   exact⟨by omega,by omega,g⟩
 have tokIn:∀ n ty,(hpL bs ts).T n=some ty→r.ps.length<n∧n≤r.ps.length+r.qs.length∧(r.q n=0∨h.T (r.q n)=some ty):=fun n ty hn=>by
  simp only[hpL,hpT]at hn
  split at hn
  ·cases hn
  ·have hlt:=(List.getElem?_eq_some_iff.1 hn).1
   have:=h2.at (n-bs.length-1) ty hn
   rw[show r.ps.length+1+(n-bs.length-1)=n by omega]at this
   exact⟨by omega,by omega,this⟩
 have boxNe:∀ n b,(hpL bs ts).H n≠none→(renE r e).ρ n=some b→0<n∧n≤r.ps.length∧r.p n≠0∧h.H (r.p n)≠none∧e.ρ (r.p n)=some b:=fun n b hn hb=>by
  obtain⟨row,hr⟩:=Option.ne_none_iff_exists'.1 hn
  obtain⟨g1,g2,⟨g3,_⟩|⟨g3,row0,g4,_⟩⟩:=boxIn n row hr
  ·rw[JfP g3]at hb; cases hb
  ·rw[Zl g1 g2 g3]at hb
   exact⟨g1,g2,g3,by rw[g4]; simp,hb⟩
 have tokNe:∀ n,(hpL bs ts).T n≠none→r.ps.length<n∧n≤r.ps.length+r.qs.length∧(r.q n=0∨h.T (r.q n)≠none):=fun n hn=>by
  obtain⟨ty,hr⟩:=Option.ne_none_iff_exists'.1 hn
  obtain⟨g1,g2,g3⟩:=tokIn n ty hr
  exact⟨g1,g2,g3.imp id fun h=>by rw[h]; simp⟩
 have hτ0:∀ n,r.ps.length<n→n≤r.ps.length+r.qs.length→r.q n=0→(renE r e).τ n=some (.slice none 0 0):=fun n g1 g2 g3=>by rw[JdY g1 g2,if_pos g3]
 have hτ:∀ n,r.ps.length<n→n≤r.ps.length+r.qs.length→r.q n≠0→(renE r e).τ n=e.τ (r.q n):=fun n g1 g2 g3=>by rw[JdY g1 g2,if_neg g3]
 constructor
 ·exact hw.g0
 ·exact hw.os
 ·exact hw.tape
 ·exact hw.output
 ·exact hw.grown
 ·exact hw.hB
 ·exact hw.old
 ·exact hw.sdom
 ·exact hw.s0
 ·exact hw.s0B
 ·exact hw.keep
 ·intro n row hn
  obtain⟨g1,g2,⟨g3,g4⟩|⟨g3,row0,g4,g5⟩⟩:=boxIn n row hn
  ·refine .inl ⟨JfP g3,?_⟩
   unfold Jac at g4
   split at g4
   ·exact .inl ⟨_,rfl,g4⟩
   ·exact .inr rfl
   ·exact g4.elim
  ·rcases hw.box _ row0 g4 with⟨q1,⟨sz,rfl,q3⟩ | rfl⟩|⟨b,ob,q1,q2,q3,q4,q5⟩
   ·refine .inl ⟨by rw[Zl g1 g2 g3]; exact q1,.inl ⟨sz,?_,q3⟩⟩
    cases row with
    | nil=>exact g5.elim
    | cons c' cs' =>
     obtain⟨k1,k2⟩:=g5
     cases cs' with
     | cons _ _=>exact k2.elim
     | nil=>rw[k1.arrL]
   ·refine .inl ⟨by rw[Zl g1 g2 g3]; exact q1,.inr ?_⟩
    cases row with
    | nil=>exact g5.elim
    | cons c' cs' =>
     obtain⟨k1,k2⟩:=g5
     cases cs' with
     | cons _ _=>exact k2.elim
     | nil =>
      cases c' <;> first | exact k1.elim | skip
      have k1:[]=_:=k1
      rw[← k1]
   ·exact .inr ⟨b,ob,by rw[Zl g1 g2 g3]; exact q1,q2,CsWk.ro g1 g2 g3 g5 (fun _ cs hrb=>CsWk.rb g1 g2 g3 g5 hrb) q3,q4,q5⟩
 ·intro n m b hn hm hnb hmb
  obtain⟨g1,g2,g3,g4,g5⟩:=boxNe n b hn hnb
  obtain⟨k1,k2,k3,k4,k5⟩:=boxNe m b hm hmb
  have:=hw.inj _ _ b g4 k4 g5 k5
  have:=JcP hp this g3
  omega
 ·intro k ty hk
  obtain⟨g1,g2,g3⟩:=tokIn k ty hk
  refine⟨by omega,?_⟩
  by_cases hq0:r.q k=0
  ·exact⟨_,hτ0 k g1 g2 hq0,.inl ⟨none,0,rfl⟩⟩
  ·have g3:=g3.resolve_left hq0
   obtain⟨_,v,q1,q2⟩:=hw.tok _ ty g3
   refine⟨v,by rw[hτ k g1 g2 hq0]; exact q1,q2.imp id ?_⟩
   rintro ⟨sz,n,xs,z1,z2,z3,z4⟩
   refine⟨sz,n,xs,z1,z2,z3,fun b hb m hm=>?_⟩
   intro hmb
   obtain⟨k1,k2,k3,k4,k5⟩:=boxNe m b hm hmb
   exact z4 b hb _ k4 k5
 ·intro k m v u b hk hm hv hu hvb hub hfv hfu
  obtain⟨g1,g2,g3⟩:=tokNe k hk
  obtain⟨k1,k2,k3⟩:=tokNe m hm
  have e1:r.q k≠0:=fun h0=>by
   rw[hτ0 k g1 g2 h0]at hv
   simp at hv; subst hv
   exact hfv ⟨none,0,rfl⟩
  have e2:r.q m≠0:=fun h0=>by
   rw[hτ0 m k1 k2 h0]at hu
   simp at hu; subst hu
   exact hfu ⟨none,0,rfl⟩
  rw[hτ k g1 g2 e1]at hv
  rw[hτ m k1 k2 e2]at hu
  have:=hw.tokinj _ _ v u b (g3.resolve_left e1) (k3.resolve_left e2) hv hu hvb hub hfv hfu
  have:=JcP hq this e1
  omega
 ·intro n hn
  have hn:bs.length+ts.length+1≤n:=hn
  have b1:¬ n≤bs.length:=by omega
  have b2:¬ n=0:=by omega
  have b3:¬ (0<n∧n≤r.ps.length):=by omega
  have b5:¬ ((0<n∧n≤r.ps.length)∧r.p n≠0):=fun h=>b3 h.1
  have b4:¬ (r.ps.length<n∧n≤r.ps.length+r.qs.length):=by omega
  refine⟨?_,?_,?_,?_⟩
  ·simp only[hpL,hpH,b2,if_false]; rw[List.getElem?_eq_none (by omega)]; rfl
  ·simp only[hpL,hpT,b1,if_false]; exact List.getElem?_eq_none (by omega)
  ·simp only[renE,b5,if_false]
  ·simp only[renE,b3,b4,if_false]
 ·exact Nat.succ_pos _
 ·have hrt:r.ps.take rt=List.range' 1 rt:=by simpa using hrt
  have hle:rt≤r.ps.length:=by
   have:=congrArg List.length hrt
   simp at this; omega
  refine⟨by simp only[hpL]; omega,fun i x hx=>?_⟩
  have hi:i<rt:=by have:=(List.getElem?_eq_some_iff.1 hx).1; omega
  have hp1:r.p (i+1)=i+1:=by
   have h1:(r.ps.take rt)[i]? = some (i+1):=by rw[hrt]; simp[List.getElem?_range',hi]; omega
   rw[List.getElem?_take,if_pos hi]at h1
   simp[Ren.p,List.getD_eq_getElem?_getD,h1]
  have hne:r.p (i+1)≠0:=by omega
  have h2:=hw.rt.2 i x hx
  exact⟨by rw[Zl (Nat.succ_pos i) (by omega) hne,hp1]; exact h2.1,by rw[Jbe (Nat.succ_pos i) (by omega) hne,hp1]; exact h2.2⟩
def DlWk(r:Ren):List (Nat×List C)→List (Nat×List C)→Prop
 | [],[]=>True
 | (f,l)::m,(f',l')::m'=>(f=f'∧CsWk r l l')∧DlWk r m m'
 | _,_=>False
theorem DlWk.rdl{r:Ren}{e:Env}:∀ {l m:List (Nat×List C)} {dl:List Deferred},DlWk r l m→RDl e l dl→RDl (renE r e) m dl
 | [],[],[],_,_=>trivial
 | (_,_)::_,(_,_)::_,_::_,⟨⟨rfl,h2⟩,h3⟩,⟨⟨cap,vs,k1,k2,k3⟩,k4⟩=>⟨⟨cap,vs,k1,k2,CsWk.rcs h2 k3⟩,DlWk.rdl h3 k4⟩
 | [],[],_::_,_,k=>k.elim
 | (_,_)::_,(_,_)::_,[],_,k=>k.elim
 | [],_::_,_,h,_=>h.elim
 | _::_,[],_,h,_=>h.elim
theorem DlWk.rdf{r:Ren}{e:Env}{a a':AV}{ds dl:List Deferred}(h:DlWk r (dfL a) (dfL a'))(k:RDf e ds a dl):RDf (renE r e) ds a' dl :=
 let ⟨q,h1,h2⟩:=k; ⟨q,h1,h.rdl h2⟩
theorem Jm6{rt:Nat}{σ:Nat→AV}{h:Hp}{L:List (Nat×AV)}{bs:List (List C)}{ts:List TypeId}(r:Ren)(hb:bs.length=r.ps.length)(ht:ts.length=r.qs.length)
  (hp:once r.ps=true) (_hp0:true=true) (hq:once r.qs=true) (h1:BWk r h 1 bs) (h2:TWk r h (r.ps.length+1) ts) (h3:LWk r σ L) (hds:DlWk r (dfL (σ DS)) (dfL (sigL L DS))) (hrt:(r.ps.take rt == List.range' 1 rt)=true):Wk rt σ h (sigL L) (hpL bs ts) :=
 fun _ _ e hΓ hs hw=>⟨renE r e,rfl,⟨hs.1,⟨hds.rdf hs.2.1.1,hs.2.1.2⟩,fun i hi=>(h3.at i).ra (hs.2.2 i hi)⟩,JfJ r hb ht hp hq h1 h2 hrt hΓ hw⟩
def frzC(n:Nat)(d:D)(len:Nat):C→C
 | .os m sz off len'=>if m=n then(if len'=len∧off=0 then .d d else .top) else .os m sz off len'
 | c=>c
def frzA(n:Nat)(d:D)(len:Nat):AV→AV
 | .c x=>.c (frzC n d len x)
 | .ag l=>.ag (l.map (frzC n d len))
 | .tu l=>.tu (l.map fun x=>(x.1,x.2.map (frzC n d len)))
 | .df l=>.df (l.map fun x=>(x.1,x.2.map (frzC n d len)))
def frzH(n:Nat)(d:D)(len:Nat)(h:Hp):Hp:={ h with H:=fun m=>if m=n then none else(h.H m).map (List.map (frzC n d len)) }
def JbE(n:Nat)(d:D)(len:Nat)(e e':Env):Prop:=∀ sz v,RC e (.os n sz 0 len) v→R1 e'.w e'.S d v
theorem JfT{n len:Nat}{d:D}{e e':Env}(hle:e.le e')(hf:JbE n d len e e'){c:C}{v:Value}(h:RC e c v):RC e' (frzC n d len c) v:=by
 unfold frzC
 split
 ·rename_i m sz off len'
  split
  ·rename_i hm
   subst hm
   split
   ·rename_i hl
    obtain⟨rfl,rfl⟩:=hl
    exact hf sz v h
   ·trivial
  ·exact RC.mono hle h
 ·exact RC.mono hle h
theorem Jba{n len:Nat}{d:D}{e e':Env}(hle:e.le e')(hf:JbE n d len e e'):∀ {l:List C} {vs:List Value},RCs e l vs→RCs e' (l.map (frzC n d len)) vs
 | [],[],_=>trivial
 | _::_,_::_,⟨h1,h2⟩=>⟨JfT hle hf h1,Jba hle hf h2⟩
theorem JeQ{n len:Nat}{d:D}{e e':Env}(hle:e.le e')(hf:JbE n d len e e'):∀ {l:List (Bool×List C)} {vs:List Value},RTs e l vs→RTs e' (l.map fun x=>(x.1,x.2.map (frzC n d len))) vs
 | [],[],_=>trivial
 | (true,_)::_,_::_,⟨⟨vs,h1,h2⟩,h3⟩=>⟨⟨vs,h1,Jba hle hf h2⟩,JeQ hle hf h3⟩
 | (false,_)::_,_::_,⟨⟨c,h1,h2⟩,h3⟩=>by
  subst h1
  exact⟨⟨_,rfl,JfT hle hf h2⟩,JeQ hle hf h3⟩
theorem JmA{n len:Nat}{d:D}{e e':Env}(hle:e.le e')(hf:JbE n d len e e'):∀ {a:AV} {v:Value},RA e a v→RA e' (frzA n d len a) v
 | .c _,_,h=>JfT hle hf h
 | .ag _,_,⟨vs,h1,h2⟩=>⟨vs,h1,Jba hle hf h2⟩
 | .tu _,_,⟨vs,h1,h2⟩=>⟨vs,h1,JeQ hle hf h2⟩
 | .df _,_,h=>h.elim
theorem Ji9{n len:Nat}{d:D}{e e':Env}(hle:e.le e')(hf:JbE n d len e e'):∀ {l:List (Nat×List C)} {m:List Deferred},RDl e l m→RDl e' (l.map fun x=>(x.1,x.2.map (frzC n d len))) m
 | [],[],_=>trivial
 | (_,_)::_,_::_,⟨⟨cap,vs,k1,k2,k3⟩,k4⟩=>⟨⟨cap,vs,k1,k2,Jba hle hf k3⟩,Ji9 hle hf k4⟩
theorem Jl5{n len:Nat}{d:D}{e e':Env}(hle:e.le e')(hf:JbE n d len e e'){a:AV}{ds dl:List Deferred}(k:RDf e ds a dl):RDf e' ds (frzA n d len a) dl:=by
 obtain⟨r,h1,h2⟩:=k
 refine⟨r,h1,?_⟩
 have:=Ji9 hle hf h2
 cases a <;> exact this
theorem JmY{n len m:Nat}{d:D}{e e':Env}(hle:e.le e')(hf:JbE n d len e e'){row:List C}{vs:List Value}(h:RB e m row vs):RB e' m (row.map (frzC n d len)) vs:=by
 unfold RB at h
 split at h
 ·obtain⟨us,ts,zs,cap,k1,k2,k3,k4,k5,k6,k7,k8,k9⟩:=h
  exact⟨us,ts,zs,cap,k1,RD.mono hle.keep k2,k3,Jba hle hf k4,k5.imp (fun h=>by rw[h]; rfl) id,k6,k7,k8,hle.toks _ _ k9⟩
 ·exact .of (Jba hle hf h)
theorem JlE{n len:Nat}{d:D}{row:List C}:rowP (row.map (frzC n d len))=rowP row:=by
 cases row with
 | nil=>rfl
 | cons c l =>
  have:(frzC n d len c).isArr=c.isArr:=by
   unfold frzC
   split
   ·split
    ·split <;> rfl
    ·rfl
   ·rfl
  show(!(frzC n d len c).isArr)=!c.isArr
  rw[this]
theorem JmR{n len m:Nat}{d:D}{e e':Env}(hle:e.le e')(hf:JbE n d len e e'){row:List C}{ob:Obj}(h:RO e m row ob):RO e' m (row.map (frzC n d len)) ob:=by
 unfold RO at h
 split at h
 ·obtain⟨rfl,cs,fz,zs,k1,k2,k3,k4,k5⟩:=h
  exact⟨rfl,cs,fz,zs,k1,k2,k3,k4,hle.toks _ _ k5⟩
 ·obtain⟨cs,ty,rfl,k,k3⟩:=h
  exact RO.of (JmY hle hf k) (fun hp=>hle.toks _ _ (k3 (by rwa [JlE]at hp)))
theorem Jgr{rt:Nat}{σ:Nat→AV}{h:Hp}{n sz:Nat}{l:List D}{cs:List C}(hH:h.H n=some (.arr sz l::cs))(hD:cs.all C.isD=true)(h1D:(cs.map C.toD).all D.one=true):
  Wk rt σ h (fun i=>frzA n (.sl sz (l++cs.map C.toD)) (l.length+cs.length) (σ i)) (frzH n (.sl sz (l++cs.map C.toD)) (l.length+cs.length) h):=by
 intro Γ a e hΓ hs hw
 have hgen:∀ e':Env,e'.w=e.w→e.le e'→JbE n (.sl sz (l++cs.map C.toD)) (l.length+cs.length) e e'→e'.ρ=e.ρ→e'.τ=e.τ→(∀ c o,e'.S c o→e.S c o)→(∀ c o,e.S c o→e.ρ n≠some c→e'.S c o) →
   (∀ b o,Γ.S0 b o→¬ Γ.M b→e'.S b o) →
   ∃ e',e'.w=e.w∧Jm Γ.nt Γ.ds (fun i=>frzA n (.sl sz (l++cs.map C.toD)) (l.length+cs.length) (σ i)) a e'∧WInv Γ (frzH n (.sl sz (l++cs.map C.toD)) (l.length+cs.length) h) e':=by
  intro e' hw' hle hf hρ hτ hS1 hS2 hS0
  have g:∀ i,(frzH n (.sl sz (l++cs.map C.toD)) (l.length+cs.length) h).H i≠none→i≠n∧h.H i≠none:=fun i hi=>by
   simp only[frzH]at hi
   split at hi
   ·exact absurd rfl hi
   ·rename_i hin
    exact⟨hin,fun h0=>hi (by rw[h0]; rfl)⟩
  refine⟨e',hw',⟨hs.1,⟨Jl5 hle hf hs.2.1.1,hs.2.1.2⟩,fun i hi=>JmA hle hf (hs.2.2 i hi)⟩,?_⟩
  constructor
  ·exact hw.g0
  ·rw[hw']; exact hw.os
  ·rw[hw']; exact hw.tape
  ·rw[hw']; exact hw.output
  ·rw[hw']; exact hw.grown
  ·rw[hw']; exact hw.hB
  ·rw[hw']; exact hw.old
  ·intro c o hc; rw[hw']; exact hw.sdom c o (hS1 c o hc)
  ·exact hS0
  ·exact hw.s0B
  ·rw[hw']; exact hw.keep.trans (by have:=hle.keep; rw[hw']at this; exact this)
  ·intro m r hm
   simp only[frzH]at hm
   split at hm
   ·cases hm
   ·rename_i hmn
    obtain⟨r0,hr0,rfl⟩:=Option.map_eq_some_iff.1 hm
    rcases hw.box m r0 hr0 with⟨z1,z2⟩|⟨b,ob,q1,q2,q3,q4,q5⟩
    ·refine .inl ⟨by rw[hρ]; exact z1,?_⟩
     rcases z2 with⟨sz',rfl,h0⟩ | rfl
     ·exact .inl ⟨sz',rfl,h0⟩
     ·exact .inr rfl
    ·refine .inr ⟨b,ob,by rw[hρ]; exact q1,by rw[hw']; exact q2,JmR hle hf q3,fun o ho=>hS2 b o (q4 o ho) (fun hb=>?_),q5⟩
     exact hmn (hw.inj m n b (by rw[hr0]; simp) (by rw[hH]; simp) q1 hb)
  ·intro m m' c hm hm' h1 h2
   rw[hρ]at h1 h2
   exact hw.inj m m' c (g m hm).2 (g m' hm').2 h1 h2
  ·intro k ty hk
   obtain⟨h0,v,q1,q2⟩:=hw.tok k ty hk
   refine⟨h0,v,by rw[hτ]; exact q1,q2.imp id ?_⟩
   rintro ⟨s9,m,xs,z1,z2,z3,z4⟩
   refine⟨s9,m,xs,z1,by rw[hw']; exact z2,fun c o hc ho hx=>?_,fun c hc i hi=>?_⟩
   ·rw[hw']at hx
    exact hS2 c o (z3 c o hc ho hx) (fun hb=>z4 c hc n (by rw[hH]; simp) hb)
   ·rw[hρ]; exact z4 c hc i (g i hi).2
  ·intro k m v u b hk hm hv hu
   rw[hτ]at hv hu
   exact hw.tokinj k m v u b hk hm hv hu
  ·intro m hm
   obtain⟨g1,g2,g3,g4⟩:=hw.fresh m hm
   refine⟨?_,g2,by rw[hρ]; exact g3,by rw[hτ]; exact g4⟩
   simp only[frzH,g1]
   split <;> rfl
  ·exact hw.nx0
  ·refine⟨hw.rt.1,fun i x hx=>?_⟩
   rw[hρ,hτ]; exact hw.rt.2 i x hx
 rcases hw.box n _ hH with⟨z1,⟨sz',z2,z3⟩ | z2⟩|⟨b,ob,q1,q2,q3,q4,q5⟩
 ·obtain⟨⟨rfl,rfl⟩,rfl⟩:(sz=sz'∧l=[])∧cs=[]:=by simpa using z2
  refine hgen e rfl (Env.le.refl e) (fun sz2 v hv=>?_) rfl rfl (fun _ _ h=>h) (fun _ _ h _=>h) hw.s0
  rcases hv with⟨_,o,rfl⟩|⟨b,cap,k1,_⟩
  ·exact .slnil _ _
  ·rw[z1]at k1; cases k1
 ·cases z2
 ·obtain⟨cur,ty,rfl,us,ts,zs,cap,j1,j2,j3,j4,j5,j6,j7,j8,j9⟩:=q3.plain rfl
  have hle:e.le { e with S:=fun c o=>e.S c o∧¬ (c=b∧o<(l.length+cs.length) * sz) }:=⟨fun c o x hc hS=>⟨hc,fun h=>hS h.1⟩,fun _ _ h=>h,fun _ _ h=>h⟩
  have hul:us.length=l.length * sz:=by rw[j2.length,Kz j3]
  have htl:ts.length=cs.length:=j4.length
  have hdt:∀ d∈cs.map C.toD,d.cells.length=sz:=fun d hd=>by
   rcases j5 with j5 | j5
   ·subst j5; simp at hd
   ·have:=List.all_eq_true.1 h1D d hd
    rw[j5]
    cases d <;> first | rfl | (cases this)
  have hct:cs.length=cs.length * sz:=by
   rcases j5 with j5 | j5
   ·subst j5; simp
   ·rw[j5,Nat.mul_one]
  have hR:Rn e.w e.S ((l++cs.map C.toD).flatMap D.cells) (us++ts):=by
   rw[List.flatMap_append]
   refine j2.append ?_
   rw[JeE h1D]; exact RCs.toD hD j4
  have hol:(us++ts).length=(l.length+cs.length) * sz:=by rw[List.length_append,hul,htl,Nat.add_mul]; omega
  refine hgen { e with S:=fun c o=>e.S c o∧¬ (c=b∧o<(l.length+cs.length) * sz) } rfl hle (fun sz2 v hv=>?_) rfl rfl (fun _ _ h=>h.1) (fun c o h hne=>⟨h,fun h'=>hne (by rw[h'.1]; exact q1)⟩) (fun c o h0 hm=>⟨hw.s0 c o h0 hm,fun h'=>?_⟩)
  ·rcases hv with⟨hl0,o,hv⟩|⟨b',cap',k1,k2,hv,k4⟩
   ·have e1:l=[]:=List.length_eq_zero_iff.1 (by omega)
    have e2:cs=[]:=List.length_eq_zero_iff.1 (by omega)
    subst e1; subst e2
    rw[hv]; exact .slnil _ _
   ·rw[q1]at k1; simp at k1; subst k1
    simp only[Nat.zero_mul,Nat.sub_zero,Nat.zero_add]at hv k4
    rw[hv]
    have:=RD.sl (w:=e.w) (S:=fun c o=>e.S c o∧¬ (c=b∧o<(l.length+cs.length) * sz)) sz (l++cs.map C.toD) (us++ts) b 0 cap' (RD.mono hle.keep hR) (fun j y hy=>by
     have hlt:j<(us++ts).length:=(List.getElem?_eq_some_iff.1 hy).1
     rw[Nat.zero_add]
     refine⟨?_,fun h=>h.2 ⟨rfl,by rw[← hol]; exact hlt⟩⟩
     have:cur.toList[j]? = some y:=by rw[j1,List.getElem?_append_left hlt]; exact hy
     simp only[World.cell?,q2]
     simpa using this) (fun d hd'=>by
     rcases List.mem_append.1 hd' with hd' | hd'
     ·exact j3 d hd'
     ·exact hdt d hd') (by simpa using k4)
    simp only[List.length_append,List.length_map]at this
    exact this
  ·obtain⟨rfl,_⟩:=h'
   rcases q5 with q5 | q5
   ·have:=hw.s0B c o h0; omega
   ·exact hm q5
def rnC(n m:Nat):C→C
 | .os k sz off len=>.os (if k=n then m else k) sz off len
 | .pa k sz i off=>.pa (if k=n then m else k) sz i off
 | c=>c
def rnA(n m:Nat):AV→AV
 | .c x=>.c (rnC n m x)
 | .ag l=>.ag (l.map (rnC n m))
 | .tu l=>.tu (l.map fun x=>(x.1,x.2.map (rnC n m)))
 | .df l=>.df (l.map fun x=>(x.1,x.2.map (rnC n m)))
section
variable {n m:Nat} {e e':Env} (hle:e.le e') (hρ:∀ b,e.ρ n=some b→e'.ρ m=some b) (hτ:∀ b cap,e.ρ n=some b→e.τ n=some (.slice none cap cap)→e'.τ m=some (.slice none cap cap))
include hle hρ hτ
end
theorem JlL{rt:Nat}{σ:Nat→AV}{h:Hp}{n sz k:Nat}{l:List D}{cs:List C}(hn:h.H n=some (.arr sz l::cs))(hD:cs.all C.isD=true)(h1D:(cs.map C.toD).all D.one=true)(hk:k≤l.length+cs.length):
  Wk rt σ h σ { h with H:=upd h.H n (some [.arr sz ((l++cs.map C.toD).take k)]) } :=
 fun _ _ e _ hs hw=>⟨e,rfl,hs,hw.trunc hn hD h1D hk⟩
end Go.Proofs.YtfkhlbhjhdpkoaaDoor
namespace Go.Proofs.YtfkhlbhjhdpkoaaDoor
open Go.RowKit
def RAs(e:Env):List AV→List Value→Prop
 | [],[]=>True
 | a::l,v::vs=>RA e a v∧RAs e l vs
 | _,_=>False
theorem RAs.length{e:Env}:∀ {l:List AV} {vs:List Value},RAs e l vs→vs.length=l.length
 | [],[],_=>rfl
 | _::_,_::_,⟨_,h⟩=>by simp[RAs.length h]
def Jdb(e:Env)(n:Nat):Prop:=∀ i,i=0∨n<i→e.ρ i=none∧e.τ i=none
def MG(nb nt:Nat)(e:Env)(b:Nat):Prop :=
 (∃ i,0<i∧i≤nb∧e.ρ i=some b)∨∃ k v,nb<k∧k≤nb+nt∧e.τ k=some v∧¬ KX v∧v.ownBlock=some b
def ctxG(P:Program)(nb nt:Nat)(e:Env):Ctx :=
 ⟨P,e.w,e.w.heap.size,e.S,MG nb nt e,0,[],(List.range nb).map fun i=>(e.ρ (i+1),e.τ (i+1))⟩
def GFin(P:Program)(nb nt:Nat)(e:Env)(bs:List (List C))(ts:List TypeId)(e':Env):Prop :=
 WInv (ctxG P nb nt e) (hpL bs ts) e'∧Jdb e' (bs.length+ts.length)∧nb≤bs.length
def JjV(P:Program)(e:Env)(nb nt:Nat):GOut→Ending→World→Prop
 | .ret val bs ts,en,w'=>∃ v e',en=.returned v∧e'.w=w'∧GFin P nb nt e bs ts e'∧RA e' val v
 | .pan v bs ts,en,w'=>∃ e',en=.panicked [{ v:=v,recovered:=false }]∧e'.w=w'∧GFin P nb nt e bs ts e'
def Kq(P:Program)(f:Nat)(g:GI):Prop :=
 ∀ (e:Env) (vs:List Value),WInv (ctxG P g.bs.length g.ts.length e) (hpL g.bs g.ts) e→Jdb e (g.bs.length+g.ts.length)→RAs e g.args vs→Calls P f ⟨vs⟩ e.w (JjV P e g.bs.length g.ts.length g.out)
def JdU:Option Value→FrameMode
 | none=>.returning
 | some v=>.panicking [{ v:=v,recovered:=false }]
def DOk(P:Program)(f:Nat)(d:DI):Prop :=
 ∀ (e:Env) (vs:List Value),WInv (ctxG P d.bs.length d.ts.length e) (hpL d.bs d.ts) e→Jdb e (d.bs.length+d.ts.length)→RAs e d.args vs →
  CallsD P f ⟨vs⟩ (JdU d.u) e.w (fun en u' w'=>∃ v e',en=.returned v∧settle u'=JdU d.u'∧e'.w=w'∧GFin P d.bs.length d.ts.length e d.bs' d.ts' e')
def Ren.back(r:Ren)(nx:Nat)(i:Nat):Nat:=if i=0 then 0 else if i≤r.ps.length∧r.p i≠0 then r.p i else nx+(i-1)
def renC(β:Nat→Nat):C→C
 | .sl sz l k=>.sl sz l (β k)
 | .pt n o=>.pt (β n) o
 | .os n sz off len=>.os (β n) sz off len
 | .pa n sz i o=>.pa (β n) sz i o
 | .clo f ns=>.clo f (ns.map β)
 | .op p n o=>.op p (β n) o
 | .d x=>.d x
 | .pp l=>.pp l
 | .ex x d=>.ex x d
 | .top=>.top
 | .arr sz l=>.arr sz l
 | .nl=>.nl
 | .fs sz l=>.fs sz l
 | .bar l=>.bar l
def renT(β:Nat→Nat):List (Bool×List C)→List (Bool×List C)
 | []=>[]
 | (b,l)::m=>(b,l.map (renC β))::renT β m
def renA(β:Nat→Nat):AV→AV
 | .c x=>.c (renC β x)
 | .ag l=>.ag (l.map (renC β))
 | .tu l=>.tu (renT β l)
 | .df l=>.df l
def putB(β:Nat→Nat):Nat→List (List C)→(Nat→Option (List C))→(Nat→Option (List C))
 | _,[],H=>H
 | i,row::l,H=>putB β (i+1) l (upd H (β i) ((Jbl row).map (List.map (renC β))))
def putT(β:Nat→Nat):Nat→List TypeId→(Nat→Option TypeId)→(Nat→Option TypeId)
 | _,[],T=>T
 | i,ty::l,T=>putT β (i+1) l (upd T (β i) (some ty))
def Jaf(qs:List Nat)(T:Nat→Option TypeId)(k:Nat):Option TypeId:=if qs.contains k then none else T k
theorem Jf1(T:Nat→Option TypeId):Jaf [] T=T:=rfl
theorem Jbc{α:Type}(l:List α)(k:Nat)(h:k≤l.length):(List.take k l).length=k:=by rw[List.length_take]; omega
theorem Zt{α:Type}(f:α→D)(l:List α)(i:Nat)(v:D):((List.map f l).set i v).length=l.length:=by simp
theorem Zv{α:Type}(f:α→D)(l:List α){i:Nat}(h:i<l.length)(v d:D):((List.map f l).set i v).getD i d=v:=by simp[List.getD_eq_getElem?_getD,List.getElem?_set_self,h]
theorem Zp{α:Type}(f:α→D)(l:List α)(i:Nat)(v w:D):((List.map f l).set i v).set i w=(List.map f l).set i w:=by simp
theorem sget{α:Type}(f:α→D)(l:List α)(i:Nat)(x e:α)(j:Nat)(h:j<l.length)(d:D):((List.map f l).set i (f x)).getD j d=f ((l.set i x).getD j e):=by
 rw[← List.map_set,List.getD_eq_getElem?_getD,List.getD_eq_getElem?_getD,List.getElem?_map,List.getElem?_eq_getElem (show j<(l.set i x).length by simpa using h)]; rfl
theorem JgP{α:Type}(f:α→D)(l:List α)(x:D):List.take (l.length+1) (List.map f l++[x])=List.map f l++[x]:=List.take_of_length_le (by simp)
theorem Jaw{α:Type}(f:α→D){l:List α}{k:Nat}(h:(List.take k l).length=k)(x:D):List.take (k+1) (List.map f (List.take k l)++[x])=List.map f (List.take k l)++[x]:=List.take_of_length_le (by simp; omega)
def Hp.after(h:Hp)(r:Ren)(bs:List (List C))(ts:List TypeId):Hp :=
 ⟨putB (r.back h.nx) 1 bs h.H,putT (r.back h.nx) (bs.length+1) ts (Jaf r.qs h.T),h.nx+bs.length+ts.length⟩
theorem Jb2{β:Nat→Nat}:∀ {l:List (List C)} {i:Nat} {H:Nat→Option (List C)} {m:Nat},(∀ j,i≤j→j<i+l.length→β j≠m)→putB β i l H m=H m
 | [],_,_,_,_=>rfl
 | row::l,i,H,m,h=>by
  rw[putB,Jb2 (fun j h1 h2=>h j (by omega) (by simp only[List.length_cons]; omega)),Jbt _ _ _ _ (Ne.symm (h i (Nat.le_refl _) (by simp)))]
theorem Ji1{β:Nat→Nat}:∀ {l:List (List C)} {i:Nat} {H:Nat→Option (List C)},(∀ j j',i≤j→j<i+l.length→i≤j'→j'<i+l.length→β j=β j'→j=j')→∀ {j:Nat} {row:List C},l[j]? = some row →
  putB β i l H (β (i+j))=(Jbl row).map (List.map (renC β))
 | [],_,_,_,j,row,hj=>by simp at hj
 | r::l,i,H,hinj,j,row,hj=>by
  cases j with
  | zero =>
   simp at hj; subst hj
   show putB β i (r::l) H (β i)=_
   rw[putB,Jb2 (fun j h1 h2 he=>?_),upd_same]
   have:=hinj j i (by omega) (by simp only[List.length_cons]; omega) (Nat.le_refl _) (by simp) he
   omega
  | succ j =>
   have:=Ji1 (β:=β) (l:=l) (i:=i+1) (H:=upd H (β i) ((Jbl r).map (List.map (renC β))))
    (fun j j' h1 h2 h3 h4 he=>hinj j j' (by omega) (by simp only[List.length_cons]; omega) (by omega) (by simp only[List.length_cons]; omega) he) (j:=j) (row:=row) (by simpa using hj)
   rw[putB,← this,show i+(j+1)=i+1+j by omega]
theorem Jde{β:Nat→Nat}:∀ {l:List TypeId} {i:Nat} {T:Nat→Option TypeId} {m:Nat},(∀ j,i≤j→j<i+l.length→β j≠m)→putT β i l T m=T m
 | [],_,_,_,_=>rfl
 | row::l,i,T,m,h=>by
  rw[putT,Jde (fun j h1 h2=>h j (by omega) (by simp only[List.length_cons]; omega)),Jbt _ _ _ _ (Ne.symm (h i (Nat.le_refl _) (by simp)))]
theorem Ji5{β:Nat→Nat}:∀ {l:List TypeId} {i:Nat} {T:Nat→Option TypeId},(∀ j j',i≤j→j<i+l.length→i≤j'→j'<i+l.length→β j=β j'→j=j')→∀ {j:Nat} {ty:TypeId},l[j]? = some ty →
  putT β i l T (β (i+j))=some ty
 | [],_,_,_,j,ty,hj=>by simp at hj
 | t::l,i,T,hinj,j,ty,hj=>by
  cases j with
  | zero =>
   simp at hj; subst hj
   show putT β i (t::l) T (β i)=_
   rw[putT,Jde (fun j h1 h2 he=>?_),upd_same]
   have:=hinj j i (by omega) (by simp only[List.length_cons]; omega) (Nat.le_refl _) (by simp) he
   omega
  | succ j =>
   have:=Ji5 (β:=β) (l:=l) (i:=i+1) (T:=upd T (β i) (some t))
    (fun j j' h1 h2 h3 h4 he=>hinj j j' (by omega) (by simp only[List.length_cons]; omega) (by omega) (by simp only[List.length_cons]; omega) he) (j:=j) (ty:=ty) (by simpa using hj)
   rw[putT,← this,show i+(j+1)=i+1+j by omega]
structure Backs (β:Nat→Nat) (e e':Env):Prop where
 keep:Keep e.w e.S e'.w e'.S
 ρ:∀ n b,e.ρ n=some b→e'.ρ (β n)=some b
 τ:∀ n v,e.τ n=some v→e'.τ (β n)=some v
 ne:∀ n,n≠0→β n≠0
theorem Backs.rp{β:Nat→Nat}{e e':Env}(h:Backs β e e'):∀ {ns:List Nat} {vs:List Value},RP e ns vs→RP e' (ns.map β) vs
 | [],[],_=>trivial
 | _::_,_::_,⟨⟨b,h1,h2⟩,h3⟩=>⟨⟨b,h.ρ _ _ h1,h2⟩,Backs.rp h h3⟩
theorem Backs.rc{β:Nat→Nat}{e e':Env}(h:Backs β e e'):∀ {c:C} {v:Value},RC e c v→RC e' (renC β c) v
 | .d _,_,k=>RD.mono h.keep k
 | .sl _ _ k,v,⟨k1,k2⟩=>⟨RD.mono h.keep k1,k2.imp id fun k3=>⟨h.ne _ k3.1,h.τ _ _ k3.2⟩⟩
 | .pt _ _,_,⟨b,k1,k2⟩=>⟨b,h.ρ _ _ k1,k2⟩
 | .pp _,_,⟨b,o,vs,k1,k2,k3⟩=>⟨b,o,vs,k1,RD.mono h.keep k2,fun i x hx=>let ⟨h1,h2⟩:=k3 i x hx; h.keep _ _ _ h1 h2⟩
 | .ex _ _,_,⟨k1,k2⟩=>⟨k1,RD.mono h.keep k2⟩
 | .top,_,_=>trivial
 | .os _ _ _ _,_,k=>k.imp id fun⟨b,cap,k1,k2,k3⟩=>⟨b,cap,h.ρ _ _ k1,h.τ _ _ k2,k3⟩
 | .fs _ _,_,⟨k1,k2⟩=>⟨RD.mono h.keep k1,k2⟩
 | .clo _ _,_,⟨vs,k1,k2⟩=>⟨vs,h.rp k1,k2⟩
 | .op _ _ _,_,k=>⟨h.τ _ _ k.1,k.2.imp id fun⟨k0,b,k1,k2⟩=>⟨k0,b,h.ρ _ _ k1,k2⟩⟩
 | .pa _ _ _ _,_,⟨b,k1,k2⟩=>⟨b,h.ρ _ _ k1,k2⟩
 | .nl,_,⟨b,k1,k2,k3⟩=>⟨b,k1,h.keep _ _ _ k2 k3⟩
 | .arr _ _,_,k=>k.elim
 | .bar _,_,k=>k.elim
theorem Backs.rcs{β:Nat→Nat}{e e':Env}(h:Backs β e e'):∀ {l:List C} {vs:List Value},RCs e l vs→RCs e' (l.map (renC β)) vs
 | [],[],_=>trivial
 | _::_,_::_,⟨h1,h2⟩=>⟨h.rc h1,h.rcs h2⟩
theorem Backs.rts{β:Nat→Nat}{e e':Env}(h:Backs β e e'):∀ {l:List (Bool×List C)} {vs:List Value},RTs e l vs→RTs e' (renT β l) vs
 | [],[],_=>trivial
 | (true,_)::_,_::_,⟨⟨vs,k1,k2⟩,h2⟩=>⟨⟨vs,k1,h.rcs k2⟩,h.rts h2⟩
 | (false,_)::_,_::_,⟨⟨c,k1,k2⟩,h2⟩=>by
  subst k1
  exact⟨⟨_,rfl,h.rc k2⟩,h.rts h2⟩
theorem Backs.ra{β:Nat→Nat}{e e':Env}(h:Backs β e e'):∀ {a:AV} {v:Value},RA e a v→RA e' (renA β a) v
 | .c _,_,k=>h.rc k
 | .ag _,_,⟨vs,k1,k2⟩=>⟨vs,k1,h.rcs k2⟩
 | .tu _,_,⟨vs,k1,k2⟩=>⟨vs,k1,h.rts k2⟩
 | .df _,_,k=>k.elim
theorem Backs.rb{β:Nat→Nat}{e e':Env}(h:Backs β e e'){n:Nat}{row:List C}{vs:List Value}(k:RB e n row vs):RB e' (β n) (row.map (renC β)) vs:=by
 unfold RB at k
 split at k
 ·obtain⟨us,ts,zs,cap,k1,k2,k3,k4,k5,k6,k7,k8,k9⟩:=k
  exact⟨us,ts,zs,cap,k1,RD.mono h.keep k2,k3,h.rcs k4,k5.imp (fun h=>by rw[h]; rfl) id,k6,k7,k8,h.τ _ _ k9⟩
 ·exact .of (h.rcs k)
theorem Jlv{β:Nat→Nat}{row:List C}:rowP (row.map (renC β))=rowP row:=by
 cases row with
 | nil=>rfl
 | cons c l=>cases c <;> rfl
theorem Backs.ro{β:Nat→Nat}{e e':Env}(h:Backs β e e'){n:Nat}{row:List C}{ob:Obj}(k:RO e n row ob):RO e' (β n) (row.map (renC β)) ob:=by
 unfold RO at k
 split at k
 ·obtain⟨rfl,cs,fz,zs,k1,k2,k3,k4,k5⟩:=k
  exact⟨rfl,cs,fz,zs,k1,k2,k3,k4,h.τ _ _ k5⟩
 ·obtain⟨cs,ty,rfl,k,k3⟩:=k
  exact RO.of (h.rb k) (fun hp=>h.τ _ _ (k3 (by rwa [Jlv]at hp)))
structure Hands (Γ:Ctx) (h:Hp) (e:Env) (r:Ren) (bs:List (List C)) (ts:List TypeId):Prop where
 inv:WInv Γ h e
 lb:bs.length=r.ps.length
 lt:ts.length=r.qs.length
 op:once r.ps=true
 oq:once r.qs=true
 bwk:BWk r h 1 bs
 twk:TWk r h (r.ps.length+1) ts
 live:∀ row∈bs,row≠[]
theorem WInv.noRoot{Γ:Ctx}{h:Hp}{e:Env}(hw:WInv Γ h e):WInv { Γ with root:=[] } h e :=
 ⟨hw.g0,hw.os,hw.tape,hw.output,hw.grown,hw.hB,hw.old,hw.sdom,hw.s0,hw.s0B,hw.keep,hw.box,hw.inj,hw.tok,hw.tokinj,hw.fresh,hw.nx0,⟨hw.nx0,fun i x hx=>by simp at hx⟩⟩
theorem Hands.ren{Γ:Ctx}{h:Hp}{e:Env}{r:Ren}{bs:List (List C)}{ts:List TypeId}(k:Hands Γ h e r bs ts):WInv { Γ with root:=[] } (hpL bs ts) (renE r e) :=
 JfJ (rt:=0) r k.lb k.lt k.op k.oq k.bwk k.twk rfl rfl k.inv.noRoot
theorem Jl9{bs:List (List C)}{n:Nat}{row:List C}(h:hpH bs n=some row):0<n∧n≤bs.length∧bs[n-1]? = some row∧row≠[]:=by
 unfold hpH at h
 split at h
 ·cases h
 ·rename_i h0
  obtain⟨x,h1,h2⟩:=Option.bind_eq_some_iff.1 h
  obtain⟨rfl,h3⟩:=Jdc h2
  have:=(List.getElem?_eq_some_iff.1 h1).1
  exact⟨by omega,by omega,h1,h3⟩
theorem JmQ{bs:List (List C)}{n:Nat}{row:List C}(h0:0<n)(h:bs[n-1]? = some row)(h1:row≠[]):hpH bs n=some row:=by
 unfold hpH
 rw[if_neg (by omega),h]
 cases row with
 | nil=>exact absurd rfl h1
 | cons c l=>rfl
theorem JlN{bs:List (List C)}(hl:∀ row∈bs,row≠[]){n:Nat}(h0:0<n)(h1:n≤bs.length):∃ row,hpH bs n=some row:=by
 have hlt:n-1<bs.length:=by omega
 refine⟨bs[n-1],?_⟩
 unfold hpH
 rw[if_neg (by omega),List.getElem?_eq_getElem hlt]
 have:=hl _ (List.getElem_mem hlt)
 cases hr:bs[n-1] with
 | nil=>exact absurd hr this
 | cons c l=>rfl
theorem Jls{nb:Nat}{ts:List TypeId}{n:Nat}(h0:nb<n)(h1:n≤nb+ts.length):∃ ty,hpT nb ts n=some ty:=by
 have hlt:n-nb-1<ts.length:=by omega
 refine⟨ts[n-nb-1],?_⟩
 unfold hpT
 rw[if_neg (by omega),List.getElem?_eq_getElem hlt]
theorem Jmv{nb:Nat}{ts:List TypeId}{n:Nat}{ty:TypeId}(h:hpT nb ts n=some ty):nb<n∧n≤nb+ts.length∧ts[n-nb-1]? = some ty:=by
 unfold hpT at h
 split at h
 ·cases h
 ·have:=(List.getElem?_eq_some_iff.1 h).1
  exact⟨by omega,by omega,h⟩
section
variable {Γ:Ctx} {h:Hp} {e:Env} {r:Ren} {bs0:List (List C)} {ts0:List TypeId}
theorem Hands.boxOf(k:Hands Γ h e r bs0 ts0){i:Nat}(h0:0<i)(hi:i≤r.ps.length):r.p i=0∨(r.p i≠0∧h.H (r.p i)≠none):=by
 have hlt:i-1<bs0.length:=by rw[k.lb]; omega
 have:=k.bwk.at (i-1) bs0[i-1] (List.getElem?_eq_getElem hlt) (k.live _ (List.getElem_mem _))
 rw[show 1+(i-1)=i by omega]at this
 rcases this with⟨h1,_⟩|⟨h1,row0,h2,_⟩
 ·exact .inl h1
 ·exact .inr ⟨h1,by rw[h2]; simp⟩
theorem Hands.p_lt(k:Hands Γ h e r bs0 ts0){i:Nat}(h0:0<i)(hi:i≤r.ps.length)(hp:r.p i≠0):r.p i<h.nx:=by
 rcases k.boxOf h0 hi with h1 | ⟨_,h1⟩
 ·exact absurd h1 hp
 ·rcases Nat.lt_or_ge (r.p i) h.nx with h2 | h2
  ·exact h2
  ·exact absurd (k.inv.fresh _ h2).1 h1
theorem Hands.tokOf(k:Hands Γ h e r bs0 ts0){j:Nat}(h0:r.ps.length<j)(hj:j≤r.ps.length+r.qs.length):r.q j=0∨h.T (r.q j)≠none:=by
 have hlt:j-r.ps.length-1<ts0.length:=by rw[k.lt]; omega
 have:=k.twk.at (j-r.ps.length-1) ts0[j-r.ps.length-1] (List.getElem?_eq_getElem hlt)
 rw[show r.ps.length+1+(j-r.ps.length-1)=j by omega]at this
 exact this.imp id fun h=>by rw[h]; simp
theorem Hands.own(k:Hands Γ h e r bs0 ts0){b:Nat}(hb:MG bs0.length ts0.length (renE r e) b):(Γ.B≤b∨Γ.M b)∧(∀ n,h.H n≠none→e.ρ n=some b→∃ i,0<i∧i≤r.ps.length∧r.p i≠0∧r.p i=n) ∧
  (∀ n v,h.T n≠none→e.τ n=some v→¬ KX v→v.ownBlock=some b→r.qs.contains n=true):=by
 rcases hb with⟨i,h0,hi,hρ⟩|⟨j,v,hj0,hj,hτ,hf,hbk⟩
 ·rw[k.lb]at hi
  rcases k.boxOf h0 hi with hz | ⟨hz,hH⟩
  ·rw[JfP hz]at hρ; cases hρ
  ·rw[Zl h0 hi hz]at hρ
   obtain⟨row,hr⟩:=Option.ne_none_iff_exists'.1 hH
   obtain⟨ob,_,_,_,q⟩:=k.inv.boxAny hρ row hr
   refine⟨q,fun n hn hb'=>⟨i,h0,hi,hz,k.inv.inj _ _ b hH hn hρ hb'⟩,fun n u hn hu hfu hbu=>?_⟩
   obtain⟨ty,hT⟩:=Option.ne_none_iff_exists'.1 hn
   obtain⟨_,u',q1,q2⟩:=k.inv.tok n ty hT
   rw[hu]at q1; cases q1
   obtain⟨_,_,_,_,_,_,q3⟩:=q2.resolve_left hfu
   exact absurd hρ (q3 b hbu _ hH)
 ·rw[k.lb,k.lt]at hj
  rw[k.lb]at hj0
  have hq:r.q j≠0:=fun hz=>by
   rw[JdY hj0 hj,if_pos hz]at hτ
   cases hτ
   exact hf ⟨_,_,rfl⟩
  rw[JdY hj0 hj,if_neg hq]at hτ
  have hT:=(k.tokOf hj0 hj).resolve_left hq
  obtain⟨ty,hT'⟩:=Option.ne_none_iff_exists'.1 hT
  obtain⟨_,u',q1,q2⟩:=k.inv.tok _ ty hT'
  rw[hτ]at q1; cases q1
  obtain⟨_,_,_,_,q3,_,q4⟩:=q2.resolve_left hf
  refine⟨q3.2 b hbk,fun n hn hb'=>absurd hb' (q4 b hbk n hn),fun n u hn hu hfu hbu=>?_⟩
  have:=k.inv.tokinj n (r.q j) u v b hn hT hu hτ hbu hbk hfu hf
  subst this
  have hlt:j-r.ps.length-1<r.qs.length:=by omega
  have:r.q j=r.qs[j-r.ps.length-1]:=by simp[Ren.q,hlt]
  rw[this]
  simp
theorem Hands.enter(k:Hands Γ h e r bs0 ts0):WInv (ctxG Γ.P bs0.length ts0.length (renE r e)) (hpL bs0 ts0) (renE r e)∧Jdb (renE r e) (bs0.length+ts0.length):=by
 have hw:=k.ren
 refine⟨?_,fun i hi=>?_⟩
 ·constructor
  ·refine⟨hw.gw,fun q hq=>?_⟩
   obtain⟨cs,ty,g1,g2,g3,g4⟩:=hw.gw q hq
   refine⟨(Array.getElem?_eq_some_iff.1 g1).1,fun hM=>?_⟩
   rcases hM with⟨i,h1,h2,h3⟩|⟨k1,v,h1,h2,h3,h4,h5⟩
   ·obtain⟨row,hr⟩:=JlN k.live h1 h2
    obtain⟨ob,o1,_,o3,_⟩:=hw.boxAny h3 row hr
    rw[g1]at o1; cases o1
    exact g4 0 g3 (o3 0 g3)
   ·obtain⟨ty1,ht⟩:=Jls (ts:=ts0) h1 h2
    obtain⟨_,v1,q1,q2⟩:=hw.tok k1 ty1 ht
    rw[h3]at q1; cases q1
    obtain⟨sz,n,xs,z1,z2,z3,_⟩:=q2.resolve_left h4
    rcases z2.1.2 with⟨rfl,_⟩|⟨g,cap,cur,rfl,_,r1,r2,_,r3,_⟩
    ·cases h5
    ·simp only[Value.ownBlock,Option.some.injEq]at h5
     subst h5
     rw[g1]at r1; cases r1
     have hlt:n<cap:=by
      rcases Nat.lt_or_ge n cap with h | h
      ·exact h
      ·exact absurd ⟨_,n,by rw[Nat.le_antisymm h r2]⟩ h4
     have hlt2:n * sz<cs.size:=by rw[r3]; exact Nat.mul_lt_mul_of_pos_right hlt z1.1
     exact g4 _ hlt2 (z3 _ _ rfl (Nat.le_refl _) (by rw[Jb4 g1 hlt2]; rfl))
  ·rfl
  ·rfl
  ·rfl
  ·exact Nat.le_refl _
  ·exact Nat.le_refl _
  ·intro b _ _; rfl
  ·exact hw.sdom
  ·intro b o h0 _; exact h0
  ·exact hw.sdom
  ·exact Keep.refl _ _
  ·intro n row hn
   rcases hw.box n row hn with hz | ⟨b,ob,q1,q2,q3,q4,_⟩
   ·exact .inl hz
   ·obtain⟨p1,p2,_⟩:=Jl9 hn
    exact .inr ⟨b,ob,q1,q2,q3,q4,.inr (.inl ⟨n,p1,p2,q1⟩)⟩
  ·exact hw.inj
  ·intro n ty hn
   obtain⟨h0,v,q1,q2⟩:=hw.tok n ty hn
   refine⟨h0,v,q1,?_⟩
   by_cases hf:KX v
   ·exact .inl hf
   ·obtain⟨sz,m,xs,z1,z2,z3⟩:=q2.resolve_left hf
    obtain⟨p1,p2,_⟩:=Jmv hn
    exact .inr ⟨sz,m,xs,z1,⟨z2.1,fun b hb=>.inr (.inr ⟨n,v,p1,p2,q1,hf,hb⟩)⟩,z3⟩
  ·exact hw.tokinj
  ·exact hw.fresh
  ·exact hw.nx0
  ·refine⟨by simp[ctxG,hpL]; omega,fun i x hx=>?_⟩
   simp only[ctxG,List.getElem?_map,Option.map_eq_some_iff]at hx
   obtain⟨j,hj,rfl⟩:=hx
   have:=List.getElem?_eq_some_iff.1 hj
   obtain⟨_,hj⟩:=this
   simp at hj
   subst hj
   exact⟨rfl,rfl⟩
 ·obtain⟨h1,h2⟩:=(hw.fresh (bs0.length+ts0.length+1) (Nat.le_refl _)).2.2
  rcases hi with rfl | hi
  ·refine⟨?_,?_⟩
   ·simp[renE]
   ·simp[renE]
  ·exact(hw.fresh i (by simp[hpL]; omega)).2.2
variable {bs:List (List C)} {ts:List TypeId} {e':Env}
def KQ(h:Hp)(e e':Env):Env:=⟨e'.w,e'.S,fun n=>if n<h.nx then e.ρ n else e'.ρ (n-h.nx+1),fun n=>if n<h.nx then e.τ n else e'.τ (n-h.nx+1)⟩
theorem Hands.root(k:Hands Γ h e r bs0 ts0)(hw':WInv (ctxG Γ.P bs0.length ts0.length (renE r e)) (hpL bs ts) e'){i:Nat}(h0:0<i)(hi:i≤r.ps.length):
  e'.ρ i=(renE r e).ρ i∧e'.τ i=(renE r e).τ i:=by
 have hx:(ctxG Γ.P bs0.length ts0.length (renE r e)).root[i-1]? = some ((renE r e).ρ i,(renE r e).τ i):=by
  simp only[ctxG,List.getElem?_map]
  have:(List.range bs0.length)[i-1]? = some (i-1):=by
   rw[List.getElem?_range (by rw[k.lb]; omega)]
  rw[this,Option.map_some,show i-1+1=i by omega]
 have:=hw'.rt.2 _ _ hx
 rwa [show i-1+1=i by omega]at this
theorem Ze{nx i:Nat}(h0:0<i)(hi:i≤r.ps.length)(hp:r.p i≠0):r.back nx i=r.p i:=by
 unfold Ren.back
 rw[if_neg (by omega),if_pos ⟨hi,hp⟩]
theorem ZJ{nx i:Nat}(h0:0<i)(hi:¬ (i≤r.ps.length∧r.p i≠0)):r.back nx i=nx+(i-1):=by
 unfold Ren.back
 rw[if_neg (by omega),if_neg hi]
theorem Hands.back_inj(k:Hands Γ h e r bs0 ts0){i j:Nat}(hi:0<i)(hj:0<j)(he:r.back h.nx i=r.back h.nx j):i=j:=by
 by_cases h1:i≤r.ps.length∧r.p i≠0 <;> by_cases h2:j≤r.ps.length∧r.p j≠0
 ·rw[Ze hi h1.1 h1.2,Ze hj h2.1 h2.2]at he
  have:=JcP k.op (i:=i-1) (j:=j-1) he h1.2
  omega
 ·rw[Ze hi h1.1 h1.2,ZJ hj h2]at he
  have:=k.p_lt hi h1.1 h1.2
  omega
 ·rw[ZJ hi h1,Ze hj h2.1 h2.2]at he
  have:=k.p_lt hj h2.1 h2.2
  omega
 ·rw[ZJ hi h1,ZJ hj h2]at he
  omega
theorem Hands.backs(k:Hands Γ h e r bs0 ts0)(hw':WInv (ctxG Γ.P bs0.length ts0.length (renE r e)) (hpL bs ts) e'){i:Nat}(h0:0<i):
  (KQ h e e').ρ (r.back h.nx i)=e'.ρ i∧(KQ h e e').τ (r.back h.nx i)=e'.τ i:=by
 by_cases h1:i≤r.ps.length∧r.p i≠0
 ·rw[Ze h0 h1.1 h1.2]
  have hlt:=k.p_lt h0 h1.1 h1.2
  obtain⟨q1,q2⟩:=k.root hw' h0 h1.1
  rw[q1,q2,Zl h0 h1.1 h1.2,Jbe h0 h1.1 h1.2]
  simp only[KQ,hlt,if_true,and_self]
 ·rw[ZJ h0 h1]
  have:¬ (h.nx+(i-1)<h.nx):=by omega
  simp only[KQ,this,if_false]
  rw[show h.nx+(i-1)-h.nx+1=i by omega]
  exact⟨rfl,rfl⟩
theorem Hands.le(k:Hands Γ h e r bs0 ts0)(hw':WInv (ctxG Γ.P bs0.length ts0.length (renE r e)) (hpL bs ts) e'):e.le (KQ h e e'):=by
 refine⟨hw'.keep,fun n b hn=>?_,fun n b hn=>?_⟩
 ·have:n<h.nx:=by
   rcases Nat.lt_or_ge n h.nx with h2 | h2
   ·exact h2
   ·rw[(k.inv.fresh _ h2).2.2.1]at hn; cases hn
  simp[KQ,this,hn]
 ·have:n<h.nx:=by
   rcases Nat.lt_or_ge n h.nx with h2 | h2
   ·exact h2
   ·rw[(k.inv.fresh _ h2).2.2.2]at hn; cases hn
  simp[KQ,this,hn]
theorem Hands.toBacks(k:Hands Γ h e r bs0 ts0)(hw':WInv (ctxG Γ.P bs0.length ts0.length (renE r e)) (hpL bs ts) e')(hc:Jdb e' (bs.length+ts.length)):Backs (r.back h.nx) e' (KQ h e e'):=by
 refine⟨Keep.refl _ _,fun n b hn=>?_,fun n b hn=>?_,fun n hn hz=>?_⟩
 ·have h0:0<n:=by
   rcases Nat.eq_zero_or_pos n with h0 | h0
   ·rw[(hc n (.inl h0)).1]at hn; cases hn
   ·exact h0
  rw[(k.backs hw' h0).1]; exact hn
 ·have h0:0<n:=by
   rcases Nat.eq_zero_or_pos n with h0 | h0
   ·rw[(hc n (.inl h0)).2]at hn; cases hn
   ·exact h0
  rw[(k.backs hw' h0).2]; exact hn
 ·have h0:0<n:=by omega
  by_cases h1:n≤r.ps.length∧r.p n≠0
  ·rw[Ze h0 h1.1 h1.2]at hz; exact h1.2 hz
  ·rw[ZJ h0 h1]at hz
   have:=k.inv.nx0
   omega
theorem Hands.leave(k:Hands Γ h e r bs0 ts0)(hw':WInv (ctxG Γ.P bs0.length ts0.length (renE r e)) (hpL bs ts) e')(hc:Jdb e' (bs.length+ts.length))(hn:bs0.length≤bs.length):
  WInv Γ (h.after r bs ts) (KQ h e e'):=by
 have hle:=k.le hw'
 have hB:=k.toBacks hw' hc
 have hw:=k.inv
 have hsz:e.w.heap.size≤e'.w.heap.size:=hw'.grown
 have βlt:∀ j,0<j→j≤bs.length+ts.length→r.back h.nx j<h.nx+bs.length+ts.length:=fun j h0 hj=>by
  by_cases h1:j≤r.ps.length∧r.p j≠0
  ·rw[Ze h0 h1.1 h1.2]; have:=k.p_lt h0 h1.1 h1.2; omega
  ·rw[ZJ h0 h1]; omega
 have injOn:∀ a c:Nat,0<a→∀ j j',a≤j→j<a+c→a≤j'→j'<a+c→r.back h.nx j=r.back h.nx j'→j=j':=fun a c ha j j' h1 _ h2 _ he=>k.back_inj (by omega) (by omega) he
 -- boxes,one way or the other
 have Hin:∀ n row,(h.after r bs ts).H n=some row→(∃ j row',0<j∧j≤bs.length∧r.back h.nx j=n∧hpH bs j=some row'∧row=row'.map (renC (r.back h.nx))) ∨
   ((∀ j,0<j→j≤bs.length→r.back h.nx j≠n)∧h.H n=some row):=fun n row hr=>by
  by_cases hx:∃ j,0<j∧j≤bs.length∧r.back h.nx j=n
  ·obtain⟨j,h0,hj,rfl⟩:=hx
   have hlt:j-1<bs.length:=by omega
   have:=Ji1 (β:=r.back h.nx) (l:=bs) (i:=1) (H:=h.H) (injOn 1 bs.length (by omega)) (j:=j-1) (row:=bs[j-1]) (List.getElem?_eq_getElem hlt)
   rw[show 1+(j-1)=j by omega]at this
   have hr:putB (r.back h.nx) 1 bs h.H (r.back h.nx j)=some row:=hr
   rw[this]at hr
   obtain⟨row',h1,h2⟩:=Option.map_eq_some_iff.1 hr
   obtain⟨rfl,h3⟩:=Jdc h1
   exact .inl ⟨j,_,h0,hj,rfl,JmQ h0 (List.getElem?_eq_getElem hlt) h3,h2.symm⟩
  ·have hx':∀ j,0<j→j≤bs.length→r.back h.nx j≠n:=fun j h0 hj he=>hx ⟨j,h0,hj,he⟩
   have:putB (r.back h.nx) 1 bs h.H n=h.H n:=Jb2 fun j h1 h2=>hx' j (by omega) (by omega)
   exact .inr ⟨hx',by rw[← this]; exact hr⟩
 have Tin:∀ n ty,(h.after r bs ts).T n=some ty→(∃ j,0<j∧j≤bs.length+ts.length∧r.back h.nx j=n∧hpT bs.length ts j=some ty) ∨
   ((∀ j,bs.length<j→j≤bs.length+ts.length→r.back h.nx j≠n)∧h.T n=some ty∧r.qs.contains n=false):=fun n ty hr=>by
  by_cases hx:∃ j,bs.length<j∧j≤bs.length+ts.length∧r.back h.nx j=n
  ·obtain⟨j,h0,hj,rfl⟩:=hx
   have hlt:j-bs.length-1<ts.length:=by omega
   have:=Ji5 (β:=r.back h.nx) (l:=ts) (i:=bs.length+1) (T:=Jaf r.qs h.T) (injOn (bs.length+1) ts.length (by omega)) (j:=j-bs.length-1) (ty:=ts[j-bs.length-1]) (List.getElem?_eq_getElem hlt)
   rw[show bs.length+1+(j-bs.length-1)=j by omega]at this
   have hr:putT (r.back h.nx) (bs.length+1) ts (Jaf r.qs h.T) (r.back h.nx j)=some ty:=hr
   rw[this]at hr
   refine .inl ⟨j,by omega,hj,rfl,?_⟩
   unfold hpT
   rw[if_neg (by omega),List.getElem?_eq_getElem hlt]; exact hr
  ·have hx':∀ j,bs.length<j→j≤bs.length+ts.length→r.back h.nx j≠n:=fun j h0 hj he=>hx ⟨j,h0,hj,he⟩
   have:putT (r.back h.nx) (bs.length+1) ts (Jaf r.qs h.T) n=Jaf r.qs h.T n:=Jde fun j h1 h2=>hx' j (by omega) (by omega)
   have hr:putT (r.back h.nx) (bs.length+1) ts (Jaf r.qs h.T) n=some ty:=hr
   rw[this]at hr
   unfold Jaf at hr
   split at hr
   ·cases hr
   ·rename_i hq
    exact .inr ⟨hx',hr,by simpa using hq⟩
 -- an old box that was not handed over
 have oldBox:∀ n row b,(∀ j,0<j→j≤bs.length→r.back h.nx j≠n)→h.H n=some row→e.ρ n=some b→¬ MG bs0.length ts0.length (renE r e) b∧b<e.w.heap.size∧(KQ h e e').ρ n=some b:=fun n row b hx hr hρ=>by
  refine⟨fun hM=>?_,?_,hle.names n b hρ⟩
  ·obtain⟨i,h0,hi,hp,rfl⟩:=(k.own hM).2.1 n (by rw[hr]; simp) hρ
   exact hx i h0 (by have:=k.lb; omega) (Ze h0 hi hp)
  ·obtain⟨ob,q,_⟩:=hw.boxAny hρ row hr
   exact(Array.getElem?_eq_some_iff.1 q).1
 have newBox:∀ j row b,0<j→hpH bs j=some row→e'.ρ j=some b→e.w.heap.size≤b∨MG bs0.length ts0.length (renE r e) b:=fun j row b h0 hr hρ=>by
  obtain⟨ob,_,_,_,q⟩:=hw'.boxAny hρ row hr
  exact q
 have notOld:∀ b,¬ MG bs0.length ts0.length (renE r e) b→b<e.w.heap.size→e'.w.heap[b]? = e.w.heap[b]? := fun b h1 h2=>hw'.old b h2 h1
 constructor
 ·exact hw.g0
 ·exact hw'.os.trans hw.os
 ·exact hw'.tape.trans hw.tape
 ·exact hw'.output.trans hw.output
 ·exact Nat.le_trans hw.grown hsz
 ·exact Nat.le_trans hw.hB hsz
 ·intro b hb hm
  refine(notOld b (fun hM=>?_) (Nat.lt_of_lt_of_le hb hw.hB)).trans (hw.old b hb hm)
  rcases (k.own hM).1 with h1 | h1
  ·omega
  ·exact hm h1
 ·exact hw'.sdom
 ·intro b o h0 hm
  have hb:=hw.s0B b o h0
  refine hw'.s0 b o (hw.s0 b o h0 hm) fun hM=>?_
  rcases (k.own hM).1 with h1 | h1
  ·omega
  ·exact hm h1
 ·exact hw.s0B
 ·exact hw.keep.trans hle.keep
 ·intro n row hr
  rcases Hin n row hr with⟨j,row',h0,hj,rfl,hr',rfl⟩|⟨hx,hr'⟩
  ·rcases hw'.box j row' hr' with⟨z1,z2⟩|⟨b,ob,q1,q2,q3,q4,q5⟩
   ·refine .inl ⟨by rw[(k.backs hw' h0).1]; exact z1,?_⟩
    rcases z2 with⟨sz,rfl,hs⟩ | rfl
    ·exact .inl ⟨sz,rfl,hs⟩
    ·exact .inr rfl
   ·refine .inr ⟨b,ob,by rw[(k.backs hw' h0).1]; exact q1,q2,hB.ro q3,q4,?_⟩
    rcases q5 with q5 | q5
    ·exact .inl (Nat.le_trans hw.hB q5)
    ·exact(k.own q5).1
  ·have hlt:n<h.nx:=by
    rcases Nat.lt_or_ge n h.nx with h2 | h2
    ·exact h2
    ·rw[(hw.fresh _ h2).1]at hr'; cases hr'
   rcases hw.box n row hr' with⟨z1,z2⟩|⟨b,ob,q1,q2,q3,q4,q5⟩
   ·exact .inl ⟨by simp[KQ,hlt,z1],z2⟩
   ·obtain⟨hM,hb,hρ⟩:=oldBox n row b hx hr' q1
    exact .inr ⟨b,ob,hρ,(notOld b hM hb).trans q2,RO.mono hle q3,fun o ho=>hw'.s0 b o (q4 o ho) hM,q5⟩
 ·intro n m b hn hm hnb hmb
  obtain⟨row,hr⟩:=Option.ne_none_iff_exists'.1 hn
  obtain⟨row2,hr2⟩:=Option.ne_none_iff_exists'.1 hm
  have mixed:∀ n m row j row',(∀ j,0<j→j≤bs.length→r.back h.nx j≠n)→h.H n=some row→(KQ h e e').ρ n=some b→0<j→hpH bs j=some row'→r.back h.nx j=m→(KQ h e e').ρ m=some b→False:=by
   rintro n m row j row' hx hr hnb h0 hr' rfl hmb
   have hlt:n<h.nx:=by
    rcases Nat.lt_or_ge n h.nx with h2 | h2
    ·exact h2
    ·rw[(hw.fresh _ h2).1]at hr; cases hr
   have hρ:e.ρ n=some b:=by simpa [KQ,hlt] using hnb
   obtain⟨hM,hb,_⟩:=oldBox n row b hx hr hρ
   rw[(k.backs hw' h0).1]at hmb
   rcases newBox j row' b h0 hr' hmb with h1 | h1
   ·omega
   ·exact hM h1
  rcases Hin n row hr with⟨j,row',h0,hj,rfl,hr',_⟩|⟨hx,hr'⟩ <;> rcases Hin m row2 hr2 with⟨j2,row2',h02,hj2,rfl,hr2',_⟩|⟨hx2,hr2'⟩
  ·rw[(k.backs hw' h0).1]at hnb
   rw[(k.backs hw' h02).1]at hmb
   rw[hw'.inj j j2 b (by show hpH bs j≠none; rw[hr']; simp) (by show hpH bs j2≠none; rw[hr2']; simp) hnb hmb]
  ·exact(mixed _ _ _ j row' hx2 hr2' hmb h0 hr' rfl hnb).elim
  ·exact(mixed _ _ _ j2 row2' hx hr' hnb h02 hr2' rfl hmb).elim
  ·have h1:n<h.nx:=by
    rcases Nat.lt_or_ge n h.nx with h2 | h2
    ·exact h2
    ·rw[(hw.fresh _ h2).1]at hr'; cases hr'
   have h2:m<h.nx:=by
    rcases Nat.lt_or_ge m h.nx with h2 | h2
    ·exact h2
    ·rw[(hw.fresh _ h2).1]at hr2'; cases hr2'
   exact hw.inj n m b (by rw[hr']; simp) (by rw[hr2']; simp) (by simpa [KQ,h1] using hnb) (by simpa [KQ,h2] using hmb)
 ·intro n ty hr
  rcases Tin n ty hr with⟨j,h0,hj,rfl,hr'⟩|⟨hx,hr',hq⟩
  ·obtain⟨_,v,q1,q2⟩:=hw'.tok j ty hr'
   refine⟨?_,v,by rw[(k.backs hw' h0).2]; exact q1,q2.imp id ?_⟩
   ·exact hB.ne j (by omega)
   rintro ⟨sz,m,xs,z1,z2,z3,z4⟩
   refine⟨sz,m,xs,z1,⟨z2.1,fun b hb=>?_⟩,z3,fun b hb i hi hρ=>?_⟩
   ·rcases z2.2 b hb with h1 | h1
    ·exact .inl (Nat.le_trans hw.hB h1)
    ·exact(k.own h1).1
   ·obtain⟨row,hri⟩:=Option.ne_none_iff_exists'.1 hi
    rcases Hin i row hri with⟨j2,row',h02,hj2,rfl,hr2',_⟩|⟨hx2,hr2'⟩
    ·rw[(k.backs hw' h02).1]at hρ
     exact z4 b hb j2 (by show hpH bs j2≠none; rw[hr2']; simp) hρ
    ·have hlt:i<h.nx:=by
      rcases Nat.lt_or_ge i h.nx with h2 | h2
      ·exact h2
      ·rw[(hw.fresh _ h2).1]at hr2'; cases hr2'
     obtain⟨hM,hb',_⟩:=oldBox i row b hx2 hr2' (by simpa [KQ,hlt] using hρ)
     rcases z2.2 b hb with h1 | h1
     ·have h1:e.w.heap.size≤b:=h1
      omega
     ·exact hM h1
  ·have hlt:n<h.nx:=by
    rcases Nat.lt_or_ge n h.nx with h2 | h2
    ·exact h2
    ·rw[(hw.fresh _ h2).2.1]at hr'; cases hr'
   obtain⟨h0,v,q1,q2⟩:=hw.tok n ty hr'
   refine⟨h0,v,by simp[KQ,hlt,q1],?_⟩
   by_cases hf:KX v
   ·exact .inl hf
   obtain⟨sz,m,xs,z1,z2,z3,z4⟩:=q2.resolve_left hf
   have hM:∀ b,v.ownBlock=some b→¬ MG bs0.length ts0.length (renE r e) b:=fun b hb hM=>by
    have:=(k.own hM).2.2 n v (by rw[hr']; simp) q1 hf hb
    rw[hq]at this; cases this
   have hblk:∀ b,v.ownBlock=some b→e'.w.heap[b]? = e.w.heap[b]? := fun b hb=>notOld b (hM b hb) (z2.1.lt b hb).2
   refine .inr ⟨sz,m,xs,z1,⟨VO z2.1 hblk,z2.2⟩,fun b o hb ho hcl=>?_,fun b hb i hi hρ=>?_⟩
   ·have hce:e'.w.cell? ⟨b,o,none⟩=e.w.cell? ⟨b,o,none⟩:=World.cell?_of_block (hblk b hb)
    exact hw'.s0 b o (z3 b o hb ho (by rw[← hce]; exact hcl)) (hM b hb)
   ·obtain⟨row,hri⟩:=Option.ne_none_iff_exists'.1 hi
    rcases Hin i row hri with⟨j2,row',h02,hj2,rfl,hr2',_⟩|⟨hx2,hr2'⟩
    ·rw[(k.backs hw' h02).1]at hρ
     rcases newBox j2 row' b h02 hr2' hρ with h1 | h1
     ·have:=(z2.1.lt b hb).2; omega
     ·exact hM b hb h1
    ·have hlt:i<h.nx:=by
      rcases Nat.lt_or_ge i h.nx with h2 | h2
      ·exact h2
      ·rw[(hw.fresh _ h2).1]at hr2'; cases hr2'
     exact z4 b hb i (by rw[hr2']; simp) (by simpa [KQ,hlt] using hρ)
 ·intro n m v u b hn hm hv hu hvb hub hfv hfu
  obtain⟨ty,hr⟩:=Option.ne_none_iff_exists'.1 hn
  obtain⟨ty2,hr2⟩:=Option.ne_none_iff_exists'.1 hm
  have mixed:∀ n m v u ty j ty',h.T n=some ty→r.qs.contains n=false→(KQ h e e').τ n=some v→v.ownBlock=some b→¬ KX v→0<j→hpT bs.length ts j=some ty'→r.back h.nx j=m→(KQ h e e').τ m=some u→u.ownBlock=some b→¬ KX u→False:=by
   rintro n m v u ty j ty' hr hq hv hvb hfv h0 hr' rfl hu hub hfu
   have hlt:n<h.nx:=by
    rcases Nat.lt_or_ge n h.nx with h2 | h2
    ·exact h2
    ·rw[(hw.fresh _ h2).2.1]at hr; cases hr
   have hτ:e.τ n=some v:=by simpa [KQ,hlt] using hv
   rw[(k.backs hw' h0).2]at hu
   obtain⟨_,u',q1,q2⟩:=hw'.tok j ty' hr'
   rw[hu]at q1; cases q1
   obtain⟨_,_,_,_,z2,_⟩:=q2.resolve_left hfu
   rcases z2.2 b hub with h1 | h1
   ·obtain⟨_,v',q3,q4⟩:=hw.tok n ty hr
    rw[hτ]at q3; cases q3
    obtain⟨_,_,_,_,y2,_⟩:=q4.resolve_left hfv
    have:=(y2.1.lt b hvb).2
    have h1:e.w.heap.size≤b:=h1
    omega
   ·have:=(k.own h1).2.2 n v (by rw[hr]; simp) hτ hfv hvb
    rw[hq]at this; cases this
  rcases Tin n ty hr with⟨j,h0,hj,rfl,hr'⟩|⟨hx,hr',hq⟩ <;> rcases Tin m ty2 hr2 with⟨j2,h02,hj2,rfl,hr2'⟩|⟨hx2,hr2',hq2⟩
  ·rw[(k.backs hw' h0).2]at hv
   rw[(k.backs hw' h02).2]at hu
   rw[hw'.tokinj j j2 v u b (by show hpT bs.length ts j≠none; rw[hr']; simp) (by show hpT bs.length ts j2≠none; rw[hr2']; simp) hv hu hvb hub hfv hfu]
  ·exact(mixed _ _ _ _ _ j ty hr2' hq2 hu hub hfu h0 hr' rfl hv hvb hfv).elim
  ·exact(mixed _ _ _ _ _ j2 ty2 hr' hq hv hvb hfv h02 hr2' rfl hu hub hfu).elim
  ·have h1:n<h.nx:=by
    rcases Nat.lt_or_ge n h.nx with h2 | h2
    ·exact h2
    ·rw[(hw.fresh _ h2).2.1]at hr'; cases hr'
   have h2:m<h.nx:=by
    rcases Nat.lt_or_ge m h.nx with h2 | h2
    ·exact h2
    ·rw[(hw.fresh _ h2).2.1]at hr2'; cases hr2'
   exact hw.tokinj n m v u b (by rw[hr']; simp) (by rw[hr2']; simp) (by simpa [KQ,h1] using hv) (by simpa [KQ,h2] using hu) hvb hub hfv hfu
 ·intro n hge
  have hge:h.nx+bs.length+ts.length≤n:=hge
  obtain⟨g1,g2,_,_⟩:=hw.fresh n (by omega)
  have hge2:¬ n<h.nx:=by omega
  have hcn:=hc (n-h.nx+1) (.inr (by omega))
  refine⟨?_,?_,by simp only[KQ,hge2,if_false]; exact hcn.1,by simp only[KQ,hge2,if_false]; exact hcn.2⟩
  ·show putB (r.back h.nx) 1 bs h.H n=none
   rw[Jb2 fun j h1 h2 he=>?_,g1]
   have:=βlt j (by omega) (by omega); omega
  ·show putT (r.back h.nx) (bs.length+1) ts (Jaf r.qs h.T) n=none
   rw[Jde fun j h1 h2 he=>?_]
   ·unfold Jaf; rw[g2]; split <;> rfl
   have:=βlt j (by omega) (by omega); omega
 ·have:=hw.nx0
  show 0<h.nx+bs.length+ts.length
  omega
 ·have h1:=hw.rt.1
  refine⟨by show Γ.root.length<h.nx+bs.length+ts.length; omega,fun i x hx=>?_⟩
  have h2:=hw.rt.2 i x hx
  have h3:i+1<h.nx:=by
   have:=(List.getElem?_eq_some_iff.1 hx).1
   omega
  simp only[KQ,h3,if_true]
  exact h2
end
end Go.Proofs.YtfkhlbhjhdpkoaaDoor
namespace Go.Proofs.YtfkhlbhjhdpkoaaDoor
open Go.RowKit
structure Tab where
 P:Program
 Φ:Nat→Option PF
 Ψ:Nat→Option MF
 rt:Nat
 G:Nat→GI→Prop
 D:Nat→DI→Prop
 lk:List Nat
structure TabOk (t:Tab):Prop where
 pf:∀ f pf,t.Φ f=some pf→Jg t.P f∧J7 t.P f pf
 mf:∀ f mf,t.Ψ f=some mf→Jg t.P f∧JhZ t.P f mf
 gf:∀ f g,t.G f g→Jg t.P f∧Kq t.P f g
 df:∀ f d,t.D f d→Jg t.P f∧DOk t.P f d
def JaB(ops:Array Oper)(j:Nat):Option Tmp:=(ops[j]?).bind (·.dst)
def JO(ops:Array Oper)(σ:Nat→AV)(g:Option (Nat×Bool))(run skip:Prop):Prop :=
 match g with
 | none=>run
 | some (j,want)=>match JaB ops j with
  | none=>False
  | some d=>match σ d with
   | .c (.d (.v (.bool p)))=>(p=want→run)∧(p=!want→skip)
   | .c (.d (.v (.tuple _)))=>skip
   | _=>False
def KP:AV:=.c (.d (.v undef))
def JT(t:Tab)(σ:Nat→AV):Op→Option (Nat×List AV)
 | .call c=>match c.callee with
  | .value f=>match evA σ f with
   | .c (.d (.v (.func (.func n) fs cs)))=>if fs.size=0∧cs.size=0∧(t.Φ n).isNone=true∧(t.Ψ n).isNone=true then some (n,c.args.toList.map (evA σ)) else none
   | .c (.clo n ns)=>some (n,c.args.toList.map (evA σ)++ns.map fun k=>.c (.pt k 0))
   | _=>none
  | _=>none
 | _=>none
def AsWk(r:Ren):List AV→List AV→Prop
 | [],[]=>True
 | a::l,b::m=>AWk r a b∧AsWk r l m
 | _,_=>False
structure GHands (h:Hp) (r:Ren) (g:GI) (args:List AV):Prop where
 args:AsWk r args g.args
 lb:g.bs.length=r.ps.length
 lt:g.ts.length=r.qs.length
 op:once r.ps=true
 oq:once r.qs=true
 bwk:BWk r h 1 g.bs
 twk:TWk r h (r.ps.length+1) g.ts
 live:∀ row∈g.bs,row≠[]
def aGen(t:Tab)(x:Nat×List AV)(h:Hp)(K:AV→Hp→Prop)(Kp:Value→Hp→Prop):Prop :=
 ∃ g r,t.G x.1 g∧GHands h r g x.2∧match g.out with
  | .ret val bs ts=>K (renA (r.back h.nx) val) (h.after r bs ts)
  | .pan v bs ts=>Kp v (h.after r bs ts)
def isDP:Op→Bool
 | .defer _=>true
 | .panic _=>true
 | _=>false
def Je6(σ:Nat→AV)(c:Call):Option (Nat×List C) :=
 match c.callee with
 | .value f=>match evA σ f with
  | .c (.d (.v (.func (.func n) fs cs)))=>match Vv σ c.args.toList with
   | some ns=>if fs.size=0∧cs.size=0 then some (n,ns.map fun k=>.pt k 0) else none
   | none=>none
  | .c (.clo n ns)=>if c.args.size=0 then some (n,ns.map fun k=>.pt k 0) else none
  | _=>none
 | _=>none
def panV(σ:Nat→AV)(x:Operand):Option Value :=
 match evA σ x with
 | .c (.d (.v (.iface t v)))=>some (.iface t v)
 | _=>none
def aDP(op:Op)(dst:Option Tmp)(K:(Nat→AV)→Hp→Prop)(Kp:Value→Hp→Prop)(σ:Nat→AV)(h:Hp):Prop :=
 match op with
 | .defer c=>match Je6 σ c with
  | some d=>K (putA (upd σ DS (.df (d::dfL (σ DS)))) dst KP) h
  | none=>False
 | .panic x=>match panV σ x with
  | some v=>Kp v h
  | none=>False
 | _=>False
def aRun(t:Tab)(op:Op)(dst:Option Tmp)(K:(Nat→AV)→Hp→Prop)(Kp:Value→Hp→Prop)(σ:Nat→AV)(h:Hp):Prop :=
 match JT t σ op with
 | none=>if isDP op=true then aDP op dst K Kp σ h else(aop t.P t.Φ t.Ψ op σ h).pre∧K (putA σ dst (aop t.P t.Φ t.Ψ op σ h).val) (aop t.P t.Φ t.Ψ op σ h).h
 | some x=>aGen t x h (fun v h'=>K (putA σ dst v) h') Kp
def aOp(t:Tab)(ops:Array Oper)(o:Oper)(K:(Nat→AV)→Hp→Prop)(Kp:Value→Hp→Prop)(σ:Nat→AV)(h:Hp):Prop :=
 JO ops σ o.guard (aRun t o.op o.dst K Kp σ h) (K (putA σ o.dst KP) h)
def aOps(t:Tab)(ops:Array Oper)(K:(Nat→AV)→Hp→Prop)(Kp:Value→Hp→Prop):List Oper→(Nat→AV)→Hp→Prop
 | [],σ,h=>K σ h
 | o::l,σ,h=>aOp t ops o (aOps t ops K Kp l) Kp σ h
def opIn(nt:Nat)(ops:Array Oper)(o:Oper):Bool :=
 (o.op.operands.toList.all fun | .tmp t=>decide (t<nt) | _=>true) && (match o.guard with | none=>true | some (j,_)=>match JaB ops j with | some d=>decide (d<nt) | none=>false) && (match o.dst with | some d=>d != DS | none=>true)
theorem Vo{nt:Nat}{ops:Array Oper}{o:Oper}(h:opIn nt ops o=true):o.dst≠some DS:=by
 simp only[opIn,Bool.and_eq_true]at h
 intro hd
 rw[hd]at h
 simp at h
theorem Jch{nt:Nat}{ds:List Deferred}{ops:Array Oper}{o:Oper}{σ:Nat→AV}{a:Act}{e:Env}(h:opIn nt ops o=true)(hs:Jm nt ds σ a e):Zn o σ a e:=by
 intro x hx
 refine Jem hs x fun t ht=>?_
 subst ht
 simp only[opIn,Bool.and_eq_true,List.all_eq_true]at h
 have:=h.1.1 (.tmp t) (by simpa using hx)
 simpa using this
theorem Js{ops:Array Oper}{σ:Nat→AV}{g:Option (Nat×Bool)}{r r' s s':Prop}(hr:r→r')(hs:s→s')(h:JO ops σ g r s):JO ops σ g r' s':=by
 unfold JO at *
 split at h
 ·exact hr h
 ·split at h
  ·exact h
  ·split at h
   ·exact⟨fun x=>hr (h.1 x),fun x=>hs (h.2 x)⟩
   ·exact hs h
   ·exact h
theorem Xc{t:Tab}{x:Nat×List AV}{h:Hp}{K K':AV→Hp→Prop}{Kp Kp':Value→Hp→Prop}(hk:∀ v h,K v h→K' v h)(hp:∀ v h,Kp v h→Kp' v h)(hh:aGen t x h K Kp):aGen t x h K' Kp':=by
 obtain⟨g,r,h1,h2,h3⟩:=hh
 refine⟨g,r,h1,h2,?_⟩
 split at h3
 ·exact hk _ _ h3
 ·exact hp _ _ h3
theorem Vn{t:Tab}{op:Op}{dst:Option Tmp}{K K':(Nat→AV)→Hp→Prop}{Kp Kp':Value→Hp→Prop}(hk:∀ σ h,K σ h→K' σ h)(hp:∀ v h,Kp v h→Kp' v h){σ:Nat→AV}{h:Hp}(hh:aRun t op dst K Kp σ h):aRun t op dst K' Kp' σ h:=by
 unfold aRun at *
 split at hh
 ·split at hh
  ·rename_i hdp
   rw[if_pos hdp]
   unfold aDP at *
   split at hh
   ·split at hh
    ·exact hk _ _ hh
    ·exact hh.elim
   ·split at hh
    ·exact hp _ _ hh
    ·exact hh.elim
   ·exact hh.elim
  ·rename_i hdp
   rw[if_neg hdp]
   exact⟨hh.1,hk _ _ hh.2⟩
 ·exact Xc (fun _ _=>hk _ _) hp hh
theorem Jbb{t:Tab}{ops:Array Oper}{o:Oper}{K K':(Nat→AV)→Hp→Prop}{Kp Kp':Value→Hp→Prop}(hk:∀ σ h,K σ h→K' σ h)(hp:∀ v h,Kp v h→Kp' v h){σ:Nat→AV}{h:Hp}(hh:aOp t ops o K Kp σ h):aOp t ops o K' Kp' σ h :=
 Js (Vn hk hp) (hk _ _) hh
theorem Jg4{t:Tab}{ops:Array Oper}{K K':(Nat→AV)→Hp→Prop}{Kp Kp':Value→Hp→Prop}(hk:∀ σ h,K σ h→K' σ h)(hp:∀ v h,Kp v h→Kp' v h):∀ {l:List Oper} {σ:Nat→AV} {h:Hp},aOps t ops K Kp l σ h→aOps t ops K' Kp' l σ h
 | [],_,_,hh=>hk _ _ hh
 | _::_,_,_,hh=>Jbb (fun _ _ x=>Jg4 hk hp x) hp hh
theorem JaV{Γ:Ctx}{ops:Array Oper}{σ:Nat→AV}{o:Oper}{r s:Prop}{a:Act}{e:Env}(hin:opIn Γ.nt ops o=true)(hs:Jm Γ.nt Γ.ds σ a e)(h:JO ops σ o.guard r s):
  (Region.wanted o (yielded ops a.tmps)=true∧r)∨(Region.wanted o (yielded ops a.tmps)=false∧s):=by
 unfold JO at h
 split at h
 ·rename_i hg; exact .inl ⟨by simp[Region.wanted,hg],h⟩
 ·rename_i j want hg
  simp only[opIn,hg,Bool.and_eq_true]at hin
  split at h
  ·exact h.elim
  ·rename_i d hd
   rw[hd]at hin
   have hdlt:d<Γ.nt:=by simpa using hin.1.2
   have hrep:=hs.2.2 d hdlt
   have hget:a.tmps[d]? = some (a.tmps.getD d undef):=by
    have:d<a.tmps.size:=by rw[hs.1]; exact hdlt
    simp[this]
   have hy:yielded ops a.tmps j=match a.tmps.getD d undef with | .bool b=>some b | _=>none:=by
    have hd':(ops[j]?).bind (·.dst)=some d:=hd
    unfold yielded
    rw[hd',Option.bind_some,hget]
    cases a.tmps.getD d undef <;> rfl
   split at h
   ·rename_i p hp
    rw[hp]at hrep
    have hrep:a.tmps.getD d undef=.bool p:=R1.vInv hrep
    rw[hrep]at hy
    simp only at hy
    by_cases hpw:p=want
    ·exact .inl ⟨by simp[Region.wanted,hg,hy,hpw],h.1 hpw⟩
    ·exact .inr ⟨by simp[Region.wanted,hg,hy,hpw],h.2 (by cases p <;> cases want <;> simp_all)⟩
   ·rename_i vs hp
    rw[hp]at hrep
    have hrep:a.tmps.getD d undef=.tuple vs:=R1.vInv hrep
    rw[hrep]at hy
    simp only at hy
    exact .inr ⟨by simp[Region.wanted,hg,hy],h⟩
   ·exact h.elim
theorem RA.undef(e:Env):RA e KP Go.undef:=.v _
def KF(ops:Array Oper)(σ:Nat→AV):Nat→AV:=fun i=>if ops.toList.any (fun o=>o.dst == some i) then .c .top else σ i
theorem Vh{ops:Array Oper}{o:Oper}(ho:o∈ops.toList)(σ:Nat→AV)(v:AV):KF ops (putA σ o.dst v)=KF ops σ:=by
 funext i
 unfold KF
 split
 ·rfl
 ·rename_i hx
  cases hd:o.dst with
  | none=>rfl
  | some d =>
   simp only[putA,upd]
   by_cases hi:i=d
   ·subst hi
    exfalso
    apply hx
    rw[List.any_eq_true]
    exact⟨o,ho,by simp[hd]⟩
   ·simp[hi]
theorem JkJ{nt:Nat}{ops ops':Array Oper}{σ:Nat→AV}(hin:(ops.toList.all (opIn nt ops'))=true):KF ops σ DS=σ DS:=by
 unfold KF
 rw[if_neg]
 rw[List.any_eq_true]
 rintro ⟨o,ho,hd⟩
 rw[List.all_eq_true]at hin
 exact Vo (hin o ho) (by simpa using hd)
theorem X4{nt:Nat}{ds:List Deferred}{ops ops':Array Oper}{σ:Nat→AV}{a:Act}{e:Env}(hin:(ops.toList.all (opIn nt ops'))=true)(hs:Jm nt ds σ a e):Jm nt ds (KF ops σ) a e:=by
 refine⟨hs.1,⟨by rw[JkJ hin]; exact hs.2.1.1,hs.2.1.2⟩,fun i hi=>?_⟩
 unfold KF
 split
 ·trivial
 ·exact hs.2.2 i hi
theorem AsWk.ras{r:Ren}{e:Env}:∀ {l m:List AV} {vs:List Value},AsWk r l m→RAs e l vs→RAs (renE r e) m vs
 | [],[],[],_,_=>trivial
 | _::_,_::_,_::_,⟨h1,h2⟩,⟨k1,k2⟩=>⟨AWk.ra h1 k1,AsWk.ras h2 k2⟩
 | [],[],_::_,_,k=>k.elim
 | _::_,_::_,[],_,k=>k.elim
 | [],_::_,_,h,_=>h.elim
 | _::_,[],_,h,_=>h.elim
theorem RAs.of_ops{σ:Nat→AV}{a:Act}{e:Env}:∀ {l:List Operand},(∀ x∈l,RA e (evA σ x) (a.eval x))→RAs e (l.map (evA σ)) (l.map a.eval)
 | [],_=>trivial
 | x::l,h=>⟨h x (by simp),RAs.of_ops fun y hy=>h y (by simp[hy])⟩
theorem RAs.append{e:Env}:∀ {l m:List AV} {vs us:List Value},RAs e l vs→RAs e m us→RAs e (l++m) (vs++us)
 | [],_,[],_,_,k=>k
 | _::_,_,_::_,_,⟨h1,h2⟩,k=>⟨h1,RAs.append h2 k⟩
theorem RAs.of_rp{e:Env}:∀ {ns:List Nat} {vs:List Value},RP e ns vs→RAs e (ns.map fun k=>.c (.pt k 0)) vs
 | [],[],_=>trivial
 | _::_,_::_,⟨⟨b,h1,h2⟩,h3⟩=>⟨⟨b,h1,h2⟩,RAs.of_rp h3⟩
theorem JiF{Γ:Ctx}{t:Tab}{σ:Nat→AV}{o:Oper}{x:Nat×List AV}(hx:JT t σ o.op=some x)(hc:Jg Γ.P x.1){a:Act}{e:Env}(hop:Zn o σ a e):
  ∃ vs:List Value,(execOp a.eval o).run Γ.P e.w=.ok (.enter x.1 ⟨vs⟩) e.w∧RAs e x.2 vs:=by
 obtain⟨dst,op,ty,pos,after,guard⟩:=o
 simp only at hx
 unfold JT at hx
 split at hx
 case h_2=>cases hx
 rename_i c
 obtain⟨callee,args,ts⟩:=c
 simp only at hx
 split at hx
 case h_2=>cases hx
 rename_i f
 have hargs:RAs e (args.toList.map (evA σ)) (args.toList.map a.eval):=RAs.of_ops fun y hy=>hop y (by simp[Op.operands,Call.operands]; right; simpa using hy)
 have hf:=hop f (by simp[Op.operands,Call.operands])
 have harr:(⟨args.toList.map a.eval⟩:Array Value)=args.map a.eval:=by apply Array.ext'; simp
 split at hx
 ·rename_i n fs cs hev
  split at hx
  ·rename_i hcond
   obtain⟨h1,h2,_⟩:=hcond
   cases hx
   have h1:fs=#[]:=Array.eq_empty_of_size_eq_zero h1
   have h2:cs=#[]:=Array.eq_empty_of_size_eq_zero h2
   subst h1; subst h2
   rw[hev]at hf
   have hf:=R1.vInv hf
   refine⟨args.toList.map a.eval,?_,hargs⟩
   rw[harr]
   simp only[execOp,resolve,hf,Deferred.ofValue,Sem.run_bind,Sem.run_pure,Result.andThen_ok,invoke,Array.empty_append,Array.append_empty]
   exact hc _ _
  ·cases hx
 ·rename_i n ns hev
  cases hx
  rw[hev]at hf
  obtain⟨vs,h1,h2⟩:=hf
  refine⟨args.toList.map a.eval++vs,?_,hargs.append (RAs.of_rp h1)⟩
  have:(⟨args.toList.map a.eval++vs⟩:Array Value)=args.map a.eval++vs.toArray:=by apply Array.ext'; simp
  rw[this]
  simp only[execOp,resolve,h2,Deferred.ofValue,Sem.run_bind,Sem.run_pure,Result.andThen_ok,invoke,Array.empty_append]
  exact hc _ _
 ·cases hx
theorem JbI{Γ:Ctx}{t:Tab}(ht:TabOk t)(hP:t.P=Γ.P){σ:Nat→AV}{h:Hp}{o:Oper}{x:Nat×List AV}(hx:JT t σ o.op=some x){K:AV→Hp→Prop}{Kp:Value→Hp→Prop}(hh:aGen t x h K Kp)
  {a:Act} {e:Env} (hop:Zn o σ a e) (hw:WInv Γ h e) {next:Act→World→Prop} {Q:Exit→Act→World→Prop}
  (hk:∀ av h' v e',K av h'→WInv Γ h' e'→e.le e'→RA e' av v→next (a.put o.dst v) e'.w)
  (hp:∀ v h' e',Kp v h'→WInv Γ h' e'→e.le e'→Q (.panic [{ v:=v,recovered:=false }]) a e'.w):o.wp Γ.P a e.w next Q:=by
 obtain⟨g,r,hG,hH,hout⟩:=hh
 obtain⟨hcall,hgen⟩:=ht.gf _ _ hG
 rw[hP]at hcall hgen
 obtain⟨vs,h1,h2⟩:=JiF hx hcall hop
 unfold Oper.wp
 rw[h1,Oper.upon_enter]
 have hands:Hands Γ h e r g.bs g.ts:=⟨hw,hH.lb,hH.lt,hH.op,hH.oq,hH.bwk,hH.twk,hH.live⟩
 obtain⟨q1,q2⟩:=hands.enter
 refine(hgen (renE r e) vs q1 q2 (AsWk.ras hH.args h2)).mono ?_
 intro en w' hpost
 split at hout
 ·rename_i val bs ts hg
  rw[hg]at hpost
  obtain⟨v,e',rfl,rfl,⟨p1,p2,p3⟩,p4⟩:=hpost
  exact hk _ _ v (KQ h e e') hout (hands.leave p1 p2 p3) (hands.le p1) ((hands.toBacks p1 p2).ra p4)
 ·rename_i v bs ts hg
  rw[hg]at hpost
  obtain⟨e',rfl,rfl,p1,p2,p3⟩:=hpost
  exact hp _ _ (KQ h e e') hout (hands.leave p1 p2 p3) (hands.le p1)
def Xe:Op→Bool
 | .defer _=>true
 | _=>false
def Jbv:List Oper→Bool
 | []=>true
 | o::l=>(!Xe o.op || l.isEmpty) && Jbv l
theorem Jiv{σ:Nat→AV}{a:Act}{e:Env}{l:List Operand}{ns:List Nat}(hx:∀ x∈l,RA e (evA σ x) (a.eval x))(h:Vv σ l=some ns):RCs e (ns.map fun k=>C.pt k 0) (l.map a.eval):=by
 have:∀ {ns:List Nat} {vs:List Value},RP e ns vs→RCs e (ns.map fun k=>C.pt k 0) vs:=by
  intro ns
  induction ns with
  | nil=>intro vs h; cases vs with | nil=>trivial | cons _ _=>exact h.elim
  | cons n ns ih=>intro vs h; cases vs with
   | nil=>exact h.elim
   | cons v vs=>obtain⟨⟨b,h1,h2⟩,h3⟩:=h; exact⟨⟨b,h1,h2⟩,ih h3⟩
 exact this (Jcq hx h)
theorem RP.rcs{e:Env}:∀ {ns:List Nat} {vs:List Value},RP e ns vs→RCs e (ns.map fun k=>C.pt k 0) vs
 | [],[],_=>trivial
 | _::_,_::_,⟨⟨b,h1,h2⟩,h3⟩=>⟨⟨b,h1,h2⟩,RP.rcs h3⟩
theorem Jkn{Γ:Ctx}{σ:Nat→AV}{o:Oper}{c:Call}(ho:o.op=.defer c){d:Nat×List C}(hd:Je6 σ c=some d){a:Act}{e:Env}(hop:Zn o σ a e):
  ∃ q:Deferred,(execOp a.eval o).run Γ.P e.w=.ok (.defer q) e.w∧∃ cap vs,q.target=.fn (.func d.1) cap∧q.args++cap=⟨vs⟩∧RCs e d.2 vs:=by
 obtain⟨callee,args,ts⟩:=c
 unfold Je6 at hd
 simp only at hd
 split at hd
 case h_2=>cases hd
 rename_i f
 have hf:=hop f (by simp[ho,Op.operands,Call.operands])
 have hargs:∀ y∈args.toList,RA e (evA σ y) (a.eval y):=fun y hy=>hop y (by simp[ho,Op.operands,Call.operands]; right; simpa using hy)
 have harr:(args.map a.eval)=⟨args.toList.map a.eval⟩:=by apply Array.ext'; simp
 split at hd
 ·rename_i n fs cs hev
  rw[hev]at hf
  have hf:=R1.vInv hf
  split at hd
  case h_2=>cases hd
  rename_i ns hns
  split at hd
  case isFalse=>cases hd
  rename_i hz
  cases hd
  have h1:fs=#[]:=Array.eq_empty_of_size_eq_zero hz.1
  have h2:cs=#[]:=Array.eq_empty_of_size_eq_zero hz.2
  subst h1; subst h2
  refine⟨⟨.fn (.func n) #[],#[]++args.map a.eval⟩,?_,#[],args.toList.map a.eval,rfl,by rw[harr]; simp,Jiv hargs hns⟩
  simp only[execOp,ho,resolve,hf,Deferred.ofValue,Sem.run_bind,Sem.run_pure,Result.andThen_ok]
 ·rename_i n ns hev
  rw[hev]at hf
  obtain⟨vs,h1,h2⟩:=hf
  split at hd
  case isFalse=>cases hd
  rename_i hz
  cases hd
  have h3:args=#[]:=Array.eq_empty_of_size_eq_zero hz
  subst h3
  refine⟨⟨.fn (.func n) vs.toArray,#[]++(#[]:Array Operand).map a.eval⟩,?_,vs.toArray,vs,rfl,by simp,h1.rcs⟩
  simp only[execOp,ho,resolve,h2,Deferred.ofValue,Sem.run_bind,Sem.run_pure,Result.andThen_ok]
 ·cases hd
theorem Jci{Γ:Ctx}{σ:Nat→AV}{h:Hp}{o:Oper}{K:(Nat→AV)→Hp→Prop}{Kp:Value→Hp→Prop}{a:Act}{e:Env}(hop:Zn o σ a e)(hs:Jm Γ.nt Γ.ds σ a e)(hd:o.dst≠some DS)(hrun:aDP o.op o.dst K Kp σ h)
  {next:Act→World→Prop} {Q:Exit→Act→World→Prop} (hk:Xe o.op=true→∀ σ' a',K σ' h→Jm Γ.nt Γ.ds σ' a' e→next a' e.w) (hp:∀ v,Kp v h→Q (.panic [{ v:=v,recovered:=false }]) a e.w):o.wp Γ.P a e.w next Q:=by
 unfold aDP at hrun
 split at hrun
 ·rename_i c hc
  split at hrun
  case h_2=>exact hrun.elim
  rename_i d hdc
  obtain⟨q,h1,cap,vs,h2,h3,h4⟩:=Jkn (Γ:=Γ) hc hdc hop
  unfold Oper.wp
  rw[h1,Oper.upon_defer]
  refine hk (by rw[hc]; rfl) _ _ hrun ?_
  refine Jm.put (a:={ a with defers:=q::a.defers }) ?_ _ hd (RA.undef e)
  obtain⟨s1,⟨⟨r,s2,s3⟩,s4⟩,s5⟩:=hs
  refine⟨s1,⟨⟨q::r,by simp[s2],?_⟩,s4⟩,fun i hi=>?_⟩
  ·rw[upd_same]
   exact⟨⟨cap,vs,h2,h3,h4⟩,s3⟩
  ·rw[Jbt _ _ _ _ (by omega)]; exact s5 i hi
 ·rename_i x hx
  split at hrun
  case h_2=>exact hrun.elim
  rename_i v hv
  have hxr:=hop x (by simp[hx,Op.operands])
  unfold panV at hv
  split at hv
  case h_2=>cases hv
  rename_i ty w hev
  cases hv
  rw[hev]at hxr
  have hxr:=R1.vInv hxr
  unfold Oper.wp
  have:(execOp a.eval o).run Γ.P e.w=.halt (.panic (.iface ty w)) e.w:=by
   simp[execOp,hx,hxr,Instr.panic]
  rw[this,Oper.upon_panic]
  exact hp _ hrun
 ·exact hrun.elim
theorem Je5{Γ:Ctx}{t:Tab}(ht:TabOk t)(hP:t.P=Γ.P){ops:Array Oper}{K:(Nat→AV)→Hp→Prop}{Kp:Value→Hp→Prop}{Q:Exit→Act→World→Prop}{σ0:Nat→AV}(hall:(ops.toList.all (opIn Γ.nt ops))=true)
  (hQ:∀ σ h a e,K σ h→Jm Γ.nt Γ.ds σ a e→WInv Γ h e→Q .normal a e.w)
  (hQp:∀ v h a e,Kp v h→Jm Γ.nt Γ.ds (KF ops σ0) a e→WInv Γ h e→Q (.panic [{ v:=v,recovered:=false }]) a e.w):∀ (l:List Oper),(∀ o∈l,o∈ops.toList)→Jbv l=true→(l.all (opIn Γ.nt ops))=true→∀ (σ:Nat→AV) (h:Hp) (a:Act) (e:Env),
   KF ops σ=KF ops σ0→aOps t ops K Kp l σ h→Jm Γ.nt Γ.ds σ a e→WInv Γ h e→wpList Γ.P ops Q l a e.w
 | [],_,_,_,σ,h,a,e,_,hh,hs,hw=>hQ σ h a e hh hs hw
 | o::l,hm,hdl,hin,σ,h,a,e,hf,hh,hs,hw=>by
  simp only[List.all_cons,Bool.and_eq_true]at hin
  have ho:=hm o (by simp)
  simp only[Jbv,Bool.and_eq_true,Bool.or_eq_true,Bool.not_eq_true']at hdl
  have ih:=Je5 ht hP hall hQ hQp l (fun o h=>hm o (by simp[h])) hdl.2 hin.2
  unfold wpList
  rcases JaV hin.1 hs hh with⟨hwant,hrun⟩|⟨hwant,hK⟩
  ·rw[if_pos hwant]
   refine .inl ?_
   have hop:=Jch hin.1 hs
   unfold aRun at hrun
   split at hrun
   ·split at hrun
    ·exact Jci hop hs (Vo hin.1) hrun (fun hde σ' a' hk hs'=>by
      have hl:l=[]:=by simpa using hdl.1.resolve_left (by rw[hde]; simp)
      subst hl
      exact hQ σ' h a' e hk hs' hw) (fun v hk=>hQp v h a e hk (by rw[← hf]; exact X4 hall hs) hw)
    obtain⟨hpre,hK⟩:=hrun
    have hvr:VR Γ o σ h (aop t.P t.Φ t.Ψ o.op σ h).val (aop t.P t.Φ t.Ψ o.op σ h).h:=by
     have:=Jfj (Γ:=Γ) (Φ:=t.Φ) (Ψ:=t.Ψ) (σ:=σ) (h:=h) (by rw[← hP]; exact ht.pf) (by rw[← hP]; exact ht.mf) o (by rw[← hP]; exact hpre)
     rw[← hP]at this
     exact this
    refine hvr a e hop hw _ _ fun v e' hw' hle hv=>?_
    exact ih _ _ _ _ (by rw[Vh ho]; exact hf) hK ((hs.mono hle).put o.dst (Vo hin.1) hv) hw'
   ·rename_i x hx
    exact JbI ht hP hx hrun hop hw (fun av h' v e' hk hw' hle hv=>ih _ _ _ _ (by rw[Vh ho]; exact hf) hk ((hs.mono hle).put o.dst (Vo hin.1) hv) hw')
     (fun v h' e' hk hw' hle=>hQp v h' a e' hk (by rw[← hf]; exact X4 hall (hs.mono hle)) hw')
  ·rw[if_neg (by rw[hwant]; simp)]
   exact ih _ _ _ _ (by rw[Vh ho]; exact hf) hK (hs.put o.dst (Vo hin.1) (RA.undef e)) hw
def clsA(l:List TypeId):Nat:=if ZA (l.headD 0)=true then 2 else 3
theorem JbD(l:List TypeId):clsA l=2∨clsA l=3:=by unfold clsA; split <;> simp
theorem Jm7{t:TypeId}{l:List TypeId}(h:clsA (t::l)=3):ZA t=false:=by
 unfold clsA at h
 split at h
 ·cases h
 ·rename_i h'; simpa using h'
def cls(pure:Nat→Nat):Op→Nat
 | .alloc _ | .box _ _=>4
 | .store _ _ _=>2
 | .load _ _=>1
 | .defer _=>7
 | .panic _=>7
 | .call c=>match c.callee with
  | .builtin .append=>clsA c.argTypes.toList
  | .builtin .clear=>2
  | .builtin _=>0
  | .value (.func n)=>if pure n=0 then 0 else if pure n=1 then 2 else 6
  | _=>6
 | _=>0
def JbW(i j:Nat):Bool:=i != 7 && j != 7 && (i == 0 || (j == 0 && i != 6) || (i == 1 && (j == 1 || j == 3 || j == 4)) || (i == 3 && j == 1))
theorem Jix{P:Program}{b:Builtin}(hb:b≠.append)(hb':b≠.clear)(args:List Operand)(ts:List TypeId)(σ:Nat→AV)(h h':Hp):
  (K3 P σ h b args ts).pre=(K3 P σ h' b args ts).pre∧(K3 P σ h b args ts).val=(K3 P σ h' b args ts).val∧(K3 P σ h b args ts).h=h:=by
 unfold K3
 split
 ·simp only[aLen]; refine⟨?_,?_,?_⟩ <;> (split <;> rfl)
 ·exact absurd rfl hb
 ·simp only[VT]; refine⟨?_,?_,?_⟩ <;> (split <;> rfl)
 ·simp only[VT]; refine⟨?_,?_,?_⟩ <;> (split <;> rfl)
 ·exact absurd rfl hb'
 ·exact⟨rfl,rfl,rfl⟩
theorem Vj{P:Program}{Φ:Nat→Option PF}{Ψ:Nat→Option MF}{pure:Nat→Nat}(hpure:∀ n,pure n=0→(Φ n).isSome){op:Op}(h0:cls pure op=0)(σ:Nat→AV)(h h':Hp):
  (aop P Φ Ψ op σ h).pre=(aop P Φ Ψ op σ h').pre∧(aop P Φ Ψ op σ h).val=(aop P Φ Ψ op σ h').val∧(aop P Φ Ψ op σ h).h=h:=by
 cases op
 case call c =>
  obtain⟨callee,args,ts⟩:=c
  cases callee with
  | invoke _ _=>simp[cls]at h0
  | value f =>
   cases f <;> simp[cls]at h0
   rename_i n
   have h0:pure n=0:=by
    rcases Nat.eq_zero_or_pos (pure n) with h1 | h1
    ·exact h1
    ·have:=h0 (by omega); split at this <;> omega
   simp only[aop,JaT,evA]
   obtain⟨pf,hpf⟩:=Option.isSome_iff_exists.1 (hpure n h0)
   simp[hpf]
  | builtin b =>
   refine Jix (b:=b) (fun hb=>?_) (fun hb=>?_) _ _ _ _ _
   ·subst hb
    have:=JbD ts.toList
    simp only[cls]at h0
    omega
   ·subst hb
    simp[cls]at h0
 case slice t x lo hi mx =>
  cases mx with
  | some mx =>
   cases hi with
   | none=>exact⟨rfl,rfl,rfl⟩
   | some hi =>
    simp only[aop,ZZ]
    refine⟨?_,?_,?_⟩ <;> (split <;> first | (split <;> rfl) | rfl)
  | none =>
   simp only[aop,JaO]
   refine⟨?_,?_,?_⟩ <;> (split <;> first | (split <;> first | rfl | (split <;> rfl)) | rfl)
 case makeFunc fn first captured =>
  simp only[aop,Vl]
  refine⟨?_,?_,?_⟩ <;> (split <;> first | rfl | (split <;> rfl))
 case makeInterface t x =>
  simp only[aop,V4]
  refine⟨?_,?_,?_⟩ <;> (split <;> first | rfl | (split <;> rfl))
 case typeAssert x xt t comma =>
  cases comma with
  | false=>exact⟨rfl,rfl,rfl⟩
  | true =>
   simp only[aop,Vg]
   refine⟨?_,?_,?_⟩ <;> (split <;> rfl)
 case load=>simp[cls]at h0
 case store=>simp[cls]at h0
 case alloc=>simp[cls]at h0
 case box=>simp[cls]at h0
 case pick=>simp only[aop,JbJ]; refine⟨?_,?_,?_⟩ <;> (split <;> rfl)
 case binOp=>simp only[aop,aBin]; refine⟨?_,?_,?_⟩ <;> (split <;> first | rfl | (split <;> first | (unfold ZX; split <;> rfl) | (unfold JaS; split <;> rfl)))
 case unOp=>simp only[aop,aUn]; refine⟨?_,?_,?_⟩ <;> (split <;> rfl)
 case nilCheck=>simp only[aop,XH]; refine⟨?_,?_,?_⟩ <;> (split <;> rfl)
 case fieldAddr=>simp only[aop,V6]; refine⟨?_,?_,?_⟩ <;> (split <;> rfl)
 case field=>simp only[aop,Ja4]; refine⟨?_,?_,?_⟩ <;> (split <;> rfl)
 case indexAddr=>simp only[aop,V7]; refine⟨?_,?_,?_⟩ <;> (split <;> first | rfl | (split <;> rfl))
 case index=>simp only[aop,Ja2]; refine⟨?_,?_,?_⟩ <;> (split <;> rfl)
 case extract=>simp only[aop,X5]; refine⟨?_,?_,?_⟩ <;> (split <;> rfl)
 case convert =>
  simp only[aop,X6]
  refine⟨?_,?_,?_⟩ <;> (split <;> first | (split <;> rfl) | rfl)
 all_goals exact⟨rfl,rfl,rfl⟩
theorem Jdz{pure:Nat→Nat}{op:Op}(h1:cls pure op=1):∃ t x,op=.load t x:=by
 cases op <;> simp only[cls]at h1 <;> first | (exact absurd h1 (by decide)) | skip
 case load t x=>exact⟨t,x,rfl⟩
 case call c =>
  obtain⟨callee,args,ts⟩:=c
  cases callee with
  | invoke _ _=>simp at h1
  | value f=>cases f <;> simp at h1; (repeat' split at h1) <;> simp at h1
  | builtin b=>cases b <;> simp at h1; (have:=JbD ts.toList; omega)
theorem KY{P:Program}{Φ:Nat→Option PF}{Ψ:Nat→Option MF}{pure:Nat→Nat}{op:Op}(h1:cls pure op=1)(σ:Nat→AV)(h:Hp):(aop P Φ Ψ op σ h).h=h:=by
 obtain⟨t,x,rfl⟩:=Jdz h1
 simp only[aop,Ja3]
 split
 ·split <;> rfl
 ·rfl
 ·unfold Xs; split <;> rfl
 ·rfl
theorem JhE{P:Program}{Φ:Nat→Option PF}{Ψ:Nat→Option MF}{pure:Nat→Nat}{op:Op}(h1:cls pure op=1)(σ:Nat→AV)(h h':Hp)(hh:∀ n row,h.H n=some row→h'.H n=some row)
  (hp:(aop P Φ Ψ op σ h).pre):(aop P Φ Ψ op σ h').pre∧(aop P Φ Ψ op σ h').val=(aop P Φ Ψ op σ h).val:=by
 obtain⟨t,x,rfl⟩:=Jdz h1
 simp only[aop,Ja3]at hp ⊢
 split at hp
 ·split at hp
  ·rename_i row hrow
   rw[hh _ _ hrow]
   exact⟨hp,rfl⟩
  ·exact hp.elim
 ·exact⟨hp,rfl⟩
 ·unfold Xs at hp ⊢
  split at hp
  ·rename_i hrow
   rw[hh _ _ hrow]
   exact⟨hp,rfl⟩
  ·rename_i hrow
   rw[hh _ _ hrow]
   exact⟨hp,rfl⟩
  ·exact hp.elim
 ·exact hp.elim
theorem Jbh{P:Program}{Φ:Nat→Option PF}{Ψ:Nat→Option MF}{pure:Nat→Nat}{op:Op}(h3:cls pure op=3)(σ:Nat→AV)(h:Hp):(aop P Φ Ψ op σ h).h.H=h.H:=by
 cases op <;> simp only[cls]at h3 <;> first | (exact absurd h3 (by decide)) | skip
 case call c =>
  obtain⟨callee,args,ts⟩:=c
  cases callee with
  | invoke _ _=>simp at h3
  | value f=>cases f <;> simp at h3; (repeat' split at h3) <;> simp at h3
  | builtin b =>
   cases b <;> simp at h3
   simp only[aop,K3]
   split
   ·rename_i hb _ _; cases hb
   ·rename_i hargs hts
    rw[hts]at h3
    have h3:=Jm7 h3
    split
    ·have h30:∀ t,ZA t=false→JbY t=false:=fun t h=>by
      unfold ZA at h; unfold JbY; rw[h]; rfl
     simp only[Zs,h3,h30 _ h3,Bool.false_eq_true,if_false,false_and]
     split
     ·unfold XX; split <;> rfl
     ·rfl
     ·rfl
     ·rfl
    ·simp only[Zr,h3,Bool.false_eq_true,if_false]
     split <;> rfl
   ·rename_i hb _; cases hb
   ·rename_i hb _; cases hb
   ·rename_i hb _ _; cases hb
   ·rfl
theorem Jin{P:Program}{Φ:Nat→Option PF}{Ψ:Nat→Option MF}{pure:Nat→Nat}{op:Op}(h4:cls pure op=4)(σ:Nat→AV)(h:Hp):∃ row,(aop P Φ Ψ op σ h).h=h.box row:=by
 cases op <;> simp only[cls]at h4 <;> first | (exact absurd h4 (by decide)) | skip
 case alloc t=>exact⟨_,rfl⟩
 case box t x=>exact⟨_,rfl⟩
 case call c =>
  obtain⟨callee,args,ts⟩:=c
  cases callee with
  | invoke _ _=>simp at h4
  | value f=>cases f <;> simp at h4; (repeat' split at h4) <;> simp at h4
  | builtin b=>cases b <;> simp at h4; (have:=JbD ts.toList; omega)
def Hp.Fr(h:Hp):Prop:=∀ n,h.nx≤n→h.H n=none
theorem Fr.setOld{h:Hp}(hf:h.Fr){n:Nat}{row row':List C}(hn:h.H n=some row):Hp.Fr { h with H:=upd h.H n (some row') }:=by
 intro m hm
 have:=hf m hm
 have hne:m≠n:=fun he=>by rw[he,hn]at this; cases this
 simp[upd,hne,this]
theorem Fr.box{h:Hp}(hf:h.Fr)(row:List C):(h.box row).Fr:=by
 intro m hm
 have hm':h.nx+1≤m:=hm
 have hne:m≠h.nx:=by omega
 simp[Hp.box,upd,hne,hf m (by omega)]
theorem JgG{P:Program}{Φ:Nat→Option PF}{Ψ:Nat→Option MF}{op:Op}{σ:Nat→AV}{h:Hp}(hf:h.Fr):(aop P Φ Ψ op σ h).h.Fr:=by
 by_cases h0:cls (fun _=>2) op=0
 ·rw[(Vj (P:=P) (Φ:=Φ) (Ψ:=Ψ) (pure:=fun _=>2) (fun n hn=>by cases hn) h0 σ h h).2.2]; exact hf
 cases op
 case load t x=>rw[KY (pure:=fun _=>2) rfl]; exact hf
 case alloc t=>exact Fr.box hf _
 case box t x=>exact Fr.box hf _
 case store t x y =>
  simp only[aop,JaR]
  split
  ·split
   ·rename_i hrow; exact Fr.setOld hf hrow
   ·exact hf
  ·unfold XL
   split
   ·rename_i hrow; exact Fr.setOld hf hrow
   ·rename_i hrow; exact Fr.setOld hf hrow
   ·exact hf
  ·exact hf
 case call c =>
  obtain⟨callee,args,ts⟩:=c
  cases callee with
  | invoke _ _=>exact hf
  | value f =>
   simp only[aop,JaT]
   split
   ·split
    ·exact hf
    ·split
     ·split
      ·split
       ·rename_i hrow; exact Fr.setOld hf hrow
       ·exact hf
      ·exact hf
     ·exact hf
   ·exact hf
  | builtin b =>
   simp only[aop,K3]
   split
   ·simp only[aLen]; split <;> exact hf
   ·split
    ·have two:∀ (n:Nat) (r:Option (List C)),Hp.Fr { h with H:=upd (upd h.H n none) h.nx r,nx:=h.nx+1 }:=fun n r=>by
      intro m hm
      have hm':h.nx+1≤m:=hm
      have:=hf m (by omega)
      have hne:m≠h.nx:=by omega
      show upd (upd h.H n none) h.nx _ m=none
      rw[Jbt _ _ _ _ hne]
      by_cases hmn:m=n
      ·subst hmn; exact upd_same _ _ _
      ·rw[Jbt _ _ _ _ hmn]; exact this
     have arr:∀ t n sz len szy ys op,(Xz P h t n sz len szy ys op (h.H n)).h.Fr:=fun t n sz len szy ys op=>by
      unfold Xz
      split
      ·exact two _ _
      ·exact hf
     have bar:∀ t n sz len ys,(VE P h t n sz len ys (h.H n)).h.Fr:=fun t n sz len ys=>by
      unfold VE
      split
      ·exact two _ _
      ·exact hf
     have fs:∀ t sz l x,(Zh P h t sz l x).h.Fr:=fun t sz l x=>by
      unfold Zh
      split
      ·intro m hm
       have hm':h.nx+1≤m:=hm
       have hne:m≠h.nx:=by omega
       show upd h.H h.nx _ m=none
       rw[Jbt _ _ _ _ hne]; exact hf m (by omega)
      ·exact hf
     simp only[Zs]
     split
     ·split
      ·exact fs _ _ _ _
      ·unfold XX
       split
       ·intro m hm
        have hm':h.nx+1≤m:=hm
        exact hf m (by omega)
       ·exact hf
     ·split
      ·exact fs _ _ _ _
      ·exact hf
     ·split
      ·unfold JbM
       split
       ·exact arr _ _ _ _ _ _ _
       ·split
        ·split
         ·exact bar _ _ _ _ _
         ·exact hf
        ·split
         ·exact arr _ _ _ _ _ _ _
         ·exact hf
      ·exact hf
     ·exact hf
    ·simp only[Zr]
     split
     ·split
      ·have bar:∀ t n sz len ys,(VE P h t n sz len ys (h.H n)).h.Fr:=fun t n sz len ys=>by
        unfold VE
        split
        ·intro m hm
         have hm':h.nx+1≤m:=hm
         have:=hf m (by omega)
         have hne:m≠h.nx:=by omega
         show upd (upd h.H n none) h.nx _ m=none
         rw[Jbt _ _ _ _ hne]
         by_cases hmn:m=n
         ·subst hmn; exact upd_same _ _ _
         ·rw[Jbt _ _ _ _ hmn]; exact this
        ·exact hf
       exact bar _ _ _ _ _
      ·exact hf
     ·exact hf
   ·simp only[VT]; split <;> exact hf
   ·simp only[VT]; split <;> exact hf
   ·simp only[JaX]
    split
    ·split
     ·rename_i hrow; exact Fr.setOld hf hrow
     ·exact hf
    ·exact hf
   ·exact hf
 case defer c=>exact hf
 case panic x=>exact hf
 all_goals exact absurd rfl h0
end Go.Proofs.YtfkhlbhjhdpkoaaDoor
namespace Go.Proofs.YtfkhlbhjhdpkoaaDoor
open Go.RowKit
theorem Jeu{P:Program}{σ σ':Nat→AV}{t:TypeId}:∀ (l:List (Nat×Operand)) (row:List C),(∀ p∈l,evA σ p.2=evA σ' p.2)→Jai P σ t row l=Jai P σ' t row l
 | [],_,_=>rfl
 | (i,x)::l,row,h=>by
  have h0:=h (i,x) (by simp)
  simp only at h0
  simp only[Jai,h0]
  rw[Jeu l _ (fun p hp=>h p (by simp[hp]))]
theorem Jbq{σ σ':Nat→AV}{d:Int}{x:Option Operand}(h:∀ y,x=some y→evA σ y=evA σ' y):bnd σ d x=bnd σ' d x:=by
 cases x with
 | none=>rfl
 | some y=>simp only[bnd,h y rfl]
theorem Jdm{σ σ':Nat→AV}:∀ {l:List Operand},(∀ x∈l,evA σ x=evA σ' x)→Vv σ l=Vv σ' l
 | [],_=>rfl
 | x::l,h=>by simp only[Vv,h x (by simp),Jdm (l:=l) (fun y hy=>h y (by simp[hy]))]
theorem JkP{P:Program}{Φ:Nat→Option PF}{Ψ:Nat→Option MF}{op:Op}{σ σ':Nat→AV}(hx:∀ x∈op.operands,evA σ x=evA σ' x)(h:Hp):aop P Φ Ψ op σ h=aop P Φ Ψ op σ' h:=by
 cases op <;> simp only[aop]
 case move x=>rw[hx x (by simp[Op.operands])]
 case assign x=>rw[hx x (by simp[Op.operands])]
 case pick c x y=>simp only[JbJ]; rw[hx c (by simp[Op.operands]),hx x (by simp[Op.operands]),hx y (by simp[Op.operands])]
 case binOp op t x y u=>simp only[aBin]; rw[hx x (by simp[Op.operands]),hx y (by simp[Op.operands])]
 case unOp op t x=>simp only[aUn]; rw[hx x (by simp[Op.operands])]
 case convert s d x=>simp only[X6]; rw[hx x (by simp[Op.operands])]
 case box t x=>simp only[aBox]; rw[hx x (by simp[Op.operands])]
 case build t ps =>
  simp only[JbV]
  rw[Jeu ps.toList _ (fun p hp=>hx p.2 (by simp only[Op.operands,List.mem_toArray,List.mem_map]; exact⟨p,hp,rfl⟩))]
 case buildSlice t n ps =>
  have h1:∀ p∈ps.toList,evA σ p.2=evA σ' p.2:=fun p hp=>hx p.2 (by simp only[Op.operands,List.mem_toArray,List.mem_map]; exact⟨p,hp,rfl⟩)
  simp only[V8]
  have h2:(ps.toList.map fun p=>sizeD (tCS P (Jk P t)) (evA σ p.2).toD)=ps.toList.map fun p=>sizeD (tCS P (Jk P t)) (evA σ' p.2).toD:=List.map_congr_left fun p hp=>by rw[h1 p hp]
  have h3:(ps.toList.all fun p=>(evA σ p.2).isD && (evA σ p.2).rowOk && ((evA σ p.2).toD.cells.length == Jl P (Jk P t)))=ps.toList.all fun p=>(evA σ' p.2).isD && (evA σ' p.2).rowOk && ((evA σ' p.2).toD.cells.length == Jl P (Jk P t)):=by
   rw[Bool.eq_iff_iff,List.all_eq_true,List.all_eq_true]
   exact⟨fun h p hp=>by rw[← h1 p hp]; exact h p hp,fun h p hp=>by rw[h1 p hp]; exact h p hp⟩
  rw[h2,h3]
 case load t x=>simp only[Ja3]; rw[hx x (by simp[Op.operands])]
 case store t x y=>simp only[JaR]; rw[hx x (by simp[Op.operands]),hx y (by simp[Op.operands])]
 case nilCheck x=>simp only[XH]; rw[hx x (by simp[Op.operands])]
 case slice t x lo hi mx =>
  cases mx with
  | some mx =>
   cases hi with
   | none=>rfl
   | some hi =>
    have h1:∀ d,bnd σ d lo=bnd σ' d lo:=fun d=>Jbq fun y hy=>hx y (by subst hy; simp[Op.operands])
    have h2:∀ d,bnd σ d (some hi)=bnd σ' d (some hi):=fun d=>Jbq fun y hy=>hx y (by cases hy; simp[Op.operands])
    have h3:∀ d,bnd σ d (some mx)=bnd σ' d (some mx):=fun d=>Jbq fun y hy=>hx y (by cases hy; simp[Op.operands])
    simp only[ZZ,h1,h2,h3]
    rw[hx x (by simp[Op.operands])]
  | none =>
   have h1:∀ d,bnd σ d lo=bnd σ' d lo:=fun d=>Jbq fun y hy=>hx y (by subst hy; simp[Op.operands])
   have h2:∀ d,bnd σ d hi=bnd σ' d hi:=fun d=>Jbq fun y hy=>hx y (by subst hy; simp[Op.operands])
   simp only[JaO,h1,h2]
   rw[hx x (by simp[Op.operands])]
 case fieldAddr t x f=>simp only[V6]; rw[hx x (by simp[Op.operands])]
 case field t x f=>simp only[Ja4]; rw[hx x (by simp[Op.operands])]
 case indexAddr t x i=>simp only[V7]; rw[hx x (by simp[Op.operands]),hx i (by simp[Op.operands])]
 case index t x i=>simp only[Ja2]; rw[hx x (by simp[Op.operands]),hx i (by simp[Op.operands])]
 case extract x i=>simp only[X5]; rw[hx x (by simp[Op.operands])]
 case makeInterface t x=>simp only[V4]; rw[hx x (by simp[Op.operands])]
 case typeAssert x xt t comma=>cases comma <;> simp only[Vg]; rw[hx x (by simp[Op.operands])]
 case makeFunc fn first captured =>
  have h1:Vv σ captured.toList=Vv σ' captured.toList:=Jdm fun x hxc=>hx x (by simp only[Op.operands,Array.mem_append]; right; simpa using hxc)
  generalize captured.toList=l at h1
  unfold Vl
  split
  ·rfl
  ·rw[h1]
  ·rfl
 case call c =>
  obtain⟨callee,args,ts⟩:=c
  have ha:∀ x∈args.toList,evA σ x=evA σ' x:=fun x hxa=>hx x (by simp only[Op.operands,Call.operands,Array.mem_append]; right; simpa using hxa)
  cases callee with
  | invoke _ _=>rfl
  | value f =>
   have hf:=hx f (by simp[Op.operands,Call.operands])
   have h1:∀ l:List Operand,(∀ x∈l,evA σ x=evA σ' x)→(l.map fun x=>(evA σ x).toD)=l.map fun x=>(evA σ' x).toD:=fun l hl=>List.map_congr_left fun x hxl=>by rw[hl x hxl]
   have h2:∀ l:List Operand,(∀ x∈l,evA σ x=evA σ' x)→(l.all fun x=>(evA σ x).isD)=l.all fun x=>(evA σ' x).isD:=fun l hl=>by
    rw[Bool.eq_iff_iff,List.all_eq_true,List.all_eq_true]
    exact⟨fun h p hp=>by rw[← hl p hp]; exact h p hp,fun h p hp=>by rw[hl p hp]; exact h p hp⟩
   simp only[JaT,hf]
   cases hl:args.toList with
   | nil =>
    split
    ·split
     ·rfl
     ·cases Ψ ‹FuncId› <;> rfl
    ·rfl
   | cons x rest =>
    rw[hl]at ha
    rw[h1 (x::rest) ha,h2 (x::rest) ha]
    split
    ·rename_i n fs cs _
     split
     ·rfl
     ·cases Ψ n with
      | none=>rfl
      | some mf=>simp only[ha x (by simp),h1 rest (fun y hy=>ha y (by simp[hy])),h2 rest (fun y hy=>ha y (by simp[hy]))]
    ·rfl
  | builtin b =>
   simp only[K3]
   split
   ·rename_i x t h1 h2
    simp only[aLen]; rw[ha x (by simp[h1])]
   ·rename_i s x t u h1 h2
    simp only[Zs,Zr]; rw[ha s (by simp[h1]),ha x (by simp[h1])]
   ·rename_i x y h1
    simp only[VT]; rw[ha x (by simp[h1]),ha y (by simp[h1])]
   ·rename_i x y h1
    simp only[VT]; rw[ha x (by simp[h1]),ha y (by simp[h1])]
   ·rename_i x t h1 h2
    simp only[JaX]; rw[ha x (by simp[h1])]
   ·rfl
theorem Jje{σ:Nat→AV}{dst:Option Tmp}{v:AV}{x:Operand}(h:∀ d,dst=some d→x≠.tmp d):evA (putA σ dst v) x=evA σ x:=by
 cases dst with
 | none=>rfl
 | some d =>
  cases x with
  | tmp t =>
   have hne:t≠d:=fun e=>h d rfl (by rw[e])
   simp[evA,putA,upd,hne]
  | const v=>rfl
  | global g=>rfl
  | func f=>rfl
theorem J3{σ:Nat→AV}{x y:Option Tmp}{u v:AV}(h:∀ d,x=some d→y≠some d):putA (putA σ x u) y v=putA (putA σ y v) x u:=by
 cases x with
 | none=>rfl
 | some d =>
  cases y with
  | none=>rfl
  | some c =>
   have hne:d≠c:=fun e=>h d rfl (by rw[e])
   funext i
   simp only[putA,upd]
   by_cases h1:i=d <;> by_cases h2:i=c <;> simp_all
section
variable {t:Tab} {ops:Array Oper} {pure:Nat→Nat} {md:Region.Mode}
theorem X0{o:Oper}{σ:Nat→AV}{dst:Option Tmp}{v:AV}{h:Hp}(hd:∀ d,dst=some d→d∉o.looksAt ops):aop t.P t.Φ t.Ψ o.op (putA σ dst v) h=aop t.P t.Φ t.Ψ o.op σ h :=
 JkP (fun x hx=>Jje fun d hdd hxd=>hd d hdd (by
  subst hxd
  exact List.mem_append_left _ (List.mem_filterMap.2 ⟨.tmp d,by simpa using hx,rfl⟩))) h
theorem Vi{o:Oper}{σ:Nat→AV}{dst:Option Tmp}{v:AV}{r s:Prop}(hd:∀ d,dst=some d→d∉o.looksAt ops):JO ops (putA σ dst v) o.guard r s=JO ops σ o.guard r s:=by
 unfold JO
 split
 ·rfl
 ·rename_i j want hg
  split
  ·rfl
  ·rename_i d hgs
   have hne:∀ c,dst=some c→d≠c:=fun c hc he=>by
    subst he
    refine hd d hc ?_
    unfold Oper.looksAt
    rw[hg]
    refine List.mem_append_right _ ?_
    have:(ops[j]?).bind (·.dst)=some d:=hgs
    simp[this]
   have:putA σ dst v d=σ d:=by
    cases dst with
    | none=>rfl
    | some c=>simp[putA,upd,hne c rfl]
   rw[this]
theorem Je8:∀ p w:Bool,p=w∨p=!w:=by decide
theorem JbS{σ:Nat→AV}{g:Option (Nat×Bool)}{r s:Prop}(h:JO ops σ g r s):r∨s:=by
 unfold JO at h
 split at h
 ·exact .inl h
 ·split at h
  ·exact h.elim
  ·split at h
   ·exact(Je8 _ _).elim (fun x=>.inl (h.1 x)) (fun x=>.inr (h.2 x))
   ·exact .inr h
   ·exact h.elim
theorem Zq{σ:Nat→AV}{g g':Option (Nat×Bool)}{a b c d:Prop}(h:JO ops σ g (JO ops σ g' a b) (JO ops σ g' c d)):
  JO ops σ g' (JO ops σ g a c) (JO ops σ g b d):=by
 unfold JO at *
 (repeat' split at h) <;> (repeat' split) <;> simp_all
theorem JcW{σ:Nat→AV}{g:Option (Nat×Bool)}{p r s:Prop}(h:JO ops σ g (p∧r) (p∧s)):p∧JO ops σ g r s:=by
 refine⟨(JbS h).elim (·.1) (·.1),Js (·.2) (·.2) h⟩
theorem Zk{P:Program}{Φ:Nat→Option PF}{Ψ:Nat→Option MF}{op:Op}(h1:cls pure op=1)(σ:Nat→AV){h h':Hp}(hh:h'.H=h.H):aop P Φ Ψ op σ h'={ aop P Φ Ψ op σ h with h:=h' }:=by
 obtain⟨t,x,rfl⟩:=Jdz h1
 simp only[aop,Ja3,hh]
 split
 ·split
  ·rename_i hr; simp only[Ka]
  ·rename_i hr; simp only[AR.bad]
 ·simp only[Ka]
 ·unfold Xs; split <;> first | rfl | simp only[Ka] | simp only[AR.bad]
 ·simp only[AR.bad]
theorem JiB{op:Op}{σ σ':Nat→AV}(hx:∀ x∈op.operands,evA σ x=evA σ' x):JT t σ op=JT t σ' op:=by
 unfold JT
 split
 ·rename_i c
  obtain⟨callee,args,ts⟩:=c
  have ha:args.toList.map (evA σ)=args.toList.map (evA σ'):=List.map_congr_left fun x hxa=>hx x (by simp only[Op.operands,Call.operands,Array.mem_append]; right; simpa using hxa)
  cases callee with
  | value f =>
   have hf:=hx f (by simp[Op.operands,Call.operands])
   simp only[hf,ha]
  | _=>rfl
 ·rfl
theorem Vy{o:Oper}{σ:Nat→AV}{dst:Option Tmp}{v:AV}(hd:∀ d,dst=some d→d∉o.looksAt ops):JT t (putA σ dst v) o.op=JT t σ o.op :=
 JiB (fun x hx=>Jje fun d hdd hxd=>hd d hdd (by
  subst hxd
  exact List.mem_append_left _ (List.mem_filterMap.2 ⟨.tmp d,by simpa using hx,rfl⟩)))
theorem XD(hpure:∀ n,pure n=0→(t.Φ n).isSome){σ:Nat→AV}{op:Op}{x:Nat×List AV}(hx:JT t σ op=some x):cls pure op=2∨cls pure op=6:=by
 unfold JT at hx
 split at hx
 case h_2=>cases hx
 rename_i c
 obtain⟨callee,args,ts⟩:=c
 simp only at hx
 split at hx
 case h_2=>cases hx
 rename_i f
 cases f with
 | func n =>
  simp only[evA]at hx
  split at hx
  ·rename_i hc
   simp only[cls]
   split
   ·rename_i h0
    have:=hpure n h0
    rw[Option.isNone_iff_eq_none]at hc
    rw[hc.2.2.1]at this; cases this
   ·split
    ·exact .inl rfl
    ·exact .inr rfl
  ·cases hx
 | _=>exact .inr rfl
theorem JfZ{σ:Nat→AV}{g:Option (Nat×Bool)}{p:Prop}{x:Nat×List AV}{h:Hp}{K1 K2:AV→Hp→Prop}{Kp:Value→Hp→Prop}
  (hh:JO ops σ g (p∧aGen t x h K1 Kp) (aGen t x h K2 Kp)):aGen t x h (fun v h'=>JO ops σ g (p∧K1 v h') (K2 v h')) Kp:=by
 unfold JO at *
 split at hh
 ·exact Xc (fun v h' k=>⟨hh.1,k⟩) (fun _ _ k=>k) hh.2
 ·rename_i j want
  split at hh
  ·exact hh.elim
  ·split at hh
   ·rename_i q hq
    rcases Je8 q want with hqw | hqw
    ·obtain⟨h1,h2⟩:=hh.1 hqw
     refine Xc (fun v h' k=>⟨fun _=>⟨h1,k⟩,fun hq'=>?_⟩) (fun _ _ k=>k) h2
     rw[hqw]at hq'; cases want <;> cases hq'
    ·refine Xc (fun v h' k=>⟨fun hq'=>?_,fun _=>k⟩) (fun _ _ k=>k) (hh.2 hqw)
     rw[hqw]at hq'; cases want <;> cases hq'
   ·exact Xc (fun v h' k=>k) (fun _ _ k=>k) hh
   ·exact hh.elim
theorem ZD{op:Op}(h:cls pure op≠7):¬ isDP op=true:=by
 intro hd
 cases op <;> first | (exact absurd rfl h) | (cases hd)
theorem Jkg(hpure:∀ n,pure n=0→(t.Φ n).isSome){oi oj:Oper}(hap:oi.apart ops oj=true)(h0:cls pure oi.op=0){K:(Nat→AV)→Hp→Prop}{Kp:Value→Hp→Prop}{σ:Nat→AV}{h:Hp}
  {x:Nat×List AV} (hx:JT t σ oj.op=some x) (hi:JT t σ oi.op=none) (hh:aOp t ops oi (aOp t ops oj K Kp) Kp σ h):aOp t ops oj (aOp t ops oi K Kp) Kp σ h:=by
 obtain⟨h1,h2,h3⟩:=Oper.apart_spec hap
 have hd:=ZD (pure:=pure) (op:=oi.op) (by rw[h0]; decide)
 unfold aOp aRun at *
 have c0:=fun h'=>Vj (P:=t.P) (Φ:=t.Φ) (Ψ:=t.Ψ) hpure h0 σ h h'
 simp only[Vi (o:=oj) h1,Vy (t:=t) (o:=oj) h1,hx,hi,if_neg hd]at hh
 simp only[Vi (o:=oi) h3,X0 (t:=t) (o:=oi) h3,Vy (t:=t) (o:=oi) h3,hx,hi,if_neg hd]
 have hh':=Zq (Js (r':=JO ops σ oj.guard
   ((aop t.P t.Φ t.Ψ oi.op σ h).pre∧aGen t x (aop t.P t.Φ t.Ψ oi.op σ h).h (fun v h'=>K (putA (putA σ oi.dst (aop t.P t.Φ t.Ψ oi.op σ h).val) oj.dst v) h') Kp)
   ((aop t.P t.Φ t.Ψ oi.op σ h).pre∧K (putA (putA σ oi.dst (aop t.P t.Φ t.Ψ oi.op σ h).val) oj.dst KP) (aop t.P t.Φ t.Ψ oi.op σ h).h))
  (fun x=>Js (fun y=>⟨x.1,y⟩) (fun y=>⟨x.1,y⟩) x.2) (fun x=>x) hh)
 rw[(c0 h).2.2]at hh'
 refine Js (fun y=>?_) (fun y=>?_) hh'
 ·refine Xc (fun v h' k=>?_) (fun _ _ k=>k) (JfZ y)
  refine Js (fun z=>?_) (fun z=>?_) k
  ·rw[← (c0 h').1,← (c0 h').2.1]
   refine⟨z.1,?_⟩
   have e1:=(Vj (P:=t.P) (Φ:=t.Φ) (Ψ:=t.Ψ) hpure h0 σ h' h').2.2
   rw[e1,← J3 h2]; exact z.2
  ·rw[← J3 h2]; exact z
 ·refine Js (fun z=>?_) (fun z=>?_) y
  ·rw[(c0 h).2.2]
   refine⟨z.1,?_⟩
   rw[← J3 h2]; exact z.2
  ·rw[← J3 h2]; exact z
theorem JjN(hpure:∀ n,pure n=0→(t.Φ n).isSome)(hnp:∀ n,pure n=1→∀ g,t.G n g→∃ val bs ts,g.out=.ret val bs ts){oi oj:Oper}(hap:oi.apart ops oj=true)(h0:cls pure oj.op=0)(h6:cls pure oi.op≠6){K:(Nat→AV)→Hp→Prop}{Kp:Value→Hp→Prop}{σ:Nat→AV}{h:Hp}
  {x:Nat×List AV} (hx:JT t σ oi.op=some x) (hj:JT t σ oj.op=none) (hh:aOp t ops oi (aOp t ops oj K Kp) Kp σ h):aOp t ops oj (aOp t ops oi K Kp) Kp σ h:=by
 obtain⟨h1,h2,h3⟩:=Oper.apart_spec hap
 have hret:∀ g,t.G x.1 g→∃ val bs ts,g.out=.ret val bs ts:=by
  have hc:=XD hpure hx
  unfold JT at hx
  split at hx
  case h_2=>cases hx
  rename_i c heq
  rw[heq]at hc h6
  obtain⟨callee,args,ts⟩:=c
  simp only at hx
  split at hx
  case h_2=>cases hx
  rename_i f
  cases f with
  | func n =>
   simp only[evA]at hx
   split at hx
   ·cases hx
    simp only[cls]at hc h6
    split at h6
    ·rename_i hz; rw[if_pos hz]at hc; omega
    ·split at h6
     ·rename_i h1; exact hnp n h1
     ·exact absurd rfl h6
   ·cases hx
  | _=>exact absurd rfl h6
 have hd:=ZD (pure:=pure) (op:=oj.op) (by rw[h0]; decide)
 unfold aOp aRun at *
 have c0:=fun h'=>Vj (P:=t.P) (Φ:=t.Φ) (Ψ:=t.Ψ) hpure h0 σ h h'
 simp only[Vi (o:=oj) h1,X0 (t:=t) (o:=oj) h1,Vy (t:=t) (o:=oj) h1,hx,hj,if_neg hd]at hh
 simp only[Vi (o:=oi) h3,Vy (t:=t) (o:=oi) h3,hx,hj,if_neg hd]
 have pull:∀ {g:Option (Nat×Bool)} {A B:AV→Hp→Prop},aGen t x h (fun v h'=>JO ops σ g (A v h') (B v h')) Kp→JO ops σ g (aGen t x h A Kp) (aGen t x h B Kp):=by
  intro g A B hg
  obtain⟨gi,r,k1,k2,k3⟩:=hg
  obtain⟨val,bs,ts,ho⟩:=hret gi k1
  rw[ho]at k3
  refine Js (fun y=>?_) (fun y=>?_) k3
  ·exact⟨gi,r,k1,k2,by rw[ho]; exact y⟩
  ·exact⟨gi,r,k1,k2,by rw[ho]; exact y⟩
 have hh':=Zq (Js (fun y=>pull y) (fun y=>y) hh)
 refine Js (fun y=>?_) (fun y=>?_) hh'
 ·have hp:(aop t.P t.Φ t.Ψ oj.op σ h).pre:=by
   rcases JbS y with z | z
   ·obtain⟨gi,r,k1,k2,k3⟩:=z
    obtain⟨val,bs,ts,ho⟩:=hret gi k1
    rw[ho]at k3
    rw[(c0 _).1]; exact k3.1
   ·exact z.1
  refine⟨hp,Js (fun z=>?_) (fun z=>?_) y⟩
  ·rw[(c0 h).2.2]
   refine Xc (fun v h' k=>?_) (fun _ _ k=>k) z
   have e1:=(Vj (P:=t.P) (Φ:=t.Φ) (Ψ:=t.Ψ) hpure h0 σ h' h').2.2
   rw[(c0 h').2.1,← J3 h2]
   rw[e1]at k; exact k.2
  ·rw[← J3 h2]; exact z.2
 ·refine Js (fun z=>?_) (fun z=>?_) y
  ·refine Xc (fun v h' k=>?_) (fun _ _ k=>k) z
   rw[← J3 h2]; exact k
  ·rw[← J3 h2]; exact z
theorem Jlw(hpure:∀ n,pure n=0→(t.Φ n).isSome)(hnp:∀ n,pure n=1→∀ g,t.G n g→∃ val bs ts,g.out=.ret val bs ts){oi oj:Oper}(hap:oi.apart ops oj=true)(hc:JbW (cls pure oi.op) (cls pure oj.op)=true){K:(Nat→AV)→Hp→Prop}{Kp:Value→Hp→Prop}{σ:Nat→AV}{h:Hp}(hfr:h.Fr)
  (hh:aOp t ops oi (aOp t ops oj K Kp) Kp σ h):aOp t ops oj (aOp t ops oi K Kp) Kp σ h:=by
 cases hgi:JT t σ oi.op with
 | some xi =>
  have k1:=XD hpure hgi
  cases hgj:JT t σ oj.op with
  | some xj =>
   have k2:=XD hpure hgj
   exfalso
   rcases k1 with k1 | k1 <;> rcases k2 with k2 | k2 <;> (rw[k1,k2]at hc; cases hc)
  | none =>
   have k2:cls pure oj.op=0:=by
    simp only[JbW,Bool.or_eq_true,beq_iff_eq,Bool.and_eq_true]at hc
    omega
   have k6:cls pure oi.op≠6:=by
    intro k6
    rw[k6,k2]at hc
    cases hc
   exact JjN hpure hnp hap k2 k6 hgi hgj hh
 | none =>
 cases hgj:JT t σ oj.op with
 | some xj =>
  have k2:=XD hpure hgj
  have k1:cls pure oi.op=0:=by
   simp only[JbW,Bool.or_eq_true,beq_iff_eq,Bool.and_eq_true]at hc
   omega
  exact Jkg hpure hap k1 hgj hgi hh
 | none =>
 obtain⟨h1,h2,h3⟩:=Oper.apart_spec hap
 have hc7:cls pure oi.op≠7∧cls pure oj.op≠7:=by
  simp only[JbW,Bool.and_eq_true,bne_iff_ne]at hc
  exact hc.1
 have hd1:=ZD hc7.1
 have hd2:=ZD hc7.2
 unfold aOp aRun at *
 simp only[Vi (o:=oj) h1,X0 (t:=t) (o:=oj) h1,Vy (t:=t) (o:=oj) h1,hgi,hgj,if_neg hd1,if_neg hd2]at hh
 simp only[Vi (o:=oi) h3,X0 (t:=t) (o:=oi) h3,Vy (t:=t) (o:=oi) h3,hgi,hgj,if_neg hd1,if_neg hd2]
 -- what one makes of the heap is nothing to the other
 have hj:(aop t.P t.Φ t.Ψ oj.op σ (aop t.P t.Φ t.Ψ oi.op σ h).h).pre=(aop t.P t.Φ t.Ψ oj.op σ h).pre ∧
   (aop t.P t.Φ t.Ψ oj.op σ (aop t.P t.Φ t.Ψ oi.op σ h).h).val=(aop t.P t.Φ t.Ψ oj.op σ h).val ∧
   ((aop t.P t.Φ t.Ψ oi.op σ h).pre→(aop t.P t.Φ t.Ψ oi.op σ (aop t.P t.Φ t.Ψ oj.op σ h).h).pre ∧
   (aop t.P t.Φ t.Ψ oi.op σ (aop t.P t.Φ t.Ψ oj.op σ h).h).val=(aop t.P t.Φ t.Ψ oi.op σ h).val) ∧
   (aop t.P t.Φ t.Ψ oj.op σ (aop t.P t.Φ t.Ψ oi.op σ h).h).h=(aop t.P t.Φ t.Ψ oi.op σ (aop t.P t.Φ t.Ψ oj.op σ h).h).h:=by
  simp only[JbW,Bool.or_eq_true,beq_iff_eq,Bool.and_eq_true]at hc
  rcases hc.2 with((hc | hc) | ⟨hci,hcj⟩) | ⟨hci,hcj⟩
  ·have a1:=Vj (P:=t.P) (Φ:=t.Φ) (Ψ:=t.Ψ) hpure hc σ h (aop t.P t.Φ t.Ψ oj.op σ h).h
   have a2:=Vj (P:=t.P) (Φ:=t.Φ) (Ψ:=t.Ψ) hpure hc σ (aop t.P t.Φ t.Ψ oj.op σ h).h h
   rw[a1.2.2]
   exact⟨rfl,rfl,fun hp=>⟨a1.1 ▸ hp,a1.2.1.symm⟩,a2.2.2.symm⟩
  ·have hc:=hc.1
   have a1:=Vj (P:=t.P) (Φ:=t.Φ) (Ψ:=t.Ψ) hpure hc σ h (aop t.P t.Φ t.Ψ oi.op σ h).h
   have a2:=Vj (P:=t.P) (Φ:=t.Φ) (Ψ:=t.Ψ) hpure hc σ (aop t.P t.Φ t.Ψ oi.op σ h).h h
   rw[a1.2.2]
   exact⟨a1.1.symm,a1.2.1.symm,fun hp=>⟨hp,rfl⟩,a2.2.2⟩
  ·have a1:=KY (P:=t.P) (Φ:=t.Φ) (Ψ:=t.Ψ) hci σ h
   have a2:=KY (P:=t.P) (Φ:=t.Φ) (Ψ:=t.Ψ) hci σ (aop t.P t.Φ t.Ψ oj.op σ h).h
   rw[a1,a2]
   refine⟨rfl,rfl,fun hp=>JhE hci σ h _ (fun n row hn=>?_) hp,rfl⟩
   rcases hcj with(hcj | hcj) | hcj
   ·rw[KY hcj]; exact hn
   ·rw[Jbh hcj]; exact hn
   ·obtain⟨row',hr⟩:=Jin (P:=t.P) (Φ:=t.Φ) (Ψ:=t.Ψ) hcj σ h
    rw[hr]
    have hne:n≠h.nx:=fun he=>by have:=hfr n (by omega); rw[this]at hn; cases hn
    simp[Hp.box,upd,hne,hn]
  ·have b1:=Jbh (P:=t.P) (Φ:=t.Φ) (Ψ:=t.Ψ) hci σ h
   have b2:=KY (P:=t.P) (Φ:=t.Φ) (Ψ:=t.Ψ) hcj σ h
   have b3:=KY (P:=t.P) (Φ:=t.Φ) (Ψ:=t.Ψ) hcj σ (aop t.P t.Φ t.Ψ oi.op σ h).h
   rw[b2,b3]
   have e:=Zk (P:=t.P) (Φ:=t.Φ) (Ψ:=t.Ψ) hcj σ (h:=h) (h':=(aop t.P t.Φ t.Ψ oi.op σ h).h) b1
   rw[e]
   exact⟨rfl,rfl,fun hp=>⟨hp,rfl⟩,rfl⟩
 obtain⟨j1,j2,j3,j5⟩:=hj
 simp only[j1,j2]at hh
 have hh':=Zq (Js (r':=JO ops σ oj.guard
   ((aop t.P t.Φ t.Ψ oi.op σ h).pre∧(aop t.P t.Φ t.Ψ oj.op σ h).pre∧K (putA (putA σ oi.dst (aop t.P t.Φ t.Ψ oi.op σ h).val) oj.dst (aop t.P t.Φ t.Ψ oj.op σ h).val) (aop t.P t.Φ t.Ψ oj.op σ (aop t.P t.Φ t.Ψ oi.op σ h).h).h)
   ((aop t.P t.Φ t.Ψ oi.op σ h).pre∧K (putA (putA σ oi.dst (aop t.P t.Φ t.Ψ oi.op σ h).val) oj.dst KP) (aop t.P t.Φ t.Ψ oi.op σ h).h))
  (fun x=>Js (fun y=>⟨x.1,y⟩) (fun y=>⟨x.1,y⟩) x.2) (fun x=>x) hh)
 refine Js (fun x=>?_) (fun x=>?_) hh'
 ·have hp:(aop t.P t.Φ t.Ψ oj.op σ h).pre:=(JbS x).elim (·.2.1) (·.1)
  refine⟨hp,Js (fun y=>⟨(j3 y.1).1,?_⟩) (fun y=>?_) x⟩
  ·rw[← j5,(j3 y.1).2,← J3 h2]; exact y.2.2
  ·rw[← J3 h2]; exact y.2
 ·refine Js (fun y=>⟨y.1,?_⟩) (fun y=>?_) x
  ·rw[← J3 h2]; exact y.2
  ·rw[← J3 h2]; exact y
theorem Jey{h:Hp}{r:Ren}{g:GI}{args:List AV}(hf:h.Fr)(hg:GHands h r g args)(bs:List (List C))(ts:List TypeId):(h.after r bs ts).Fr:=by
 intro n hn
 have hn:h.nx+bs.length+ts.length≤n:=hn
 show putB (r.back h.nx) 1 bs h.H n=none
 rw[Jb2 fun j h1 h2 he=>?_,hf n (by omega)]
 by_cases hj:j≤r.ps.length∧r.p j≠0
 ·rw[Ze (by omega) hj.1 hj.2]at he
  have hlt:j-1<g.bs.length:=by rw[hg.lb]; omega
  have:=hg.bwk.at (j-1) g.bs[j-1] (List.getElem?_eq_getElem hlt) (hg.live _ (List.getElem_mem _))
  rw[show 1+(j-1)=j by omega]at this
  rcases this with⟨h1,_⟩|⟨h1,row0,h2,_⟩
  ·exact hj.2 h1
  ·rw[he,hf n (by omega)]at h2; cases h2
 ·rw[ZJ (by omega) hj]at he; omega
theorem Jg3{o:Oper}{K:(Nat→AV)→Hp→Prop}{Kp:Value→Hp→Prop}{σ:Nat→AV}{h:Hp}(hf:h.Fr)(hh:aOp t ops o K Kp σ h):aOp t ops o (fun σ' h'=>h'.Fr∧K σ' h') Kp σ h:=by
 refine Js (fun x=>?_) (fun x=>⟨hf,x⟩) hh
 unfold aRun at *
 split at x
 ·split at x
  ·rename_i hd
   rw[if_pos hd]
   unfold aDP at *
   split at x
   ·split at x
    ·exact⟨hf,x⟩
    ·exact x.elim
   ·split at x
    ·exact x
    ·exact x.elim
   ·exact x.elim
  ·rename_i hd
   rw[if_neg hd]
   exact⟨x.1,JgG hf,x.2⟩
 ·obtain⟨g,r,k1,k2,k3⟩:=x
  refine⟨g,r,k1,k2,?_⟩
  split at k3
  ·rename_i ho; exact⟨Jey hf k2 _ _,k3⟩
  ·exact k3
end
end Go.Proofs.YtfkhlbhjhdpkoaaDoor
namespace Go.Proofs.YtfkhlbhjhdpkoaaDoor
open Go.RowKit
def JbL(ops:Array Oper)(j k:Nat):Bool:=match ops[j]? with | some o=>o.after.toList.any fun e=>Region.binds .any e && e.on == k | none=>true
def Jd7(ops:Array Oper):Nat→Nat→Nat→Bool
 | 0,_,_=>false
 | f+1,j,k=>JbL ops j k || (match ops[j]? with | some o=>o.after.toList.any fun e=>Region.binds .any e && decide (e.on<j) && Jd7 ops f e.on k | none=>true)
def JbU(pure:Nat→Nat)(ops:Array Oper)(listed:Array Bool)(k:Nat):Bool :=
 match ops[k]? with
 | none=>false
 | some ok=>(List.range ops.size).all fun j=>j == k || listed.getD j true || JbL ops j k ||
   (match ops[j]? with
    | some oj=>ok.apart ops oj && (JbW (cls pure ok.op) (cls pure oj.op) || Jd7 ops 9 j k)
    | none=>true)
def Jb5(pure:Nat→Nat)(ops:Array Oper):Nat→Nat→Array Bool→Bool
 | 0,_,listed=>(Region.ready .any ops listed).isEmpty
 | f+1,k,listed=>(Region.ready .any ops listed).contains k && JbU pure ops listed k && Jb5 pure ops f (k+1) (listed.setIfInBounds k true)
def JfD(pure:Nat→Nat)(ops:Array Oper):Bool:=Jb5 pure ops ops.size 0 (Array.replicate ops.size false)
def DC(ops:Array Oper)(listed:Array Bool):Prop:=∀ m o,ops[m]? = some o→listed.getD m false=true→∀ e∈o.after,Region.binds .any e=true→listed.getD e.on false=true
theorem DC.set{ops:Array Oper}{listed:Array Bool}(h:DC ops listed){j:Nat}(hj:j∈Region.ready .any ops listed):DC ops (listed.setIfInBounds j true):=by
 intro m o ho hm e he hb
 by_cases hmj:j=m
 ·subst hmj
  obtain⟨_,o',ho',hall⟩:=mem_ready.1 hj
  rw[ho]at ho'; cases ho'
  exact getD_set_true (hall e he hb)
 ·rw[getD_set_ne false hmj]at hm
  exact getD_set_true (h m o ho hm e he hb)
theorem JiZ{listed:Array Bool}{k:Nat}(h:listed.getD k true=false):listed.getD k false=false:=by
 rcases Nat.lt_or_ge k listed.size with h' | h'
 ·simp[h']at h ⊢; exact h
 ·simp[Array.getElem?_eq_none h']at h
theorem JbN{ops:Array Oper}{listed:Array Bool}(hdc:DC ops listed){k:Nat}:∀ (f j:Nat) (o:Oper),ops[j]? = some o→(∀ e∈o.after,Region.binds .any e=true→listed.getD e.on false=true) →
  (∀ m,listed.getD m false=true→(ops[m]?).isSome)→Jd7 ops f j k=true→listed.getD k false=true
 | 0,_,_,_,_,_,h=>by simp[Jd7]at h
 | f+1,j,o,ho,hall,hin,h=>by
  simp only[Jd7,JbL,ho,Bool.or_eq_true,List.any_eq_true,Bool.and_eq_true,beq_iff_eq,decide_eq_true_eq]at h
  rcases h with⟨e,he,hb,rfl⟩|⟨e,he,⟨hb,_⟩,hw⟩
  ·exact hall e (by simpa using he) hb
  ·have hl:=hall e (by simpa using he) hb
   obtain⟨o',ho'⟩:=Option.isSome_iff_exists.1 (hin _ hl)
   exact JbN hdc f e.on o' ho' (fun e' he' hb'=>hdc e.on o' ho' hl e' he' hb') hin hw
section
variable {t:Tab} {ops:Array Oper} {pure:Nat→Nat}
def JbC(t:Tab)(ops:Array Oper)(i:Nat)(K:(Nat→AV)→Hp→Prop)(Kp:Value→Hp→Prop)(σ:Nat→AV)(h:Hp):Prop :=
 match ops[i]? with
 | none=>K σ h
 | some o=>aOp t ops o K Kp σ h
def aAny(t:Tab)(ops:Array Oper)(K:(Nat→AV)→Hp→Prop)(Kp:Value→Hp→Prop):Nat→Array Bool→(Nat→AV)→Hp→Prop
 | 0,listed,σ,h=>Region.ready .any ops listed=[]∧K σ h
 | f+1,listed,σ,h=>(Region.ready .any ops listed=[]→K σ h)∧∀ i∈Region.ready .any ops listed,JbC t ops i (aAny t ops K Kp f (listed.setIfInBounds i true)) Kp σ h
theorem JjC{listed:Array Bool}{i j:Nat}{oi oj:Oper}(hi:ops[i]? = some oi)(hj:ops[j]? = some oj)(hji:j≠i)(hdc:DC ops listed)(hin:∀ m,listed.getD m false=true→(ops[m]?).isSome)
  (hf:JbU pure ops listed i=true) (hiun:listed.getD i true=false) (hr:j∈Region.ready .any ops listed):oi.apart ops oj=true∧JbW (cls pure oi.op) (cls pure oj.op)=true:=by
 obtain⟨hjun,oj',hoj',hall⟩:=mem_ready.1 hr
 rw[hj]at hoj'; cases hoj'
 have hjlt:j<ops.size:=(Array.getElem?_eq_some_iff.1 hj).1
 simp only[JbU,hi,List.all_eq_true,List.mem_range]at hf
 have h1:=hf j hjlt
 simp only[hj,hjun,Bool.or_eq_true,beq_iff_eq,hji,Bool.false_eq_true,or_false,false_or,Bool.and_eq_true]at h1
 have hnot:listed.getD i false=false:=JiZ hiun
 rcases h1 with h1 | ⟨h1,h2 | h2⟩
 ·simp only[JbL,hj,List.any_eq_true,Bool.and_eq_true,beq_iff_eq]at h1
  obtain⟨e,he,hb,rfl⟩:=h1
  have:=hall e (by simpa using he) hb
  rw[hnot]at this; cases this
 ·exact⟨h1,h2⟩
 ·have:=JbN hdc 9 j oj hj hall hin h2
  rw[hnot]at this; cases this
theorem JjG{listed:Array Bool}{i j:Nat}(h:JbU pure ops listed i=true)(hji:j≠i):JbU pure ops (listed.setIfInBounds j true) i=true:=by
 unfold JbU at *
 split
 ·simp_all
 ·rename_i ok hk
  simp only[hk,List.all_eq_true,List.mem_range]at h ⊢
  intro m hm
  have:=h m hm
  by_cases hmj:j=m
  ·subst hmj
   have hs:(listed.setIfInBounds j true).getD j true=true:=by simp[Array.getElem?_setIfInBounds]; split <;> simp_all
   simp[hs]
  ·rw[getD_set_ne true hmj]; exact this
theorem Jfe{listed:Array Bool}{j:Nat}(hin:∀ m,listed.getD m false=true→(ops[m]?).isSome)(hj:(ops[j]?).isSome):∀ m,(listed.setIfInBounds j true).getD m false=true→(ops[m]?).isSome:=by
 intro m hm
 by_cases hmj:j=m
 ·subst hmj; exact hj
 ·rw[getD_set_ne false hmj]at hm; exact hin m hm
def unl(listed:Array Bool):Nat:=listed.toList.count false
theorem Jbd{listed:Array Bool}{i:Nat}(h:listed.getD i true=false):unl (listed.setIfInBounds i true)+1=unl listed:=by
 have hi:i<listed.size:=by
  rcases Nat.lt_or_ge i listed.size with h' | h'
  ·exact h'
  ·simp[Array.getElem?_eq_none h']at h
 have hv:listed[i]=false:=by simpa [hi] using h
 unfold unl
 rw[Array.toList_setIfInBounds,List.count_set (by simpa using hi)]
 have hv':listed.toList[i]'(by simpa using hi)=false:=by simpa using hv
 have hpos:0<listed.toList.count false:=by
  rw[List.count_pos_iff]
  rw[← hv']; exact List.getElem_mem _
 rw[hv']
 simp only[beq_self_eq_true,if_true]
 have:(true == false)=false:=rfl
 simp only[this,Bool.false_eq_true,if_false]
 omega
theorem JgD{listed:Array Bool}(h:unl listed=0):Region.ready .any ops listed=[]:=by
 cases hr:Region.ready .any ops listed with
 | nil=>rfl
 | cons j l =>
  have hj:j∈Region.ready .any ops listed:=by rw[hr]; simp
  have:=Jbd (mem_ready.1 hj).1
  omega
theorem JjX{K:(Nat→AV)→Hp→Prop}{Kp:Value→Hp→Prop}(hpure:∀ n,pure n=0→(t.Φ n).isSome)(hnp:∀ n,pure n=1→∀ g,t.G n g→∃ val bs ts,g.out=.ret val bs ts){i:Nat}{oi:Oper}(hi:ops[i]? = some oi):
  ∀ (fuel:Nat) (listed:Array Bool) (σ:Nat→AV) (h:Hp),unl listed≤fuel+1→h.Fr→DC ops listed→(∀ m,listed.getD m false=true→(ops[m]?).isSome)→JbU pure ops listed i=true→i∈Region.ready .any ops listed →
   aOp t ops oi (aAny t ops K Kp fuel (listed.setIfInBounds i true)) Kp σ h→aAny t ops K Kp (fuel+1) listed σ h:=by
 intro fuel
 induction fuel with
 | zero =>
  intro listed σ h hu hfr hdc hin hf hr H
  refine⟨fun h'=>(by rw[h']at hr; cases hr),fun j hj=>?_⟩
  by_cases hji:j=i
  ·subst hji; simp only[JbC,hi]; exact H
  ·have h2:=ready_mono hj hji
   have h3:Region.ready .any ops (listed.setIfInBounds i true)=[]:=JgD (by have:=Jbd (mem_ready.1 hr).1; omega)
   rw[h3]at h2
   cases h2
 | succ fuel ih =>
  intro listed σ h hu hfr hdc hin hf hr H
  refine⟨fun h'=>(by rw[h']at hr; cases hr),fun j hj=>?_⟩
  by_cases hji:j=i
  ·subst hji; simp only[JbC,hi]; exact H
  ·obtain⟨hjun,oj,hoj,hall⟩:=mem_ready.1 hj
   have hiun:=(mem_ready.1 hr).1
   obtain⟨hap,hc⟩:=JjC hi hoj hji hdc hin hf hiun hj
   have h1:aOp t ops oi (aOp t ops oj (aAny t ops K Kp fuel ((listed.setIfInBounds i true).setIfInBounds j true)) Kp) Kp σ h:=Jbb (fun σ' h' hx=>by
    have:=hx.2 j (ready_mono hj hji)
    simp only[JbC,hoj]at this
    exact this) (fun _ _ x=>x) H
   have h2:=Jg3 hfr (Jlw hpure hnp hap hc hfr h1)
   simp only[JbC,hoj]
   refine Jbb (fun σ' h' hx=>ih (listed.setIfInBounds j true) σ' h' (by have:=Jbd hjun; omega) hx.1 (hdc.set hj) (Jfe hin (by rw[hoj]; rfl)) (JjG hf hji) (ready_mono hr (Ne.symm hji)) ?_) (fun _ _ x=>x) h2
   rw[Array.setIfInBounds_comm _ _ hji]
   exact hx.2
theorem JeL{K:(Nat→AV)→Hp→Prop}{Kp:Value→Hp→Prop}(hpure:∀ n,pure n=0→(t.Φ n).isSome)(hnp:∀ n,pure n=1→∀ g,t.G n g→∃ val bs ts,g.out=.ret val bs ts):∀ (l:List Oper) (k:Nat) (listed:Array Bool) (σ:Nat→AV) (h:Hp),unl listed≤l.length→h.Fr→DC ops listed→(∀ m,listed.getD m false=true→(ops[m]?).isSome) →
  (∀ j,l[j]? = ops[k+j]?)→Jb5 pure ops l.length k listed=true→aOps t ops K Kp l σ h→aAny t ops K Kp l.length listed σ h
 | [],_,_,_,_,_,_,_,_,_,hB,hh=>⟨by simpa [Jb5] using hB,hh⟩
 | o::l,k,listed,σ,h,hu,hfr,hdc,hin,hl,hB,hh=>by
  have h0:ops[k]? = some o:=by simpa using (hl 0).symm
  simp only[List.length_cons,Jb5,Bool.and_eq_true]at hB
  obtain⟨⟨hr,hf⟩,hB'⟩:=hB
  have hr':k∈Region.ready .any ops listed:=by simpa using hr
  refine JjX hpure hnp h0 l.length listed σ h hu hfr hdc hin hf hr' ?_
  refine Jbb (fun σ' h' hx=>?_) (fun _ _ x=>x) (Jg3 hfr hh)
  exact JeL hpure hnp l (k+1) _ σ' h' (by have:=Jbd (mem_ready.1 hr').1; simp only[List.length_cons]at hu; omega) hx.1 (hdc.set hr') (Jfe hin (by rw[h0]; rfl)) (fun j=>by have:=hl (j+1); simpa [Nat.add_assoc,Nat.add_comm 1 j] using this) hB' hx.2
theorem Jdd{Γ:Ctx}(ht:TabOk t)(hP:t.P=Γ.P){K:(Nat→AV)→Hp→Prop}{Kp:Value→Hp→Prop}{Q:Exit→Act→World→Prop}{σ0:Nat→AV}(hall:(ops.toList.all (opIn Γ.nt ops))=true)(hnd:∀ o∈ops.toList,¬ Xe o.op=true)
  (hQ:∀ σ h a e,K σ h→Jm Γ.nt Γ.ds σ a e→WInv Γ h e→Q .normal a e.w)
  (hQp:∀ v h a e,Kp v h→Jm Γ.nt Γ.ds (KF ops σ0) a e→WInv Γ h e→Q (.panic [{ v:=v,recovered:=false }]) a e.w):∀ (fuel:Nat) (listed:Array Bool) (σ:Nat→AV) (h:Hp) (a:Act) (e:Env),
   KF ops σ=KF ops σ0→aAny t ops K Kp fuel listed σ h→Jm Γ.nt Γ.ds σ a e→WInv Γ h e→wpAny Γ.P .any ops Q fuel listed a e.w
 | 0,_,σ,h,a,e,_,hh,hs,hw=>⟨hh.1,hQ σ h a e hh.2 hs hw⟩
 | fuel+1,listed,σ,h,a,e,hfg,hh,hs,hw=>by
  refine⟨fun h0=>hQ σ h a e (hh.1 h0) hs hw,fun i hi=>?_⟩
  have ih:=Jdd ht hP hall hnd hQ hQp fuel (listed.setIfInBounds i true)
  have h1:=hh.2 i hi
  obtain⟨_,o,ho,_⟩:=mem_ready.1 hi
  have hmem:o∈ops.toList:=by simpa using Array.mem_of_getElem? ho
  simp only[JbC,ho]at h1
  simp only[wpOp,ho]
  have hin:opIn Γ.nt ops o=true:=by
   rw[List.all_eq_true]at hall
   exact hall o hmem
  rcases JaV hin hs h1 with⟨hwant,hrun⟩|⟨hwant,hK⟩
  ·rw[if_pos hwant]
   refine .inl ?_
   have hop:=Jch hin hs
   unfold aRun at hrun
   split at hrun
   ·by_cases hdp:isDP o.op=true
    ·rw[if_pos hdp]at hrun
     exact Jci hop hs (Vo hin) hrun (fun hde=>absurd hde (hnd o hmem)) (fun v hk=>hQp v h a e hk (by rw[← hfg]; exact X4 hall hs) hw)
    rw[if_neg hdp]at hrun
    obtain⟨hpre,hK⟩:=hrun
    have hvr:VR Γ o σ h (aop t.P t.Φ t.Ψ o.op σ h).val (aop t.P t.Φ t.Ψ o.op σ h).h:=by
     have:=Jfj (Γ:=Γ) (Φ:=t.Φ) (Ψ:=t.Ψ) (σ:=σ) (h:=h) (by rw[← hP]; exact ht.pf) (by rw[← hP]; exact ht.mf) o (by rw[← hP]; exact hpre)
     rw[← hP]at this
     exact this
    exact hvr a e hop hw _ _ fun v e' hw' hle hv=>ih _ _ _ _ (by rw[Vh hmem]; exact hfg) hK ((hs.mono hle).put o.dst (Vo hin) hv) hw'
   ·rename_i x hx
    exact JbI ht hP hx hrun hop hw (fun av h' v e' hk hw' hle hv=>ih _ _ _ _ (by rw[Vh hmem]; exact hfg) hk ((hs.mono hle).put o.dst (Vo hin) hv) hw')
     (fun v h' e' hk hw' hle=>hQp v h' a e' hk (by rw[← hfg]; exact X4 hall (hs.mono hle)) hw')
  ·rw[if_neg (by rw[hwant]; simp)]
   exact ih _ _ _ _ (by rw[Vh hmem]; exact hfg) hK (hs.put o.dst (Vo hin) (RA.undef e)) hw
def aReg(t:Tab)(id:Nat)(ops:Array Oper)(draw:Bool)(K:(Nat→AV)→Hp→Prop)(Kp:Value→Hp→Prop)(σ:Nat→AV)(h:Hp):Prop :=
 if(draw && t.lk.contains id)=true then(h.Fr→aAny t ops K Kp ops.size (Array.replicate ops.size false) σ h) else aOps t ops K Kp ops.toList σ h
theorem JdN{K K':(Nat→AV)→Hp→Prop}{Kp Kp':Value→Hp→Prop}(hk:∀ σ h,K σ h→K' σ h)(hp:∀ v h,Kp v h→Kp' v h):∀ {f:Nat} {listed:Array Bool} {σ:Nat→AV} {h:Hp},aAny t ops K Kp f listed σ h→aAny t ops K' Kp' f listed σ h
 | 0,_,_,_,hh=>⟨hh.1,hk _ _ hh.2⟩
 | f+1,_,_,_,hh=>⟨fun x=>hk _ _ (hh.1 x),fun i hi=>by
  have:=hh.2 i hi
  unfold JbC at *
  split
  ·rename_i h0; rw[h0]at this; exact JdN hk hp this
  ·rename_i o h0; rw[h0]at this; exact Jbb (fun _ _ x=>JdN hk hp x) hp this⟩
theorem JkR{id:Nat}{draw:Bool}{K K':(Nat→AV)→Hp→Prop}{Kp Kp':Value→Hp→Prop}(hk:∀ σ h,K σ h→K' σ h)(hp:∀ v h,Kp v h→Kp' v h){σ:Nat→AV}{h:Hp}(hh:aReg t id ops draw K Kp σ h):aReg t id ops draw K' Kp' σ h:=by
 unfold aReg at *
 split
 ·rename_i h0; rw[if_pos h0]at hh; exact fun hf=>JdN hk hp (hh hf)
 ·rename_i h0; rw[if_neg h0]at hh; exact Jg4 hk hp hh
theorem Jfy{id:Nat}{draw:Bool}{K:(Nat→AV)→Hp→Prop}{Kp:Value→Hp→Prop}{σ:Nat→AV}{h:Hp}(hl:(draw && t.lk.contains id)=false)(hh:aOps t ops K Kp ops.toList σ h):aReg t id ops draw K Kp σ h:=by
 unfold aReg
 rw[hl]; exact hh
theorem WInv.fr{Γ:Ctx}{h:Hp}{e:Env}(hw:WInv Γ h e):h.Fr:=fun n hn=>(hw.fresh n hn).1
theorem WInv.drewn{Γ:Ctx}{h:Hp}{e:Env}(hw:WInv Γ h e):WInv Γ h { e with w:=e.w.drew }∧e.le { e with w:=e.w.drew }:=hw.quiet (Grows.drew _)
theorem Jhi{Γ:Ctx}(ht:TabOk t)(hP:t.P=Γ.P)(hm:Γ.P.follows .mixedOrders=true)(hpure:∀ n,pure n=0→(t.Φ n).isSome)(hnp:∀ n,pure n=1→∀ g,t.G n g→∃ val bs ts,g.out=.ret val bs ts){K:(Nat→AV)→Hp→Prop}{Kp:Value→Hp→Prop}{Q:Exit→Act→World→Prop}{id:Nat}{draw:Bool}
  (hall:(ops.toList.all (opIn Γ.nt ops))=true) (hd:draw=true→(t.lk.contains id=true∨JfD pure ops=true)∧(ops.toList.all fun o=>!Xe o.op)=true) (hdl:Jbv ops.toList=true) {σ:Nat→AV} {h:Hp} {a:Act} {e:Env}
  (hQ:∀ σ h a e,K σ h→Jm Γ.nt Γ.ds σ a e→WInv Γ h e→Q .normal a e.w)
  (hQp:∀ v h a e,Kp v h→Jm Γ.nt Γ.ds (KF ops σ) a e→WInv Γ h e→Q (.panic [{ v:=v,recovered:=false }]) a e.w) (hh:aReg t id ops draw K Kp σ h) (hs:Jm Γ.nt Γ.ds σ a e) (hw:WInv Γ h e) :
  (Code.region id ops draw).wp Γ.P Q a e.w:=by
 cases draw with
 | false=>exact wp_region_list (Je5 ht hP hall hQ hQp ops.toList (fun _ h=>h) hdl hall σ h a e rfl (by simpa [aReg] using hh) hs hw)
 | true =>
  obtain⟨hlex,hnd⟩:=hd rfl
  have hnd:∀ o∈ops.toList,¬ Xe o.op=true:=fun o ho=>by simpa using List.all_eq_true.1 hnd o ho
  obtain⟨w1,l1⟩:=hw.drewn
  refine wp_region_any hm ?_
  by_cases hlk:t.lk.contains id=true
  ·have h2:=Jdd ht hP hall hnd hQ hQp ops.size _ σ h a _ rfl (by simp only[aReg,hlk,Bool.and_self,if_true]at hh; exact hh hw.fr) (hs.mono l1) w1
   simpa using h2
  have hlex:=hlex.resolve_left hlk
  simp only[aReg,hlk,Bool.and_false,if_false,Bool.false_eq_true]at hh
  have h0:∀ m,(Array.replicate ops.size false).getD m false=false:=fun m=>by
   simp only[Array.getD_eq_getD_getElem?,Array.getElem?_replicate]
   split <;> rfl
  have h1:=JeL (t:=t) (ops:=ops) (K:=K) (Kp:=Kp) hpure hnp ops.toList 0 (Array.replicate ops.size false) σ h (by simp[unl]) hw.fr (fun m o _ hm=>by rw[h0]at hm; cases hm) (fun m hm=>by rw[h0]at hm; cases hm) (by simp) (by simpa [JfD] using hlex) hh
  have h2:=Jdd ht hP hall hnd hQ hQp ops.toList.length _ σ h a _ rfl h1 (hs.mono l1) w1
  simpa using h2
end
end Go.Proofs.YtfkhlbhjhdpkoaaDoor
