/- A region that draws its order: all its operations but the last two read; the first of the two changes what none of them reads. -/
import Derived.Test.YtaofbminodhcnaaZcao
set_option linter.unusedVariables false
set_option linter.unusedSimpArgs false
namespace Go.Proofs.Ytaofbminodhcnaa
open Go.RowKit Go.Maps
def Jk9(ops:Array Oper)(n:Nat):Bool :=
 ((List.range (n+2)).all fun i=>match ops[i]? with
  | some o=>o.guard.isNone && JvK o.op && (o.after.toList.all fun e=>!Region.binds .any e || decide (e.on<i)) && o.op.operands.all fun x=>match x with
   | .tmp t=>((List.range n).all fun j=>((ops[j]?).bind (·.dst)) != some t) || (List.range n).any fun j=>Jc7 ops i j && ((ops[j]?).bind (·.dst)) == some t
   | _=>true
  | none=>false) && (List.range (n+1)).all fun j=>JgU ops 30 (n+1) j
section
variable {P:Program} {ops:Array Oper} {Q:Exit→Act→World→Prop}
theorem JsI{id:Nat}{a:Act}{w w1:World}(L:List (Nat×Value))(hm:P.follows .mixedOrders=true)(hsz:ops.size=L.length+2)
  (hd:ops.toList.map (·.dst)=L.map (fun p=>some p.1)++[none,none]) (hnd:(L.map Prod.fst).Nodup) (hlt:∀ p∈L,p.1<a.tmps.size) (chk:Jk9 ops L.length=true)
  (hrun:∀ (i:Nat) (o:Oper) (p:Nat×Value),L[i]? = some p→ops[i]? = some o→(execOp (Ji a L).eval o).run P w.drew=.ok (.value p.2) w.drew)
  (hrun1:∀ (i:Nat) (o:Oper) (p:Nat×Value),L[i]? = some p→ops[i]? = some o→(execOp (Ji a L).eval o).run P w1=.ok (.value p.2) w1)
  (hmid:∀ o,ops[L.length]? = some o→(execOp (Ji a L).eval o).run P w.drew=.ok .skip w1)
  (hlast:∀ o,ops[L.length+1]? = some o→o.wp P (Ji a L) w1 (Q .normal) Q):(Code.region id ops true).wp P Q a w:=by
 have hdst:∀ (i:Nat) (o:Oper) (p:Nat×Value),L[i]? = some p→ops[i]? = some o→o.dst=some p.1:=fun i o p h1 h2=>by
  have hlen:=(List.getElem?_eq_some_iff.1 h1).1
  have:(ops.toList.map (·.dst))[i]? = some o.dst:=by simp[h2]
  rw[hd,List.getElem?_append_left (by simpa using hlen)]at this
  simpa [h1] using this.symm
 have hdmid:∀ o,ops[L.length]? = some o→o.dst=none:=fun o h=>by
  have:(ops.toList.map (·.dst))[L.length]? = some o.dst:=by simp[h]
  rw[hd,List.getElem?_append_right (by simp)]at this
  simpa using this.symm
 simp only[Jk9,Bool.and_eq_true,List.all_eq_true,List.mem_range]at chk
 obtain⟨chk1,chk2⟩:=chk
 have hfin:=JfK a
 have ev:∀ (a':Act) (listed:Array Bool) (i:Nat) (o:Oper),ops[i]? = some o→i<L.length+2→(∀ (j d:Nat) (v:Value),L[j]? = some (d,v)→listed.getD j false=true→a'.tmps.getD d undef=v) →
   (∀ d:Nat,(∀ (j:Nat) (v:Value),L[j]?≠some (d,v))→a'.tmps.getD d undef=a.tmps.getD d undef)→(∀ e∈o.after,Region.binds .any e=true→listed.getD e.on false=true) →
   o.guard=none∧execOp a'.eval o=execOp (Ji a L).eval o:=fun a' listed i o ho hi q1 q2 q3=>by
  have hc:=chk1 i hi
  rw[ho]at hc
  simp only[Bool.and_eq_true,Option.isNone_iff_eq_none,Array.all_eq_true_iff_forall_mem]at hc
  obtain⟨⟨⟨c1,c2⟩,_⟩,c3⟩:=hc
  refine⟨c1,execOp_congr o (fun cs b he=>by rw[he]at c2; cases c2) fun x hx=>?_⟩
  have hx3:=c3 x hx
  cases x with
  | tmp t =>
   simp only[Bool.or_eq_true,List.all_eq_true,List.any_eq_true,List.mem_range,bne_iff_ne,ne_eq,Bool.and_eq_true,beq_iff_eq]at hx3
   simp only[Act.eval]
   rw[hfin t L hlt]
   rcases hx3 with hx3 | ⟨j,hj,hw,hjd⟩
   ·have hno:∀ (j:Nat) (v:Value),L[j]?≠some (t,v):=fun j v hjv=>by
     have hlen:=(List.getElem?_eq_some_iff.1 hjv).1
     have hoj:ops[j]? = some (ops[j]'(by omega)):=Array.getElem?_eq_getElem (by omega)
     refine hx3 j hlen ?_
     rw[hoj]
     exact hdst j _ _ hjv hoj
    have:lkv L t=none:=by
     cases hl:lkv L t with
     | none=>rfl
     | some v =>
      obtain⟨j,hj⟩:=List.mem_iff_getElem?.1 (Jho hl)
      exact absurd hj (hno j v)
    rw[this,q2 t hno]
   ·have hp:L[j]? = some L[j]:=List.getElem?_eq_getElem hj
    have hoj:ops[j]? = some (ops[j]'(by omega)):=Array.getElem?_eq_getElem (by omega)
    have h1:(L[j]).1=t:=by
     have:=hdst j _ _ hp hoj
     rw[hoj]at hjd
     simpa [this] using hjd
    have hl:listed.getD j false=true:=by
     simp only[Jc7,ho,List.any_eq_true,Bool.and_eq_true,beq_iff_eq]at hw
     obtain⟨e,he,hb,rfl⟩:=hw
     exact q3 e (by simpa using he) hb
    subst h1
    have hq:a'.tmps.getD (L[j]).1 undef=(L[j]).2:=q1 j _ _ hp hl
    have hq2:lkv L (L[j]).1=some (L[j]).2:=JeH hnd (List.mem_of_getElem? hp)
    rw[hq,hq2]
  | const v=>rfl
  | global g=>rfl
  | func f=>rfl
 have rdy:∀ (listed:Array Bool) (i:Nat),listed.size=ops.size→i<ops.size→listed.getD i false=false→(∀ j,j<i→listed.getD j false=true)→i∈Region.ready .any ops listed:=fun listed i hs hi hl hall=>by
  have hoi:ops[i]? = some ops[i]:=Array.getElem?_eq_getElem hi
  refine mem_ready.2 ⟨by simpa [Array.getD_eq_getD_getElem?,Array.getElem?_eq_getElem (show i<listed.size by omega)] using hl,_,hoi,fun e he hb=>?_⟩
  have hc:=chk1 i (by omega)
  rw[hoi]at hc
  simp only[Bool.and_eq_true,List.all_eq_true,Bool.or_eq_true,Bool.not_eq_true',decide_eq_true_eq]at hc
  rcases hc.1.2 e (by simpa using he) with h | h
  ·rw[hb]at h; cases h
  ·exact hall _ h
 have some1:∀ listed:Array Bool,listed.size=ops.size→listed.getD (L.length+1) false=false→∃ j,j∈Region.ready .any ops listed:=fun listed hs hl=>by
  have key:∀ k,k≤L.length+1→(∀ j,j<k→listed.getD j false=true)∨∃ j,j∈Region.ready .any ops listed:=fun k=>by
   induction k with
   | zero=>intro _; exact .inl fun j hj=>absurd hj (by omega)
   | succ k ihk =>
    intro hk
    rcases ihk (by omega) with h | h
    ·by_cases hlk:listed.getD k false=true
     ·exact .inl fun j hj=>by
       by_cases e:j=k
       ·subst e; exact hlk
       ·exact h j (by omega)
     ·exact .inr ⟨k,rdy listed k hs (by omega) (by simpa using hlk) h⟩
    ·exact .inr h
  rcases key (L.length+1) (Nat.le_refl _) with h | h
  ·exact⟨_,rdy listed _ hs (by omega) hl h⟩
  ·exact h
 have main:∀ (f:Nat) (listed:Array Bool) (a':Act),unl listed=f→DC ops listed→(∀ m,listed.getD m false=true→(ops[m]?).isSome)→listed.size=ops.size→listed.getD (L.length+1) false=false→a'.defers=a.defers→a'.tmps.size=a.tmps.size →
   (∀ (j d:Nat) (v:Value),L[j]? = some (d,v)→listed.getD j false=true→a'.tmps.getD d undef=v)→(∀ d:Nat,(∀ (j:Nat) (v:Value),L[j]? = some (d,v)→listed.getD j false=false)→a'.tmps.getD d undef=a.tmps.getD d undef) →
   wpAny P .any ops Q f listed a' (if listed.getD L.length false=true then w1 else w.drew):=by
  intro f
  induction f with
  | zero =>
   intro listed a' hf hdc hin hs hla _ _ _ _
   obtain⟨j,hj⟩:=some1 listed hs hla
   rw[Jey hf]at hj
   cases hj
  | succ f ih =>
   intro listed a' hf hdc hin hs hla hdf hts q1 q2
   refine⟨fun hr=>?_,fun i hi=>?_⟩
   ·obtain⟨j,hj⟩:=some1 listed hs hla
    rw[hr]at hj
    cases hj
   ·obtain⟨hu,o,ho,hall⟩:=mem_ready.1 hi
    have hilt:=(Array.getElem?_eq_some_iff.1 ho).1
    obtain⟨e1,e2⟩:=ev a' listed i o ho (by omega) q1 (fun d hd=>q2 d fun j v hj=>absurd hj (hd j v)) hall
    have hul:=JdI hu
    have hul':unl (listed.setIfInBounds i true)=f:=by omega
    unfold wpOp
    simp only[ho,Region.wanted,e1,if_true]
    refine .inl ?_
    rcases Nat.lt_or_ge i L.length with hlt' | hge
    ·have hp:L[i]? = some L[i]:=List.getElem?_eq_getElem hlt'
     refine KT (v:=(L[i]).2) (w':=if listed.getD L.length false=true then w1 else w.drew) (by
      rw[e2]
      split
      ·exact hrun1 i o _ hp ho
      ·exact hrun i o _ hp ho) ?_
     have hod:=hdst i o _ hp ho
     have hds:(L[i]).1<a'.tmps.size:=by rw[hts]; exact hlt _ (List.getElem_mem hlt')
     have hwe:listed.getD L.length false=(listed.setIfInBounds i true).getD L.length false:=(getD_set_ne false (by omega)).symm
     rw[hwe]
     refine ih _ _ hul' (hdc.set hi) (JgD hin (by rw[ho]; rfl)) (by simpa using hs) (by rw[getD_set_ne false (by omega)]; exact hla) (by rw[hod]; exact hdf) (by rw[hod]; simpa [Act.put] using hts) (fun j d v hj hl=>?_) (fun d hd=>?_)
     ·rw[hod]
      by_cases e:i=j
      ·subst e
       rw[hp]at hj
       have hpe:L[i]=(d,v):=Option.some.inj hj
       rw[hpe]at hds ⊢
       simp[Act.put,Array.getD_eq_getD_getElem?,hds]
      ·rw[getD_set_ne false e]at hl
       have hne:(L[i]).1≠d:=fun he=>by
        have hjl:=(List.getElem?_eq_some_iff.1 hj).1
        have:=(List.getElem?_inj (l:=L.map Prod.fst) (by simpa using hlt') hnd).1 (show(L.map Prod.fst)[i]? = (L.map Prod.fst)[j]? by simp[hj,he,hp])
        exact e this
       simp only[Act.put,Array.getD_eq_getD_getElem?,Array.getElem?_setIfInBounds_ne hne]
       simpa [Array.getD_eq_getD_getElem?] using q1 j d v hj hl
     ·rw[hod]
      have hne:(L[i]).1≠d:=fun he=>by
       have:=hd i (L[i]).2 (by rw[hp]; simp[← he])
       rw[Jcs listed i (by omega)]at this
       cases this
      simp only[Act.put,Array.getD_eq_getD_getElem?,Array.getElem?_setIfInBounds_ne hne]
      have:=q2 d fun j v hj=>by
       by_cases e:i=j
       ·subst e
        rw[hp]at hj
        have hpe:L[i]=(d,v):=Option.some.inj hj
        exact absurd (by rw[hpe]) hne
       ·have:=hd j v hj
        rwa [getD_set_ne false e]at this
      simpa [Array.getD_eq_getD_getElem?] using this
    ·rcases Nat.lt_or_ge i (L.length+1) with hlt2 | hge2
     ·have hi':i=L.length:=by omega
      subst hi'
      have hln:listed.getD L.length false=false:=by
       have:=hu
       simpa [Array.getD_eq_getD_getElem?,Array.getElem?_eq_getElem (show L.length<listed.size by omega)] using this
      rw[hln,if_neg (by decide)]
      refine JcR (w':=w1) (by rw[e2]; exact hmid o ho) ?_
      rw[hdmid o ho]
      have hwe:(listed.setIfInBounds L.length true).getD L.length false=true:=Jcs listed _ (by omega)
      have hW:(if(listed.setIfInBounds L.length true).getD L.length false=true then w1 else w.drew)=w1:=if_pos hwe
      have hres:=ih (listed.setIfInBounds L.length true) a' hul' (hdc.set hi) (JgD hin (by rw[ho]; rfl)) (by simpa using hs) (by rw[getD_set_ne false (by omega)]; exact hla) hdf hts (fun j d v hj hl=>q1 j d v hj (by
       have hjl:=(List.getElem?_eq_some_iff.1 hj).1
       rwa [getD_set_ne false (by omega)]at hl)) (fun d hd=>q2 d fun j v hj=>by
       have hjl:=(List.getElem?_eq_some_iff.1 hj).1
       have:=hd j v hj
       rwa [getD_set_ne false (by omega)]at this)
      rw[hW]at hres
      exact hres
     ·have hi':i=L.length+1:=by omega
      subst hi'
      have hlis:∀ j,j<L.length+1→listed.getD j false=true:=fun j hj=>Jdt hdc 30 (L.length+1) o ho hall hin (chk2 j hj)
      have hfull:unl (listed.setIfInBounds (L.length+1) true)=0:=Jpv _ fun j hj=>by
       by_cases e:L.length+1=j
       ·subst e; exact Jcs listed _ (by omega)
       ·rw[getD_set_ne false e]
        exact hlis j (by simp at hj; omega)
      have hf0:f=0:=by omega
      subst hf0
      have ea:a'=Ji a L:=by
       obtain⟨t',d'⟩:=a'
       simp only at hdf hts q1 q2
       have:Ji a L=⟨(Ji a L).tmps,(Ji a L).defers⟩:=rfl
       rw[this,Jf3,hdf]
       congr 1
       refine Array.ext (by rw[VX,hts]) fun k h1 h2=>?_
       have hx:t'.getD k undef=(Ji a L).tmps.getD k undef:=by
        rw[hfin k L hlt]
        cases hl:lkv L k with
        | some v =>
         obtain⟨j,hj⟩:=List.mem_iff_getElem?.1 (Jho hl)
         exact q1 j k v hj (hlis j (by have:=(List.getElem?_eq_some_iff.1 hj).1; omega))
        | none =>
         exact q2 k fun j v hj=>absurd (JeH hnd (List.mem_of_getElem? hj)) (by rw[hl]; simp)
       simpa [Array.getD_eq_getD_getElem?,h1,h2] using hx
      rw[ea,if_pos (hlis L.length (by omega))]
      refine Oper.wp_mono (fun a2 w2 hq=>?_) (hlast o ho)
      exact⟨Jey hfull,hq⟩
 have h0:∀ m,(Array.replicate ops.size false).getD m false=false:=fun m=>by
  simp only[Array.getD_eq_getD_getElem?,Array.getElem?_replicate]
  split <;> rfl
 refine wp_region_any hm ?_
 have:=main ops.size (Array.replicate ops.size false) a (by simp[unl]) (fun m o _ hm=>by rw[h0]at hm; cases hm) (fun m hm=>by rw[h0]at hm; cases hm) (by simp) (h0 _) rfl rfl (fun j d v _ hl=>by rw[h0]at hl; cases hl) (fun _ _=>rfl)
 rw[h0 L.length,if_neg (by decide)]at this
 exact this
theorem JqE{id:Nat}{a:Act}{w w1 w2:World}(S:List (Op×Option Tmp×Option (Nat×Bool)))(o1 o2:Op)(L:List (Nat×Value))(nt:Nat)(hsz:a.tmps.size=nt)(hm:P.follows .mixedOrders=true)(hops:ops.toList.map shO=S++[(o1,none,none),(o2,none,none)])
  (hS:S.map (·.2.1)=L.map fun p=>some p.1) (hnd:(L.map Prod.fst).Nodup) (hlt:(L.all fun p=>decide (p.1<nt))=true) (chk:Jk9 ops L.length=true)
  (hrun:JfQ P (Ji a L) w.drew S L) (hrun1:JfQ P (Ji a L) w1 S L) (hmid:∀ o:Oper,o.op=o1→(execOp (Ji a L).eval o).run P w.drew=.ok .skip w1) (hlast:∀ o:Oper,o.op=o2→(execOp (Ji a L).eval o).run P w1=.ok .skip w2) (hq:Q .normal (Ji a L) w2):(Code.region id ops true).wp P Q a w:=by
 have hlen:S.length=L.length:=by have:=congrArg List.length hS; simpa using this
 have hsz2:ops.size=L.length+2:=by
  have:=congrArg List.length hops
  simpa [hlen] using this
 have hd:ops.toList.map (·.dst)=L.map (fun p=>some p.1)++[none,none]:=by
  have:=congrArg (List.map fun x:Op×Option Tmp×Option (Nat×Bool)=>x.2.1) hops
  rw[List.map_map,List.map_append,hS]at this
  exact this
 have sh:∀ {i:Nat} {p:Nat×Value} {o:Oper},L[i]? = some p→ops[i]? = some o→S[i]? = some (shO o):=fun {i p o} hp ho=>by
  have hil:=(List.getElem?_eq_some_iff.1 hp).1
  have h1:(ops.toList.map shO)[i]? = some (shO o):=by simp[ho]
  rwa [hops,List.getElem?_append_left (by omega)]at h1
 refine JsI (w1:=w1) L hm hsz2 hd hnd (fun p hp=>?_) chk (fun i o p hp ho=>hrun.get (sh hp ho) hp o rfl) (fun i o p hp ho=>hrun1.get (sh hp ho) hp o rfl) (fun o ho=>?_) (fun o ho=>?_)
 ·rw[hsz]; simpa using List.all_eq_true.1 hlt p hp
 ·have h1:(ops.toList.map shO)[L.length]? = some (shO o):=by simp[ho]
  rw[hops,List.getElem?_append_right (by omega),hlen]at h1
  simp only[Nat.sub_self,List.getElem?_cons_zero,Option.some.injEq]at h1
  exact hmid o (congrArg Prod.fst h1).symm
 ·have h1:(ops.toList.map shO)[L.length+1]? = some (shO o):=by simp[ho]
  rw[hops,List.getElem?_append_right (by omega),hlen]at h1
  simp only[Nat.add_sub_cancel_left,List.getElem?_cons_succ,List.getElem?_cons_zero,Option.some.injEq]at h1
  exact JcR (hlast o (congrArg Prod.fst h1).symm) (by rw[show o.dst=none from(congrArg (fun x=>x.2.1) h1).symm]; exact hq)
end
end Go.Proofs.Ytaofbminodhcnaa
