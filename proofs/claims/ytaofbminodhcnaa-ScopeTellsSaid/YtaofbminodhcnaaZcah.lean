/- Stacks of maps that a box owns. -/
import Derived.Test.YtaofbminodhcnaaZcaf
import Derived.Maps.OwnSet
set_option linter.unusedVariables false
set_option linter.unusedSimpArgs false
namespace Go.Proofs.Ytaofbminodhcnaa
open Go.RowKit Go.Maps
def dM:ME→DataW Unit
 | []=>.map []
 | (k,v)::r=>(dM r).put (.string k) (.lit v)
theorem Jo7:∀ L,IsMap (dM L)
 | []=>⟨_,rfl⟩
 | (_,_)::r=>by
  obtain⟨es,h⟩:=Jo7 r
  exact⟨_,by rw[dM,h]; rfl⟩
theorem JtJ(s:List UInt8):∀ L,has (dM L) (.string s)=(mGet L s).isSome
 | []=>rfl
 | (k,v)::r=>by
  by_cases e:s=k
  ·subst e
   rw[mGet,if_pos rfl]
   exact has_put_same (k:=.string s) (Jo7 r) True.intro _
  ·have hne:Lit.string s≠Lit.string k:=fun q=>e (by cases q; rfl)
   rw[mGet,if_neg e]
   exact(has_put_other hne _).trans (JtJ s r)
theorem JsN(s:List UInt8)(z:DataW Unit):∀ L,(dM L).atKey (.string s) z=match mGet L s with | some x=>.lit x | none=>z
 | []=>rfl
 | (k,v)::r=>by
  by_cases e:s=k
  ·subst e
   rw[mGet,if_pos rfl]
   exact atKey_put_same (k:=.string s) (Jo7 r) True.intro _ _
  ·have hne:Lit.string s≠Lit.string k:=fun q=>e (by cases q; rfl)
   rw[mGet,if_neg e]
   exact(atKey_put_other hne _ _).trans (JsN s z r)
theorem Zk{w w':World}{P:Program}{k:TypeId}{b n:Nat}{D:DataW Unit}(h:w.ownsMap P k anyE b n D)(hb:w'.heap[b]? = w.heap[b]?):w'.ownsMap P k anyE b n D:=by
 obtain⟨es,clock,h1,h2⟩:=h
 exact⟨es,clock,hb.trans h1,h2⟩
def KSp(P:Program)(k el:TypeId)(L:List ME)(w:World)(μ:Nat→Prop)(b cap:Nat)(cs:Array Value)(ms:List Nat):Prop :=
 w.heap[b]? = some (.cells cs el (0,0))∧μ b∧L.length≤cap∧cap≤maxLen∧cs.size=cap∧ms.length=L.length∧cs.toList.take L.length=ms.map (fun m=>Value.map (some m))∧ms.Nodup∧b∉ms ∧
  ∀ (i m:Nat) (l:ME),ms[i]? = some m→L[i]? = some l→μ m∧w.ownsMap P k anyE m l.length (dM l)
def KS(P:Program)(k el:TypeId)(L:List ME):KP where
 p w v μ:=∃ b cap cs ms,v=.slice (some ⟨b,0,none⟩) L.length cap∧KSp P k el L w μ b cap cs ms
 fr:=by
  rintro w w' v μ μ' ⟨b,cap,cs,ms,hv,h1,h2,h3,h4,h5,h6,h7,h8,h9,h10⟩ hs hm
  exact⟨b,cap,cs,ms,hv,(hs b h2).trans h1,hm b h2,h3,h4,h5,h6,h7,h8,h9,fun i m l q1 q2=>let ⟨a1,a2⟩:=h10 i m l q1 q2; ⟨hm m a1,Zk a2 (hs m a1)⟩⟩
section
variable {P:Program} {k el:TypeId} {L:List ME} {w w':World} {μ:Nat→Prop} {b cap:Nat} {cs:Array Value} {ms:List Nat}
theorem KSp.at(h:KSp P k el L w μ b cap cs ms){i:Nat}{l:ME}(hi:L[i]? = some l):∃ m,ms[i]? = some m∧cs[i]? = some (.map (some m))∧w.cell? ⟨b,i,none⟩=some (.map (some m))∧μ m∧w.ownsMap P k anyE m l.length (dM l):=by
 obtain⟨h1,h2,h3,h4,h5,h6,h7,h8,h9,h10⟩:=h
 have hlt:=(List.getElem?_eq_some_iff.1 hi).1
 have hm:ms[i]? = some ms[i]:=List.getElem?_eq_getElem (by omega)
 have hc:cs[i]? = some (.map (some ms[i])):=by
  have:(cs.toList.take L.length)[i]? = some (.map (some ms[i])):=by rw[h7,List.getElem?_map,hm]; rfl
  rw[List.getElem?_take_of_lt hlt]at this
  simpa using this
 exact⟨_,hm,hc,by simpa [World.cell?,h1] using hc,h10 i _ l hm hi⟩
theorem KSp.pop{l:ME}(h:KSp P k el (L++[l]) w μ b cap cs ms):KSp P k el L w μ b cap cs (ms.take L.length):=by
 obtain⟨h1,h2,h3,h4,h5,h6,h7,h8,h9,h10⟩:=h
 simp only[List.length_append,List.length_cons,List.length_nil]at h3 h6 h7
 refine⟨h1,h2,by omega,h4,h5,by rw[List.length_take]; omega,?_,h8.sublist (List.take_sublist _ _),fun hb=>h9 (List.mem_of_mem_take hb),fun i m l' q1 q2=>?_⟩
 ·rw[List.map_take,← h7,List.take_take,Nat.min_eq_left (by omega)]
 ·have hlt:=(List.getElem?_eq_some_iff.1 q2).1
  rw[List.getElem?_take_of_lt hlt]at q1
  exact h10 i m l' q1 (by rw[List.getElem?_append_left hlt]; exact q2)
theorem KSp.put(h:KSp P k el L w μ b cap cs ms){i m:Nat}{l l':ME}(hi:L[i]? = some l)(hm:ms[i]? = some m)(hg:∀ j,j<w.heap.size→j≠m→w'.heap[j]? = w.heap[j]?)
  (hown:w'.ownsMap P k anyE m l'.length (dM l')):KSp P k el (L.set i l') w' μ b cap cs ms:=by
 obtain⟨h1,h2,h3,h4,h5,h6,h7,h8,h9,h10⟩:=h
 have hlt:=(List.getElem?_eq_some_iff.1 hi).1
 have hmm:m∈ms:=List.mem_of_getElem? hm
 have hbm:b≠m:=fun he=>h9 (he ▸ hmm)
 refine⟨(hg b (Array.getElem?_eq_some_iff.1 h1).1 hbm).trans h1,h2,by simpa using h3,h4,h5,by simpa using h6,by simpa using h7,h8,h9,fun j a l2 q1 q2=>?_⟩
 by_cases hij:j=i
 ·subst hij
  rw[hm]at q1; cases q1
  rw[List.getElem?_set_self hlt]at q2; cases q2
  exact⟨(h10 j m l hm hi).1,hown⟩
 ·rw[List.getElem?_set_ne (Ne.symm hij)]at q2
  obtain⟨a1,a2⟩:=h10 j a l2 q1 q2
  refine⟨a1,Zk a2 (hg a a2.lt (fun he=>hij ?_))⟩
  subst he
  exact(List.getElem?_inj (List.getElem?_eq_some_iff.1 q1).1 h8).1 (q1.trans hm.symm)
theorem KSp.push(h:KSp P k el L w μ b cap cs ms){m b' cap':Nat}{cs':Array Value}(hm:w'.ownsMap P k anyE m 0 (.map []))(hmn:m∉ms)(hbm:b'≠m)(hb':b'∉ms)(hrow:w'.heap[b']? = some (.cells cs' el (0,0)))
  (hcap:L.length+1≤cap') (hmax:cap'≤maxLen) (hsz:cs'.size=cap') (htake:cs'.toList.take (L.length+1)=cs.toList.take L.length++[.map (some m)])
  (hg:∀ j∈ms,w'.heap[j]? = w.heap[j]?):KSp P k el (L++[[]]) w' (fun x=>μ x∨x=m∨x=b') b' cap' cs' (ms++[m]):=by
 obtain⟨h1,h2,h3,h4,h5,h6,h7,h8,h9,h10⟩:=h
 refine⟨hrow,.inr (.inr rfl),by simpa using hcap,hmax,hsz,by simp[h6],?_,?_,?_,fun i a l q1 q2=>?_⟩
 ·simp only[List.length_append,List.length_cons,List.length_nil,List.map_append,List.map_cons,List.map_nil]
  rw[Nat.zero_add,htake,h7]
 ·rw[List.nodup_append]
  exact⟨h8,by simp,fun x hx y hy=>by simp at hy; subst hy; exact fun he=>hmn (he ▸ hx)⟩
 ·simp only[List.mem_append,List.mem_singleton,not_or]
  exact⟨hb',hbm⟩
 ·rcases Nat.lt_or_ge i ms.length with hlt | hge
  ·rw[List.getElem?_append_left hlt]at q1
   rw[List.getElem?_append_left (by omega)]at q2
   obtain⟨a1,a2⟩:=h10 i a l q1 q2
   exact⟨.inl a1,Zk a2 (hg a (List.mem_of_getElem? q1))⟩
  ·rw[List.getElem?_append_right hge]at q1
   rw[List.getElem?_append_right (by omega)]at q2
   have hi:i-ms.length=0:=by
    have:=(List.getElem?_eq_some_iff.1 q1).1
    simp at this; omega
   rw[hi]at q1
   rw[show i-L.length=0 by omega]at q2
   simp at q1 q2
   subst q1; subst q2
   exact⟨.inr (.inl rfl),hm⟩
theorem KSp.one{m b:Nat}{cs:Array Value}(hm:w.ownsMap P k anyE m 0 (.map []))(hbm:b≠m)(hrow:w.heap[b]? = some (.cells cs el (0,0)))(hcs:cs=#[.map (some m)]):
  KSp P k el [[]] w (fun x=>x=m∨x=b) b 1 cs [m]:=by
 subst hcs
 refine⟨hrow,.inr rfl,Nat.le_refl _,by unfold maxLen; omega,rfl,rfl,rfl,by simp,by simpa using hbm,fun i a l q1 q2=>?_⟩
 cases i with
 | succ i=>simp at q1
 | zero =>
  simp at q1 q2
  subst q1; subst q2
  exact⟨.inl rfl,hm⟩
end
end Go.Proofs.Ytaofbminodhcnaa
