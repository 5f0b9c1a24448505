/- From a function of data to a row of the statements. -/
import Derived.Test.YtaofbminodhcnaaZcag
import Derived.Test.YtaofbminodhcnaaZcbb
import Derived.Test.YtaofbminodhcnaaRows
import Derived.WalkKit
import Derived.ProofKit
import Derived.OpenShut
import Derived.JoinedCond
import Derived.ShutString
set_option linter.unusedVariables false
set_option linter.unusedSimpArgs false
namespace Go.Proofs.Ytaofbminodhcnaa
open Go.ChangeShapes Go.WideShapes Go.ChangeAt Go.RowKit
theorem own:ownKnob Try.prog.godebug=none:=by kernel_rfl
theorem Grows.below{w w':World}(h:Grows w w'):Below w.heap.size w w':=⟨h.os,h.tape,h.output,h.size,h.block⟩
theorem JoA{H:Type}{enc:TypeId×Value→H}{P:Program}{f:Func}{s:ChangeSpec}{fresh handsOn again:Bool}{W W':World}{args:Array Value}{v:Value}{ds gs:List (DataW H)}{before pa pv:List MemPlace}
  (hW:DataW.Whole enc P f.params.toList s.vars false W args.toList ds gs before)
  (hres:∀ (b:Nat) (sp:Nat→Bool) (hd:Bool),DataW.TrodAll enc P W' b sp hd f.resultTypes.toList (v.resultList f.resultTypes.size) (s.fn H (ds++gs)).results [])
  (hargs:∀ sp:Nat→Bool,(∀ p∈before,sp p.block=true)→DataW.TrodAll enc P W' 0 sp true f.params.toList args.toList (s.fn H (ds++gs)).args pa)
  (hvars:∀ sp:Nat→Bool,(∀ p∈before,sp p.block=true)→DataW.TrodVars enc P W' sp s.vars (s.fn H (ds++gs)).vars pv)
  (hps:before=pa++pv) (hg:Grows W W')
  (hok:∀ (j:Nat) (t:TypeId) (r:Value),f.resultTypes[j]? = some t→(v.resultList f.resultTypes.size)[j]? = some r→Value.okWide P W' .any 0 t r) :
  s.post enc P f false fresh handsOn again W args v W':=by
 have hlt:=hW.lt
 refine⟨ds,gs,before,[],pa,pv,hW,hres _ _ _,hargs _ (fun p hp=>by simpa using hlt p hp),hvars _ (fun p hp=>by simpa using hlt p hp),World.keptBut_mono (fun p hp=>⟨hp,?_⟩) (hg.below.frame (·∈before)),fun _=>?_⟩
 ·rw[hps,List.mem_append]at hp
  exact Or.inr hp
 ·obtain⟨_,_,_,_,_,hz,hn⟩:=hW
  refine⟨hok,_,_,([]++pa)++pv,⟨[]++pa,pv,trodAll_append (hargs _ (fun _ _=>rfl)) (hres _ _ _),hvars _ (fun _ _=>rfl),rfl,?_,?_⟩,?_⟩
  ·intro b off hp
   have hm:MemPlace.cell b off∈before:=by rw[hps]; simpa using hp
   have h1:=hz b off hm
   rw[hg.below.frozen (hlt _ hm)]
   exact h1
  ·intro ha; cases ha
  ·intro p hp _
   rw[hps]
   simpa using hp
end Go.Proofs.Ytaofbminodhcnaa
namespace Go.Proofs.Ytaofbminodhcnaa
open Go.RowKit
theorem Jof:∀ (n:Nat) (l:List UInt8) (i st:Nat) (f:Bool),(lxF n l i st f).1.length≤l.length∧∀ t∈(lxF n l i st f).1,t.txt.length≤l.length
 | 0,l,i,st,f=>by simp[lxF]
 | n+1,l,i,st,f=>by
  unfold lxF
  split
  ·simp
  split
  ·simp
  split
  ·simp
  ·rename_i kind m hp
   have hm:=Jpw hp
   have hd:(l.drop (skip l).1).length≤l.length:=by simp
   obtain⟨h1,h2⟩:=Jof n ((l.drop (skip l).1).drop m) (i+(skip l).1+m) (Jli st ((l.drop (skip l).1).take m) (f || (skip l).2.1)) false
   rw[List.length_drop]at h1 h2
   refine⟨?_,fun t ht=>?_⟩
   ·simp only[List.length_cons]; omega
   ·rcases List.mem_cons.1 ht with rfl | ht
    ·simp only[List.length_take]; omega
    ·have:=h2 t ht; omega
theorem Juy(n:Nat)(l:List UInt8)(i st:Nat)(t:Raw)(r:List Raw)(h:(lxF n l i st true).1=t::r):t.fst=true:=by
 cases n with
 | zero=>simp[lxF]at h
 | succ n =>
  unfold lxF at h
  split at h
  ·simp at h
  split at h
  ·simp at h
  split at h
  ·simp at h
  ·simp only[List.cons.injEq]at h
   rw[← h.1]; rfl
theorem Jqx(file:Int)(text:List UInt8):(Jcf file text).1.length≤3000∧(∀ t∈(Jcf file text).1,t.Text.length≤3000∧t.Hide=[]∧t.Calls=[])∧∀ t r,(Jcf file text).1=t::r→t.First=true:=by
 unfold Jcf
 split
 ·simp
 ·rename_i h
  have hl:=Joy text
  obtain⟨h1,h2⟩:=Jof ((JC text).length+1) (JC text) 0 0 true
  have h3:=Juy ((JC text).length+1) (JC text) 0 0
  unfold raws
  generalize lxF ((JC text).length+1) (JC text) 0 0 true=z at *
  obtain⟨ts,o⟩:=z
  cases o with
  | none =>
   refine⟨by simp only[List.length_map]; simp only at h1; omega,fun t ht=>?_,fun t r e=>?_⟩
   ·obtain⟨a,ha,rfl⟩:=List.mem_map.1 ht
    exact⟨by have:=h2 a ha; show a.txt.length≤3000; omega,rfl,rfl⟩
   ·cases ts with
    | nil=>simp at e
    | cons a s =>
     simp only[List.map_cons,List.cons.injEq]at e
     rw[← e.1]
     exact h3 a s rfl
  | some p=>simp
theorem Jnj:∀ (n:Nat) (l:List UInt8) (i st:Nat) (f:Bool),∀ t∈(lxF n l i st f).1,∃ u path,JbB u path=(t.kind,some t.len)∧t.txt=u.take t.len
 | 0,l,i,st,f=>by simp[lxF]
 | n+1,l,i,st,f=>by
  unfold lxF
  split
  ·simp
  split
  ·simp
  split
  ·simp
  ·rename_i kind m hp
   intro t ht
   rcases List.mem_cons.1 ht with rfl | ht
   ·exact⟨_,_,hp,rfl⟩
   ·exact Jnj n _ _ _ _ t ht
theorem Jkd(file:Int)(text:List UInt8):∀ t∈(Jcf file text).1,∃ u path n,JbB u path=(t.Kind,some n)∧t.Text=u.take n:=by
 unfold Jcf
 split
 ·simp
 ·have h:=Jnj ((JC text).length+1) (JC text) 0 0 true
  unfold raws
  generalize lxF ((JC text).length+1) (JC text) 0 0 true=z at *
  obtain⟨ts,o⟩:=z
  cases o with
  | none =>
   intro t ht
   obtain⟨a,ha,rfl⟩:=List.mem_map.1 ht
   obtain⟨u,p,h1,h2⟩:=h a ha
   exact⟨u,p,_,h1,h2⟩
  | some p=>simp
theorem Jsn{u:List UInt8}{p:Bool}{n:Nat}(h:JbB u p=(1,some n)):∃ c r,u=c::r∧Jcp c=true∧n=runN isWd u:=by
 unfold JbB at h
 split at h
 ·cases h
 ·rename_i c r
  split at h
  ·rename_i hc
   exact⟨c,r,rfl,hc,by cases h; rfl⟩
  all_goals (repeat' (split at h)) <;> (simp only[Prod.mk.injEq]at h; exact absurd h.1 (by decide))
end Go.Proofs.Ytaofbminodhcnaa
