/- What the scope gives for a text. Plain. -/
import Derived.Test.YtaofbminodhcnaaZcbd
import Derived.Test.YtaofbminodhcnaaZcbh
set_option linter.unusedVariables false
set_option linter.unusedSimpArgs false
namespace Go.Proofs.Ytaofbminodhcnaa
open Go.RowKit
theorem JqR(c:UInt8):letB c=Jcp c:=by
 apply Bool.eq_iff_iff.2
 simp only[letB,Jcp,Bool.or_eq_true,Bool.and_eq_true,decide_eq_true_eq,beq_iff_eq,UInt8.le_iff_toNat_le]
 constructor
 ·rintro ((h | h) | h)
  ·exact .inl h
  ·exact .inr (.inl h)
  ·exact .inr (.inr (by rw[h]; rfl))
 ·rintro (h | h | h)
  ·exact .inl (.inl h)
  ·exact .inl (.inr h)
  ·exact .inr (UInt8.toNat_inj.1 h)
theorem Jsa{u:List UInt8}{p:Bool}{n:Nat}(h:JbB u p=(5,some n)):∃ c r,u=c::r∧Jcp c=false∧0<n:=by
 unfold JbB at h
 split at h
 ·cases h
 ·rename_i c r
  split at h
  ·simp only[Prod.mk.injEq]at h; exact absurd h.1 (by decide)
  ·rename_i hc
   refine⟨c,r,rfl,by simpa using hc,?_⟩
   split at h
   ·simp only[Prod.mk.injEq]at h; exact absurd h.1 (by decide)
   split at h
   ·simp only[Prod.mk.injEq]at h; exact absurd h.1 (by decide)
   split at h
   ·simp only[Prod.mk.injEq]at h; exact absurd h.1 (by decide)
   split at h
   ·simp only[Prod.mk.injEq]at h; exact absurd h.1 (by decide)
   split at h
   ·rename_i hs
    simp only[Prod.mk.injEq,Option.some.injEq]at h
    omega
   ·simp only[Prod.mk.injEq]at h; exact absurd h.1 (by decide)
theorem Jwc(s:List UInt8):TokOk (Jcf 0 s).1:=by
 obtain⟨h1,h2,h3⟩:=Jqx 0 s
 have gm:∀ p,p<(Jcf 0 s).1.length→(Jcf 0 s).1.getD p default∈(Jcf 0 s).1:=fun p hp=>by
  rw[List.getD_eq_getElem?_getD,List.getElem?_eq_getElem hp]
  exact List.getElem_mem _
 refine⟨h1,fun p hp hk=>?_,fun p hp hk=>?_,fun p hp=>?_⟩
 ·obtain⟨u,path,n,g1,g2⟩:=Jkd 0 s _ (gm p hp)
  rw[hk]at g1
  obtain⟨c,r,rfl,g3,rfl⟩:=Jsn g1
  have g4:isWd c=true:=by simp[isWd,g3]
  have g5:(c::r).take (runN isWd (c::r))=c::r.take (runN isWd r):=by
   simp[runN,g4]
  rw[g2,g5]
  simp only[Jf8]
  rw[JqR,g3]
 ·obtain⟨u,path,n,g1,g2⟩:=Jkd 0 s _ (gm p hp)
  rw[hk]at g1
  obtain⟨c,r,rfl,g3,g4⟩:=Jsa g1
  obtain⟨m,rfl⟩:∃ m,n=m+1:=⟨n-1,by omega⟩
  rw[g2,List.take_succ_cons]
  simp only[Jf8]
  rw[JqR,g3]
 ·have:=(h2 _ (gm p hp)).1
  omega
theorem Jxb(s:List UInt8):JbJ s=some (Jcf 0 s).1:=by
 unfold JbJ
 by_cases hs:s.length≤1099511627776
 ·rw[JsG 0 s hs]
  rfl
 ·unfold Z7 Jcf
  rw[if_pos (show 3000<s.length by omega),if_pos (by simp only[ltI,decide_eq_true_eq]; omega)]
  rfl
section
variable {l:TL}
theorem Jxj{n:Nat}{t:Int}:t∈nms l 0 n↔∃ i,i<n∧Xo l i=true∧t=(i:Int):=by
 unfold nms
 simp only[List.mem_map,List.mem_filter,List.mem_range'_1,Nat.sub_zero,Nat.zero_add,Nat.zero_le,true_and]
 constructor
 ·rintro ⟨i,⟨h1,h2⟩,h3⟩; exact⟨i,h1,h2,h3.symm⟩
 ·rintro ⟨i,h1,h2,h3⟩; exact⟨i,⟨h1,h2⟩,h3.symm⟩
theorem Jxs(hl:TokOk l):Up l (nms l 0 l.length):=by
 refine⟨?_,fun t ht=>?_,?_⟩
 ·unfold nms
  refine List.Pairwise.map _ (fun a b h=>?_) ((List.pairwise_lt_range' (n:=l.length-0) (s:=0)).filter _)
  exact Int.ofNat_lt.2 h
 ·obtain⟨i,h1,h2,rfl⟩:=Jxj.1 ht
  omega
 ·unfold nms
  have:=List.length_filter_le (Xo l) (List.range' 0 (l.length-0))
  have hn:=hl.len
  rw[List.length_range']at this
  rw[List.length_map]
  omega
theorem OI.sl{K:List KD}{out:List Bind}{T:List Int}(h:OI l K out T)(hu:Up l T):SL out:=by
 refine⟨by rw[h.len]; exact hu.2.2,fun i j hij hj=>?_⟩
 have hp:=hu.1
 rw[← h.tok]at hp
 have hp:=List.pairwise_map.1 hp
 have:=List.pairwise_iff_getElem.1 hp i j (by omega) hj hij
 rw[List.getD_eq_getElem?_getD,List.getElem?_eq_getElem (by omega),List.getD_eq_getElem?_getD,List.getElem?_eq_getElem hj]
 exact this
theorem SL.inj{b:List Bind}(h:SL b){x y:Bind}(hx:x∈b)(hy:y∈b)(e:x.Tok=y.Tok):x=y:=by
 obtain⟨i,hi,rfl⟩:=List.mem_iff_getElem.1 hx
 obtain⟨j,hj,rfl⟩:=List.mem_iff_getElem.1 hy
 have e1:b[i]=b.getD i default:=by rw[List.getD_eq_getElem?_getD,List.getElem?_eq_getElem hi]; rfl
 have e2:b[j]=b.getD j default:=by rw[List.getD_eq_getElem?_getD,List.getElem?_eq_getElem hj]; rfl
 rw[e1,e2]at e
 rcases Nat.lt_trichotomy i j with h1 | h1 | h1
 ·have:=h.2 i j h1 hj; omega
 ·subst h1; rfl
 ·have:=h.2 j i h1 hi; omega
end
end Go.Proofs.Ytaofbminodhcnaa
