/- What the scope gives for a text. Plain. -/
import Derived.Test.YtaofbminodhcnaaZbay
import Derived.Test.YtaofbminodhcnaaZbbc
set_option linter.unusedVariables false
set_option linter.unusedSimpArgs false
namespace Go.Proofs.Ytaofbminodhcnaa
open Go.RowKit
theorem Jp7(c:UInt8):letB c=JbA c:=by
 apply Bool.eq_iff_iff.2
 simp only[letB,JbA,Bool.or_eq_true,Bool.and_eq_true,decide_eq_true_eq,beq_iff_eq,UInt8.le_iff_toNat_le]
 constructor
 ·rintro ((h | h) | h)
  ·exact .inl h
  ·exact .inr (.inl h)
  ·exact .inr (.inr (by rw[h]; rfl))
 ·rintro (h | h | h)
  ·exact .inl (.inl h)
  ·exact .inl (.inr h)
  ·exact .inr (UInt8.toNat_inj.1 h)
theorem JqC{u:List UInt8}{p:Bool}{n:Nat}(h:JaS u p=(5,some n)):∃ c r,u=c::r∧JbA c=false∧0<n:=by
 unfold JaS at h
 split at h
 ·cases h
 ·rename_i c r
  split at h
  ·simp only[Prod.mk.injEq]at h; exact absurd h.1 (by decide)
  ·rename_i hc
   refine⟨c,r,rfl,by simpa using hc,?_⟩
   split at h
   ·simp only[Prod.mk.injEq]at h; exact absurd h.1 (by decide)
   split at h
   ·simp only[Prod.mk.injEq]at h; exact absurd h.1 (by decide)
   split at h
   ·simp only[Prod.mk.injEq]at h; exact absurd h.1 (by decide)
   split at h
   ·simp only[Prod.mk.injEq]at h; exact absurd h.1 (by decide)
   split at h
   ·rename_i hs
    simp only[Prod.mk.injEq,Option.some.injEq]at h
    omega
   ·simp only[Prod.mk.injEq]at h; exact absurd h.1 (by decide)
theorem Jun(s:List UInt8):TokOk (Jct 0 s).1:=by
 obtain⟨h1,h2,h3⟩:=JoU 0 s
 have gm:∀ p,p<(Jct 0 s).1.length→(Jct 0 s).1.getD p default∈(Jct 0 s).1:=fun p hp=>by
  rw[List.getD_eq_getElem?_getD,List.getElem?_eq_getElem hp]
  exact List.getElem_mem _
 refine⟨h1,fun p hp hk=>?_,fun p hp hk=>?_,fun p hp=>?_⟩
 ·obtain⟨u,path,n,g1,g2⟩:=Ji9 0 s _ (gm p hp)
  rw[hk]at g1
  obtain⟨c,r,rfl,g3,rfl⟩:=JqR g1
  have g4:isWd c=true:=by simp[isWd,g3]
  have g5:(c::r).take (runN isWd (c::r))=c::r.take (runN isWd r):=by
   simp[runN,g4]
  rw[g2,g5]
  simp only[Jfd]
  rw[Jp7,g3]
 ·obtain⟨u,path,n,g1,g2⟩:=Ji9 0 s _ (gm p hp)
  rw[hk]at g1
  obtain⟨c,r,rfl,g3,g4⟩:=JqC g1
  obtain⟨m,rfl⟩:∃ m,n=m+1:=⟨n-1,by omega⟩
  rw[g2,List.take_succ_cons]
  simp only[Jfd]
  rw[Jp7,g3]
 ·have:=(h2 _ (gm p hp)).1
  omega
theorem Juw(s:List UInt8):Z3 s=some (Jct 0 s).1:=by
 unfold Z3
 by_cases hs:s.length≤1099511627776
 ·rw[JqX 0 s hs]
  rfl
 ·unfold ZA Jct
  rw[if_pos (show 3000<s.length by omega),if_pos (by simp only[ltI,decide_eq_true_eq]; omega)]
  rfl
section
variable {l:TL}
theorem Jkr{n:Nat}{t:Int}:t∈nms l 0 n↔∃ i,i<n∧Vg l i=true∧t=(i:Int):=by
 unfold nms
 simp only[List.mem_map,List.mem_filter,List.mem_range'_1,Nat.sub_zero,Nat.zero_add,Nat.zero_le,true_and]
 constructor
 ·rintro ⟨i,⟨h1,h2⟩,h3⟩; exact⟨i,h1,h2,h3.symm⟩
 ·rintro ⟨i,h1,h2,h3⟩; exact⟨i,⟨h1,h2⟩,h3.symm⟩
theorem JrW(hl:TokOk l):Up l (nms l 0 l.length):=by
 refine⟨?_,fun t ht=>?_,?_⟩
 ·unfold nms
  refine List.Pairwise.map _ (fun a b h=>?_) ((List.pairwise_lt_range' (n:=l.length-0) (s:=0)).filter _)
  exact Int.ofNat_lt.2 h
 ·obtain⟨i,h1,h2,rfl⟩:=Jkr.1 ht
  omega
 ·unfold nms
  have:=List.length_filter_le (Vg l) (List.range' 0 (l.length-0))
  have hn:=hl.len
  rw[List.length_range']at this
  rw[List.length_map]
  omega
theorem OI.sl{K:List KD}{out:List Bind}{T:List Int}(h:OI l K out T)(hu:Up l T):SL out:=by
 refine⟨by rw[h.len]; exact hu.2.2,fun i j hij hj=>?_⟩
 have hp:=hu.1
 rw[← h.tok]at hp
 have hp:=List.pairwise_map.1 hp
 have:=List.pairwise_iff_getElem.1 hp i j (by omega) hj hij
 rw[List.getD_eq_getElem?_getD,List.getElem?_eq_getElem (by omega),List.getD_eq_getElem?_getD,List.getElem?_eq_getElem hj]
 exact this
def RES(l:TL)(T:List Int)(r:List Bind×Int×Int×Int):Prop:=(r.2.1≠0∧r.1=[])∨(r.2.1=0∧∃ K,OI l K r.1 T)
theorem Jke(hl:TokOk l){x:Node}(hw:TW l x)(hu:Up l (vis l x))(hz:nsz x≤100000):Sm (Zh l x) (RES l (vis l x)):=by
 unfold Zh
 have h0:OI l [[]] [] []:=⟨rfl,nofun,fun m hm=>by
  obtain rfl:=List.mem_singleton.1 hm
  exact⟨Nat.zero_le _,nofun⟩,by simp⟩
 have h1:=Jug hl bigF x (by unfold bigF; omega) hw (nsz x) (Nat.le_refl _) hz [[]] [] [] h0 (by simpa using hu) (by simp[BL]; omega)
 rw[List.nil_append]at h1
 refine Sm.grB h1 (fun r hr=>?_) (fun e he=>?_)
 ·rw[JuJ (hr.1.sl hu),Option.bind_some]
  exact Sm.some (.inr ⟨rfl,_,hr.1⟩)
 ·exact Sm.some (.inl ⟨he,rfl⟩)
def PRes(l:TL)(er:Int)(r:List Bind×Int×Int×Int):Prop:=(r.2.1≠0∧r.1=[])∨(er≠0∧r.2.1=0∧r.1=[])∨(er=0∧r.2.1=0∧∃ K,OI l K r.1 (nms l 0 l.length))
theorem JuV(hl:TokOk l):∃ x r,Z4 l=some x∧Zh l x.1=some r∧PRes l x.2.Err r:=by
 obtain⟨x,h1,h2⟩:=JsW hl
 have hn:=hl.len
 rcases h2 with⟨h3,h4⟩|⟨h3,ks,h4,h5⟩
 ·obtain⟨r,g1,g2⟩:=Jke hl (x:=⟨0,0,[]⟩) (by rw[TW]; exact⟨fun _=>rfl,fun h=>by omega,fun h=>by omega,trivial⟩) (by rw[vis]; exact⟨.nil,nofun,Nat.zero_le _⟩) (by simp[nsz,nszs])
  refine⟨x,r,h1,by rw[h4]; exact g1,?_⟩
  rcases g2 with g2 | ⟨g2,K,g3⟩
  ·exact .inl g2
  ·refine .inr (.inl ⟨h3,g2,?_⟩)
   exact List.length_eq_zero_iff.1 g3.len
 ·obtain⟨k1,k2,k3,k4,k5⟩:=h5
  have hv:vis l ⟨1,-1,ks⟩=nms l 0 l.length:=by rw[vis,if_neg (by decide),if_neg (by decide),List.nil_append,k4]
  obtain⟨r,g1,g2⟩:=Jke hl (x:=⟨1,-1,ks⟩) (by rw[TW]; exact⟨fun h=>by omega,fun h=>by omega,fun h=>by omega,k3⟩) (by rw[hv]; exact JrW hl) (by rw[nsz]; omega)
  refine⟨x,r,h1,by rw[h4]; exact g1,?_⟩
  rcases g2 with g2 | ⟨g2,K,g3⟩
  ·exact .inl g2
  ·rw[hv]at g3
   exact .inr (.inr ⟨h3,g2,K,g3⟩)
theorem JuD:JbS=some true:=by decide +kernel
theorem SL.inj{b:List Bind}(h:SL b){x y:Bind}(hx:x∈b)(hy:y∈b)(e:x.Tok=y.Tok):x=y:=by
 obtain⟨i,hi,rfl⟩:=List.mem_iff_getElem.1 hx
 obtain⟨j,hj,rfl⟩:=List.mem_iff_getElem.1 hy
 have e1:b[i]=b.getD i default:=by rw[List.getD_eq_getElem?_getD,List.getElem?_eq_getElem hi]; rfl
 have e2:b[j]=b.getD j default:=by rw[List.getD_eq_getElem?_getD,List.getElem?_eq_getElem hj]; rfl
 rw[e1,e2]at e
 rcases Nat.lt_trichotomy i j with h1 | h1 | h1
 ·have:=h.2 i j h1 hj; omega
 ·subst h1; rfl
 ·have:=h.2 j i h1 hi; omega
theorem JsY(hl:TokOk l){K:List KD}{r:List Bind×Int×Int×Int}(h:OI l K r.1 (nms l 0 l.length)):∀ (n i:Nat),l.length-i=n→i≤l.length→Ju (VB l r) ((l.length:Int),(i:Int))=some true:=by
 have hu:=JrW hl
 have hs:=h.sl hu
 have hll:=hl.len
 intro n
 induction n with
 | zero =>
  intro i hn hi
  rw[XQ]
  simp only[VB,ltI,decide_eq_true_eq]
  rw[if_neg (by omega),JaN]
 | succ n ih =>
  intro i hn hi
  have hlt:i<l.length:=by omega
  have q1:l.length-(i+1)=n:=by omega
  have q2:i+1≤l.length:=by omega
  have q3:i≤BL:=by unfold BL; omega
  have q4:(i:Int)<(l.length:Int):=by omega
  have q5:(0:Int)≤(i:Int)∧i<l.length:=by omega
  obtain⟨v,hv,hv2⟩:=JvS hs (i:Int)
  have hvn:decide (0≤v)=Vg l i:=by
   rcases hv2 with⟨y,hy,hy1,hy2⟩|⟨h1,hn⟩
   ·have:=(h.dec y hy).1
    have hm:(i:Int)∈nms l 0 l.length:=by rw[← h.tok,← hy1]; exact List.mem_map.2 ⟨_,hy,rfl⟩
    obtain⟨j,j1,j2,j3⟩:=Jkr.1 hm
    have e:i=j:=by omega
    rw[e,j2,hy2]
    exact decide_eq_true this
   ·rw[h1]
    cases hni:Vg l i with
    | false=>rfl
    | true =>
     have hm:(i:Int)∈nms l 0 l.length:=Jkr.2 ⟨i,hlt,hni,rfl⟩
     rw[← h.tok]at hm
     obtain⟨y,hy,hy1⟩:=List.mem_map.1 hm
     exact absurd hy1 (hn y hy)
  have hend:∀ c,c=Vg l i→lpO (VB l r) (V9 (l.length:Int) (i:Int) (!eqB (decide (0≤v)) c))=some true:=by
   intro c hc
   rw[hvn,hc]
   simp only[V9,eqB,decide_true,Bool.not_true,Bool.false_eq_true,if_false]
   rw[wP q3,JbM]
   exact ih (i+1) q1 q2
  rw[XQ]
  simp only[VB,ltI,leI,decide_eq_true_eq,Int.toNat_natCast]
  rw[if_pos q4,if_pos q5,hv,Option.bind_some,Jsy,Option.bind_some]
  by_cases hk:(l.getD i default).Kind=1
  ·rw[if_pos (by simp only[eqI,hk,decide_true])]
   refine hend _ ?_
   simp only[Vg,eqI,hk,decide_true,Bool.true_and]
  ·rw[if_neg (by simp only[eqI,decide_eq_true_eq]; exact hk)]
   refine hend _ ?_
   simp only[Vg,eqI,decide_eq_false hk,Bool.false_and]
end
theorem JoD(s:List UInt8):Jbt s=some true:=by
 have hl:=Jun s
 obtain⟨x,r,h1,h2,h3⟩:=JuV hl
 unfold Jbt
 rw[JuD,Option.bind_some,if_neg (by decide),Juw,Option.bind_some,h1,Option.bind_some,h2,Option.bind_some]
 rcases h3 with⟨h3,h4⟩|⟨h3,h4,h5⟩|⟨h3,h4,K,h5⟩
 ·simp only[eqI,decide_eq_false h3,Bool.not_false,VC,if_true,ite_self,h4,List.length_nil]
  rfl
 ·simp only[eqI,decide_eq_false h3,Bool.not_false,VC,if_true,h5,List.length_nil]
  rfl
 ·simp only[eqI,h3,h4,decide_true,Bool.not_true,Bool.false_eq_true,if_false,VC]
  exact JsY hl h5 _ 0 rfl (Nat.zero_le _)
end Go.Proofs.Ytaofbminodhcnaa
