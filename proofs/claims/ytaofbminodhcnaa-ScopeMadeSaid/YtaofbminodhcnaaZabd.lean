/- What the scope gives for a text. Plain. -/
import Derived.Test.YtaofbminodhcnaaZaay
import Derived.Test.YtaofbminodhcnaaZabc
set_option linter.unusedVariables false
set_option linter.unusedSimpArgs false
namespace Go.Proofs.Ytaofbminodhcnaa
open Go.RowKit
theorem JpI(c:UInt8):letB c=Jbt c:=by
 apply Bool.eq_iff_iff.2
 simp only[letB,Jbt,Bool.or_eq_true,Bool.and_eq_true,decide_eq_true_eq,beq_iff_eq,UInt8.le_iff_toNat_le]
 constructor
 ·rintro ((h | h) | h)
  ·exact .inl h
  ·exact .inr (.inl h)
  ·exact .inr (.inr (by rw[h]; rfl))
 ·rintro (h | h | h)
  ·exact .inl (.inl h)
  ·exact .inl (.inr h)
  ·exact .inr (UInt8.toNat_inj.1 h)
theorem JqJ{u:List UInt8}{p:Bool}{n:Nat}(h:JaU u p=(5,some n)):∃ c r,u=c::r∧Jbt c=false∧0<n:=by
 unfold JaU at h
 split at h
 ·cases h
 ·rename_i c r
  split at h
  ·simp only[Prod.mk.injEq]at h; exact absurd h.1 (by decide)
  ·rename_i hc
   refine⟨c,r,rfl,by simpa using hc,?_⟩
   split at h
   ·simp only[Prod.mk.injEq]at h; exact absurd h.1 (by decide)
   split at h
   ·simp only[Prod.mk.injEq]at h; exact absurd h.1 (by decide)
   split at h
   ·simp only[Prod.mk.injEq]at h; exact absurd h.1 (by decide)
   split at h
   ·simp only[Prod.mk.injEq]at h; exact absurd h.1 (by decide)
   split at h
   ·rename_i hs
    simp only[Prod.mk.injEq,Option.some.injEq]at h
    omega
   ·simp only[Prod.mk.injEq]at h; exact absurd h.1 (by decide)
theorem Jub(s:List UInt8):TokOk (Jct 0 s).1:=by
 obtain⟨h1,h2,h3⟩:=JoE 0 s
 have gm:∀ p,p<(Jct 0 s).1.length→(Jct 0 s).1.getD p default∈(Jct 0 s).1:=fun p hp=>by
  rw[List.getD_eq_getElem?_getD,List.getElem?_eq_getElem hp]
  exact List.getElem_mem _
 refine⟨h1,fun p hp hk=>?_,fun p hp hk=>?_,fun p hp=>?_⟩
 ·obtain⟨u,path,n,g1,g2⟩:=Ji7 0 s _ (gm p hp)
  rw[hk]at g1
  obtain⟨c,r,rfl,g3,rfl⟩:=JqA g1
  have g4:isWd c=true:=by simp[isWd,g3]
  have g5:(c::r).take (runN isWd (c::r))=c::r.take (runN isWd r):=by
   simp[runN,g4]
  rw[g2,g5]
  simp only[Jfa]
  rw[JpI,g3]
 ·obtain⟨u,path,n,g1,g2⟩:=Ji7 0 s _ (gm p hp)
  rw[hk]at g1
  obtain⟨c,r,rfl,g3,g4⟩:=JqJ g1
  obtain⟨m,rfl⟩:∃ m,n=m+1:=⟨n-1,by omega⟩
  rw[g2,List.take_succ_cons]
  simp only[Jfa]
  rw[JpI,g3]
 ·have:=(h2 _ (gm p hp)).1
  omega
theorem Jt4(s:List UInt8):Z3 s=some (Jct 0 s).1:=by
 unfold Z3
 by_cases hs:s.length≤1099511627776
 ·rw[JqR 0 s hs]
  rfl
 ·unfold Zx Jct
  rw[if_pos (show 3000<s.length by omega),if_pos (by simp only[ltI,decide_eq_true_eq]; omega)]
  rfl
section
variable {l:TL}
theorem JtV{n:Nat}{t:Int}:t∈nms l 0 n↔∃ i,i<n∧VW l i=true∧t=(i:Int):=by
 unfold nms
 simp only[List.mem_map,List.mem_filter,List.mem_range'_1,Nat.sub_zero,Nat.zero_add,Nat.zero_le,true_and]
 constructor
 ·rintro ⟨i,⟨h1,h2⟩,h3⟩; exact⟨i,h1,h2,h3.symm⟩
 ·rintro ⟨i,h1,h2,h3⟩; exact⟨i,⟨h1,h2⟩,h3.symm⟩
theorem Jq2(hl:TokOk l):Up l (nms l 0 l.length):=by
 refine⟨?_,fun t ht=>?_,?_⟩
 ·unfold nms
  refine List.Pairwise.map _ (fun a b h=>?_) ((List.pairwise_lt_range' (n:=l.length-0) (s:=0)).filter _)
  exact Int.ofNat_lt.2 h
 ·obtain⟨i,h1,h2,rfl⟩:=JtV.1 ht
  omega
 ·unfold nms
  have:=List.length_filter_le (VW l) (List.range' 0 (l.length-0))
  have hn:=hl.len
  rw[List.length_range']at this
  rw[List.length_map]
  omega
theorem OI.sl{K:List KD}{out:List Bind}{T:List Int}(h:OI l K out T)(hu:Up l T):SL out:=by
 refine⟨by rw[h.len]; exact hu.2.2,fun i j hij hj=>?_⟩
 have hp:=hu.1
 rw[← h.tok]at hp
 have hp:=List.pairwise_map.1 hp
 have:=List.pairwise_iff_getElem.1 hp i j (by omega) hj hij
 rw[List.getD_eq_getElem?_getD,List.getElem?_eq_getElem (by omega),List.getD_eq_getElem?_getD,List.getElem?_eq_getElem hj]
 exact this
def RES(l:TL)(T:List Int)(r:List Bind×Int×Int×Int):Prop:=(r.2.1≠0∧r.1=[])∨(r.2.1=0∧∃ K,OI l K r.1 T)
theorem JjE(hl:TokOk l){x:Node}(hw:TW l x)(hu:Up l (vis l x))(hz:nsz x≤100000):Sm (Zi l x) (RES l (vis l x)):=by
 unfold Zi
 have h0:OI l [[]] [] []:=⟨rfl,nofun,fun m hm=>by
  obtain rfl:=List.mem_singleton.1 hm
  exact⟨Nat.zero_le _,nofun⟩,by simp⟩
 have h1:=JuO hl bigF x (by unfold bigF; omega) hw (nsz x) (Nat.le_refl _) hz [[]] [] [] h0 (by simpa using hu) (by simp[BL]; omega)
 rw[List.nil_append]at h1
 refine Sm.grB h1 (fun r hr=>?_) (fun e he=>?_)
 ·rw[Juv (hr.1.sl hu),Option.bind_some]
  exact Sm.some (.inr ⟨rfl,_,hr.1⟩)
 ·exact Sm.some (.inl ⟨he,rfl⟩)
def PRes(l:TL)(er:Int)(r:List Bind×Int×Int×Int):Prop:=(r.2.1≠0∧r.1=[])∨(er≠0∧r.2.1=0∧r.1=[])∨(er=0∧r.2.1=0∧∃ K,OI l K r.1 (nms l 0 l.length))
theorem Juu(hl:TokOk l):∃ x r,Z7 l=some x∧Zi l x.1=some r∧PRes l x.2.Err r:=by
 obtain⟨x,h1,h2⟩:=Js0 hl
 have hn:=hl.len
 rcases h2 with⟨h3,h4⟩|⟨h3,ks,h4,h5⟩
 ·obtain⟨r,g1,g2⟩:=JjE hl (x:=⟨0,0,[]⟩) (by rw[TW]; exact⟨fun _=>rfl,fun h=>by omega,fun h=>by omega,trivial⟩) (by rw[vis]; exact⟨.nil,nofun,Nat.zero_le _⟩) (by simp[nsz,nszs])
  refine⟨x,r,h1,by rw[h4]; exact g1,?_⟩
  rcases g2 with g2 | ⟨g2,K,g3⟩
  ·exact .inl g2
  ·refine .inr (.inl ⟨h3,g2,?_⟩)
   exact List.length_eq_zero_iff.1 g3.len
 ·obtain⟨k1,k2,k3,k4,k5⟩:=h5
  have hv:vis l ⟨1,-1,ks⟩=nms l 0 l.length:=by rw[vis,if_neg (by decide),if_neg (by decide),List.nil_append,k4]
  obtain⟨r,g1,g2⟩:=JjE hl (x:=⟨1,-1,ks⟩) (by rw[TW]; exact⟨fun h=>by omega,fun h=>by omega,fun h=>by omega,k3⟩) (by rw[hv]; exact Jq2 hl) (by rw[nsz]; omega)
  refine⟨x,r,h1,by rw[h4]; exact g1,?_⟩
  rcases g2 with g2 | ⟨g2,K,g3⟩
  ·exact .inl g2
  ·rw[hv]at g3
   exact .inr (.inr ⟨h3,g2,K,g3⟩)
theorem Juy:JbB=some true:=by decide +kernel
theorem SL.inj{b:List Bind}(h:SL b){x y:Bind}(hx:x∈b)(hy:y∈b)(e:x.Tok=y.Tok):x=y:=by
 obtain⟨i,hi,rfl⟩:=List.mem_iff_getElem.1 hx
 obtain⟨j,hj,rfl⟩:=List.mem_iff_getElem.1 hy
 have e1:b[i]=b.getD i default:=by rw[List.getD_eq_getElem?_getD,List.getElem?_eq_getElem hi]; rfl
 have e2:b[j]=b.getD j default:=by rw[List.getD_eq_getElem?_getD,List.getElem?_eq_getElem hj]; rfl
 rw[e1,e2]at e
 rcases Nat.lt_trichotomy i j with h1 | h1 | h1
 ·have:=h.2 i j h1 hj; omega
 ·subst h1; rfl
 ·have:=h.2 j i h1 hi; omega
theorem Jsr(hl:TokOk l){K:List KD}{r:List Bind×Int×Int×Int}{T:List Int}(h:OI l K r.1 T)(hu:Up l T):∀ (n i:Nat) (x:Int),r.1.length-i=n→i≤r.1.length→(i<r.1.length→x<(r.1.getD i default).Tok)→Jv (VQ l r) (x,(r.1.length:Int),(i:Int))=some true:=by
 have hs:=h.sl hu
 have hs1:=hs.1
 intro n
 induction n with
 | zero =>
  intro i x hn hi hx
  rw[XJ]
  simp only[VQ,ltI,decide_eq_true_eq]
  rw[if_neg (by omega),JaQ]
 | succ n ih =>
  intro i x hn hi hx
  have hlt:i<r.1.length:=by omega
  have hm:=Jii hlt
  have hx:=hx hlt
  have q1:r.1.length-(i+1)=n:=by omega
  have q2:i+1≤r.1.length:=by omega
  have q3:i≤BL:=by unfold BL; omega
  have hx2:i+1<r.1.length→(r.1.getD i default).Tok<(r.1.getD (i+1) default).Tok:=fun h=>hs.2 i (i+1) (by omega) h
  have hbt:(r.1.getD i default).Tok∈T:=by rw[← h.tok]; exact List.mem_map.2 ⟨_,hm,rfl⟩
  obtain⟨b1,b2⟩:=hu.2.1 _ hbt
  obtain⟨d1,d2,d3,d4⟩:=h.dec _ hm
  rw[XJ]
  simp only[VQ,ltI,leI,decide_eq_true_eq,Int.toNat_natCast]
  generalize r.1.getD i default=b at *
  obtain⟨v,hv,hv2⟩:=JvM hs b.Decl
  have hvd:v=b.Decl:=by
   rcases hv2 with⟨y,hy,hy1,hy2⟩|⟨_,hn⟩
   ·rw[hy2,hs.inj hy d4 hy1]
   ·exact absurd rfl (hn _ d4)
  clear hv2
  rw[if_pos (by omega),if_pos (by omega),if_neg (by omega),if_neg (by omega),if_neg (by omega),if_neg (by omega),if_pos (by omega),if_pos (by omega)]
  have ht:eqS (l.getD b.Tok.toNat default).Text (l.getD b.Decl.toNat default).Text=true:=by
   unfold eqS
   exact decide_eq_true d3
  rw[ht,if_neg (by decide),hv,hvd,Option.bind_some]
  simp only[KF,eqI,decide_true,Bool.not_true,Bool.false_eq_true,if_false]
  rw[wP q3,JbL]
  exact ih (i+1) b.Tok q1 q2 hx2
end
theorem Jng(s:List UInt8):Jbn s=some true:=by
 have hl:=Jub s
 obtain⟨x,r,h1,h2,h3⟩:=Juu hl
 unfold Jbn
 rw[Juy,Option.bind_some,if_neg (by decide),Jt4,Option.bind_some,h1,Option.bind_some,h2,Option.bind_some]
 rcases h3 with⟨h3,h4⟩|⟨h3,h4,h5⟩|⟨h3,h4,K,h5⟩
 ·simp only[eqI,decide_eq_false h3,Bool.not_false,Vo,if_true,ite_self]
 ·simp only[eqI,decide_eq_false h3,Bool.not_false,Vo,if_true]
 ·simp only[eqI,h3,h4,decide_true,Bool.not_true,Bool.false_eq_true,if_false,Vo]
  refine Jsr hl h5 (Jq2 hl) _ 0 (-1) rfl (Nat.zero_le _) (fun h0=>?_)
  have hm:=Jii h0
  obtain⟨d1,d2,_⟩:=h5.dec _ hm
  omega
end Go.Proofs.Ytaofbminodhcnaa
