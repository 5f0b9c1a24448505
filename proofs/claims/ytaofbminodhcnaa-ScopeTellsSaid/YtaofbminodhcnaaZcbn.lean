/- ScopeTells: both scopes answer alike. Plain. -/
import Derived.Test.YtaofbminodhcnaaZcbm
set_option linter.unusedVariables false
set_option linter.unusedSimpArgs false
namespace Go.Proofs.Ytaofbminodhcnaa
open Go.RowKit
section
variable {l:TL}
theorem JkA{s v:Int}:∀ {L:MI},iGet L s=some v→(s,v)∈L
 | (k,w)::r,h=>by
  rw[iGet]at h
  split at h
  ·rename_i e; cases h; subst e; simp
  ·exact List.mem_cons_of_mem _ (JkA h)
theorem Jo6{s v:Int}:∀ {L:MI},(s,v)∈L→∃ w,iGet L s=some w
 | (k,w)::r,h=>by
  rw[iGet]
  split
  ·exact⟨_,rfl⟩
  ·rename_i e
   rcases List.mem_cons.1 h with h | h
   ·cases h; exact absurd rfl e
   ·exact Jo6 h
theorem JlK{out:List Bind}{s v:Int}:(s,v)∈mOf out↔(⟨s,v⟩:Bind)∈out:=by
 unfold mOf
 rw[List.mem_reverse,List.mem_map]
 constructor
 ·rintro ⟨b,h1,h2⟩
  cases h2
  exact h1
 ·intro h
  exact⟨_,h,rfl⟩
theorem JwG{out:List Bind}(h:SL out){b:Bind}(hb:b∈out):iGet (mOf out) b.Tok=some b.Decl:=by
 obtain⟨w,hw⟩:=Jo6 (JlK.2 hb)
 have:=h.inj (JlK.1 (JkA hw)) hb rfl
 rw[hw]
 exact congrArg some (congrArg Bind.Decl this)
theorem JwA{out:List Bind}{s:Int}(hb:∀ b∈out,b.Tok≠s):iGet (mOf out) s=none:=by
 cases h:iGet (mOf out) s with
 | none=>rfl
 | some w=>exact absurd rfl (hb _ (JlK.1 (JkA h)))
theorem Ju8{out:List Bind}(h:SL out){r:GO}(hr:r.2.2.2.2.2=mOf out)(hn:l.length≤3000)(hb:∀ b∈out,0≤b.Tok∧b.Tok<(l.length:Int)):∀ (n i k:Nat),l.length-i=n→i≤l.length→k≤out.length→(∀ j,j<k→(out.getD j default).Tok<(i:Int))→(∀ j,k≤j→j<out.length→(i:Int)≤(out.getD j default).Tok)→Jt (XY r) (out.take k,(l.length:Int),(i:Int))=some (out,(⟨r.2.2.1,r.2.2.2.1,r.2.2.2.2.1⟩:Fault)):=by
 have hl:=h.1
 intro n
 induction n with
 | zero =>
  intro i k hi hi2 hk g1 g2
  have hk2:k=out.length:=by
   rcases Nat.lt_or_ge k out.length with hlt | hge
   ·have:=g2 k (Nat.le_refl _) hlt
    have:=(hb _ (JfI hlt)).2
    omega
   ·omega
  rw[Ky]
  simp only[XY,ltI,decide_eq_true_eq]
  rw[if_neg (by omega),Vk,hk2,List.take_length]
 | succ n ih =>
  intro i k hi hi2 hk g1 g2
  have q1:l.length-(i+1)=n:=by omega
  have q2:i+1≤l.length:=by omega
  rw[Ky]
  simp only[XY,ltI,decide_eq_true_eq,hr]
  rw[if_pos (by omega),if_pos (by omega)]
  by_cases hx:k<out.length∧(out.getD k default).Tok=(i:Int)
  ·obtain⟨hx1,hx2⟩:=hx
   have hg:=JwG h (JfI hx1)
   rw[hx2]at hg
   have hb2:(⟨(i:Int),(out.getD k default).Decl⟩:Bind)=out.getD k default:=by rw[← hx2]
   unfold iHas ZQ
   rw[hg]
   simp only[Option.isSome_some,if_true,Option.getD_some]
   rw[if_pos (by rw[List.length_take]; simp; omega)]
   simp only[XZ,hb2]
   rw[wP (by unfold BL; omega),V9]
   have et:out.take k++[out.getD k default]=out.take (k+1):=by
    rw[List.getD_eq_getElem?_getD,List.getElem?_eq_getElem hx1,Option.getD_some]
    exact List.take_append_getElem hx1
   rw[et]
   refine ih (i+1) (k+1) q1 q2 hx1 (fun j hj=>?_) (fun j hj hj2=>?_)
   ·by_cases e:j=k
    ·rw[e,hx2]; omega
    ·have:=g1 j (by omega); omega
   ·have:=h.2 k j (by omega) hj2
    omega
  ·have hno:iGet (mOf out) (i:Int)=none:=JwA fun b hb2 e=>by
    obtain⟨j,hj,rfl⟩:=List.mem_iff_getElem.1 hb2
    have ej:out[j]=out.getD j default:=by rw[List.getD_eq_getElem?_getD,List.getElem?_eq_getElem hj]; rfl
    rw[ej]at e
    by_cases hjk:j<k
    ·have:=g1 j hjk; omega
    ·by_cases ejk:j=k
     ·exact hx ⟨by omega,by rw[← ejk]; exact e⟩
     ·have h1:=g2 k (Nat.le_refl _) (by omega)
      have:=h.2 k j (by omega) hj
      omega
   unfold iHas
   rw[hno]
   simp only[Option.isSome_none,Bool.false_eq_true,if_false,XZ]
   rw[wP (by unfold BL; omega),V9]
   refine ih (i+1) k q1 q2 hk (fun j hj=>by have:=g1 j hj; omega) (fun j hj hj2=>?_)
   have h1:=g2 j hj hj2
   by_cases e:j=k
   ·subst e
    have:(out.getD j default).Tok≠(i:Int):=fun e=>hx ⟨hj2,e⟩
    omega
   ·have h2:=g2 k (Nat.le_refl _) (by omega)
    have:=h.2 k j (by omega) hj2
    omega
theorem JtW(b:List Bind)(hb:b.length≤BL):∀ (n i:Nat),b.length-i=n→i≤b.length→Jt (Xv b b) ((b.length:Int),(i:Int))=some true:=by
 intro n
 induction n with
 | zero =>
  intro i hn hi
  rw[Ky]
  simp only[Xv,ltI,decide_eq_true_eq]
  rw[if_neg (by omega),Vk]
 | succ n ih =>
  intro i hn hi
  rw[Ky]
  simp only[Xv,ltI,decide_eq_true_eq,Int.toNat_natCast,eqI,decide_true,Bool.and_self,Bool.not_true,Bool.false_eq_true,if_false]
  rw[if_pos (by omega),if_pos (by omega),if_pos (by omega),wP (by omega),V9]
  exact ih (i+1) (by omega) (by omega)
theorem JwM(b:List Bind)(hb:b.length≤BL):Zq b b=some true:=by
 unfold Zq
 rw[if_neg (by simp[eqI])]
 exact JtW b hb _ 0 rfl (Nat.zero_le _)
theorem JuH(b:List Bind)(hb:b.length≤BL)(t:Int):∀ (n i:Nat),b.length-i=n→i≤b.length→(∀ j,j<i→(b.getD j default).Tok≠t)→∃ v,Jt (JbK b t) ((b.length:Int),(i:Int))=some v∧((∃ x∈b,x.Tok=t∧v=x.Decl)∨(v=-1∧∀ x∈b,x.Tok≠t)):=by
 intro n
 induction n with
 | zero =>
  intro i hn hi h
  rw[Ky]
  simp only[JbK,ltI,decide_eq_true_eq]
  rw[if_neg (by omega),Vk]
  refine⟨_,rfl,.inr ⟨rfl,fun x hx=>?_⟩⟩
  obtain⟨j,hj,rfl⟩:=List.mem_iff_getElem.1 hx
  have ej:b[j]=b.getD j default:=by rw[List.getD_eq_getElem?_getD,List.getElem?_eq_getElem hj]; rfl
  rw[ej]
  exact h j (by omega)
 | succ n ih =>
  intro i hn hi h
  rw[Ky]
  simp only[JbK,ltI,decide_eq_true_eq,Int.toNat_natCast,eqI]
  rw[if_pos (by omega),if_pos (by omega)]
  by_cases e:(b.getD i default).Tok=t
  ·rw[if_pos e,Vk]
   exact⟨_,rfl,.inl ⟨_,JfI (by omega),e,rfl⟩⟩
  ·rw[if_neg e,wP (by omega),V9]
   refine ih (i+1) (by omega) (by omega) fun j hj=>?_
   by_cases ej:j=i
   ·rw[ej]; exact e
   ·exact h j (by omega)
theorem Jww{b:List Bind}(h:SL b)(t:Int):∃ v,Jer b t=some v∧Jdz b t=some v:=by
 have hb:=h.1
 obtain⟨v,h1,h2⟩:=Jyb h t
 obtain⟨w,g1,g2⟩:=JuH b (by unfold BL; omega) t _ 0 rfl (Nat.zero_le _) (fun j hj=>by omega)
 have g1:Jdz b t=some w:=g1
 refine⟨v,h1,?_⟩
 rw[g1]
 rcases h2 with⟨x,x1,x2,x3⟩|⟨x1,x2⟩
 ·rcases g2 with⟨y,y1,y2,y3⟩|⟨y1,y2⟩
  ·rw[x3,y3,h.inj x1 y1 (x2.trans y2.symm)]
  ·exact absurd x2 (y2 x x1)
 ·rcases g2 with⟨y,y1,y2,y3⟩|⟨y1,y2⟩
  ·exact absurd y2 (x2 y y1)
  ·rw[x1,y1]
theorem Jti(hl:TokOk l){x:Node}(hw:TW l x)(hu:Up l (vis l x))(hz:nsz x≤100000):∃ (b:List Bind) (e f a:Int),SL b∧JbI l x=some (b,e,f,a)∧Jav l x=some (b,(⟨e,f,a⟩:Fault)):=by
 have hbl:BL=1000000000000:=rfl
 have h0:SI l [] [] [] []:=⟨⟨rfl,nofun,fun m hm=>by
  obtain rfl:=List.mem_singleton.1 hm
  exact⟨Nat.zero_le _,nofun⟩,by simp⟩,by simp[KN]⟩
 obtain⟨r,y,h1,h2,h3⟩:=Jvd hl (nsz x) x (Nat.le_refl _) hw bigF bigF (by unfold bigF; omega) (by unfold bigF; omega) (nsz x) (Nat.le_refl _) hz (3000+nsz x) (Nat.le_refl _) (by omega) [] [] [] [] (-1) 0 h0 (by simpa using hu) (by simp; omega)
 rw[List.nil_append]at h3
 have h1:JaS x l [[]] []=some r:=h1
 have h2:Jcv [] [] x l 0 (-1) 0 []=some y:=h2
 unfold JbI Jav
 rw[h1,h2,Option.bind_some]
 cases r with
 | ok o =>
  obtain⟨top,e1,e2,e3⟩:=h3
  have hs:=e3.o.sl hu
  simp only[Go.Proofs.Ytaofbminodhcnaa.grB]
  rw[Jwa hs,Option.bind_some]
  have y1:y.2.2.1=0:=congrArg (fun z:ST=>z.1) e2
  have y2:y.2.2.2.1=-1:=congrArg (fun z:ST=>z.2.1) e2
  have y3:y.2.2.2.2.1=0:=congrArg (fun z:ST=>z.2.2.1) e2
  have y4:y.2.2.2.2.2=mOf o.2:=congrArg (fun z:ST=>z.2.2.2.1) e2
  refine⟨o.2,0,-1,0,hs,rfl,?_⟩
  rw[if_neg (by rw[y1]; decide)]
  have:=Ju8 (l:=l) hs y4 hl.len (fun b hb=>hu.2.1 _ (by rw[← e3.o.tok]; exact List.mem_map.2 ⟨_,hb,rfl⟩)) l.length 0 0 rfl (Nat.zero_le _) (Nat.zero_le _) (fun j hj=>by omega) (fun j h1 h2=>(hu.2.1 _ (by rw[← e3.o.tok]; exact List.mem_map.2 ⟨_,JfI h2,rfl⟩)).1)
  rw[List.take_zero,y1,y2,y3]at this
  exact this
 | er e =>
  obtain⟨e0,e1,e2,e3,_,_⟩:=h3
  have y1:y.2.2.1=e.1:=e1
  have y2:y.2.2.2.1=e.2.1:=e2
  have y3:y.2.2.2.2.1=e.2.2.1:=e3
  simp only[Go.Proofs.Ytaofbminodhcnaa.grB]
  refine⟨[],e.1,e.2.1,e.2.2.1,⟨Nat.zero_le _,fun i j _ h=>by simp at h⟩,rfl,?_⟩
  rw[if_pos (by rw[y1]; simp[eqI,e0]),y1,y2,y3]
end
theorem Jox(s:List UInt8)(t:Int):Jbz s t=some true:=by
 have hl:=Jwc s
 have hn:=hl.len
 obtain⟨x,h1,h2⟩:=Ju3 hl
 unfold Jbz
 rw[Jxb,Option.bind_some,h1,Option.bind_some]
 rcases h2 with⟨h3,h4⟩|⟨h3,ks,h4,h5⟩
 ·rw[if_pos (by simp[eqI,h3])]
 ·rw[if_neg (by simp[eqI,h3]),h4]
  obtain⟨k1,k2,k3,k4,k5⟩:=h5
  have hv:vis (Jcf 0 s).1 ⟨1,-1,ks⟩=nms (Jcf 0 s).1 0 (Jcf 0 s).1.length:=by rw[vis,if_neg (by decide),if_neg (by decide),List.nil_append,k4]
  obtain⟨b,e,f,a,g1,g2,g3⟩:=Jti hl (x:=⟨1,-1,ks⟩) (by rw[TW]; exact⟨fun h=>by omega,fun h=>by omega,fun h=>by omega,k3⟩) (by rw[hv]; exact Jxs hl) (by rw[nsz]; omega)
  rw[g2,Option.bind_some,g3,Option.bind_some,if_pos (by simp[eqI]),JwM b (by have:=g1.1; unfold BL; omega),Option.bind_some,if_pos rfl]
  obtain⟨v,q1,q2⟩:=Jww g1 t
  rw[q1,Option.bind_some,q2,Option.bind_some]
  simp[VW,eqI]
end Go.Proofs.Ytaofbminodhcnaa
