/- Sorting what is sorted; looking in what is sorted. -/
import Derived.Test.YtaofbminodhcnaaZcbg
set_option linter.unusedVariables false
set_option linter.unusedSimpArgs false
namespace Go.Proofs.Ytaofbminodhcnaa
open Go.RowKit
def SL(b:List Bind):Prop:=b.length≤3000∧∀ i j,i<j→j<b.length→(b.getD i default).Tok<(b.getD j default).Tok
theorem Jp6(a b:Int):Zo a b=some (if a<b then -1 else if b<a then 1 else 0):=by
 simp only[Zo,JbN,Option.bind_some,eqI,ltI,decide_true,Bool.not_true,Bool.false_eq_true,if_false,decide_eq_true_eq]
 split
 ·rfl
 ·split <;> rfl
section
variable {b:List Bind}
theorem res2(h:SL b){i j:Nat}(hij:i<j)(hj:j<b.length):V7 (b.getD j default) (b.getD i default)=some 1:=by
 have:=h.2 i j hij hj
 unfold V7
 rw[Jp6,if_neg (by omega),if_pos this]
 rfl
theorem Jvh(h:SL b):∀ (n i:Nat),b.length-i=n→1≤i→Jt (JZ b 0 (b.length:Int)) (i:Int)=some ():=by
 have hb:=h.1
 intro n
 induction n with
 | zero =>
  intro i hn hi
  rw[Ky]
  simp only[JZ,ltI,decide_eq_true_eq]
  rw[if_neg (by omega),Vk]
 | succ n ih =>
  intro i hn hi
  have hw:IntKind.i64.wrap ((i:Int)-1)=((i-1:Nat):Int):=by rw[wrI _ (by omega)]; omega
  have hw2:IntKind.i64.wrap ((i:Int)+1)=((i+1:Nat):Int):=wP (by unfold BL; omega)
  have hin:Jt (Kq b 0 (i:Int)) ()=some (.inl ((i+1:Nat):Int)):=by
   rw[Ky]
   simp only[Kq,ltI,decide_eq_true_eq,hw,Int.toNat_natCast]
   rw[if_pos (by omega),if_pos (by omega),if_pos (by omega),res2 h (show i-1<i by omega) (by omega),Option.bind_some]
   simp only[Km,hw2]
   rw[if_neg (by decide),Vk]
  rw[Ky]
  simp only[JZ,ltI,decide_eq_true_eq]
  rw[if_pos (by omega),hin,V9]
  exact ih (i+1) (by omega) (by omega)
theorem JuS(h:SL b):∀ (n i:Nat),b.length-i=n→1≤i→i≤b.length→Jt (JJ b 0 (b.length:Int)) (i:Int)=some (.inr true):=by
 have hb:=h.1
 intro n
 induction n with
 | zero =>
  intro i hn hi hl
  rw[Ky]
  simp only[JJ,ltI,decide_eq_true_eq]
  rw[if_neg (by omega)]
  simp only[JK,eqI,Bool.false_eq_true,if_false,decide_eq_true_eq]
  rw[Vk,if_pos (by omega)]
  rfl
 | succ n ih =>
  intro i hn hi hl
  have hw:IntKind.i64.wrap ((i:Int)-1)=((i-1:Nat):Int):=by rw[wrI _ (by omega)]; omega
  have hw2:IntKind.i64.wrap ((i:Int)+1)=((i+1:Nat):Int):=wP (by unfold BL; omega)
  rw[Ky]
  simp only[JJ,ltI,decide_eq_true_eq,hw,Int.toNat_natCast]
  rw[if_pos (by omega),if_pos (by omega),if_pos (by omega),res2 h (show i-1<i by omega) (by omega),Option.bind_some]
  simp only[JK,hw2]
  rw[if_pos (by decide),V9]
  exact ih (i+1) (by omega) (by omega) (by omega)
theorem Jxy(h:SL b)(h1:1≤b.length):JO b 0 (b.length:Int)=some true:=by
 unfold JO
 have hw:IntKind.i64.wrap ((0:Int)+1)=((1:Nat):Int):=wP (p:=0) (by decide)
 rw[hw,Ky]
 simp only[Ks]
 rw[JuS h _ 1 rfl (Nat.le_refl _) h1]
 rfl
theorem JpX(h:SL b){i j:Nat}(hij:i<j)(hj:j<b.length)(s:Int):J4 b (i:Int) (j:Int) s=some ((i:Int),(j:Int),s):=by
 unfold J4
 simp only[Int.toNat_natCast]
 rw[if_pos (by omega),if_pos (by omega),res2 h hij hj,Option.bind_some,if_neg (by decide)]
theorem Jul(h:SL b){i j k:Nat}(hij:i<j)(hjk:j<k)(hk:k<b.length)(s:Int):Kr b (i:Int) (j:Int) (k:Int) s=some ((j:Int),s):=by
 unfold Kr
 rw[JpX h hij (by omega),Option.bind_some]
 simp only
 rw[JpX h hjk hk,Option.bind_some]
 simp only
 rw[JpX h hij (by omega),Option.bind_some]
theorem JpU(h:SL b){i:Nat}(h0:0<i)(h1:i+1<b.length)(s:Int):JH b (i:Int) s=some ((i:Int),s):=by
 have hb:=h.1
 unfold JH
 have hw:IntKind.i64.wrap ((i:Int)-1)=((i-1:Nat):Int):=by rw[wrI _ (by omega)]; omega
 have hw2:IntKind.i64.wrap ((i:Int)+1)=((i+1:Nat):Int):=wP (by unfold BL; omega)
 rw[hw,hw2,Jul h (by omega) (by omega) (by omega),Option.bind_some]
theorem JxB(h:SL b)(h1:12<b.length):∃ p:Int,Kk b 0 (b.length:Int)=some (p,1):=by
 have hb:=h.1
 have e0:IntKind.i64.wrap ((b.length:Int)-0)=(b.length:Int):=by rw[wrI _ (by omega)]; omega
 have e4:Int.tdiv (b.length:Int) 4=((b.length / 4:Nat):Int):=rfl
 have ew:IntKind.i64.wrap ((b.length / 4:Nat):Int)=((b.length / 4:Nat):Int):=wrI _ (by omega)
 have ek:∀ c:Nat,c≤3→IntKind.i64.wrap (0+IntKind.i64.wrap (((b.length / 4:Nat):Int) * (c:Int)))=((b.length / 4 * c:Nat):Int):=by
  intro c hc
  have hm:((b.length / 4:Nat):Int) * (c:Int)=((b.length / 4 * c:Nat):Int):=(Int.natCast_mul _ _).symm
  have hbd:b.length / 4 * c≤3000 * 3:=Nat.mul_le_mul (by omega) hc
  rw[hm,wrI ((b.length / 4 * c:Nat):Int) (by omega),Int.zero_add,wrI _ (by omega)]
 have k1:=ek 1 (by omega)
 have k2:=ek 2 (by omega)
 have k3:=ek 3 (by omega)
 unfold Kk
 simp only[e0,e4,ew,leI,decide_eq_true_eq]
 have c1:((1:Nat):Int)=1:=rfl
 have c2:((2:Nat):Int)=2:=rfl
 have c3:((3:Nat):Int)=3:=rfl
 rw[c1]at k1
 rw[c2]at k2
 rw[c3]at k3
 rw[k1,k2,k3]
 have g1:3≤b.length / 4:=by omega
 have g2:b.length / 4 * 1<b.length / 4 * 2:=by omega
 have g3:b.length / 4 * 2<b.length / 4 * 3:=by omega
 have g4:b.length / 4 * 3+1<b.length:=by omega
 have hj:∀ x y z:Nat,x<y→y<z→z<b.length→J8 b ((x:Int),(y:Int),(z:Int),0)=some ((y:Int),1):=by
  intro x y z hx hy hz
  unfold J8
  simp only
  rw[Jul h hx hy hz,Option.bind_some]
  rfl
 rw[if_pos (by decide),if_pos (by decide),if_pos (by decide),if_pos (by omega)]
 by_cases h50:(50:Int)≤(b.length:Int)
 ·rw[if_pos h50,JpU h (by omega) (by omega),Option.bind_some,JpU h (by omega) (by omega),Option.bind_some,JpU h (by omega) (by omega),Option.bind_some,hj _ _ _ g2 g3 (by omega)]
  exact⟨_,rfl⟩
 ·rw[if_neg h50,hj _ _ _ g2 g3 (by omega)]
  exact⟨_,rfl⟩
theorem Jwa(h:SL b):Kf b=some ():=by
 have hb:=h.1
 unfold Kf
 have ew:IntKind.u64.wrap (b.length:Int)=(b.length:Int):=IntWalk.u64_in _ (by omega)
 have e0:IntKind.i64.wrap ((b.length:Int)-0)=(b.length:Int):=by rw[wrI _ (by omega)]; omega
 rw[ew]
 unfold bits_Len
 rw[if_pos (by omega),Option.bind_some]
 unfold Vf
 rw[Ky]
 simp only[VH,e0,leI,decide_eq_true_eq,eqI]
 by_cases h12:(b.length:Int)≤12
 ·have hi:Kc b 0 (b.length:Int)=some ():=by
   unfold Kc
   have hw:IntKind.i64.wrap ((0:Int)+1)=((1:Nat):Int):=wP (p:=0) (by decide)
   rw[hw]
   exact Jvh h _ 1 rfl (Nat.le_refl _)
  rw[if_pos h12,hi,Option.bind_some,Vk]
  rfl
 ·have hl:Jhs (b.length:Int)≠0:=by
   unfold Jhs Lib.bitLen
   rw[Int.toNat_natCast]
   rw[show(64:Nat)=63+1 from rfl,Lib.bitLenAux,if_neg (by omega)]
   omega
  obtain⟨p,hp⟩:=JxB h (by omega)
  rw[if_neg h12,if_neg hl,hp,Option.bind_some]
  simp only
  rw[if_neg (by decide),if_pos trivial,Jxy h (by omega),Option.bind_some,if_pos rfl,Vk]
  rfl
theorem Jx3{lo hi:Nat}(h:lo≤3000)(h2:hi≤3000):IntKind.i64.wrap (Int.fdiv (IntKind.u64.wrap (IntKind.i64.wrap ((lo:Int)+(hi:Int)))) (2 ^ (min 1 IntKind.u64.bits)))=(((lo+hi) / 2:Nat):Int):=by
 rw[wrI ((lo:Int)+(hi:Int)) (by omega),IntWalk.u64_in _ (by omega)]
 have e:(2:Int) ^ (min 1 IntKind.u64.bits)=2:=by decide
 rw[e,Int.fdiv_eq_ediv_of_nonneg _ (by decide),wrI _ (by omega)]
 omega
def BSR(b:List Bind)(t:Int)(r:Int×Bool):Prop:=∃ p:Nat,p≤b.length∧r.1=(p:Int)∧(∀ i,i<p→(b.getD i default).Tok<t)∧(∀ i,p≤i→i<b.length→t≤(b.getD i default).Tok)∧(r.2=true↔p<b.length∧(b.getD p default).Tok=t)
theorem JwV(h:SL b)(t:Int):∀ (n lo hi:Nat),hi-lo=n→lo≤hi→hi≤b.length→(∀ i,i<lo→(b.getD i default).Tok<t)→(∀ i,hi≤i→i<b.length→t≤(b.getD i default).Tok)→Sm (Jt (JF b t) ((b.length:Int),(lo:Int),(hi:Int))) (BSR b t):=by
 have hb:=h.1
 intro n
 induction n using Nat.strongRecOn with
 | ind n ih =>
  intro lo hi hn h1 h2 g1 g2
  rw[Ky]
  simp only[JF,ltI,decide_eq_true_eq]
  by_cases hlt:lo<hi
  ·rw[Jx3 (by omega) (by omega)]
   simp only[Int.toNat_natCast]
   rw[if_pos (by omega),if_pos (by decide),if_pos (by omega)]
   unfold JcQ
   rw[Jp6,Option.bind_some,Option.bind_some]
   by_cases hc:(b.getD ((lo+hi) / 2) default).Tok<t
   ·rw[if_pos hc,if_pos (by decide),wP (by unfold BL; omega),V9]
    refine ih (hi-((lo+hi) / 2+1)) (by omega) _ _ rfl (by omega) h2 (fun i hi2=>?_) g2
    by_cases he:i=(lo+hi) / 2
    ·rw[he]; exact hc
    ·have:=h.2 i ((lo+hi) / 2) (by omega) (by omega)
     omega
   ·rw[if_neg hc,if_neg (by split <;> decide),V9]
    refine ih ((lo+hi) / 2-lo) (by omega) _ _ rfl (by omega) (by omega) g1 (fun i hi2 hi3=>?_)
    by_cases he:i=(lo+hi) / 2
    ·rw[he]; omega
    ·have:=h.2 ((lo+hi) / 2) i (by omega) (by omega)
     omega
  ·have e:hi=lo:=by omega
   subst e
   rw[if_neg (by omega),Vk]
   by_cases hl:hi<b.length
   ·simp only[Int.toNat_natCast]
    rw[if_pos (by omega),if_pos (by omega)]
    unfold JcQ
    rw[Jp6,Option.bind_some,Option.bind_some]
    refine Sm.some ⟨hi,h2,rfl,g1,g2,?_⟩
    have:=g2 hi (Nat.le_refl _) hl
    simp only[eqI,decide_eq_true_eq]
    rw[if_neg (by omega)]
    by_cases hq:t<(b.getD hi default).Tok
    ·rw[if_pos hq]; exact⟨fun h=>absurd h (by decide),fun h=>by omega⟩
    ·rw[if_neg hq]; exact⟨fun _=>⟨hl,by omega⟩,fun _=>rfl⟩
   ·rw[if_neg (by omega)]
    exact Sm.some ⟨hi,h2,rfl,g1,g2,⟨fun h=>absurd h (by simp),fun h=>by omega⟩⟩
theorem JfI{i:Nat}(h:i<b.length):b.getD i default∈b:=by
 rw[List.getD_eq_getElem?_getD,List.getElem?_eq_getElem h]
 exact List.getElem_mem _
theorem Jyb(h:SL b)(t:Int):∃ r,Jer b t=some r∧((∃ x∈b,x.Tok=t∧r=x.Decl)∨(r=-1∧∀ x∈b,x.Tok≠t)):=by
 unfold Jer JV
 obtain⟨⟨r1,r2⟩,he,p,hp,h1,g1,g2,g3⟩:=JwV h t b.length 0 b.length rfl (Nat.zero_le _) (Nat.le_refl _) (fun i hi=>by omega) (fun i h1 h2=>by omega)
 have he:Jt (JF b t) ((b.length:Int),0,(b.length:Int))=some (r1,r2):=he
 simp only at h1 g3
 rw[he,Option.bind_some]
 subst h1
 simp only[Int.toNat_natCast]
 cases hr:r2 with
 | true =>
  obtain⟨k1,k2⟩:=g3.1 hr
  rw[if_neg (by decide),if_pos (by omega)]
  exact⟨_,rfl,.inl ⟨_,JfI k1,k2,rfl⟩⟩
 | false =>
  rw[if_pos (by decide)]
  refine⟨_,rfl,.inr ⟨rfl,fun x hx hxt=>?_⟩⟩
  obtain⟨i,hi,rfl⟩:=List.mem_iff_getElem.1 hx
  have e:b[i]=b.getD i default:=by rw[List.getD_eq_getElem?_getD,List.getElem?_eq_getElem hi]; rfl
  rw[e]at hxt
  have hnp:¬ (p<b.length∧(b.getD p default).Tok=t):=fun h=>by rw[g3.2 h]at hr; cases hr
  by_cases hip:i<p
  ·have:=g1 i hip; omega
  ·have q1:=g2 p (Nat.le_refl _) (by omega)
   have hpi:p≠i:=fun h=>hnp ⟨by omega,by rw[h]; exact hxt⟩
   have q2:=h.2 p i (by omega) hi
   omega
end
end Go.Proofs.Ytaofbminodhcnaa
