/- strings.SplitSeq: the parts between a byte come one by one. -/
import Derived.Test.YtfkhlbhjhdpkoaaDoorZtad
import Derived.Test.YtfkhlbhjhdpkoaaDoorZtae
import Derived.RangeFuncBox
import Derived.Shelf.Abstract
import Derived.WalkKit
import Derived.OwnWalkIn
import Derived.TacticsInMore
import Derived.LoopNIn
import Derived.LoopIn
set_option linter.unusedVariables false
set_option linter.unusedSimpArgs false
set_option maxHeartbeats 4000000
set_option maxRecDepth 100000
namespace Go.Proofs.YtfkhlbhjhdpkoaaDoor
open Go.RowKit Go.Shelf
attribute [local go_sem] Oper.semAt_some
def szAt(bs:Nat)(w:World):Nat:=match w.cell? ⟨bs,0,none⟩ with | some (.string s)=>s.data.toList.length | _=>0
theorem Jlj(l bs bp bk n:Nat)(h1:1≤n)(c:UInt8)(t0:List UInt8)(hlen:t0.length≤4611686018427387904)(J:Nat→ByteArray→World→Prop)(Jx:World→Prop)(hne:bs≠bp∧bs≠bk)
  (hc:∀ k s W,J k s W→W.cell? ⟨bs,0,none⟩=some (.string s)∧W.cell? ⟨bp,0,none⟩=some (.string ⟨#[c]⟩)∧W.cell? ⟨bk,0,none⟩=some (.int .i64 0)∧W.frozen? ⟨bs,0,none⟩=false)
  (hst:∀ k s s' W,J k s W→J k s' (W.setCell ⟨bs,0,none⟩ (.string s')))
  (hY:∀ k s x W,J k s W→(splV c t0)[k]? = some x→YieldAt Fence.wide (n-1) Tryd.prog l #[.string (bsl x)] W fun e W' =>
   (e=.returned (.bool true)∧J (k+1) s W')∨(e=.returned (.bool false)∧Jx W'))
  (W:World) (h0:J 0 (bsl t0) W) :
  CallsIn Fence.wide n Tryd.prog 41 #[.func (.yield l) #[] #[],.pointer (some ⟨bp,0,none⟩),.pointer (some ⟨bs,0,none⟩),.pointer (some ⟨bk,0,none⟩)] W fun e W'=>(∃ v,e=.returned v) ∧
   ((∃ s,J (splV c t0).length s W')∨Jx W'):=by
 refine callsIn_of_wp Tryd.func41 rfl trivial ?_ rfl
 simp only[Tryd.ntmps41,List.size_toArray,List.length_cons,List.length_nil,Nat.reduceAdd,Nat.reduceSub,Array.replicate_succ,Array.replicate_zero,List.push_toArray,List.append_toArray,List.nil_append,List.cons_append]
 obtain⟨c1,c2,c3,c4⟩:=hc 0 _ W h0
 gi_wp2
 gi_loopw [7] (fun i wr=>∃ (k:Nat) (r:List UInt8),J k (bsl r) wr∧(splV c t0).drop k=splV c r∧r.length≤t0.length) (fun _ wr=>szAt bs wr)
 case atStart=>exact⟨0,t0,h0,rfl,Nat.le_refl _⟩
 case round =>
  obtain⟨k,r,hJ,hd,hr⟩:=hrel
  obtain⟨d1,d2,d3,d4⟩:=hc k _ wr hJ
  have f43:Fence.wide.fn 43:=trivial
  have hk:∀ x xs,splV c r=x::xs→(splV c t0)[k]? = some x∧(splV c t0).drop (k+1)=xs:=fun x xs h=>by
   rw[h]at hd
   have h4:((splV c t0).drop k)[0]? = some x:=by rw[hd]; rfl
   have h5:((splV c t0).drop k).drop 1=xs:=by rw[hd]; rfl
   rw[List.getElem?_drop,Nat.add_zero]at h4
   rw[List.drop_drop]at h5
   exact⟨h4,h5⟩
  rcases (show Lib.indexByte (bsl r).data.toList c<0∨0≤Lib.indexByte (bsl r).data.toList c by omega) with hneg | hpos
  ·have hi:Lib.indexByte (bsl r).data.toList c=-1:=by have:=Lib.indexByte_ge (bsl r).data.toList c; omega
   have hs:=JdR (Lib.indexByte_none hi)
   obtain⟨e1,e2⟩:=hk r [] hs
   obtain⟨fn,tmps,assign,body,hy,hR⟩:=hY k _ r wr hJ e1
   have hlast:k+1=(splV c t0).length:=by
    have h3:(splV c t0).length≤k+1:=by simpa using e2
    have h4:=(List.getElem?_eq_some_iff.1 e1).1
    omega
   gi_wp2_with (gi_at_call 43; refine(callsIn_wide.2 (Any.strings_Index_one Jjw (bsl r) c _)).mono ?_; rintro e w' ⟨rfl,rfl⟩)
   refine hR.mono ?_
   rintro e W3 (⟨rfl,hJ3⟩|⟨rfl,hJx3⟩)
   ·gi_wp2
    go_end0
    exact⟨⟨_,rfl⟩,.inl ⟨_,hlast ▸ hJ3⟩⟩
   ·gi_wp2
    go_end0
    exact⟨⟨_,rfl⟩,.inr hJx3⟩
  ·obtain⟨o,ho⟩:∃ o:Nat,Lib.indexByte (bsl r).data.toList c=(o:Int):=⟨_,(Int.toNat_of_nonneg hpos).symm⟩
   obtain⟨h2,h3⟩:=Lib.indexByte_some ho
   have hol:o<r.length:=(List.getElem?_eq_some_iff.1 h2).1
   have hs:=JdW (l:=r) h2 h3
   obtain⟨e1,e2⟩:=hk _ _ hs
   obtain⟨fn,tmps,assign,body,hy,hR⟩:=hY k _ _ wr hJ e1
   have hx:(bsl r).extract 0 o=bsl (r.take o):=by
    apply ByteArray.ext; apply Array.ext'; simp[bsl,ByteArray.data_extract]
   have hz:(bsl r).size=r.length:=by simp[bsl,ByteArray.size]
   have w1:wrap64 (o:Int)=o:=IntWalk.wrap64_in _ (by omega)
   have w2:wrap64 ((o:Int)+1)=((o+1:Nat):Int):=by rw[IntWalk.wrap64_in _ (by omega)]; omega
   gi_wp2_with (gi_at_call 43; refine(callsIn_wide.2 (Any.strings_Index_one Jjw (bsl r) c _)).mono ?_; rintro e w' ⟨rfl,rfl⟩)
   refine hR.mono ?_
   rintro e W3 (⟨rfl,hJ3⟩|⟨rfl,hJx3⟩)
   ·obtain⟨g1,g2,g3,g4⟩:=hc (k+1) _ W3 hJ3
    have hx2:(bsl r).extract (o+1) r.length=bsl (r.drop (o+1)):=by
     apply ByteArray.ext; apply Array.ext'; simp[bsl,ByteArray.data_extract]
     rw[List.take_of_length_le (by simp)]
    have hJ4:=hst (k+1) _ (bsl (r.drop (o+1))) W3 hJ3
    have m1:szAt bs (W3.setCell ⟨bs,0,none⟩ (.string (bsl (r.drop (o+1)))))<szAt bs w':=by
     have a1:=(hc _ _ _ hJ4).1
     unfold szAt
     rw[a1,d1]
     simp[bsl]; omega
    gi_wp2
    go_roundw
    case rel=>exact⟨k+1,r.drop (o+1),hJ4,e2,by simp; omega⟩
    case measure=>exact m1
   ·gi_wp2
    refine bodyPost_ret (results_none rfl _ _ _) rfl ?_
    exact⟨⟨_,rfl⟩,.inr hJx3⟩
theorem Jjm:Jd6 Tryd.prog 41:=⟨enters_of Tryd.func41 (by kernel_rfl) rfl,fun l bs bp bk n h1 c t0 hlen J Jx hne hc hst hY W h0=>Jlj l bs bp bk n h1 c t0 hlen J Jx hne hc hst hY W h0⟩
end Go.Proofs.YtfkhlbhjhdpkoaaDoor
