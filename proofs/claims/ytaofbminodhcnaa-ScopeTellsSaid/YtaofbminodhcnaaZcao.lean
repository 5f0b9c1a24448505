/- Env's With by hand,and a statement's kind. -/
import Derived.Test.YtaofbminodhcnaaZcak
import Derived.Test.YtaofbminodhcnaaZcal
import Derived.Test.YtaofbminodhcnaaZcam
import Derived.Maps.Range
set_option linter.unusedVariables false
set_option linter.unusedSimpArgs false
set_option maxHeartbeats 4000000
set_option maxRecDepth 100000
namespace Go.Proofs.Ytaofbminodhcnaa
open Go.RowKit Go.Maps
theorem JjN(l:List Nat)(σ:Nat→AV):fgt l (fgt l σ)=fgt l σ:=by
 funext i
 by_cases h:i∈l
 ·rw[JkS _ _ _ h,JkS _ _ _ h]
 ·rw[Jlk _ _ _ h]
section
variable {P:Program} {a:Act} {w:World} {o:Oper}
theorem Jks{t:TypeId}{x:Operand}{v v':Value}{w':World}(h:o.op=.range t x)(hx:a.eval x=v')(hr:(Instr.range t v').run P w=.ok v w'):(execOp a.eval o).run P w=.ok (.value v) w':=by
 simp[execOp,h,hx,hr]
theorem Jf9{x:Operand}{q:Bool}{v v':Value}{w':World}(h:o.op=.next x q)(hx:a.eval x=v')(hr:(Instr.next v' q o.type).run P w=.ok v w'):(execOp a.eval o).run P w=.ok (.value v) w':=by
 simp[execOp,h,hx,hr]
theorem Jkf{x:Operand}{v v':Value}{w':World}(h:o.op=.entry x)(hx:a.eval x=v')(hr:(Instr.entry v').run P w=.ok v w'):(execOp a.eval o).run P w=.ok (.value v) w':=by
 simp[execOp,h,hx,hr]
end
def JdY(D D':DataW Unit)(left:Lit→Bool):Prop:=∀ s:List UInt8,has D' (.string s)=(has D (.string s) && !left (.string s))∧∀ zd,D'.atKey (.string s) zd=if has D (.string s) && !left (.string s) then D.atKey (.string s) zd else zd
theorem JdY.step{D D':DataW Unit}{left:Lit→Bool}(h:JdY D D' left)(hD':IsMap D'){s0:List UInt8}(hl:has D (.string s0)=true){d:DataW Unit}(hd:∀ zd,D.atKey (.string s0) zd=d):
  JdY D (D'.put (.string s0) d) (fun x=>left x && !x.sameKey (.string s0)):=by
 intro s
 obtain⟨h1,h2⟩:=h s
 by_cases e:s=s0
 ·subst e
  have e1:(Lit.string s).sameKey (.string s)=true:=WideAt.sameKey_self (a:=.string s) True.intro
  simp only[e1,Bool.not_true,Bool.and_false,Bool.not_false,Bool.and_true,hl,if_true]
  exact⟨has_put_same hD' (k:=.string s) True.intro _,fun zd=>by rw[atKey_put_same hD' (k:=.string s) True.intro]; exact(hd zd).symm⟩
 ·have hne:Lit.string s≠Lit.string s0:=fun q=>e (by cases q; rfl)
  have e1:(Lit.string s).sameKey (.string s0)=false:=by
   cases hs:(Lit.string s).sameKey (.string s0)
   ·rfl
   ·exact absurd (WideAt.sameKey_eq hs) hne
  simp only[e1,Bool.not_false,Bool.and_true]
  exact⟨(has_put_other hne _).trans h1,fun zd=>(atKey_put_other hne _ _).trans (h2 zd)⟩
theorem JdY.done{D D':DataW Unit}{left:Lit→Bool}(h:JdY D D' left)(hn:∀ x,left x=false):JdY D D' (fun _=>false):=fun s=>by
 have:=h s
 rw[hn]at this
 exact this
theorem Ji6{P:Program}{t:TypeId}{L:ME}{D D':DataW Unit}{s:List UInt8}{x:Lit}{w:World}{b n:Nat}(hT:MapT P t)(hD:∀ s:List UInt8,has D (.string s)=(mGet L s).isSome∧∀ zd,D.atKey (.string s) zd=match mGet L s with | some x=>.lit x | none=>zd)
  (hc:JdY D D' (fun _=>false)) (hM:IsMap D') (hn:n≤L.length+1) (ho:w.ownsMap P (mapK P t) anyE b n (D'.put (.string s) (.lit x))):∃ es c,w.heap[b]? = some (.map es c)∧JtA P t ((s,x)::L) (.map es c):=by
 obtain⟨o,h1,h2⟩:=JeB.1 ho
 obtain⟨es,c,rfl,h3⟩:=h2
 refine⟨es,c,h1,hT,n,_,by simpa using hn,⟨es,c,rfl,h3⟩,fun s'=>?_⟩
 by_cases e:s'=s
 ·subst e
  rw[mGet,if_pos rfl]
  exact⟨has_put_same hM (k:=.string s') True.intro _,fun zd=>atKey_put_same hM (k:=.string s') True.intro _ _⟩
 ·have hne:Lit.string s'≠Lit.string s:=fun q=>e (by cases q; rfl)
  rw[mGet,if_neg e]
  obtain⟨k1,k2⟩:=hc s'
  obtain⟨q1,q2⟩:=hD s'
  simp only[Bool.not_false,Bool.and_true]at k1 k2
  refine⟨(has_put_other hne _).trans (k1.trans q1),fun zd=>(atKey_put_other hne _ _).trans ((k2 zd).trans ?_)⟩
  rw[q2 zd,q1]
  cases mGet L s' <;> rfl
theorem Jl0{e:Env}{P:Program}{t:TypeId}{L:ME}{v:Value}(h:RC e (.fm (EM P t L)) v):∃ b n D,v=.map (some b)∧MapT P t∧n≤L.length∧e.w.ownsMap P (mapK P t) anyE b n D∧(∀ s:List UInt8,has D (.string s)=(mGet L s).isSome∧∀ zd,D.atKey (.string s) zd=match mGet L s with | some x=>.lit x | none=>zd):=by
 obtain⟨b,es,c,h1,h2,⟨hT,n,D,hn,ho,hD⟩,_⟩:=h
 exact⟨b,n,D,h1,hT,hn,JeB.2 ⟨_,h2,ho⟩,hD⟩
abbrev LS60:List Nat:=[10,7,11,12,13,14,15,16,17,8,9,18,19,20,21,22,23,24,6]
theorem Jym(L:EB)(s:List UInt8)(v:Bool)(hg:s.length≤9223372036854775807∧L.length<9223372036854775806){t:Tab}{σ:Nat→AV}{h:Hp}{Q:KA}{o1 o2 o3 o4 o5 o6 o7:Array Oper}
  (x:Q .ret (upd (fgt LS60 σ) 6 (.c (.fm (EM Try.prog 52 (cvK ((s,v)::L)))))) h)
  (h0:σ 0=.c (.fm (EM Try.prog 52 (cvK L)))) (h1:σ 1=.c (.d (.v (str s)))) (h2:σ 2=.c (.d (.v (.bool v))))
  (hP:t.P=Try.prog) (hl0:t.lk.contains 999999=false) (hlk:t.lk.contains 1000025=true)
  (hops1:o1.toList.map shO=[(.makeMap 52 none,some 10,none),(.assign (.tmp 10),some 7,none)])
  (hops2:o2.toList.map shO=[(.move (.tmp 0),some 11,none),(.range 52 (.tmp 11),some 12,none)])
  (hops3:o3.toList.map shO=[(.next (.tmp 12) false,some 13,none),(.extract (.tmp 13) 0,some 14,none)])
  (hops4:o4.toList.map shO=[(.entry (.tmp 12),some 15,none),(.extract (.tmp 15) 0,some 16,none),(.extract (.tmp 15) 1,some 17,none),(.assign (.tmp 16),some 8,none),(.assign (.tmp 17),some 9,none)])
  (hops5:o5.toList.map shO=[(.move (.tmp 7),some 18,none),(.move (.tmp 8),some 19,none),(.move (.tmp 9),some 20,none),(.mapUpdate 52 (.tmp 18) (.tmp 19) (.tmp 20),none,none)])
  (hops6:o6.toList.map shO=[(.move (.tmp 7),some 21,none),(.move (.tmp 1),some 22,none),(.move (.tmp 2),some 23,none),(.mapUpdate 52 (.tmp 21) (.tmp 22) (.tmp 23),none,none)])
  (hops7:o7.toList.map shO=[(.move (.tmp 7),some 24,none),(.assign (.tmp 24),some 6,none)]) :
  SemC t (.seq (.region 1 o1 false) (.seq (.seq (.region 2 o2 false) (.block 0 (.loop (.seq (.region 3 o3 false) (.seq (.cond (.tmp 14) .skip (.exit 0)) (.block 1 (.seq (.region 4 o4 false) (.region 5 o5 false)))))))) (.seq (.region 6 o6 false) (.seq (.region 7 o7 false) .ret)))) σ h Q:=by
 refine⟨hl0,fun Γ pure a e _ hΓ _ _ _ _ hc hs hw=>?_⟩
 have hN:Γ.nt=25:=Ji0 (id:=0) (.inl rfl) hc hlk
 rw[← hΓ,hP]
 have hsz:a.tmps.size=25:=hs.1.trans hN
 have r0:=hs.2.2 0 (by omega)
 rw[h0]at r0
 obtain⟨b,n,D,k2,hT,hn,hown,hD⟩:=Jl0 (show RC e _ (a.eval (.tmp 0)) from r0)
 have r1:=hs.2.2 1 (by omega)
 rw[h1]at r1
 have r1:a.eval (.tmp 1)=str s:=R1.vInv r1
 have r2:=hs.2.2 2 (by omega)
 rw[h2]at r2
 have r2:a.eval (.tmp 2)=.bool v:=R1.vInv r2
 obtain⟨g1,g2⟩:=hg
 have hLn:(cvK L).length=L.length:=by simp[cvK]
 have blt:=hown.lt
 generalize hc0:e.w.heap.size=c0
 -- the new map
 refine wp_seq (wp_region_list ?_)
 generalize o1.toList=l at hops1 ⊢
 change wpList _ _ _ l (Ji a []) _
 obtain⟨o,l,rfl,e1,e2,e3,hops⟩:=Jn hops1
 refine Je e3 e2 (Jfh e1) ?_
 obtain⟨o,l,rfl,e1,e2,e3,hops⟩:=Jn hops
 refine Je e3 e2 (Ve e1 (Jd hsz rfl)) ?_
 obtain rfl:=List.map_eq_nil_iff.1 hops
 have m1:(e.w.alloc (.map #[] 0)).ownsMap Try.prog (mapK Try.prog 52) anyE b n D:=hown.alloc _
 have m2:=World.ownsMap_made (H:=Unit) e.w Try.prog (mapK Try.prog 52) anyE
 have gr0:Grows e.w (e.w.alloc (.map #[] 0)):=Grows.alloc e.w _
 have hs0:(e.w.alloc (.map #[] 0)).heap.size=c0+1:=by rw[← hc0]; simp
 rw[hc0]at m2
 simp only[hc0]
 generalize e.w.alloc (.map #[] 0)=w0 at m1 m2 gr0 hs0 ⊢
 obtain⟨w1,f1,f2,f3,f4⟩:=m1.range hT.K hT.u
 rw[hs0]at f1 f2
 have gr1:Grows e.w w1:=⟨f3.os.trans gr0.os,f3.tape.trans gr0.tape,f3.output.trans gr0.output,Nat.le_trans gr0.size f3.size,fun k hk=>(f3.block k (Nat.lt_of_lt_of_le hk gr0.size) (by simp)).trans (gr0.block k hk)⟩
 have m3:w1.ownsMap Try.prog (mapK Try.prog 52) anyE c0 0 (.map []):=m2.kept f3 (by simp)
 have SE:∀ (a':Act) (M:List (Nat×Value)),Jz Γ.nt Γ.ds (fgt LS60 σ) a' e→(∀ i,i∈M.map Prod.fst→i∈LS60)→Jz Γ.nt Γ.ds (fgt LS60 σ) (Ji a' M) e:=fun a' M hs' hM=>by
  have:=Vi hs' (Env.le.refl _) M LS60 hM (by rw[hN]; rfl)
  rw[JjN]at this
  exact this
 refine wp_seq (wp_seq (wp_region_list ?_))
 generalize o2.toList=l at hops2 ⊢
 obtain⟨o,l,rfl,e1,e2,e3,hops⟩:=Jn hops2
 refine Je e3 e2 (Jw e1 ((Jd hsz rfl).trans k2)) ?_
 obtain⟨o,l,rfl,e1,e2,e3,hops⟩:=Jn hops
 refine Je e3 e2 (Jks e1 (Jd hsz rfl) f1) ?_
 obtain rfl:=List.map_eq_nil_iff.1 hops
 refine wp_block ?_
 refine wp_loop (fun a' w'=>a'.tmps.size=25∧Jz Γ.nt Γ.ds (fgt LS60 σ) a' e∧Grows e.w w'∧a'.eval (.tmp 12)=.pointer (some ⟨c0+1,0,none⟩)∧a'.eval (.tmp 7)=.map (some c0)∧a'.eval (.tmp 1)=str s∧a'.eval (.tmp 2)=.bool v ∧
  ∃ left cnt n' D',w'.ranges Try.prog (mapK Try.prog 52) anyE b (c0+1) n D left cnt∧(∀ x,left x=true→has D x=true)∧w'.ownsMap Try.prog (mapK Try.prog 52) anyE c0 n' D'∧n'+cnt≤n∧JdY D D' left) (fun _ w'=>w'.rangeLeft b (c0+1))
  ⟨(VX _ _).trans hsz,Vi hs (Env.le.refl _) _ LS60 (fun i hi=>by simp at hi ⊢; omega) (by rw[hN]; rfl),gr1,(Jd hsz rfl),(Jd hsz rfl),(Jd hsz rfl).trans r1,(Jd hsz rfl).trans r2,_,_,0,_,f2,fun _ h=>h,m3,by have:=m1.size_le; omega,fun s'=>by
   simp only[Bool.and_not_self]
   exact⟨rfl,fun _=>rfl⟩⟩ ?_
 rintro a1 w' ⟨i1,i2,i3,i4,i5,i51,i52,left,cnt,n',D',i6,i7,i8,i9,i10⟩
 refine wp_seq (wp_region_list ?_)
 generalize o3.toList=l at hops3 ⊢
 change wpList _ _ _ l (Ji a1 []) _
 obtain⟨o,l,rfl,e1,e2,e3,hops⟩:=Jn hops3
 rcases i6.next hT.K o.type with⟨_,j2,j3⟩|⟨key,val,kl,y,w2,cnt',j1,j2,j3,j4,j5,j6,j7,j8,j9,j10⟩
 ·refine Je e3 e2 (Jf9 e1 ((Jd i1 rfl).trans i4) j3) ?_
  obtain⟨o,l,rfl,e1,e2,e3,hops⟩:=Jn hops
  refine Je e3 e2 (K4 e1 (Jd i1 rfl) rfl) ?_
  obtain rfl:=List.map_eq_nil_iff.1 hops
  refine wp_seq (wp_cond_false (Jd i1 rfl) (wp_exit ?_))
  refine wp_seq (wp_region_list ?_)
  generalize o6.toList=l at hops6 ⊢
  obtain⟨o,l,rfl,e1,e2,e3,hops⟩:=Jn hops6
  refine Je e3 e2 (Jw e1 ((Jd i1 rfl).trans i5)) ?_
  obtain⟨o,l,rfl,e1,e2,e3,hops⟩:=Jn hops
  refine Je e3 e2 (Jw e1 ((Jd i1 rfl).trans i51)) ?_
  obtain⟨o,l,rfl,e1,e2,e3,hops⟩:=Jn hops
  refine Je e3 e2 (Jw e1 ((Jd i1 rfl).trans i52)) ?_
  obtain⟨o,l,rfl,e1,e2,e3,hops⟩:=Jn hops
  have hn':n'<maxLen:=by unfold maxLen; omega
  obtain⟨w3,u1,u2,u3⟩:=Jgt (a:=Ji a1 [(23,.bool v),(22,str s),(21,.map (some c0)),(14,.bool false),(13,.tuple #[.bool false])]) (kl:=.string s) (d:=.lit (.bool v)) (ps:=[]) e1 hT.K hT.u hn' i8 (Jd i1 rfl) (by rw[show Act.eval (Ji a1 [(23,.bool v),(22,str s),(21,.map (some c0)),(14,.bool false),(13,.tuple #[.bool false])]) (.tmp 22)=str s from Jd i1 rfl]; exact hT.of g1) (by rw[show Act.eval (Ji a1 [(23,.bool v),(22,str s),(21,.map (some c0)),(14,.bool false),(13,.tuple #[.bool false])]) (.tmp 23)=.bool v from Jd i1 rfl]; rfl)
  refine Za e3 e2 u1 ?_
  obtain rfl:=List.map_eq_nil_iff.1 hops
  refine wp_seq (wp_region_list ?_)
  generalize o7.toList=l at hops7 ⊢
  obtain⟨o,l,rfl,e1,e2,e3,hops⟩:=Jn hops7
  refine Je e3 e2 (Jw e1 ((Jd i1 rfl).trans i5)) ?_
  obtain⟨o,l,rfl,e1,e2,e3,hops⟩:=Jn hops
  refine Je e3 e2 (Ve e1 (Jd i1 rfl)) ?_
  obtain rfl:=List.map_eq_nil_iff.1 hops
  refine wp_ret ?_
  have gr3:Grows e.w w3:=⟨u3.os.trans i3.os,u3.tape.trans i3.tape,u3.output.trans i3.output,Nat.le_trans i3.size u3.size,fun k hk=>(u3.block k (Nat.lt_of_lt_of_le hk i3.size) (by simp; omega)).trans (i3.block k hk)⟩
  obtain⟨w4,l4⟩:=hw.grows (S':=e.S) gr3 (fun _ _ _=>Iff.rfl) (fun b o hb=>Nat.lt_of_lt_of_le (hw.sdom b o hb) gr3.size)
  obtain⟨es,c,z1,z2⟩:=Ji6 hT hD (i10.done j2) i8.isMap (by omega) u2
  refine⟨_,_,{ e with w:=w3 },x,rfl,Ja7 ?_ (by omega) ?_,w4⟩
  ·have:=Vi i2 l4 [(6,.map (some c0)),(24,.map (some c0)),(23,.bool v),(22,str s),(21,.map (some c0)),(14,.bool false),(13,.tuple #[.bool false])] LS60 (fun i hi=>by simp at hi ⊢; omega) (by rw[hN]; rfl)
   rw[JjN]at this
   exact this
  ·rw[Jd i1 rfl]
   exact⟨c0,es,c,rfl,z1,z2,fun hs=>by have:=hw.sdom _ _ hs; omega⟩
 ·obtain⟨s0,rfl,rfl,hs0'⟩:=hT.inv j1
  refine Je e3 e2 (Jf9 e1 ((Jd i1 rfl).trans i4) j5) ?_
  obtain⟨o,l,rfl,e1,e2,e3,hops⟩:=Jn hops
  refine Je e3 e2 (K4 e1 (Jd i1 rfl) rfl) ?_
  obtain rfl:=List.map_eq_nil_iff.1 hops
  refine wp_seq (wp_cond_true (Jd i1 rfl) (wp_skip ?_))
  refine wp_block (wp_seq (wp_region_list ?_))
  generalize o4.toList=l at hops4 ⊢
  obtain⟨o,l,rfl,e1,e2,e3,hops⟩:=Jn hops4
  refine Je e3 e2 (Jkf e1 ((Jd i1 rfl).trans i4) j10) ?_
  obtain⟨o,l,rfl,e1,e2,e3,hops⟩:=Jn hops
  refine Je e3 e2 (K4 e1 (Jd i1 rfl) rfl) ?_
  obtain⟨o,l,rfl,e1,e2,e3,hops⟩:=Jn hops
  refine Je e3 e2 (K4 e1 (Jd i1 rfl) rfl) ?_
  obtain⟨o,l,rfl,e1,e2,e3,hops⟩:=Jn hops
  refine Je e3 e2 (Ve e1 (Jd i1 rfl)) ?_
  obtain⟨o,l,rfl,e1,e2,e3,hops⟩:=Jn hops
  refine Je e3 e2 (Ve e1 (Jd i1 rfl)) ?_
  obtain rfl:=List.map_eq_nil_iff.1 hops
  refine wp_region_list ?_
  generalize o5.toList=l at hops5 ⊢
  obtain⟨o,l,rfl,e1,e2,e3,hops⟩:=Jn hops5
  refine Je e3 e2 (Jw e1 ((Jd i1 rfl).trans i5)) ?_
  obtain⟨o,l,rfl,e1,e2,e3,hops⟩:=Jn hops
  refine Je e3 e2 (Jw e1 (Jd i1 rfl)) ?_
  obtain⟨o,l,rfl,e1,e2,e3,hops⟩:=Jn hops
  refine Je e3 e2 (Jw e1 (Jd i1 rfl)) ?_
  obtain⟨o,l,rfl,e1,e2,e3,hops⟩:=Jn hops
  have hn':n'<maxLen:=by unfold maxLen; omega
  have i8':=i8.kept j8 (by simp)
  obtain⟨w3,u1,u2,u3⟩:=Jgt (a:=Ji a1 [(20,val),(19,str s0),(18,.map (some c0)),(9,val),(8,str s0),(17,val),(16,str s0),(15,.tuple #[str s0,val]),(14,.bool true),(13,.tuple #[.bool true,str s0,val])]) (kl:=.string s0) (d:=y.1) (ps:=y.2) e1 hT.K hT.u hn' i8' (Jd i1 rfl) (by rw[show Act.eval (Ji a1 [(20,val),(19,str s0),(18,.map (some c0)),(9,val),(8,str s0),(17,val),(16,str s0),(15,.tuple #[str s0,val]),(14,.bool true),(13,.tuple #[.bool true,str s0,val])]) (.tmp 19)=str s0 from Jd i1 rfl]; exact j1) (by rw[show Act.eval (Ji a1 [(20,val),(19,str s0),(18,.map (some c0)),(9,val),(8,str s0),(17,val),(16,str s0),(15,.tuple #[str s0,val]),(14,.bool true),(13,.tuple #[.bool true,str s0,val])]) (.tmp 20)=val from Jd i1 rfl]; exact j3)
  refine Za e3 e2 u1 ?_
  obtain rfl:=List.map_eq_nil_iff.1 hops
  have gr2:Grows e.w w2:=⟨j8.os.trans i3.os,j8.tape.trans i3.tape,j8.output.trans i3.output,Nat.le_trans i3.size j8.size,fun k hk=>(j8.block k (Nat.lt_of_lt_of_le hk i3.size) (by simp; omega)).trans (i3.block k hk)⟩
  have gr3:Grows e.w w3:=⟨u3.os.trans gr2.os,u3.tape.trans gr2.tape,u3.output.trans gr2.output,Nat.le_trans gr2.size u3.size,fun k hk=>(u3.block k (Nat.lt_of_lt_of_le hk gr2.size) (by simp; omega)).trans (gr2.block k hk)⟩
  have j6':=j6.kept u3 (by simp; omega) (by simp)
  refine⟨⟨(VX _ _).trans i1,SE a1 [(20,val),(19,str s0),(18,.map (some c0)),(9,val),(8,str s0),(17,val),(16,str s0),(15,.tuple #[str s0,val]),(14,.bool true),(13,.tuple #[.bool true,str s0,val])] i2 (fun i hi=>by simp at hi ⊢; omega),gr3,(Jd i1 rfl).trans i4,(Jd i1 rfl).trans i5,(Jd i1 rfl).trans i51,(Jd i1 rfl).trans i52,_,_,_,_,j6',fun x hx=>i7 x (by simp at hx; exact hx.1),u2,by omega,i10.step i8.isMap (i7 _ j2) j4⟩,?_⟩
  rw[j6'.left_eq,i6.left_eq]; exact j7
theorem Jwk(L:EB)(s:List UInt8)(v:Bool)(hg:s.length≤9223372036854775807∧L.length<9223372036854775806){t:Tab}{σ:Nat→AV}{h:Hp}{Q:KA}{o1 o2 o3 o4 o5 o6 o7:Array Oper}
  (x:Q .ret (upd (fgt LS60 σ) 6 (.c (.fm (EM Try.prog 52 (cvK ((s,v)::L)))))) h)
  (h0:σ 0=.c (.fm (EM Try.prog 52 (cvK L))):=by(simp -implicitDefEqProofs only[goR,↓Jk,goS,↓reduceIte,reduceCtorEq,seval,Y]; try rfl)) (h1:σ 1=.c (.d (.v (str s))):=by(simp -implicitDefEqProofs only[goR,↓Jk,goS,↓reduceIte,reduceCtorEq,seval,Y]; try rfl)) (h2:σ 2=.c (.d (.v (.bool v))):=by(simp -implicitDefEqProofs only[goR,↓Jk,goS,↓reduceIte,reduceCtorEq,seval,Y]; try rfl))
  (hP:t.P=Try.prog:=by rfl) (hl0:t.lk.contains 999999=false:=by rfl) (hlk:t.lk.contains 1000025=true:=by rfl)
  (hops1:o1.toList.map shO=[(.makeMap 52 none,some 10,none),(.assign (.tmp 10),some 7,none)]:=by rfl)
  (hops2:o2.toList.map shO=[(.move (.tmp 0),some 11,none),(.range 52 (.tmp 11),some 12,none)]:=by rfl)
  (hops3:o3.toList.map shO=[(.next (.tmp 12) false,some 13,none),(.extract (.tmp 13) 0,some 14,none)]:=by rfl)
  (hops4:o4.toList.map shO=[(.entry (.tmp 12),some 15,none),(.extract (.tmp 15) 0,some 16,none),(.extract (.tmp 15) 1,some 17,none),(.assign (.tmp 16),some 8,none),(.assign (.tmp 17),some 9,none)]:=by rfl)
  (hops5:o5.toList.map shO=[(.move (.tmp 7),some 18,none),(.move (.tmp 8),some 19,none),(.move (.tmp 9),some 20,none),(.mapUpdate 52 (.tmp 18) (.tmp 19) (.tmp 20),none,none)]:=by rfl)
  (hops6:o6.toList.map shO=[(.move (.tmp 7),some 21,none),(.move (.tmp 1),some 22,none),(.move (.tmp 2),some 23,none),(.mapUpdate 52 (.tmp 21) (.tmp 22) (.tmp 23),none,none)]:=by rfl)
  (hops7:o7.toList.map shO=[(.move (.tmp 7),some 24,none),(.assign (.tmp 24),some 6,none)]:=by rfl) :
  aC t (.seq (.region 1 o1 false) (.seq (.seq (.region 2 o2 false) (.block 0 (.loop (.seq (.region 3 o3 false) (.seq (.cond (.tmp 14) .skip (.exit 0)) (.block 1 (.seq (.region 4 o4 false) (.region 5 o5 false)))))))) (.seq (.region 6 o6 false) (.seq (.region 7 o7 false) .ret)))) σ h Q :=
 .inr (Jym L s v hg x h0 h1 h2 hP hl0 hlk hops1 hops2 hops3 hops4 hops5 hops6 hops7)
noncomputable def Z0(a0:EB)(a1:List UInt8)(a2:Bool):Option Unit:=if a1.length≤9223372036854775807∧a0.length<9223372036854775806 then some () else none
noncomputable def Jat(a0:EB)(a1:List UInt8)(a2:Bool)(r:Unit):GI :=
 ⟨[.c (.fm (EM Try.prog 52 (cvK a0))),.c (.d (.v (str a1))),.c (.d (.v (.bool a2)))],[],[],.ret (.c (.fm (EM Try.prog 52 (cvK ((a1,a2)::a0))))) [] []⟩
def Jal:GI→Prop:=fun g=>∃ (a0:EB) (a1:List UInt8) (a2:Bool) (r:Unit),Z0 a0 a1 a2=some r∧g=Jat a0 a1 a2 r
theorem Ji3(a0:EB)(a1:List UInt8)(a2:Bool)(r:Unit)(H:Z0 a0 a1 a2=some r):Jal (Jat a0 a1 a2 r):=⟨a0,a1,a2,r,H,rfl⟩
theorem Jik:∀ g,Jal g→Jx Try.prog 60 g:=by
 rintro _ ⟨a0,a1,a2,r,H,rfl⟩
 refine xGnl mixed [1000025] [] [] [] trivial trivial trivial Try.func60 _ ?_
 have G:=True.intro
 have Y:=xZ Try.results60 <| Jat.eq_1
 dsimp only[Jat]
 unfold Z0 at H
 obtain⟨hg,H⟩:=Jj H
 refine Zn ?_
 refine xr0 ?_
 refine Jq ?_
 refine Jwk a0 a1 a2 hg ?_
 refine xrD [] ?_
 exact xO ⟨[],[]⟩
theorem JfJ:Jh Try.prog 60∧(∀ g,Jal g→Jx Try.prog 60 g)∧(true=true→∀ g,Jal g→∃ val bs ts,g.out=.ret val bs ts) :=
 ⟨Jwm,Jik,fun _=>by rintro _ ⟨_,_,_,_,_,rfl⟩; exact⟨_,_,_,rfl⟩⟩
theorem Jt2{P:Program}{a:Act}{w:World}{o:Oper}{t k e:TypeId}{x y z:Operand}{b n:Nat}{D:DataW Unit}{kl:Lit}{d:DataW Unit}{ps:List MemPlace}(h:o.op=.insert t x y z)(K:Keyed P k)(ht:P.underlying t=some (.map k e))(hn:n<maxLen)
  (hown:w.ownsMap P k anyE b n D) (hx:a.eval x=.map (some b)) (hkey:keyOf P k (a.eval y)=some kl) (hv:anyE (a.eval z)=some (d,ps)) :
  ∃ w',(execOp a.eval o).run P w=.ok .skip w'∧w'.ownsMap P k anyE b (n+1) (D.put kl d)∧w.grownBy w' (some b):=by
 obtain⟨w',hrun,h1,h2⟩:=hown.update K ht hn hkey hv
 exact⟨w',by simp[execOp,h,hx,hrun],h1,h2⟩
theorem Jvj{P:Program}{a:Act}{w:World}{o:Oper}{t k e:TypeId}{x y:Operand}{b n:Nat}{D:DataW Unit}{kl:Lit}{z:Value}{zd:DataW Unit}{zp:List MemPlace}(h:o.op=.lookup t x y false)(K:Keyed P k)(ht:P.underlying t=some (.map k e))(hz:(zeroValue e).run P w=.ok z w)(hzd:anyE z=some (zd,zp))
  (hown:w.ownsMap P k anyE b n D) (hx:a.eval x=.map (some b)) (hkey:keyOf P k (a.eval y)=some kl):∃ v ps,(execOp a.eval o).run P w=.ok (.value v) w∧anyE v=some (D.atKey kl zd,ps):=by
 obtain⟨v,ps,hrun,hv⟩:=hown.lookup K ht hz hzd hkey
 exact⟨v,ps,by simp[execOp,h,hx,hrun],hv⟩
theorem JlX{s:List UInt8}(h:s.length≤9223372036854775807):keyOf Try.prog 9 (str s)=some (.string s):=by
 have h':s.length≤maxLen:=by unfold maxLen; exact h
 have h2:(⟨s.toArray⟩:ByteArray).size≤maxLen:=h'
 simp only[keyOf,Try.underlying9,str,mapKey]
 rw[if_pos h2]
theorem keyS:Keyed Try.prog 9:=string_keyed Try.underlying9
theorem hIfK(s:List UInt8)(hg:s.length≤9223372036854775807){t:Tab}{σ:Nat→AV}{h:Hp}{Q:KA}{n:Nat}{c0 c1 c2:C}{ops:Array Oper}
  (x:Q .normal (fgt [67,68,69,70,71] σ) { h with H:=upd h.H n (some [.d (.v (.int .i64 (ifK s))),.d (.v (.int .i64 (-1))),.sl 3 [] 0]) })
  (h9:σ 9=.c (.d (.v (str s))):=by(simp -implicitDefEqProofs only[goR,↓Jk,goS,↓reduceIte,reduceCtorEq,seval,Y]; try rfl)) (h10:σ 10=.c (.pt n 0):=by(simp -implicitDefEqProofs only[goR,↓Jk,goS,↓reduceIte,reduceCtorEq,seval,Y]; try rfl)) (hn:h.H n=some [c0,c1,c2]:=by(simp -implicitDefEqProofs only[goR,↓Jk,goS,↓reduceIte,reduceCtorEq,seval,Y]; try rfl))
  (hb:JcF [c0,c1,c2]=true:=by rfl) (hrp:rowP [c0,c1,c2]=true:=by rfl) (hP:t.P=Try.prog:=by rfl) (hl0:t.lk.contains 999999=false:=by rfl) (hlk:t.lk.contains 1000179=true:=by rfl)
  (hops:ops.toList.map shO=[(.makeMap 58 none,some 67,none),(.insert 58 (.tmp 67) (.const (str [105,102])) (.const (.int .i64 6)),none,none),(.insert 58 (.tmp 67) (.const (str [119,104,105,108,101])) (.const (.int .i64 7)),none,none),(.move (.tmp 67),some 68,none),(.move (.tmp 9),some 69,none),(.lookup 58 (.tmp 68) (.tmp 69) false,some 70,none),(.build 26 #[(0,.tmp 70),(1,.const (.int .i64 (-1)))],some 71,none),(.store 26 (.tmp 10) (.tmp 71),none,none)]:=by rfl):aC t (.region 14 ops false) σ h Q:=by
 refine⟨σ,h,Wk.refl _ _ _,.inr ⟨_,_,⟨hl0,fun Γ a e hΓ hnt hs hw=>?_⟩,x⟩⟩
 have hN:Γ.nt=179:=hnt 179 hlk
 rw[hP]
 have hsz:a.tmps.size=179:=hs.1.trans hN
 have r9:=hs.2.2 9 (by omega)
 rw[h9]at r9
 have r9:a.eval (.tmp 9)=str s:=R1.vInv r9
 have r10:=hs.2.2 10 (by omega)
 rw[h10]at r10
 obtain⟨p,p1,p2⟩:=r10
 have p2:a.eval (.tmp 10)=.pointer (some ⟨p,0,none⟩):=p2
 obtain⟨p',cs,ty,p3,p4,p5,_⟩:=hw.boxAt p1 _ hn hb
 rw[p1]at p3; cases p3
 have hplt:=(Array.getElem?_eq_some_iff.1 p4).1
 have hcs:cs.size=3:=by rw[← Array.length_toList,(p5.plain hrp).length]; rfl
 generalize hc0:e.w.heap.size=q
 refine wp_region_list ?_
 generalize ops.toList=l at hops ⊢
 change wpList _ _ _ l (Ji a []) _
 obtain⟨o,l,rfl,e1,e2,e3,hops⟩:=Jn hops
 refine Je e3 e2 (Jfh e1) ?_
 have m2:=World.ownsMap_made (H:=Unit) e.w Try.prog 9 anyE
 have gr0:Grows e.w (e.w.alloc (.map #[] 0)):=Grows.alloc e.w _
 rw[hc0]at m2
 simp only[hc0]
 generalize e.w.alloc (.map #[] 0)=w0 at m2 gr0 ⊢
 obtain⟨o,l,rfl,e1,e2,e3,hops⟩:=Jn hops
 obtain⟨w1,u1,u2,u3⟩:=Jt2 (a:=Ji a [(67,.map (some q))]) (kl:=.string [105,102]) (d:=.lit (.int .i64 6)) (ps:=[]) e1 keyS Try.underlying58 (by unfold maxLen; omega) m2 (Jd hsz rfl) (JlX (s:=[105,102]) (by decide)) rfl
 refine Za e3 e2 u1 ?_
 obtain⟨o,l,rfl,e1,e2,e3,hops⟩:=Jn hops
 obtain⟨w2,u4,u5,u6⟩:=Jt2 (a:=Ji a [(67,.map (some q))]) (kl:=.string [119,104,105,108,101]) (d:=.lit (.int .i64 7)) (ps:=[]) e1 keyS Try.underlying58 (by unfold maxLen; omega) u2 (Jd hsz rfl) (JlX (s:=[119,104,105,108,101]) (by decide)) rfl
 refine Za e3 e2 u4 ?_
 obtain⟨o,l,rfl,e1,e2,e3,hops⟩:=Jn hops
 refine Je e3 e2 (Jw e1 (Jd hsz rfl)) ?_
 obtain⟨o,l,rfl,e1,e2,e3,hops⟩:=Jn hops
 refine Je e3 e2 (Jw e1 ((Jd hsz rfl).trans r9)) ?_
 obtain⟨o,l,rfl,e1,e2,e3,hops⟩:=Jn hops
 have M:∀ i,(Ji a [(69,str s),(68,.map (some q)),(67,.map (some q))]).eval (.tmp i)=(lkv [(69,str s),(68,.map (some q)),(67,.map (some q))] i).getD (a.eval (.tmp i)):=fun i=>Jd hsz rfl
 obtain⟨v,ps,y1,y2⟩:=Jvj (a:=Ji a [(69,str s),(68,.map (some q)),(67,.map (some q))]) e1 keyS Try.underlying58 (Try.zeroValue3 _) (zd:=.lit (.int .i64 0)) (zp:=[]) rfl u5 (M 68) (kl:=.string s) (by rw[show Act.eval (Ji a [(69,str s),(68,.map (some q)),(67,.map (some q))]) (.tmp 69)=str s from M 69]; exact JlX hg)
 have hv:v=.int .i64 (ifK s):=by
  have hd:=JsN s (.lit (.int .i64 0)) [([119,104,105,108,101],.int .i64 7),([105,102],.int .i64 6)]
  have y2:anyE v=some ((dM [([119,104,105,108,101],.int .i64 7),([105,102],.int .i64 6)]).atKey (.string s) (.lit (.int .i64 0)),ps):=y2
  rw[hd]at y2
  unfold ifK
  by_cases e1:s=[105,102]
  ·subst e1; exact Jek y2
  ·rw[if_neg e1]
   by_cases e2:s=[119,104,105,108,101]
   ·subst e2; exact Jek y2
   ·rw[if_neg e2]
    simp only[mGet,e1,e2,if_false]at y2
    exact Jek y2
 subst hv
 refine Je e3 e2 y1 ?_
 obtain⟨o,l,rfl,e1,e2,e3,hops⟩:=Jn hops
 have ea:(Ji a [(70,.int .i64 (ifK s)),(69,str s),(68,.map (some q)),(67,.map (some q))]).eval (.tmp 70)=.int .i64 (ifK s):=Jd hsz rfl
 have ec:(Ji a [(70,.int .i64 (ifK s)),(69,str s),(68,.map (some q)),(67,.map (some q))]).eval (.const (.int .i64 (-1)))=.int .i64 (-1):=rfl
 have hbd:(execOp (Ji a [(70,.int .i64 (ifK s)),(69,str s),(68,.map (some q)),(67,.map (some q))]).eval o).run Try.prog w2=.ok (.value (.agg #[.int .i64 (ifK s),.int .i64 (-1),.slice none 0 0])) w2:=by
  have hz:=Try.zeroValue26 w2
  have hag:∀ cs:Array Value,(Value.agg cs).cells=cs:=fun _=>rfl
  have hi:∀ k n,(Value.int k n).cells=#[Value.int k n]:=fun _ _=>rfl
  simp only[execOp,e1,Instr.build,Sem.run_bind,hz,Result.andThen_ok,run_underlying Try.underlying26,List.mapM_toArray,Array.mapM_eq_mapM_toList,List.mapM_cons,List.mapM_nil,Try.sizeOf3,Try.sizeOf24,Sem.run_pure,List.map_toArray,List.map_cons,List.map_nil,ea,ec,hag]
  simp[Instr.fill,hi]
 refine Je e3 e2 hbd ?_
 obtain⟨o,l,rfl,e1,e2,e3,hops⟩:=Jn hops
 have gr2:Grows e.w w2:=⟨u6.os.trans (u3.os.trans gr0.os),u6.tape.trans (u3.tape.trans gr0.tape),u6.output.trans (u3.output.trans gr0.output),Nat.le_trans gr0.size (Nat.le_trans u3.size u6.size),fun k hk=>(u6.block k (Nat.lt_of_lt_of_le hk (Nat.le_trans gr0.size u3.size)) (by simp; omega)).trans ((u3.block k (Nat.lt_of_lt_of_le hk gr0.size) (by simp; omega)).trans (gr0.block k hk))⟩
 obtain⟨w3,l3⟩:=hw.grows (S':=e.S) gr2 (fun _ _ _=>Iff.rfl) (fun b o hb=>Nat.lt_of_lt_of_le (hw.sdom b o hb) gr2.size)
 have p4':w2.heap[p]? = some (.cells cs ty (0,0)):=(gr2.block p hplt).trans p4
 have hsc:=run_storeCells_at Try.prog p 0 ty [.int .i64 (ifK s),.int .i64 (-1),.slice none 0 0] 0 cs w2 p4' (by simp; omega) (by simp[Value.oneCell'])
 have hl2:cs.toList.drop 3=[]:=List.drop_eq_nil_of_le (by simp; omega)
 simp only[Nat.add_zero,List.take_zero,List.nil_append,List.length_cons,List.length_nil,Nat.zero_add,Nat.reduceAdd,hl2,List.append_nil]at hsc
 have et:(Ji a [(71,.agg #[.int .i64 (ifK s),.int .i64 (-1),.slice none 0 0]),(70,.int .i64 (ifK s)),(69,str s),(68,.map (some q)),(67,.map (some q))]).eval (.tmp 71)=.agg #[.int .i64 (ifK s),.int .i64 (-1),.slice none 0 0]:=Jd hsz rfl
 have ep:(Ji a [(71,.agg #[.int .i64 (ifK s),.int .i64 (-1),.slice none 0 0]),(70,.int .i64 (ifK s)),(69,str s),(68,.map (some q)),(67,.map (some q))]).eval (.tmp 10)=.pointer (some ⟨p,0,none⟩):=(Jd hsz rfl).trans p2
 have hrun:(execOp (Ji a [(71,.agg #[.int .i64 (ifK s),.int .i64 (-1),.slice none 0 0]),(70,.int .i64 (ifK s)),(69,str s),(68,.map (some q)),(67,.map (some q))]).eval o).run Try.prog w2=.ok .skip (w2.setRow p #[.int .i64 (ifK s),.int .i64 (-1),.slice none 0 0]):=by
  have hsz26:=Try.sizeOf26 w2
  simp only[execOp,e1,et,ep,Instr.storeAt,Instr.sureAddr,storeVar,Sem.run_bind,Sem.run_pure,Result.andThen_ok,hsz26,Value.cells]
  simp[hsc]
 refine Za e3 e2 hrun ?_
 obtain rfl:=List.map_eq_nil_iff.1 hops
 obtain⟨w5,l5⟩:=w3.setBox (n:=n) (b:=p) (row':=[.d (.v (.int .i64 (ifK s))),.d (.v (.int .i64 (-1))),.sl 3 [] 0]) (vs:=[.int .i64 (ifK s),.int .i64 (-1),.slice none 0 0]) hn p1 p4' (.of ⟨.v _,.v _,⟨.slnil _ _,.inl ⟨none,0,rfl⟩⟩,trivial⟩) (by rw[hcs]; rfl) hb (fun _=>hrp) (fun j Φ hj=>by rcases j with _|_|_|j <;> simp at hj)
 exact⟨rfl,_,rfl,Vi hs (l3.trans l5) [(71,.agg #[.int .i64 (ifK s),.int .i64 (-1),.slice none 0 0]),(70,.int .i64 (ifK s)),(69,str s),(68,.map (some q)),(67,.map (some q))] [67,68,69,70,71] (fun i hi=>by simp at hi ⊢; omega) (by rw[hN]; rfl),w5⟩
end Go.Proofs.Ytaofbminodhcnaa
