/- names' with as a function; an S's map. Written by mkql.py. -/
import Derived.Test.YtaofbminodhcnaaZcap
import Derived.Test.YtaofbminodhcnaaZcaw
set_option linter.unusedVariables false
set_option linter.unusedSimpArgs false
set_option maxHeartbeats 4000000
set_option maxRecDepth 100000
namespace Go.Proofs.Ytaofbminodhcnaa
open Go.RowKit Go.Maps
noncomputable def Ze(a0:EN)(a1:EN)(a2:List UInt8)(a3:Int):Option Unit:=if a2.length≤9223372036854775807∧a0.length<9223372036854775806∧a1.length<9223372036854775806 then some () else none
noncomputable def Zj(a0:EN)(a1:EN)(a2:List UInt8)(a3:Int)(r:Unit):GI :=
 ⟨[.ag [.fm (EM Try.prog 58 (cvN a0)),.fm (EM Try.prog 58 (cvN a1))],.c (.d (.v (str a2))),.c (.d (.v (.int .i64 a3)))],[],[],.ret (.ag [.fm (EM Try.prog 58 (cvN ((a2,a3)::a0))),.fm (EM Try.prog 58 (cvN ((a2,a3)::a1)))]) [] []⟩
def Zp:GI→Prop:=fun g=>∃ (a0:EN) (a1:EN) (a2:List UInt8) (a3:Int) (r:Unit),Ze a0 a1 a2 a3=some r∧g=Zj a0 a1 a2 a3 r
theorem JhD(a0:EN)(a1:EN)(a2:List UInt8)(a3:Int)(r:Unit)(H:Ze a0 a1 a2 a3=some r):Zp (Zj a0 a1 a2 a3 r):=⟨a0,a1,a2,a3,r,H,rfl⟩
theorem Jhj:∀ g,Zp g→Jx Try.prog 75 g:=by
 rintro _ ⟨a0,a1,a2,a3,r,H,rfl⟩
 refine xGnl mixed [1000048] [] [] [] trivial trivial trivial Try.func75 _ ?_
 have G:=True.intro
 have Y:=xZ y_58 <| xZ y_72 <| xZ Try.results75 <| Zj.eq_1
 dsimp only[Zj]
 unfold Ze at H
 obtain⟨hg,H⟩:=Jj H
 refine Zn ?_
 refine xr0 ?_
 refine Jq ?_
 refine Jyk a0 a1 a2 a3 hg ?_
 refine xrD [] ?_
 exact xO ⟨[],[]⟩
theorem JhG:Jh Try.prog 75∧(∀ g,Zp g→Jx Try.prog 75 g)∧(true=true→∀ g,Zp g→∃ val bs ts,g.out=.ret val bs ts) :=
 ⟨Jxp,Jhj,fun _=>by rintro _ ⟨_,_,_,_,_,_,rfl⟩; exact⟨_,_,_,rfl⟩⟩
theorem keyI:Keyed Try.prog 3:=int_keyed Try.underlying3
noncomputable def KMI(L:MI):OP:=OM Try.prog 3 L.length (dMI L)
def ZQ(L:MI)(s:Int):Int:=(iGet L s).getD 0
def iHas(L:MI)(s:Int):Bool:=(iGet L s).isSome
theorem Jl1{z:Int}(h:0≤z∧z≤9223372036854775807):keyOf Try.prog 3 (.int .i64 z)=some (.int .i64 z):=by
 have h1:(Lit.int .i64 z).wf=true:=by simp[Lit.wf,IntKind.min,IntKind.max,IntKind.signed,IntKind.bits]; omega
 simp[keyOf,Try.underlying3,mapKey,h1]
theorem JuA{a:Act}{w:World}{o:Oper}{x y:Operand}{b:Nat}{L:MI}{z:Int}(h:o.op=.lookup 68 x y true)(hown:w.ownsMap Try.prog 3 anyE b L.length (dMI L))(hx:a.eval x=.map (some b))(hy:a.eval y=.int .i64 z)(hz:0≤z∧z≤9223372036854775807):
  (execOp a.eval o).run Try.prog w=.ok (.value (.tuple #[.int .i64 (ZQ L z),.bool (iHas L z)])) w:=by
 obtain⟨v,ps,y1,y2⟩:=JqZ h keyI Try.underlying68 (Try.zeroValue3 _) (zd:=.lit (.int .i64 0)) (zp:=[]) rfl hown hx (kl:=.int .i64 z) (by rw[hy]; exact Jl1 hz)
 have hv:v=.int .i64 (ZQ L z):=by
  rw[JtK]at y2
  rw[ZQ]
  cases hb:iGet L z with
  | none=>rw[hb]at y2; exact Jek y2
  | some b=>rw[hb]at y2; exact Jek y2
 rw[hv,JqT]at y1
 exact y1
theorem obI{Γ:Ctx}{h:Hp}{e:Env}(hw:WInv Γ h e){n:Nat}{L:MI}(hn:h.H n=some [.ob (KMI L)]){v:Value}(h0:RC e (.mo n) v):∃ b o,e.ρ n=some b∧v=.map (some b)∧e.w.heap[b]? = some o∧e.w.ownsMap Try.prog 3 anyE b L.length (dMI L)∧JcE o=1:=by
 obtain⟨b,k1,k2⟩:=h0
 obtain⟨b',o,q1,q2,q3,q4,q5⟩:=hw.obView hn
 rw[k1]at q1; cases q1
 exact⟨b,o,k1,k2,q2,JeB.2 ⟨o,q2,q3⟩,JkC q3⟩
theorem JpW{Γ:Ctx}{h:Hp}{e:Env}(hw:WInv Γ h e){n m:Nat}{L:MI}{c0 c2 c3 c4:C}(hn:h.H n=some [c0,.mo m,c2,c3,c4])(hb:JcF [c0,.mo m,c2,c3,c4]=true)(hrp:rowP [c0,.mo m,c2,c3,c4]=true)(hm:h.H m=some [.ob (KMI L)]){v:Value}(h0:RA e (.c (.pt n 0)) v):
  ∃ p b o,v=.pointer (some ⟨p,0,none⟩)∧e.w.cell? ⟨p,0+tOff Try.prog 70 1,none⟩=some (.map (some b))∧e.ρ m=some b∧e.w.heap[b]? = some o∧e.w.ownsMap Try.prog 3 anyE b L.length (dMI L)∧JcE o=1:=by
 obtain⟨p,p1,p2⟩:=h0
 obtain⟨p',cs,ty,p3,p4,p5,_⟩:=hw.boxAt p1 _ hn hb
 rw[p1]at p3; cases p3
 obtain⟨x0,hx0,r0⟩:=(p5.plain hrp).get 1 _ rfl
 obtain⟨b,ob,k1,rfl,k3,k4,k5⟩:=obI hw hm r0
 refine⟨p,b,ob,p2,?_,k1,k3,k4,k5⟩
 rw[show 0+tOff Try.prog 70 1=1 by kernel_rfl]
 have hx1:cs[1]? = some (.map (some b)):=by rw[← Array.getElem?_toList]; exact hx0
 simp[World.cell?,p4,hx1]
theorem Jxx(L:MI)(z:Int)(u:Int)(hg:0≤z∧z≤9223372036854775807∧L.length<9223372036854775807){t:Tab}{σ:Nat→AV}{h:Hp}{Q:KA}{n m:Nat}{c0 c2 c3 c4:C}{ops:Array Oper}
  (x:Q .normal (fgt [33,34,35,36,37,38] σ) { h with H:=upd h.H m (some [.ob (KMI ((z,u)::L))]) })
  (h0:σ 0=.c (.pt n 0):=by(simp -implicitDefEqProofs only[goR,↓Jk,goS,↓reduceIte,reduceCtorEq,seval,Y]; try rfl)) (h2:σ 2=.c (.d (.v (.int .i64 z))):=by(simp -implicitDefEqProofs only[goR,↓Jk,goS,↓reduceIte,reduceCtorEq,seval,Y]; try rfl)) (h6:σ 6=.c (.d (.v (.int .i64 u))):=by(simp -implicitDefEqProofs only[goR,↓Jk,goS,↓reduceIte,reduceCtorEq,seval,Y]; try rfl)) (hn:h.H n=some [c0,.mo m,c2,c3,c4]:=by(simp -implicitDefEqProofs only[goR,↓Jk,goS,↓reduceIte,reduceCtorEq,seval,Y]; try rfl)) (hm:h.H m=some [.ob (KMI L)]:=by(simp -implicitDefEqProofs only[goR,↓Jk,goS,↓reduceIte,reduceCtorEq,seval,Y]; try rfl))
  (hb:JcF [c0,.mo m,c2,c3,c4]=true:=by rfl) (hrp:rowP [c0,.mo m,c2,c3,c4]=true:=by rfl) (hP:t.P=Try.prog:=by rfl) (hl0:t.lk.contains 999999=false:=by rfl) (hlk:t.lk.contains 1000039=true:=by rfl)
  (hops:ops.toList.map shO=[(.move (.tmp 0),some 33,none),(.nilCheck (.tmp 33),some 34,none),(.fieldAddr 70 (.tmp 34) 1,some 35,none),(.load 68 (.tmp 35),some 36,none),(.move (.tmp 2),some 37,none),(.move (.tmp 6),some 38,none),(.mapUpdate 68 (.tmp 36) (.tmp 37) (.tmp 38),none,none)]:=by rfl):aC t (.region 5 ops false) σ h Q:=by
 refine⟨σ,h,Wk.refl _ _ _,.inr ⟨_,_,⟨hl0,fun Γ a e hΓ hnt hs hw=>?_⟩,x⟩⟩
 have hN:Γ.nt=39:=hnt 39 hlk
 rw[hP]
 have hsz:a.tmps.size=39:=hs.1.trans hN
 have r0:=hs.2.2 0 (by omega)
 rw[h0]at r0
 obtain⟨p,b,ob,k2,kc,k1,k3,k4,k5⟩:=JpW hw hn hb hrp hm r0
 have k2:a.eval (.tmp 0)=.pointer (some ⟨p,0,none⟩):=k2
 have r2:=hs.2.2 2 (by omega)
 rw[h2]at r2
 have r2:a.eval (.tmp 2)=.int .i64 z:=R1.vInv r2
 have r6:=hs.2.2 6 (by omega)
 rw[h6]at r6
 have r6:a.eval (.tmp 6)=.int .i64 u:=R1.vInv r6
 refine wp_region_list ?_
 generalize ops.toList=l at hops ⊢
 change wpList _ _ _ l (Ji a []) _
 obtain⟨o,l,rfl,e1,e2,e3,hops⟩:=Jn hops
 refine Je e3 e2 (Jw e1 ((Jd hsz rfl).trans k2)) ?_
 obtain⟨o,l,rfl,e1,e2,e3,hops⟩:=Jn hops
 refine Je e3 e2 (JaW e1 (Jd hsz rfl)) ?_
 obtain⟨o,l,rfl,e1,e2,e3,hops⟩:=Jn hops
 refine Je e3 e2 (Vc e1 (by kernel_rfl) (Jd hsz rfl)) ?_
 obtain⟨o,l,rfl,e1,e2,e3,hops⟩:=Jn hops
 refine Je e3 e2 (VN e1 (by kernel_rfl) (by kernel_rfl) (Jd hsz rfl) kc) ?_
 obtain⟨o,l,rfl,e1,e2,e3,hops⟩:=Jn hops
 refine Je e3 e2 (Jw e1 ((Jd hsz rfl).trans r2)) ?_
 obtain⟨o,l,rfl,e1,e2,e3,hops⟩:=Jn hops
 refine Je e3 e2 (Jw e1 ((Jd hsz rfl).trans r6)) ?_
 obtain⟨o,l,rfl,e1,e2,e3,hops⟩:=Jn hops
 have E:∀ i,(Ji a [(38,.int .i64 u),(37,.int .i64 z),(36,.map (some b)),(35,.pointer (some ⟨p,0+tOff Try.prog 70 1,none⟩)),(34,.pointer (some ⟨p,0,none⟩)),(33,.pointer (some ⟨p,0,none⟩))]).eval (.tmp i)=(lkv [(38,.int .i64 u),(37,.int .i64 z),(36,.map (some b)),(35,.pointer (some ⟨p,0+tOff Try.prog 70 1,none⟩)),(34,.pointer (some ⟨p,0,none⟩)),(33,.pointer (some ⟨p,0,none⟩))] i).getD (a.eval (.tmp i)):=fun i=>Jd hsz rfl
 obtain⟨w',q1,q2,q3⟩:=Jgt (w:=e.w) (a:=Ji a [(38,.int .i64 u),(37,.int .i64 z),(36,.map (some b)),(35,.pointer (some ⟨p,0+tOff Try.prog 70 1,none⟩)),(34,.pointer (some ⟨p,0,none⟩)),(33,.pointer (some ⟨p,0,none⟩))]) e1 keyI Try.underlying68 (n:=L.length) (by unfold maxLen; exact hg.2.2) k4 (E 36) (kl:=.int .i64 z) (by rw[show(Ji a [(38,.int .i64 u),(37,.int .i64 z),(36,.map (some b)),(35,.pointer (some ⟨p,0+tOff Try.prog 70 1,none⟩)),(34,.pointer (some ⟨p,0,none⟩)),(33,.pointer (some ⟨p,0,none⟩))]).eval (.tmp 37)=.int .i64 z from(E 37)]; exact Jl1 ⟨hg.1,hg.2.1⟩) (d:=.lit (.int .i64 u)) (ps:=[]) (by rw[show(Ji a [(38,.int .i64 u),(37,.int .i64 z),(36,.map (some b)),(35,.pointer (some ⟨p,0+tOff Try.prog 70 1,none⟩)),(34,.pointer (some ⟨p,0,none⟩)),(33,.pointer (some ⟨p,0,none⟩))]).eval (.tmp 38)=.int .i64 u from(E 38)]; rfl)
 refine Za e3 e2 q1 ?_
 obtain rfl:=List.map_eq_nil_iff.1 hops
 obtain⟨o',b1,b2⟩:=JeB.1 q2
 obtain⟨w1,l1⟩:=hw.obSet (KMI ((z,u)::L)) hm k1 k3 b1 b2 (by rw[k5,JkC b2]; exact Nat.le_refl _) q3.os q3.tape q3.output q3.size (fun j hj hjb=>q3.block j hj (by simpa using hjb))
 exact⟨rfl,_,rfl,Vi hs l1 [(38,.int .i64 u),(37,.int .i64 z),(36,.map (some b)),(35,.pointer (some ⟨p,0+tOff Try.prog 70 1,none⟩)),(34,.pointer (some ⟨p,0,none⟩)),(33,.pointer (some ⟨p,0,none⟩))] [33,34,35,36,37,38] (fun i hi=>by simp at hi ⊢; omega) (by rw[hN]; rfl),w1⟩
theorem JwC(L:MI)(z:Int)(hg:0≤z∧z≤9223372036854775807∧L.length<9223372036854775807){t:Tab}{σ:Nat→AV}{h:Hp}{Q:KA}{n m:Nat}{c0 c2 c3 c4:C}{ops:Array Oper}
  (x:Q .normal (fgt [34,35,36,37,38,39] σ) { h with H:=upd h.H m (some [.ob (KMI ((z,z)::L))]) })
  (h0:σ 0=.c (.pt n 0):=by(simp -implicitDefEqProofs only[goR,↓Jk,goS,↓reduceIte,reduceCtorEq,seval,Y]; try rfl)) (h2:σ 2=.c (.d (.v (.int .i64 z))):=by(simp -implicitDefEqProofs only[goR,↓Jk,goS,↓reduceIte,reduceCtorEq,seval,Y]; try rfl)) (hn:h.H n=some [c0,.mo m,c2,c3,c4]:=by(simp -implicitDefEqProofs only[goR,↓Jk,goS,↓reduceIte,reduceCtorEq,seval,Y]; try rfl)) (hm:h.H m=some [.ob (KMI L)]:=by(simp -implicitDefEqProofs only[goR,↓Jk,goS,↓reduceIte,reduceCtorEq,seval,Y]; try rfl))
  (hb:JcF [c0,.mo m,c2,c3,c4]=true:=by rfl) (hrp:rowP [c0,.mo m,c2,c3,c4]=true:=by rfl) (hP:t.P=Try.prog:=by rfl) (hl0:t.lk.contains 999999=false:=by rfl) (hlk:t.lk.contains 1000051=true:=by rfl)
  (hops:ops.toList.map shO=[(.move (.tmp 0),some 34,none),(.nilCheck (.tmp 34),some 35,none),(.fieldAddr 70 (.tmp 35) 1,some 36,none),(.load 68 (.tmp 36),some 37,none),(.move (.tmp 2),some 38,none),(.move (.tmp 2),some 39,none),(.mapUpdate 68 (.tmp 37) (.tmp 38) (.tmp 39),none,none)]:=by rfl):aC t (.region 6 ops false) σ h Q:=by
 refine⟨σ,h,Wk.refl _ _ _,.inr ⟨_,_,⟨hl0,fun Γ a e hΓ hnt hs hw=>?_⟩,x⟩⟩
 have hN:Γ.nt=51:=hnt 51 hlk
 rw[hP]
 have hsz:a.tmps.size=51:=hs.1.trans hN
 have r0:=hs.2.2 0 (by omega)
 rw[h0]at r0
 obtain⟨p,b,ob,k2,kc,k1,k3,k4,k5⟩:=JpW hw hn hb hrp hm r0
 have k2:a.eval (.tmp 0)=.pointer (some ⟨p,0,none⟩):=k2
 have r2:=hs.2.2 2 (by omega)
 rw[h2]at r2
 have r2:a.eval (.tmp 2)=.int .i64 z:=R1.vInv r2
 refine wp_region_list ?_
 generalize ops.toList=l at hops ⊢
 change wpList _ _ _ l (Ji a []) _
 obtain⟨o,l,rfl,e1,e2,e3,hops⟩:=Jn hops
 refine Je e3 e2 (Jw e1 ((Jd hsz rfl).trans k2)) ?_
 obtain⟨o,l,rfl,e1,e2,e3,hops⟩:=Jn hops
 refine Je e3 e2 (JaW e1 (Jd hsz rfl)) ?_
 obtain⟨o,l,rfl,e1,e2,e3,hops⟩:=Jn hops
 refine Je e3 e2 (Vc e1 (by kernel_rfl) (Jd hsz rfl)) ?_
 obtain⟨o,l,rfl,e1,e2,e3,hops⟩:=Jn hops
 refine Je e3 e2 (VN e1 (by kernel_rfl) (by kernel_rfl) (Jd hsz rfl) kc) ?_
 obtain⟨o,l,rfl,e1,e2,e3,hops⟩:=Jn hops
 refine Je e3 e2 (Jw e1 ((Jd hsz rfl).trans r2)) ?_
 obtain⟨o,l,rfl,e1,e2,e3,hops⟩:=Jn hops
 refine Je e3 e2 (Jw e1 ((Jd hsz rfl).trans r2)) ?_
 obtain⟨o,l,rfl,e1,e2,e3,hops⟩:=Jn hops
 have E:∀ i,(Ji a [(39,.int .i64 z),(38,.int .i64 z),(37,.map (some b)),(36,.pointer (some ⟨p,0+tOff Try.prog 70 1,none⟩)),(35,.pointer (some ⟨p,0,none⟩)),(34,.pointer (some ⟨p,0,none⟩))]).eval (.tmp i)=(lkv [(39,.int .i64 z),(38,.int .i64 z),(37,.map (some b)),(36,.pointer (some ⟨p,0+tOff Try.prog 70 1,none⟩)),(35,.pointer (some ⟨p,0,none⟩)),(34,.pointer (some ⟨p,0,none⟩))] i).getD (a.eval (.tmp i)):=fun i=>Jd hsz rfl
 obtain⟨w',q1,q2,q3⟩:=Jgt (w:=e.w) (a:=Ji a [(39,.int .i64 z),(38,.int .i64 z),(37,.map (some b)),(36,.pointer (some ⟨p,0+tOff Try.prog 70 1,none⟩)),(35,.pointer (some ⟨p,0,none⟩)),(34,.pointer (some ⟨p,0,none⟩))]) e1 keyI Try.underlying68 (n:=L.length) (by unfold maxLen; exact hg.2.2) k4 (E 37) (kl:=.int .i64 z) (by rw[show(Ji a [(39,.int .i64 z),(38,.int .i64 z),(37,.map (some b)),(36,.pointer (some ⟨p,0+tOff Try.prog 70 1,none⟩)),(35,.pointer (some ⟨p,0,none⟩)),(34,.pointer (some ⟨p,0,none⟩))]).eval (.tmp 38)=.int .i64 z from(E 38)]; exact Jl1 ⟨hg.1,hg.2.1⟩) (d:=.lit (.int .i64 z)) (ps:=[]) (by rw[show(Ji a [(39,.int .i64 z),(38,.int .i64 z),(37,.map (some b)),(36,.pointer (some ⟨p,0+tOff Try.prog 70 1,none⟩)),(35,.pointer (some ⟨p,0,none⟩)),(34,.pointer (some ⟨p,0,none⟩))]).eval (.tmp 39)=.int .i64 z from(E 39)]; rfl)
 refine Za e3 e2 q1 ?_
 obtain rfl:=List.map_eq_nil_iff.1 hops
 obtain⟨o',b1,b2⟩:=JeB.1 q2
 obtain⟨w1,l1⟩:=hw.obSet (KMI ((z,z)::L)) hm k1 k3 b1 b2 (by rw[k5,JkC b2]; exact Nat.le_refl _) q3.os q3.tape q3.output q3.size (fun j hj hjb=>q3.block j hj (by simpa using hjb))
 exact⟨rfl,_,rfl,Vi hs l1 [(39,.int .i64 z),(38,.int .i64 z),(37,.map (some b)),(36,.pointer (some ⟨p,0+tOff Try.prog 70 1,none⟩)),(35,.pointer (some ⟨p,0,none⟩)),(34,.pointer (some ⟨p,0,none⟩))] [34,35,36,37,38,39] (fun i hi=>by simp at hi ⊢; omega) (by rw[hN]; rfl),w1⟩
theorem Jxh(L:MI)(z:Int)(hg:0≤z∧z≤9223372036854775807){t:Tab}{σ:Nat→AV}{h:Hp}{Q:KA}{n m:Nat}{c0 c2 c3 c4:C}{ops:Array Oper}
  (x:Q .normal (upd (upd (fgt [38,39,40,41,42,43,37,44,45,9,10] σ) 9 (.c (.d (.v (.int .i64 (ZQ L z)))))) 10 (.c (.d (.v (.bool (iHas L z)))))) h)
  (h6:σ 6=.c (.pt n 0):=by(simp -implicitDefEqProofs only[goR,↓Jk,goS,↓reduceIte,reduceCtorEq,seval,Y]; try rfl)) (h8:σ 8=.c (.d (.v (.int .i64 z))):=by(simp -implicitDefEqProofs only[goR,↓Jk,goS,↓reduceIte,reduceCtorEq,seval,Y]; try rfl)) (hn:h.H n=some [c0,.mo m,c2,c3,c4]:=by(simp -implicitDefEqProofs only[goR,↓Jk,goS,↓reduceIte,reduceCtorEq,seval,Y]; try rfl)) (hm:h.H m=some [.ob (KMI L)]:=by(simp -implicitDefEqProofs only[goR,↓Jk,goS,↓reduceIte,reduceCtorEq,seval,Y]; try rfl))
  (hb:JcF [c0,.mo m,c2,c3,c4]=true:=by rfl) (hrp:rowP [c0,.mo m,c2,c3,c4]=true:=by rfl) (hP:t.P=Try.prog:=by rfl) (hl0:t.lk.contains 999999=false:=by rfl) (hlk:t.lk.contains 1000059=true:=by rfl)
  (hops:ops.toList.map shO=[(.move (.tmp 6),some 38,none),(.nilCheck (.tmp 38),some 39,none),(.fieldAddr 70 (.tmp 39) 1,some 40,none),(.load 68 (.tmp 40),some 41,none),(.move (.tmp 8),some 42,none),(.lookup 68 (.tmp 41) (.tmp 42) true,some 43,none),(.move (.tmp 43),some 37,none),(.extract (.tmp 37) 0,some 44,none),(.extract (.tmp 37) 1,some 45,none),(.assign (.tmp 44),some 9,none),(.assign (.tmp 45),some 10,none)]:=by rfl):aC t (.region 9 ops false) σ h Q:=by
 refine⟨σ,h,Wk.refl _ _ _,.inr ⟨_,_,⟨hl0,fun Γ a e hΓ hnt hs hw=>?_⟩,x⟩⟩
 have hN:Γ.nt=59:=hnt 59 hlk
 rw[hP]
 have hsz:a.tmps.size=59:=hs.1.trans hN
 have r6:=hs.2.2 6 (by omega)
 rw[h6]at r6
 obtain⟨p,b,ob,k2,kc,k1,k3,k4,k5⟩:=JpW hw hn hb hrp hm r6
 have k2:a.eval (.tmp 6)=.pointer (some ⟨p,0,none⟩):=k2
 have r8:=hs.2.2 8 (by omega)
 rw[h8]at r8
 have r8:a.eval (.tmp 8)=.int .i64 z:=R1.vInv r8
 refine wp_region_list ?_
 generalize ops.toList=l at hops ⊢
 change wpList _ _ _ l (Ji a []) _
 obtain⟨o,l,rfl,e1,e2,e3,hops⟩:=Jn hops
 refine Je e3 e2 (Jw e1 ((Jd hsz rfl).trans k2)) ?_
 obtain⟨o,l,rfl,e1,e2,e3,hops⟩:=Jn hops
 refine Je e3 e2 (JaW e1 (Jd hsz rfl)) ?_
 obtain⟨o,l,rfl,e1,e2,e3,hops⟩:=Jn hops
 refine Je e3 e2 (Vc e1 (by kernel_rfl) (Jd hsz rfl)) ?_
 obtain⟨o,l,rfl,e1,e2,e3,hops⟩:=Jn hops
 refine Je e3 e2 (VN e1 (by kernel_rfl) (by kernel_rfl) (Jd hsz rfl) kc) ?_
 obtain⟨o,l,rfl,e1,e2,e3,hops⟩:=Jn hops
 refine Je e3 e2 (Jw e1 ((Jd hsz rfl).trans r8)) ?_
 obtain⟨o,l,rfl,e1,e2,e3,hops⟩:=Jn hops
 refine Je e3 e2 (JuA e1 k4 (Jd hsz rfl) (Jd hsz rfl) hg) ?_
 obtain⟨o,l,rfl,e1,e2,e3,hops⟩:=Jn hops
 refine Je e3 e2 (Jw e1 (Jd hsz rfl)) ?_
 obtain⟨o,l,rfl,e1,e2,e3,hops⟩:=Jn hops
 refine Je e3 e2 (K4 (v:=.int .i64 (ZQ L z)) e1 (Jd hsz rfl) rfl) ?_
 obtain⟨o,l,rfl,e1,e2,e3,hops⟩:=Jn hops
 refine Je e3 e2 (K4 (v:=.bool (iHas L z)) e1 (Jd hsz rfl) rfl) ?_
 obtain⟨o,l,rfl,e1,e2,e3,hops⟩:=Jn hops
 refine Je e3 e2 (Ve e1 (Jd hsz rfl)) ?_
 obtain⟨o,l,rfl,e1,e2,e3,hops⟩:=Jn hops
 refine Je e3 e2 (Ve e1 (Jd hsz rfl)) ?_
 obtain rfl:=List.map_eq_nil_iff.1 hops
 refine⟨rfl,e,rfl,Ja7 (Ja7 (Vi hs (Env.le.refl _) [(10,.bool (iHas L z)),(9,.int .i64 (ZQ L z)),(45,.bool (iHas L z)),(44,.int .i64 (ZQ L z)),(37,.tuple #[.int .i64 (ZQ L z),.bool (iHas L z)]),(43,.tuple #[.int .i64 (ZQ L z),.bool (iHas L z)]),(42,.int .i64 z),(41,.map (some b)),(40,.pointer (some ⟨p,0+tOff Try.prog 70 1,none⟩)),(39,.pointer (some ⟨p,0,none⟩)),(38,.pointer (some ⟨p,0,none⟩))] [38,39,40,41,42,43,37,44,45,9,10] (fun i hi=>by simp at hi ⊢; omega) (by rw[hN]; rfl)) (by omega) ?_) (by omega) ?_,hw⟩
 ·have e5:(Ji a [(10,.bool (iHas L z)),(9,.int .i64 (ZQ L z)),(45,.bool (iHas L z)),(44,.int .i64 (ZQ L z)),(37,.tuple #[.int .i64 (ZQ L z),.bool (iHas L z)]),(43,.tuple #[.int .i64 (ZQ L z),.bool (iHas L z)]),(42,.int .i64 z),(41,.map (some b)),(40,.pointer (some ⟨p,0+tOff Try.prog 70 1,none⟩)),(39,.pointer (some ⟨p,0,none⟩)),(38,.pointer (some ⟨p,0,none⟩))]).eval (.tmp 9)=.int .i64 (ZQ L z):=Jd hsz rfl
  rw[e5]; exact .v _
 ·have e6:(Ji a [(10,.bool (iHas L z)),(9,.int .i64 (ZQ L z)),(45,.bool (iHas L z)),(44,.int .i64 (ZQ L z)),(37,.tuple #[.int .i64 (ZQ L z),.bool (iHas L z)]),(43,.tuple #[.int .i64 (ZQ L z),.bool (iHas L z)]),(42,.int .i64 z),(41,.map (some b)),(40,.pointer (some ⟨p,0+tOff Try.prog 70 1,none⟩)),(39,.pointer (some ⟨p,0,none⟩)),(38,.pointer (some ⟨p,0,none⟩))]).eval (.tmp 10)=.bool (iHas L z):=Jd hsz rfl
  rw[e6]; exact .v _
theorem JxK{t:Tab}{σ:Nat→AV}{h:Hp}{Q:KA}{y:D}{ops:Array Oper}(x:Q .normal (upd (upd (fgt [11,12,13,14,15,6] σ) 15 (.c (.pt (h.box [.ob (KMI [])]).nx 0))) 6 (.c (.pt (h.box [.ob (KMI [])]).nx 0))) ((h.box [.ob (KMI [])]).box [.d y,.mo h.nx,.d (.v (.int .i64 0)),.d (.v (.int .i64 (-1))),.d (.v (.int .i64 0))]))
  (h0:σ 0=.c (.d y):=by(simp -implicitDefEqProofs only[goR,↓Jk,goS,↓reduceIte,reduceCtorEq,seval,Y]; try rfl)) (hy:∀ (w:World) (S:Nat→Nat→Prop) (v:Value),R1 w S y v→v.cells=#[v]:=by intro w S v hv; rcases hv.slInv with⟨_,o,rfl⟩|⟨vs,b,of,cap,rfl,_⟩ <;> rfl)
  (hP:t.P=Try.prog:=by rfl) (hl0:t.lk.contains 999999=false:=by rfl) (hlk:t.lk.contains 1000059=true:=by rfl) (hops:ops.toList.map shO=[(.move (.tmp 0),some 11,none),(.makeMap 68 none,some 12,none),(.build 29 #[(1,.const (.int .i64 (-1)))],some 13,none),(.build 70 #[(0,.tmp 11),(1,.tmp 12),(2,.tmp 13)],some 14,none),(.box 70 (.tmp 14),some 15,none),(.assign (.tmp 15),some 6,none)]:=by rfl):aC t (.region 1 ops false) σ h Q:=by
 refine⟨σ,h,Wk.refl _ _ _,.inr ⟨_,_,⟨hl0,fun Γ a e hΓ hnt hs hw=>?_⟩,x⟩⟩
 have hN:Γ.nt=59:=hnt 59 hlk
 rw[hP]
 have hsz:a.tmps.size=59:=hs.1.trans hN
 have r0:=hs.2.2 0 (by omega)
 rw[h0]at r0
 have r0:R1 e.w e.S y (a.eval (.tmp 0)):=r0
 have hc0:=hy _ _ _ r0
 have hag:∀ cs:Array Value,(Value.agg cs).cells=cs:=fun _=>rfl
 have hin:∀ k n,(Value.int k n).cells=#[Value.int k n]:=fun _ _=>rfl
 have hmp:∀ k,(Value.map k).cells=#[Value.map k]:=fun _=>rfl
 refine wp_region_list ?_
 generalize ops.toList=l at hops ⊢
 change wpList _ _ _ l (Ji a []) _
 obtain⟨o,l,rfl,e1,e2,e3,hops⟩:=Jn hops
 refine Je e3 e2 (Jw e1 (Jd hsz rfl)) ?_
 obtain⟨o,l,rfl,e1,e2,e3,hops⟩:=Jn hops
 refine Je e3 e2 (Jfh e1) ?_
 obtain⟨o,l,rfl,e1,e2,e3,hops⟩:=Jn hops
 change wpList _ _ _ _ (Ji a [(12,.map (some e.w.heap.size)),(11,a.eval (.tmp 0))]) _
 have hb29:(execOp (Ji a [(12,.map (some e.w.heap.size)),(11,a.eval (.tmp 0))]).eval o).run Try.prog (e.w.alloc (.map #[] 0))=.ok (.value (.agg #[.int .i64 0,.int .i64 (-1),.int .i64 0])) (e.w.alloc (.map #[] 0)):=by
  have hz:=Try.zeroValue29 (e.w.alloc (.map #[] 0))
  have ec:(Ji a [(12,.map (some e.w.heap.size)),(11,a.eval (.tmp 0))]).eval (.const (.int .i64 (-1)))=.int .i64 (-1):=rfl
  simp only[execOp,e1,Instr.build,Sem.run_bind,hz,Result.andThen_ok,run_underlying Try.underlying29,List.mapM_toArray,Array.mapM_eq_mapM_toList,List.mapM_cons,List.mapM_nil,Try.sizeOf3,Try.sizeOf27,Sem.run_pure,List.map_toArray,List.map_cons,List.map_nil,ec,hag]
  simp[Instr.fill,hin]
 refine Je e3 e2 hb29 ?_
 obtain⟨o,l,rfl,e1,e2,e3,hops⟩:=Jn hops
 change wpList _ _ _ _ (Ji a [(13,.agg #[.int .i64 0,.int .i64 (-1),.int .i64 0]),(12,.map (some e.w.heap.size)),(11,a.eval (.tmp 0))]) _
 have ea:(Ji a [(13,.agg #[.int .i64 0,.int .i64 (-1),.int .i64 0]),(12,.map (some e.w.heap.size)),(11,a.eval (.tmp 0))]).eval (.tmp 11)=a.eval (.tmp 0):=Jd hsz rfl
 have eb:(Ji a [(13,.agg #[.int .i64 0,.int .i64 (-1),.int .i64 0]),(12,.map (some e.w.heap.size)),(11,a.eval (.tmp 0))]).eval (.tmp 12)=.map (some e.w.heap.size):=Jd hsz rfl
 have ec:(Ji a [(13,.agg #[.int .i64 0,.int .i64 (-1),.int .i64 0]),(12,.map (some e.w.heap.size)),(11,a.eval (.tmp 0))]).eval (.tmp 13)=.agg #[.int .i64 0,.int .i64 (-1),.int .i64 0]:=Jd hsz rfl
 have hb70:(execOp (Ji a [(13,.agg #[.int .i64 0,.int .i64 (-1),.int .i64 0]),(12,.map (some e.w.heap.size)),(11,a.eval (.tmp 0))]).eval o).run Try.prog (e.w.alloc (.map #[] 0))=.ok (.value (.agg #[a.eval (.tmp 0),.map (some e.w.heap.size),.int .i64 0,.int .i64 (-1),.int .i64 0])) (e.w.alloc (.map #[] 0)):=by
  have hz:=Try.zeroValue70 (e.w.alloc (.map #[] 0))
  simp only[execOp,e1,Instr.build,Sem.run_bind,hz,Result.andThen_ok,run_underlying Try.underlying70,List.mapM_toArray,Array.mapM_eq_mapM_toList,List.mapM_cons,List.mapM_nil,Try.sizeOf22,Try.sizeOf68,Try.sizeOf29,Sem.run_pure,List.map_toArray,List.map_cons,List.map_nil,ea,eb,ec,hag]
  simp[Instr.fill,hc0,hmp,hag]
 refine Je e3 e2 hb70 ?_
 obtain⟨o,l,rfl,e1,e2,e3,hops⟩:=Jn hops
 change wpList _ _ _ _ (Ji a [(14,.agg #[a.eval (.tmp 0),.map (some e.w.heap.size),.int .i64 0,.int .i64 (-1),.int .i64 0]),(13,.agg #[.int .i64 0,.int .i64 (-1),.int .i64 0]),(12,.map (some e.w.heap.size)),(11,a.eval (.tmp 0))]) _
 have ed:(Ji a [(14,.agg #[a.eval (.tmp 0),.map (some e.w.heap.size),.int .i64 0,.int .i64 (-1),.int .i64 0]),(13,.agg #[.int .i64 0,.int .i64 (-1),.int .i64 0]),(12,.map (some e.w.heap.size)),(11,a.eval (.tmp 0))]).eval (.tmp 14)=.agg #[a.eval (.tmp 0),.map (some e.w.heap.size),.int .i64 0,.int .i64 (-1),.int .i64 0]:=Jd hsz rfl
 refine Je (v:=.pointer (some ⟨(e.w.alloc (.map #[] 0)).heap.size,0,none⟩)) (w':=(e.w.alloc (.map #[] 0)).alloc (.cells #[a.eval (.tmp 0),.map (some e.w.heap.size),.int .i64 0,.int .i64 (-1),.int .i64 0] 70)) e3 e2 (by
  simp only[execOp,e1,ed,Instr.box,Sem.run_bind,Result.andThen_ok,newVar,newRow,run_newObj,Sem.run_pure]
  rfl) ?_
 obtain⟨o,l,rfl,e1,e2,e3,hops⟩:=Jn hops
 refine Je e3 e2 (Ve e1 (Jd hsz rfl)) ?_
 obtain rfl:=List.map_eq_nil_iff.1 hops
 obtain⟨e',z1,z2,z3,z4⟩:=hw.obNew (o:=.map #[] 0) (Φ:=KMI []) (by
  obtain⟨o,b1,b2⟩:=JeB.1 (World.ownsMap_made (H:=Unit) e.w Try.prog 3 anyE)
  rw[heap_alloc_new]at b1; cases b1
  exact b2)
 have hrow:RCs e' [.d y,.mo h.nx,.d (.v (.int .i64 0)),.d (.v (.int .i64 (-1))),.d (.v (.int .i64 0))] [a.eval (.tmp 0),.map (some e.w.heap.size),.int .i64 0,.int .i64 (-1),.int .i64 0] :=
  ⟨(RCs.mono z3 (show RCs e [.d y] [a.eval (.tmp 0)] from⟨r0,trivial⟩)).1,⟨_,z4,rfl⟩,.v _,.v _,.v _,trivial⟩
 obtain⟨e'',y1,y2,y3,y4⟩:=z2.newBox (cs:=#[a.eval (.tmp 0),.map (some e.w.heap.size),.int .i64 0,.int .i64 (-1),.int .i64 0]) (ty:=70) (row:=[.d y,.mo h.nx,.d (.v (.int .i64 0)),.d (.v (.int .i64 (-1))),.d (.v (.int .i64 0))]) (fun e2 hle _=>RCs.mono hle hrow) (fun c hc=>by simp at hc; rcases hc with rfl | rfl | rfl | rfl | rfl <;> rfl)
 rw[z1]at y1 y4
 have M:List (Nat×Value):=[]
 refine⟨rfl,e'',y1,Ja7 (Ja7 (Vi hs (z3.trans y3) [(6,.pointer (some ⟨(e.w.alloc (.map #[] 0)).heap.size,0,none⟩)),(15,.pointer (some ⟨(e.w.alloc (.map #[] 0)).heap.size,0,none⟩)),(14,.agg #[a.eval (.tmp 0),.map (some e.w.heap.size),.int .i64 0,.int .i64 (-1),.int .i64 0]),(13,.agg #[.int .i64 0,.int .i64 (-1),.int .i64 0]),(12,.map (some e.w.heap.size)),(11,a.eval (.tmp 0))] [11,12,13,14,15,6] (fun i hi=>by simp at hi ⊢; omega) (by rw[hN]; rfl)) (by omega) ?_) (by omega) ?_,y2⟩
 ·have e5:(Ji a [(6,.pointer (some ⟨(e.w.alloc (.map #[] 0)).heap.size,0,none⟩)),(15,.pointer (some ⟨(e.w.alloc (.map #[] 0)).heap.size,0,none⟩)),(14,.agg #[a.eval (.tmp 0),.map (some e.w.heap.size),.int .i64 0,.int .i64 (-1),.int .i64 0]),(13,.agg #[.int .i64 0,.int .i64 (-1),.int .i64 0]),(12,.map (some e.w.heap.size)),(11,a.eval (.tmp 0))]).eval (.tmp 15)=.pointer (some ⟨(e.w.alloc (.map #[] 0)).heap.size,0,none⟩):=Jd hsz rfl
  rw[e5]; exact⟨_,y4,rfl⟩
 ·have e6:(Ji a [(6,.pointer (some ⟨(e.w.alloc (.map #[] 0)).heap.size,0,none⟩)),(15,.pointer (some ⟨(e.w.alloc (.map #[] 0)).heap.size,0,none⟩)),(14,.agg #[a.eval (.tmp 0),.map (some e.w.heap.size),.int .i64 0,.int .i64 (-1),.int .i64 0]),(13,.agg #[.int .i64 0,.int .i64 (-1),.int .i64 0]),(12,.map (some e.w.heap.size)),(11,a.eval (.tmp 0))]).eval (.tmp 6)=.pointer (some ⟨(e.w.alloc (.map #[] 0)).heap.size,0,none⟩):=Jd hsz rfl
  rw[e6]; exact⟨_,y4,rfl⟩
end Go.Proofs.Ytaofbminodhcnaa
