/- The walker's fail,use and make by hand. -/
import Derived.Test.YtaofbminodhcnaaZcao
import Derived.Test.YtaofbminodhcnaaZcap
set_option linter.unusedVariables false
set_option linter.unusedSimpArgs false
set_option maxHeartbeats 4000000
set_option maxRecDepth 100000
namespace Go.Proofs.Ytaofbminodhcnaa
open Go.RowKit Go.Maps
theorem Jyl{w:World}{S:Nat→Nat→Prop}{sz:Nat}{l:List D}{v:Value}(h:R1 w S (.sl sz l) v){i:Nat}(hi:i<l.length):
  ∃ b o c,v=.slice (some ⟨b,o,none⟩) l.length c∧∀ (k:Nat) (d:D),k<sz→(l.getD i default).cells[k]? = some d→∃ x,w.cell? ⟨b,o+i * sz+k,none⟩=some x∧R1 w S d x:=by
 rcases h.slInv with⟨rfl,_⟩|⟨vs,b,o,cap,h3,h4,h5,h6,h7⟩
 ·simp at hi
 ·refine⟨b,o,cap,h3,fun k d hk hd=>?_⟩
  have hl:l[i]? = some (l.getD i default):=by simp[List.getD_eq_getElem?_getD,List.getElem?_eq_getElem hi]
  have hfl:=Jhu h6 _ _ hl
  have hr:=(h4.drop (i * sz)).take sz
  rw[hfl]at hr
  obtain⟨x,hx,hx2⟩:=hr.get k d hd
  rw[List.getElem?_take,if_pos hk,List.getElem?_drop]at hx
  exact⟨x,by have:=(h5 _ _ hx).1; rwa [← Nat.add_assoc]at this,hx2⟩
theorem JgY{P:Program}{a:Act}{w:World}{o:Oper}{t el:TypeId}{x ix:Operand}{b q n c:Nat}{i:Int}(h:o.op=.indexAddr t x ix)(hu:P.underlying t=some (.slice el))(hs:JQ P el=true)(hx:a.eval x=.slice (some ⟨b,q,none⟩) n c)(hi:a.eval ix=.int .i64 i)(h0:0≤i)(hn:i<n):
  (execOp a.eval o).run P w=.ok (.value (.pointer (some ⟨b,q+i.toNat * Jo P el,none⟩))) w:=by
 have hs:=J6 P el w hs
 simp only[execOp,h,hx,hi,Instr.indexAt,asIntOf,Sem.run_bind,Sem.run_pure,Result.andThen_ok,run_underlying hu,h0,true_and,hs]
 rw[Sem.run_ite,if_pos (by omega)]
 by_cases h0':i.toNat * Jo P el=0 <;> simp[Sem.run_bind,hs,Addr.add,h0']
theorem JuT{P:Program}{a:Act}{w:World}{o:Oper}{t:TypeId}{x:Operand}{v:Value}(h:o.op=.makeInterface t x)(ht:Jdq P t=true)(hx:a.eval x=v):(execOp a.eval o).run P w=.ok (.value (.iface t v)) w:=by
 simp only[execOp,h,hx]
 rw[Sem.run_bind,JfU ht]; rfl
def tokT(l:List Token)(i:Int):List UInt8:=(l.getD i.toNat default).Text
def JeF(K:List KD)(l:List Token)(i:Int):Bool:=enH (kTop K) (tokT l i)
theorem Jg8{Γ:Ctx}{h:Hp}{e:Env}(hw:WInv Γ h e){n:Nat}{l:List Token}{c1 c2:C}(hn:h.H n=some [.d (.sl 11 (List.map Jb l)),c1,c2]){v:Value}(h0:RA e (.c (.pt n 0)) v){i:Int}(hi:i.toNat<l.length):
  ∃ p b o c,e.ρ n=some p∧v=.pointer (some ⟨p,0,none⟩)∧e.w.cell? ⟨p,0+tOff Try.prog 61 0,none⟩=some (.slice (some ⟨b,o,none⟩) l.length c) ∧
   e.w.cell? ⟨b,o+i.toNat * Jo Try.prog 44+tOff Try.prog 44 1,none⟩=some (str (tokT l i))∧e.w.cell? ⟨b,o+i.toNat * Jo Try.prog 44+tOff Try.prog 44 4,none⟩=some (.int .i64 (l.getD i.toNat default).File) ∧
   e.w.cell? ⟨b,o+i.toNat * Jo Try.prog 44+tOff Try.prog 44 5,none⟩=some (.int .i64 (l.getD i.toNat default).At):=by
 obtain⟨p,p1,p2⟩:=h0
 obtain⟨p',cs,ty,p3,p4,p5,_⟩:=hw.boxAt p1 _ hn rfl
 rw[p1]at p3; cases p3
 have p5:=p5.plain rfl
 obtain⟨x0,hx0,r0⟩:=p5.get 0 _ rfl
 have r0:R1 e.w e.S (.sl 11 (List.map Jb l)) x0:=r0
 obtain⟨b,o,c,rfl,hel⟩:=Jyl r0 (i:=i.toNat) (by simpa using hi)
 have hg:(List.map Jb l).getD i.toNat default=Jb (l.getD i.toNat default):=by
  rw[List.getD_eq_getElem?_getD,List.getD_eq_getElem?_getD,List.getElem?_map,List.getElem?_eq_getElem hi]; rfl
 rw[hg]at hel
 rw[Jkp,JiL,Jix,Jjl]
 obtain⟨x1,h1,r1⟩:=hel 1 (.v (str (l.getD i.toNat default).Text)) (by decide) rfl
 obtain⟨x4,h4,r4⟩:=hel 4 (.v (.int .i64 (l.getD i.toNat default).File)) (by decide) rfl
 obtain⟨x5,h5,r5⟩:=hel 5 (.v (.int .i64 (l.getD i.toNat default).At)) (by decide) rfl
 obtain rfl:=R1.vInv r1
 obtain rfl:=R1.vInv r4
 obtain rfl:=R1.vInv r5
 refine⟨p,b,o,c,p1,p2,?_,h1,h4,h5⟩
 rw[show tOff Try.prog 61 0=0 from by kernel_rfl]
 have hx0':cs[0]? = some (.slice (some ⟨b,o,none⟩) (List.map Jb l).length c):=by simpa using hx0
 rw[List.length_map]at hx0'
 simpa [World.cell?,p4] using hx0'
abbrev LS63:List Nat:=[6,7,8,9,10,11,12,13,14,15,16,17,18,19,20,21,22,23,24,25]
theorem Jyn(err i:Int)(l:List Token)(hg:0≤i∧i.toNat<l.length){t:Tab}{σ:Nat→AV}{h:Hp}{Q:KA}{n:Nat}{c1 c2:C}{ops:Array Oper}
  (x:Q (.panic [{ v:=.iface 56 (.agg ⟨[.int .i64 err,.int .i64 (l.getD i.toNat default).File,.int .i64 (l.getD i.toNat default).At]⟩),recovered:=false }]) (fgt LS63 σ) h)
  (h0:σ 0=.c (.pt n 0)) (h1:σ 1=.c (.d (.v (.int .i64 err)))) (h2:σ 2=.c (.d (.v (.int .i64 i)))) (hn:h.H n=some [.d (.sl 11 (List.map Jb l)),c1,c2])
  (hP:t.P=Try.prog) (hl0:t.lk.contains 999999=false) (hlk:t.lk.contains 1000026=true)
  (hops:ops.toList.map shO=[(.move (.tmp 1),some 6,none),(.move (.tmp 0),some 7,none),(.nilCheck (.tmp 7),some 8,none),(.fieldAddr 61 (.tmp 8) 0,some 9,none),(.load 22 (.tmp 9),some 10,none),(.move (.tmp 2),some 11,none),(.indexAddr 22 (.tmp 10) (.tmp 11),some 12,none),(.fieldAddr 44 (.tmp 12) 4,some 13,none),(.load 3 (.tmp 13),some 14,none),(.move (.tmp 0),some 15,none),(.nilCheck (.tmp 15),some 16,none),(.fieldAddr 61 (.tmp 16) 0,some 17,none),(.load 22 (.tmp 17),some 18,none),(.move (.tmp 2),some 19,none),(.indexAddr 22 (.tmp 18) (.tmp 19),some 20,none),(.fieldAddr 44 (.tmp 20) 5,some 21,none),(.load 3 (.tmp 21),some 22,none),(.build 29 #[(0,.tmp 6),(1,.tmp 14),(2,.tmp 22)],some 23,none),(.build 56 #[(0,.tmp 23)],some 24,none),(.makeInterface 56 (.tmp 24),some 25,none)]++[(.panic (.tmp 25),none,none)]) (hch:chkR ops 20=true) :
  SemC t (.region 0 ops true) σ h Q:=by
 refine⟨hl0,fun Γ pure a e _ hΓ _ _ _ _ hc hs hw=>?_⟩
 simp only[KY,Bool.and_eq_true]at hc
 have hN:Γ.nt=26:=Jjd hc.2 hlk
 rw[← hΓ,hP]
 have hsz:a.tmps.size=26:=hs.1.trans hN
 have r0:=hs.2.2 0 (by omega)
 rw[h0]at r0
 obtain⟨g1,g2⟩:=hg
 obtain⟨p,b,q,c,k1,k2,k3,k4,k5,k6⟩:=Jg8 hw hn r0 g2
 have k2:a.eval (.tmp 0)=.pointer (some ⟨p,0,none⟩):=k2
 have r1:=hs.2.2 1 (by omega)
 rw[h1]at r1
 have r1:a.eval (.tmp 1)=.int .i64 err:=R1.vInv r1
 have r2:=hs.2.2 2 (by omega)
 rw[h2]at r2
 have r2:a.eval (.tmp 2)=.int .i64 i:=R1.vInv r2
 have hil:i<(l.length:Nat):=by omega
 let F:=(l.getD i.toNat default).File
 let A:=(l.getD i.toNat default).At
 let L:List (Nat×Value):=[(6,.int .i64 err),(7,.pointer (some ⟨p,0,none⟩)),(8,.pointer (some ⟨p,0,none⟩)),(9,.pointer (some ⟨p,0+tOff Try.prog 61 0,none⟩)),(10,.slice (some ⟨b,q,none⟩) l.length c),(11,.int .i64 i),(12,.pointer (some ⟨b,q+i.toNat * Jo Try.prog 44,none⟩)),(13,.pointer (some ⟨b,q+i.toNat * Jo Try.prog 44+tOff Try.prog 44 4,none⟩)),(14,.int .i64 F),
  (15,.pointer (some ⟨p,0,none⟩)),(16,.pointer (some ⟨p,0,none⟩)),(17,.pointer (some ⟨p,0+tOff Try.prog 61 0,none⟩)),(18,.slice (some ⟨b,q,none⟩) l.length c),(19,.int .i64 i),(20,.pointer (some ⟨b,q+i.toNat * Jo Try.prog 44,none⟩)),(21,.pointer (some ⟨b,q+i.toNat * Jo Try.prog 44+tOff Try.prog 44 5,none⟩)),(22,.int .i64 A),(23,.agg #[.int .i64 err,.int .i64 F,.int .i64 A]),(24,.agg #[.int .i64 err,.int .i64 F,.int .i64 A]),(25,.iface 56 (.agg #[.int .i64 err,.int .i64 F,.int .i64 A]))]
 have E:∀ i,(Ji a L).eval (.tmp i)=(lkv L i).getD (a.eval (.tmp i)):=fun i=>Jd hsz rfl
 have hag:∀ cs:Array Value,(Value.agg cs).cells=cs:=fun _=>rfl
 have hi1:∀ k n,(Value.int k n).cells=#[Value.int k n]:=fun _ _=>rfl
 have b29:∀ o:Oper,o.op=.build 29 #[(0,.tmp 6),(1,.tmp 14),(2,.tmp 22)]→(execOp (Ji a L).eval o).run Try.prog e.w.drew=.ok (.value (.agg #[.int .i64 err,.int .i64 F,.int .i64 A])) e.w.drew:=fun o e1=>by
  have hz:=Try.zeroValue29 e.w.drew
  have ea:(Ji a L).eval (.tmp 6)=.int .i64 err:=E 6
  have eb:(Ji a L).eval (.tmp 14)=.int .i64 F:=E 14
  have ec:(Ji a L).eval (.tmp 22)=.int .i64 A:=E 22
  simp only[execOp,e1,Instr.build,Sem.run_bind,hz,Result.andThen_ok,run_underlying Try.underlying29,List.mapM_toArray,Array.mapM_eq_mapM_toList,List.mapM_cons,List.mapM_nil,Try.sizeOf3,Try.sizeOf27,Sem.run_pure,List.map_toArray,List.map_cons,List.map_nil,ea,eb,ec,hag]
  simp[Instr.fill,hi1]
 have b56:∀ o:Oper,o.op=.build 56 #[(0,.tmp 23)]→(execOp (Ji a L).eval o).run Try.prog e.w.drew=.ok (.value (.agg #[.int .i64 err,.int .i64 F,.int .i64 A])) e.w.drew:=fun o e1=>by
  have hz:=Try.zeroValue56 e.w.drew
  have ea:(Ji a L).eval (.tmp 23)=.agg #[.int .i64 err,.int .i64 F,.int .i64 A]:=E 23
  simp only[execOp,e1,Instr.build,Sem.run_bind,hz,Result.andThen_ok,run_underlying Try.underlying56,List.mapM_toArray,Array.mapM_eq_mapM_toList,List.mapM_cons,List.mapM_nil,Try.sizeOf29,Sem.run_pure,List.map_toArray,List.map_cons,List.map_nil,ea,hag]
  simp[Instr.fill,hag]
 refine Jf2 _ _ _ L 26 hsz mixed hops rfl (by simp[L]) rfl hch ⟨fun o e=>Jw e ((E 1).trans r1),fun o e=>Jw e ((E 0).trans k2),fun o e=>JaW e (E 7),fun o e=>Vc e (by kernel_rfl) (E 8),fun o e=>VN e (by kernel_rfl) (by kernel_rfl) (E 9) k3,fun o e=>Jw e ((E 2).trans r2),fun o e=>JgY e Try.underlying22 (by kernel_rfl) (E 10) (E 11) g1 hil,fun o e=>Vc e Jgo (E 12),fun o e=>VN e (by kernel_rfl) (by kernel_rfl) (E 13) k5,
  fun o e=>Jw e ((E 0).trans k2),fun o e=>JaW e (E 15),fun o e=>Vc e (by kernel_rfl) (E 16),fun o e=>VN e (by kernel_rfl) (by kernel_rfl) (E 17) k3,fun o e=>Jw e ((E 2).trans r2),fun o e=>JgY e Try.underlying22 (by kernel_rfl) (E 18) (E 19) g1 hil,fun o e=>Vc e JgK (E 20),fun o e=>VN e (by kernel_rfl) (by kernel_rfl) (E 21) k6,b29,b56,fun o e=>JuT e Jg9 (E 24),trivial⟩ (fun o e0 _=>?_)
 have ev:(Ji a L).eval (.tmp 25)=.iface 56 (.agg #[.int .i64 err,.int .i64 F,.int .i64 A]):=E 25
 unfold Oper.wp
 have hrun:(execOp (Ji a L).eval o).run Try.prog e.w.drew=.halt (.panic (.iface 56 (.agg #[.int .i64 err,.int .i64 F,.int .i64 A]))) e.w.drew:=by
  simp[execOp,e0,ev,Instr.panic]
 rw[hrun,Oper.upon_panic]
 obtain⟨w1,l1⟩:=hw.drewn
 exact⟨_,_,_,x,rfl,Vi hs l1 L LS63 (fun i hi=>hi) (by rw[hN]; rfl),w1⟩
theorem Juo{K:List KD}{i:Nat}{s:List UInt8}{w:World}{m:Nat}{a:Act}{o:Oper}{x y:Operand}(hs:s.length≤9223372036854775807)(hm:w.ownsMap Try.prog 9 anyE m (cvN (K.getD i [])).length (dM (cvN (K.getD i []))))(h:o.op=.lookup 58 x y true)(hx:a.eval x=.map (some m))(hy:a.eval y=str s):
  (execOp a.eval o).run Try.prog w=.ok (.value (.tuple #[.int .i64 (enV (K.getD i []) s),.bool (enH (K.getD i []) s)])) w:=by
 obtain⟨v,ps,y1,y2⟩:=JqZ (a:=a) (w:=w) h keyK Try.underlying58 (Try.zeroValue3 _) (zd:=.lit (.int .i64 0)) (zp:=[]) rfl hm hx (kl:=.string s) (by rw[hy]; exact Jre hs)
 have hv:v=.int .i64 (enV (K.getD i []) s):=by
  rw[JsN,JjB]at y2
  rw[enV]
  cases hb:xGet (K.getD i []) s with
  | none=>rw[hb]at y2; exact Jek y2
  | some b=>rw[hb]at y2; exact Jek y2
 have hh:has (dM (cvN (K.getD i []))) (.string s)=enH (K.getD i []) s:=by
  rw[JtJ,JjB,enH]
  cases xGet (K.getD i []) s <;> rfl
 rw[hv,hh]at y1
 exact y1
abbrev LS38:List Nat:=[18,19,20,21,22,23,24,25,26,27,28,29,30,31,32,33,17,34,35,5,6]
theorem JxR(K:List KD)(l:List Token)(i tok:Int)(hg:0≤i∧i.toNat<K.length∧0≤tok∧tok.toNat<l.length∧(tokT l tok).length≤9223372036854775807){t:Tab}{σ:Nat→AV}{h:Hp}{Q:KA}{n:Nat}{c2:C}{ops:Array Oper}
  (x:Q .normal (upd (upd (fgt LS38 σ) 5 (.c (.d (.v (.int .i64 (kVal K i (tokT l tok))))))) 6 (.c (.d (.v (.bool (kHas K i (tokT l tok))))))) h)
  (h0:σ 0=.c (.pt n 0):=by(simp -implicitDefEqProofs only[goR,↓Jk,goS,↓reduceIte,reduceCtorEq,seval,Y]; try rfl)) (h4:σ 4=.c (.d (.v (.int .i64 i))):=by(simp -implicitDefEqProofs only[goR,↓Jk,goS,↓reduceIte,reduceCtorEq,seval,Y]; try rfl)) (h1:σ 1=.c (.d (.v (.int .i64 tok))):=by(simp -implicitDefEqProofs only[goR,↓Jk,goS,↓reduceIte,reduceCtorEq,seval,Y]; try rfl)) (hn:h.H n=some [.d (.sl 11 (List.map Jb l)),.kc (KSK K),c2]:=by(simp -implicitDefEqProofs only[goR,↓Jk,goS,↓reduceIte,reduceCtorEq,seval,Y]; try rfl))
  (hP:t.P=Try.prog:=by rfl) (hl0:t.lk.contains 999999=false:=by rfl) (hlk:t.lk.contains 1000052=true:=by rfl)
  (hops:ops.toList.map shO=[(.move (.tmp 0),some 18,none),(.nilCheck (.tmp 18),some 19,none),(.fieldAddr 61 (.tmp 19) 1,some 20,none),(.load 59 (.tmp 20),some 21,none),(.move (.tmp 4),some 22,none),(.indexAddr 59 (.tmp 21) (.tmp 22),some 23,none),(.load 58 (.tmp 23),some 24,none),(.move (.tmp 0),some 25,none),(.nilCheck (.tmp 25),some 26,none),(.fieldAddr 61 (.tmp 26) 0,some 27,none),(.load 22 (.tmp 27),some 28,none),(.move (.tmp 1),some 29,none),(.indexAddr 22 (.tmp 28) (.tmp 29),some 30,none),(.fieldAddr 44 (.tmp 30) 1,some 31,none),(.load 9 (.tmp 31),some 32,none),(.lookup 58 (.tmp 24) (.tmp 32) true,some 33,none),(.move (.tmp 33),some 17,none),(.extract (.tmp 17) 0,some 34,none),(.extract (.tmp 17) 1,some 35,none),(.assign (.tmp 34),some 5,none)]++[(.assign (.tmp 35),some 6,none)]:=by rfl) (hch:chkR ops 20=true:=by kernel_rfl) :
  aC t (.region 3 ops true) σ h Q:=by
 refine⟨σ,h,Wk.refl _ _ _,.inr ⟨_,_,⟨hl0,fun Γ a e hΓ hnt hs hw=>?_⟩,x⟩⟩
 have hN:Γ.nt=52:=hnt 52 hlk
 rw[hP]
 have hsz:a.tmps.size=52:=hs.1.trans hN
 have r0:=hs.2.2 0 (by omega)
 rw[h0]at r0
 obtain⟨g1,g2,g3,g4,g5⟩:=hg
 obtain⟨p,b,q,c,k1,k2,k3,k4,_,_⟩:=Jg8 hw hn r0 g4
 obtain⟨p',cs,ty,g,cap,gs,ms,u1,_,_,_,u5,u6⟩:=Jhh hw hn r0
 rw[k1]at u1; cases u1
 have k2:a.eval (.tmp 0)=.pointer (some ⟨p,0,none⟩):=k2
 have r1:=hs.2.2 1 (by omega)
 rw[h1]at r1
 have r1:a.eval (.tmp 1)=.int .i64 tok:=R1.vInv r1
 have r4:=hs.2.2 4 (by omega)
 rw[h4]at r4
 have r4:a.eval (.tmp 4)=.int .i64 i:=R1.vInv r4
 obtain⟨m,m1,m2,m3,m4,m5⟩:=u5.at (Jsf K i.toNat g2)
 have hcell:e.w.drew.cell? ⟨g,i.toNat * Jo Try.prog 58,none⟩=some (.map (some m)):=by rw[JvS]; exact m3
 let V:Value:=.int .i64 (kVal K i (tokT l tok))
 let H:Value:=.bool (kHas K i (tokT l tok))
 let L:List (Nat×Value):=[(18,.pointer (some ⟨p,0,none⟩)),(19,.pointer (some ⟨p,0,none⟩)),(20,.pointer (some ⟨p,0+tOff Try.prog 61 1,none⟩)),(21,.slice (some ⟨g,0,none⟩) K.length cap),(22,.int .i64 i),(23,.pointer (some ⟨g,i.toNat * Jo Try.prog 58,none⟩)),(24,.map (some m)),(25,.pointer (some ⟨p,0,none⟩)),(26,.pointer (some ⟨p,0,none⟩)),(27,.pointer (some ⟨p,0+tOff Try.prog 61 0,none⟩)),(28,.slice (some ⟨b,q,none⟩) l.length c),(29,.int .i64 tok),(30,.pointer (some ⟨b,q+tok.toNat * Jo Try.prog 44,none⟩)),(31,.pointer (some ⟨b,q+tok.toNat * Jo Try.prog 44+tOff Try.prog 44 1,none⟩)),(32,str (tokT l tok)),(33,.tuple #[V,H]),(17,.tuple #[V,H]),(34,V),(35,H),(5,V)]
 have E:∀ i,(Ji a L).eval (.tmp i)=(lkv L i).getD (a.eval (.tmp i)):=fun i=>Jd hsz rfl
 refine Jf2 _ _ _ L 52 hsz mixed hops rfl (by simp[L]) rfl hch ⟨fun o e=>Jw e ((E 0).trans k2),fun o e=>JaW e (E 18),fun o e=>Vc e (by kernel_rfl) (E 19),fun o e=>VN e (by kernel_rfl) (by kernel_rfl) (E 20) u6,fun o e=>Jw e ((E 4).trans r4),fun o e=>JpB e Try.underlying59 (by kernel_rfl) (E 21) (E 22) g1 (by omega),fun o e=>VN e (by kernel_rfl) (by kernel_rfl) (E 23) hcell,
  fun o e=>Jw e ((E 0).trans k2),fun o e=>JaW e (E 25),fun o e=>Vc e (by kernel_rfl) (E 26),fun o e=>VN e (by kernel_rfl) (by kernel_rfl) (E 27) k3,fun o e=>Jw e ((E 1).trans r1),fun o e=>JgY e Try.underlying22 (by kernel_rfl) (E 28) (E 29) g3 (by omega),fun o e=>Vc e JeE (E 30),fun o e=>VN e (by kernel_rfl) (by kernel_rfl) (E 31) k4,fun o e=>Juo g5 m5.drew e (E 24) (E 32),fun o e=>Jw e (E 33),fun o e=>K4 e (E 17) rfl,fun o e=>K4 e (E 17) rfl,fun o e=>Ve e (E 34),trivial⟩ (fun o e0 e1=>KT (Ve e0 (E 35)) ?_)
 rw[e1]
 obtain⟨w1,l1⟩:=hw.drewn
 refine⟨rfl,_,rfl,Ja7 (Ja7 (Vi hs l1 ((6,H)::L) LS38 (fun i hi=>by simp[L]at hi ⊢; omega) (by rw[hN]; rfl)) (by omega) ?_) (by omega) ?_,w1⟩
 ·have e5:(Ji a ((6,H)::L)).eval (.tmp 5)=V:=Jd hsz rfl
  rw[e5]; exact .v _
 ·have e6:(Ji a ((6,H)::L)).eval (.tmp 6)=H:=Jd hsz rfl
  rw[e6]; exact .v _
theorem Jtp{M:List (Nat×Value)}{l:List Nat}(h:(M.all fun p=>l.contains p.1)=true):∀ i,i∈M.map Prod.fst→i∈l:=fun i hi=>by
 obtain⟨p,hp,rfl⟩:=List.mem_map.1 hi
 simpa using List.all_eq_true.1 h p hp
theorem JsV{P:Program}{a:Act}{w:World}{o:Oper}{ops:Array Oper}{Q:Exit→Act→World→Prop}{rest:List Oper}{M:List (Nat×Value)}{R:World→Prop}(hg:o.guard=none)(hd:o.dst=none)(hrun:∃ w',(execOp (Ji a M).eval o).run P w=.ok .skip w'∧R w')
  (h:∀ w',R w'→wpList P ops Q rest (Ji a M) w'):wpList P ops Q (o::rest) (Ji a M) w :=
 let ⟨w',h1,h2⟩:=hrun; Za hg hd h1 (h w' h2)
theorem JsK(pure:Nat→Nat)(lk:List Nat)(nt:Nat)(a b:Code):KY pure lk nt (.seq a b)=((KY pure lk nt a && KY pure lk nt b) && Jjm lk nt):=rfl
abbrev LS39:List Nat:=[4,5,6,7,8,9,10,11,12,13,14,15,16,17,18,19,20,21,22,23,24,25,26,27,28,29,30,31,32,33,34,38,39,40]
def JjI(Q:KA):KA:=fun x σ h=>match x with | .panic v=>Q (.panic v) σ h | _=>False
theorem hMk(K:List KD)(l:List Token)(i:Int)(hg:0<K.length∧(kTop K).length<9223372036854775807∧0≤i∧i.toNat<l.length∧(tokT l i).length≤9223372036854775807){t:Tab}{σ:Nat→AV}{h:Hp}{Q:KA}{n:Nat}{c2:C}{o0 o1 o2 o3 o4 o5 o6:Array Oper}
  (x4:JeF K l i=true→aC t (.region 4 o4 false) (fgt LS39 σ) h (JjI Q)) (x6:JeF K l i=false→aC t (.region 6 o6 false) (fgt LS39 σ) { h with H:=upd h.H n (some [.d (.sl 11 (List.map Jb l)),.kc (KSK (kPut K (tokT l i) i)),c2]) } Q)
  (h0:σ 0=.c (.pt n 0)) (h1:σ 1=.c (.d (.v (.int .i64 i)))) (hn:h.H n=some [.d (.sl 11 (List.map Jb l)),.kc (KSK K),c2]) (hk:c2.noK=true)
  (hP:t.P=Try.prog) (hl0:t.lk.contains 999999=false) (hlk:t.lk.contains 1000053=true) (hops0:o0.toList.map shO=[(.move (.tmp 0),some 8,none),(.nilCheck (.tmp 8),some 9,none),(.fieldAddr 61 (.tmp 9) 1,some 10,none),(.load 59 (.tmp 10),some 11,none),(.move (.tmp 0),some 12,none),(.nilCheck (.tmp 12),some 13,none),(.fieldAddr 61 (.tmp 13) 1,some 14,none),(.load 59 (.tmp 14),some 15,none),(.call { callee:=.builtin .len,args:=#[.tmp 15],argTypes:=#[59] },some 16,none),(.binOp .sub 3 (.tmp 16) (.const (.int .i64 1)) 3,some 17,none),(.indexAddr 59 (.tmp 11) (.tmp 17),some 18,none),(.load 58 (.tmp 18),some 19,none)]++[(.assign (.tmp 19),some 4,none)]) (hops1:o1.toList.map shO=[(.move (.tmp 0),some 20,none),(.nilCheck (.tmp 20),some 21,none),(.fieldAddr 61 (.tmp 21) 0,some 22,none),(.load 22 (.tmp 22),some 23,none),(.move (.tmp 1),some 24,none),(.indexAddr 22 (.tmp 23) (.tmp 24),some 25,none),(.fieldAddr 44 (.tmp 25) 1,some 26,none),(.load 9 (.tmp 26),some 27,none),(.assign (.tmp 27),some 5,none)]) (hops2:o2.toList.map shO=[(.move (.tmp 4),some 29,none),(.move (.tmp 5),some 30,none),(.lookup 58 (.tmp 29) (.tmp 30) true,some 31,none),(.move (.tmp 31),some 28,none),(.extract (.tmp 28) 0,some 32,none),(.extract (.tmp 28) 1,some 33,none),(.assign (.tmp 32),some 6,none),(.assign (.tmp 33),some 7,none)]) (hops3:o3.toList.map shO=[(.move (.tmp 7),some 34,none)]) (hops5:o5.toList.map shO=[(.move (.tmp 4),some 38,none),(.move (.tmp 5),some 39,none),(.move (.tmp 1),some 40,none),(.mapUpdate 58 (.tmp 38) (.tmp 39) (.tmp 40),none,none)]) (hch:chkR o0 12=true) :
  SemC t (.seq (.region 0 o0 true) (.seq (.region 1 o1 false) (.seq (.seq (.region 2 o2 false) (.seq (.region 3 o3 false) (.cond (.tmp 34) (.region 4 o4 false) .skip))) (.seq (.region 5 o5 false) (.region 6 o6 false))))) σ h Q:=by
 refine⟨hl0,fun Γ pure a e ht hΓ hrt hmx hpure hnp hc hs hw=>?_⟩
 have hN:Γ.nt=53:=Ji0 (id:=0) (.inl rfl) hc hlk
 have hGP:Γ.P=Try.prog:=hΓ.symm.trans hP
 have hc':=hc
 simp only[JsK,Bool.and_eq_true]at hc'
 obtain⟨⟨_,⟨_,⟨⟨⟨_,⟨_,q4⟩,_⟩,_⟩,⟨_,q6⟩,_⟩,_⟩,_⟩,_⟩:=hc'
 have q4:KY pure t.lk Γ.nt (.region 4 o4 false)=true:=(Bool.and_eq_true _ _ ▸ (Bool.and_eq_true _ _ ▸ (show(_ && KY pure t.lk Γ.nt (.region 4 o4 false) && KY pure t.lk Γ.nt .skip)=true from q4)).1).2
 have hsz:a.tmps.size=53:=hs.1.trans hN
 have r0:=hs.2.2 0 (by omega)
 rw[h0]at r0
 obtain⟨g1,g2,g3,g4,g5⟩:=hg
 obtain⟨p,b,q,c,k1,k2,k3,k4,_,_⟩:=Jg8 hw hn r0 g4
 obtain⟨p',cs,ty,g,cap,gs,ms,u1,_,v3,v4,u5,u6⟩:=Jhh hw hn r0
 rw[k1]at u1; cases u1
 have k2:a.eval (.tmp 0)=.pointer (some ⟨p,0,none⟩):=k2
 have r1:=hs.2.2 1 (by omega)
 rw[h1]at r1
 have r1:a.eval (.tmp 1)=.int .i64 i:=R1.vInv r1
 obtain⟨y1,y2,y3,y4,y5,y6⟩:=u5.mapsMu
 simp only[List.length_map]at y3 y6
 have e1:((K.length:Int)-1).toNat=K.length-1:=by omega
 obtain⟨m,m1,m2,m3,m4,m5⟩:=u5.at (Jsf K (K.length-1) (by omega))
 have hcell:e.w.drew.cell? ⟨g,((K.length:Int)-1).toNat * Jo Try.prog 58,none⟩=some (.map (some m)):=by rw[e1,JvS]; exact m3
 have hnn:h.H n≠none:=by rw[hn]; simp
 obtain⟨wd,ld⟩:=hw.drewn
 have S4:JeF K l i=true→∀ (a':Act) (e':Env),Jz Γ.nt Γ.ds (fgt LS39 σ) a' e'→WInv Γ h e'→(Code.region 4 o4 false).wp Try.prog (fun ex a' w'=>∃ σ' h' e',JjI Q ex σ' h'∧e'.w=w'∧Jz Γ.nt Γ.ds σ' a' e'∧WInv Γ h' e') a' e'.w:=fun hh a' e' hs hw=>by
  have:=Jbj ht hΓ hrt hmx hpure hnp (.region 4 o4 false) _ (fun ex a' w'=>∃ σ' h' e',JjI Q ex σ' h'∧e'.w=w'∧Jz Γ.nt Γ.ds σ' a' e'∧WInv Γ h' e') q4 (fun ex σ h a e hq hs hw=>⟨σ,h,e,hq,rfl,hs,hw⟩) _ _ _ _ (x4 hh) hs hw
  rwa [hGP]at this
 have S6:JeF K l i=false→∀ (a':Act) (e':Env),Jz Γ.nt Γ.ds (fgt LS39 σ) a' e'→WInv Γ { h with H:=upd h.H n (some [.d (.sl 11 (List.map Jb l)),.kc (KSK (kPut K (tokT l i) i)),c2]) } e'→(Code.region 6 o6 false).wp Try.prog (fun ex a' w'=>∃ σ' h' e',Q ex σ' h'∧e'.w=w'∧Jz Γ.nt Γ.ds σ' a' e'∧WInv Γ h' e') a' e'.w:=fun hh a' e' hs hw=>by
  have:=Jbj ht hΓ hrt hmx hpure hnp (.region 6 o6 false) _ (fun ex a' w'=>∃ σ' h' e',Q ex σ' h'∧e'.w=w'∧Jz Γ.nt Γ.ds σ' a' e'∧WInv Γ h' e') q6 (fun ex σ h a e hq hs hw=>⟨σ,h,e,hq,rfl,hs,hw⟩) _ _ _ _ (x6 hh) hs hw
  rwa [hGP]at this
 have hup:∀ (o:Oper) (M:List (Nat×Value)),o.op=.mapUpdate 58 (.tmp 38) (.tmp 39) (.tmp 40)→(Ji a M).eval (.tmp 38)=.map (some m)→(Ji a M).eval (.tmp 39)=str (tokT l i)→(Ji a M).eval (.tmp 40)=.int .i64 i →
   ∃ w',(execOp (Ji a M).eval o).run Try.prog e.w.drew=.ok .skip w'∧w'.ownsMap Try.prog 9 anyE m ((cvN (kTop K)).length+1) ((dM (cvN (K.getD (K.length-1) []))).put (.string (tokT l i)) (.lit (.int .i64 i)))∧e.w.drew.grownBy w' (some m):=fun o M e1 t38 t39 t40 =>
  Jgt (a:=Ji a M) (w:=e.w.drew) e1 keyK Try.underlying58 (n:=(cvN (kTop K)).length) (by rw[cvN,List.length_map]; unfold maxLen; omega) m5.drew t38 (kl:=.string (tokT l i)) (by rw[t39]; exact Jre g5) (d:=.lit (.int .i64 i)) (ps:=[]) (by rw[t40]; rfl)
 -- region 0
 let L:List (Nat×Value):=[(8,.pointer (some ⟨p,0,none⟩)),(9,.pointer (some ⟨p,0,none⟩)),(10,.pointer (some ⟨p,0+tOff Try.prog 61 1,none⟩)),(11,.slice (some ⟨g,0,none⟩) K.length cap),(12,.pointer (some ⟨p,0,none⟩)),(13,.pointer (some ⟨p,0,none⟩)),(14,.pointer (some ⟨p,0+tOff Try.prog 61 1,none⟩)),(15,.slice (some ⟨g,0,none⟩) K.length cap),(16,.int .i64 (K.length:Int)),(17,.int .i64 ((K.length:Int)-1)),(18,.pointer (some ⟨g,((K.length:Int)-1).toNat * Jo Try.prog 58,none⟩)),(19,.map (some m))]
 have E:∀ i,(Ji a L).eval (.tmp i)=(lkv L i).getD (a.eval (.tmp i)):=fun i=>Jd hsz rfl
 rw[hGP]
 refine wp_seq (Jf2 _ _ _ L 53 hsz mixed hops0 rfl (by simp[L]) rfl hch ⟨fun o e=>Jw e ((E 0).trans k2),fun o e=>JaW e (E 8),fun o e=>Vc e (by kernel_rfl) (E 9),fun o e=>VN e (by kernel_rfl) (by kernel_rfl) (E 10) u6,fun o e=>Jw e ((E 0).trans k2),fun o e=>JaW e (E 12),fun o e=>Vc e (by kernel_rfl) (E 13),fun o e=>VN e (by kernel_rfl) (by kernel_rfl) (E 14) u6,fun o e=>Jo0 e (by kernel_rfl) (E 15),fun o e=>JlG e (E 16) (by omega),fun o e=>JpB e Try.underlying59 (by kernel_rfl) (E 11) (E 17) (by omega) (by omega),fun o e=>VN e (by kernel_rfl) (by kernel_rfl) (E 18) hcell,trivial⟩ (fun o e0 e1=>KT (Ve e0 (E 19)) ?_))
 rw[e1]
 clear E
 -- region 1
 refine wp_seq (wp_region_list ?_)
 generalize o1.toList=l1 at hops1 ⊢
 change wpList _ _ _ l1 (Ji a ((4,.map (some m))::L)) _
 obtain⟨o,l1,rfl,e1,e2,e3,hops⟩:=Jn hops1
 refine Je e3 e2 (Jw e1 ((Jd hsz rfl).trans k2)) ?_
 obtain⟨o,l1,rfl,e1,e2,e3,hops⟩:=Jn hops
 refine Je e3 e2 (JaW e1 (Jd hsz rfl)) ?_
 obtain⟨o,l1,rfl,e1,e2,e3,hops⟩:=Jn hops
 refine Je e3 e2 (Vc e1 (by kernel_rfl) (Jd hsz rfl)) ?_
 obtain⟨o,l1,rfl,e1,e2,e3,hops⟩:=Jn hops
 refine Je e3 e2 (VN e1 (by kernel_rfl) (by kernel_rfl) (Jd hsz rfl) k3) ?_
 obtain⟨o,l1,rfl,e1,e2,e3,hops⟩:=Jn hops
 refine Je e3 e2 (Jw e1 ((Jd hsz rfl).trans r1)) ?_
 obtain⟨o,l1,rfl,e1,e2,e3,hops⟩:=Jn hops
 refine Je e3 e2 (JgY e1 Try.underlying22 (by kernel_rfl) (Jd hsz rfl) (Jd hsz rfl) g3 (by omega)) ?_
 obtain⟨o,l1,rfl,e1,e2,e3,hops⟩:=Jn hops
 refine Je e3 e2 (Vc e1 JeE (Jd hsz rfl)) ?_
 obtain⟨o,l1,rfl,e1,e2,e3,hops⟩:=Jn hops
 refine Je e3 e2 (VN e1 (by kernel_rfl) (by kernel_rfl) (Jd hsz rfl) k4) ?_
 obtain⟨o,l1,rfl,e1,e2,e3,hops⟩:=Jn hops
 refine Je e3 e2 (Ve e1 (Jd hsz rfl)) ?_
 obtain rfl:=List.map_eq_nil_iff.1 hops
 -- region 2
 refine wp_seq (wp_seq (wp_region_list ?_))
 generalize o2.toList=l1 at hops2 ⊢
 obtain⟨o,l1,rfl,e1,e2,e3,hops⟩:=Jn hops2
 refine Je e3 e2 (Jw e1 (Jd hsz rfl)) ?_
 obtain⟨o,l1,rfl,e1,e2,e3,hops⟩:=Jn hops
 refine Je e3 e2 (Jw e1 (Jd hsz rfl)) ?_
 obtain⟨o,l1,rfl,e1,e2,e3,hops⟩:=Jn hops
 refine Je e3 e2 (Juo (K:=K) (i:=K.length-1) (s:=tokT l i) (m:=m) g5 m5.drew e1 (Jd hsz rfl) (Jd hsz rfl)) ?_
 obtain⟨o,l1,rfl,e1,e2,e3,hops⟩:=Jn hops
 refine Je e3 e2 (Jw e1 (Jd hsz rfl)) ?_
 obtain⟨o,l1,rfl,e1,e2,e3,hops⟩:=Jn hops
 refine Je e3 e2 (K4 e1 (Jd hsz rfl) rfl) ?_
 obtain⟨o,l1,rfl,e1,e2,e3,hops⟩:=Jn hops
 refine Je e3 e2 (K4 e1 (Jd hsz rfl) rfl) ?_
 obtain⟨o,l1,rfl,e1,e2,e3,hops⟩:=Jn hops
 refine Je e3 e2 (Ve e1 (Jd hsz rfl)) ?_
 obtain⟨o,l1,rfl,e1,e2,e3,hops⟩:=Jn hops
 refine Je e3 e2 (Ve e1 (Jd hsz rfl)) ?_
 obtain rfl:=List.map_eq_nil_iff.1 hops
 -- region 3
 refine wp_seq (wp_region_list ?_)
 generalize o3.toList=l1 at hops3 ⊢
 obtain⟨o,l1,rfl,e1,e2,e3,hops⟩:=Jn hops3
 refine Je e3 e2 (Jw e1 (Jd hsz rfl)) ?_
 obtain rfl:=List.map_eq_nil_iff.1 hops
 by_cases hh:JeF K l i=true
 ·have hh':enH (K.getD (K.length-1) []) (tokT l i)=true:=hh
  rw[hh']
  refine wp_cond_true (Jd hsz rfl) ?_
  refine Code.wp_mono (fun ex a' w' hx=>?_) (S4 hh _ _ (Vi hs ld _ LS39 (Jtp rfl) (by rw[hN]; rfl)) wd)
  obtain⟨σ',h',e',z1,z2,z3,z4⟩:=hx
  cases ex with
  | panic v=>exact⟨σ',h',e',z1,z2,z3,z4⟩
  | _=>exact z1.elim
 ·have hf:JeF K l i=false:=by simpa using hh
  have hh':enH (K.getD (K.length-1) []) (tokT l i)=false:=hf
  rw[hh']
  refine wp_cond_false (Jd hsz rfl) (wp_skip ?_)
  refine wp_seq (wp_region_list ?_)
  generalize o5.toList=l1 at hops5 ⊢
  obtain⟨o,l1,rfl,e1,e2,e3,hops⟩:=Jn hops5
  refine Je e3 e2 (Jw e1 (Jd hsz rfl)) ?_
  obtain⟨o,l1,rfl,e1,e2,e3,hops⟩:=Jn hops
  refine Je e3 e2 (Jw e1 (Jd hsz rfl)) ?_
  obtain⟨o,l1,rfl,e1,e2,e3,hops⟩:=Jn hops
  refine Je e3 e2 (Jw e1 ((Jd hsz rfl).trans r1)) ?_
  obtain⟨o,l1,rfl,e1,e2,e3,hops⟩:=Jn hops
  refine JsV e3 e2 (hup o _ e1 (Jd hsz rfl) (Jd hsz rfl) (Jd hsz rfl)) fun w' ⟨f2,f3⟩=>?_
  obtain rfl:=List.map_eq_nil_iff.1 hops
  have qb:∀ j,j<e.w.heap.size→j≠m→w'.heap[j]? = e.w.heap[j]? := fun j hj hjm=>f3.block j hj (by simpa using hjm)
  have qs:e.w.heap.size≤w'.heap.size:=f3.size
  have hbm:p≠m:=fun he=>(hw.ext.mu n m hnn m4).box n hnn (by rw[k1,he])
  have hplt:=(Array.getElem?_eq_some_iff.1 v3).1
  obtain⟨w1,l2⟩:=hw.kcSet (KSK (kPut K (tokT l i) i)) (e.μ n) hn rfl k1 v3 ((qb p hplt hbm).trans v3) (Ju9 v4) (by simp) (rowK (c0:=.d (.sl 11 (List.map Jb l))) (c2:=c2) (Φ:=KSK K) (by rw[Bool.and_eq_true]; exact⟨rfl,hk⟩)) f3.os f3.tape f3.output qs
   (fun k hk hk1 hk2=>qb k hk fun he=>hk2 (he ▸ m4))
   (fun k hk=>by
    by_cases hkm:k=m
    ·subst hkm; exact Jtq (.inl m4) f2 (fun _=>(hw.ext.mu n k hnn m4).s 0 (.inr ⟨rfl,let ⟨es,c,h1,_⟩:=m5; ⟨es,c,h1⟩⟩))
    ·exact JoD hw hnn hk qs (qb k (hw.ext.mu n k hnn hk).lt hkm))
   ⟨g,cap,gs,ms,by simp[kPut],by
    have:=u5.put (i:=K.length-1) (m:=m) (l':=(tokT l i,.int .i64 i)::cvN (kTop K)) (w':=w') (Jsf K (K.length-1) (by omega)) m1 qb f2
    rw[kPut,List.map_set]
    exact this⟩
  exact S6 hf _ _ (Vi hs l2 _ LS39 (Jtp rfl) (by rw[hN]; rfl)) w1
theorem Jyh(K:List KD)(l:List Token)(i:Int)(hg:0<K.length∧(kTop K).length<9223372036854775807∧0≤i∧i.toNat<l.length∧(tokT l i).length≤9223372036854775807)(hp:JeF K l i=true){t:Tab}{σ:Nat→AV}{h:Hp}{Q:KA}{n:Nat}{c2:C}{o0 o1 o2 o3 o4 o5 o6:Array Oper}
  (x4:aC t (.region 4 o4 false) (fgt LS39 σ) h (JjI Q))
  (h0:σ 0=.c (.pt n 0):=by(simp -implicitDefEqProofs only[goR,↓Jk,goS,↓reduceIte,reduceCtorEq,seval,Y]; try rfl)) (h1:σ 1=.c (.d (.v (.int .i64 i))):=by(simp -implicitDefEqProofs only[goR,↓Jk,goS,↓reduceIte,reduceCtorEq,seval,Y]; try rfl)) (hn:h.H n=some [.d (.sl 11 (List.map Jb l)),.kc (KSK K),c2]:=by(simp -implicitDefEqProofs only[goR,↓Jk,goS,↓reduceIte,reduceCtorEq,seval,Y]; try rfl)) (hk:c2.noK=true:=by rfl)
  (hP:t.P=Try.prog:=by rfl) (hl0:t.lk.contains 999999=false:=by rfl) (hlk:t.lk.contains 1000053=true:=by rfl) (hops0:o0.toList.map shO=[(.move (.tmp 0),some 8,none),(.nilCheck (.tmp 8),some 9,none),(.fieldAddr 61 (.tmp 9) 1,some 10,none),(.load 59 (.tmp 10),some 11,none),(.move (.tmp 0),some 12,none),(.nilCheck (.tmp 12),some 13,none),(.fieldAddr 61 (.tmp 13) 1,some 14,none),(.load 59 (.tmp 14),some 15,none),(.call { callee:=.builtin .len,args:=#[.tmp 15],argTypes:=#[59] },some 16,none),(.binOp .sub 3 (.tmp 16) (.const (.int .i64 1)) 3,some 17,none),(.indexAddr 59 (.tmp 11) (.tmp 17),some 18,none),(.load 58 (.tmp 18),some 19,none)]++[(.assign (.tmp 19),some 4,none)]:=by rfl) (hops1:o1.toList.map shO=[(.move (.tmp 0),some 20,none),(.nilCheck (.tmp 20),some 21,none),(.fieldAddr 61 (.tmp 21) 0,some 22,none),(.load 22 (.tmp 22),some 23,none),(.move (.tmp 1),some 24,none),(.indexAddr 22 (.tmp 23) (.tmp 24),some 25,none),(.fieldAddr 44 (.tmp 25) 1,some 26,none),(.load 9 (.tmp 26),some 27,none),(.assign (.tmp 27),some 5,none)]:=by rfl) (hops2:o2.toList.map shO=[(.move (.tmp 4),some 29,none),(.move (.tmp 5),some 30,none),(.lookup 58 (.tmp 29) (.tmp 30) true,some 31,none),(.move (.tmp 31),some 28,none),(.extract (.tmp 28) 0,some 32,none),(.extract (.tmp 28) 1,some 33,none),(.assign (.tmp 32),some 6,none),(.assign (.tmp 33),some 7,none)]:=by rfl) (hops3:o3.toList.map shO=[(.move (.tmp 7),some 34,none)]:=by rfl) (hops5:o5.toList.map shO=[(.move (.tmp 4),some 38,none),(.move (.tmp 5),some 39,none),(.move (.tmp 1),some 40,none),(.mapUpdate 58 (.tmp 38) (.tmp 39) (.tmp 40),none,none)]:=by rfl) (hch:chkR o0 12=true:=by kernel_rfl) :
  aC t (.seq (.region 0 o0 true) (.seq (.region 1 o1 false) (.seq (.seq (.region 2 o2 false) (.seq (.region 3 o3 false) (.cond (.tmp 34) (.region 4 o4 false) .skip))) (.seq (.region 5 o5 false) (.region 6 o6 false))))) σ h Q:=.inr (hMk K l i hg (fun _=>x4) (fun hf=>by rw[hp]at hf; cases hf) h0 h1 hn hk hP hl0 hlk hops0 hops1 hops2 hops3 hops5 hch)
theorem Jyi(K:List KD)(l:List Token)(i:Int)(hg:0<K.length∧(kTop K).length<9223372036854775807∧0≤i∧i.toNat<l.length∧(tokT l i).length≤9223372036854775807)(hp:JeF K l i=false){t:Tab}{σ:Nat→AV}{h:Hp}{Q:KA}{n:Nat}{c2:C}{o0 o1 o2 o3 o4 o5 o6:Array Oper}
  (x6:aC t (.region 6 o6 false) (fgt LS39 σ) { h with H:=upd h.H n (some [.d (.sl 11 (List.map Jb l)),.kc (KSK (kPut K (tokT l i) i)),c2]) } Q)
  (h0:σ 0=.c (.pt n 0):=by(simp -implicitDefEqProofs only[goR,↓Jk,goS,↓reduceIte,reduceCtorEq,seval,Y]; try rfl)) (h1:σ 1=.c (.d (.v (.int .i64 i))):=by(simp -implicitDefEqProofs only[goR,↓Jk,goS,↓reduceIte,reduceCtorEq,seval,Y]; try rfl)) (hn:h.H n=some [.d (.sl 11 (List.map Jb l)),.kc (KSK K),c2]:=by(simp -implicitDefEqProofs only[goR,↓Jk,goS,↓reduceIte,reduceCtorEq,seval,Y]; try rfl)) (hk:c2.noK=true:=by rfl)
  (hP:t.P=Try.prog:=by rfl) (hl0:t.lk.contains 999999=false:=by rfl) (hlk:t.lk.contains 1000053=true:=by rfl) (hops0:o0.toList.map shO=[(.move (.tmp 0),some 8,none),(.nilCheck (.tmp 8),some 9,none),(.fieldAddr 61 (.tmp 9) 1,some 10,none),(.load 59 (.tmp 10),some 11,none),(.move (.tmp 0),some 12,none),(.nilCheck (.tmp 12),some 13,none),(.fieldAddr 61 (.tmp 13) 1,some 14,none),(.load 59 (.tmp 14),some 15,none),(.call { callee:=.builtin .len,args:=#[.tmp 15],argTypes:=#[59] },some 16,none),(.binOp .sub 3 (.tmp 16) (.const (.int .i64 1)) 3,some 17,none),(.indexAddr 59 (.tmp 11) (.tmp 17),some 18,none),(.load 58 (.tmp 18),some 19,none)]++[(.assign (.tmp 19),some 4,none)]:=by rfl) (hops1:o1.toList.map shO=[(.move (.tmp 0),some 20,none),(.nilCheck (.tmp 20),some 21,none),(.fieldAddr 61 (.tmp 21) 0,some 22,none),(.load 22 (.tmp 22),some 23,none),(.move (.tmp 1),some 24,none),(.indexAddr 22 (.tmp 23) (.tmp 24),some 25,none),(.fieldAddr 44 (.tmp 25) 1,some 26,none),(.load 9 (.tmp 26),some 27,none),(.assign (.tmp 27),some 5,none)]:=by rfl) (hops2:o2.toList.map shO=[(.move (.tmp 4),some 29,none),(.move (.tmp 5),some 30,none),(.lookup 58 (.tmp 29) (.tmp 30) true,some 31,none),(.move (.tmp 31),some 28,none),(.extract (.tmp 28) 0,some 32,none),(.extract (.tmp 28) 1,some 33,none),(.assign (.tmp 32),some 6,none),(.assign (.tmp 33),some 7,none)]:=by rfl) (hops3:o3.toList.map shO=[(.move (.tmp 7),some 34,none)]:=by rfl) (hops5:o5.toList.map shO=[(.move (.tmp 4),some 38,none),(.move (.tmp 5),some 39,none),(.move (.tmp 1),some 40,none),(.mapUpdate 58 (.tmp 38) (.tmp 39) (.tmp 40),none,none)]:=by rfl) (hch:chkR o0 12=true:=by kernel_rfl) :
  aC t (.seq (.region 0 o0 true) (.seq (.region 1 o1 false) (.seq (.seq (.region 2 o2 false) (.seq (.region 3 o3 false) (.cond (.tmp 34) (.region 4 o4 false) .skip))) (.seq (.region 5 o5 false) (.region 6 o6 false))))) σ h Q:=.inr (hMk K l i hg (fun hf=>by rw[hp]at hf; cases hf) (fun _=>x6) h0 h1 hn hk hP hl0 hlk hops0 hops1 hops2 hops3 hops5 hch)
noncomputable def Xz(a0:Int)(a1:Int)(a2:List Token)(a3:List KD)(a4:List Bind):Option Unit:=if 0≤a1∧a1.toNat<a2.length then some () else none
noncomputable def V6(a0:Int)(a1:Int)(a2:List Token)(a3:List KD)(a4:List Bind)(r:Unit):GI :=
 ⟨[.c (.pt 1 0),.c (.d (.v (.int .i64 a0))),.c (.d (.v (.int .i64 a1)))],[[.d (.sl 11 (List.map Jb a2)),.kc (KSK a3),.sl 2 (List.map Jm a4) 2]],[40],.pan (.iface 56 (.agg ⟨[.int .i64 a0,.int .i64 ((a2.getD a1.toNat default).File),.int .i64 ((a2.getD a1.toNat default).At)]⟩)) [[.d (.sl 11 (List.map Jb a2)),.kc (KSK a3),.sl 2 (List.map Jm a4) 2]] [40]⟩
def XN:GI→Prop:=fun g=>∃ (a0:Int) (a1:Int) (a2:List Token) (a3:List KD) (a4:List Bind) (r:Unit),Xz a0 a1 a2 a3 a4=some r∧g=V6 a0 a1 a2 a3 a4 r
theorem Je6(a0:Int)(a1:Int)(a2:List Token)(a3:List KD)(a4:List Bind)(r:Unit)(H:Xz a0 a1 a2 a3 a4=some r):XN (V6 a0 a1 a2 a3 a4 r):=⟨a0,a1,a2,a3,a4,r,H,rfl⟩
theorem JhB:∀ g,XN g→Jx Try.prog 63 g:=by
 rintro _ ⟨a0,a1,a2,a3,a4,r,H,rfl⟩
 refine JqI (t:=tab Try.prog [] [] [] (V6 a0 a1 a2 a3 a4 r).bs.length [0,1000026]) (JkM trivial trivial trivial) mixed Jgl (Jjn (gl:=[]) trivial) Try.func63 rfl (by kernel_rfl) _ rfl (by exact Nat.le_of_ble_eq_true rfl) ?_
 have G:=True.intro
 have Y:=xZ Try.results63 <| V6.eq_1
 dsimp only[V6]
 unfold Xz at H
 obtain⟨hg,H⟩:=Jj H
 refine Jyn a0 a1 a2 hg (n:=1) ?_ rfl rfl rfl rfl rfl rfl rfl rfl (by kernel_rfl)
 refine xpD [] ?_ (by rfl)
 exact xOv ⟨[1],[2]⟩
theorem Je8:Jh Try.prog 63∧(∀ g,XN g→Jx Try.prog 63 g)∧(false=true→∀ g,XN g→∃ val bs ts,g.out=.ret val bs ts) :=
 ⟨Jv0,JhB,nofun⟩
end Go.Proofs.Ytaofbminodhcnaa
