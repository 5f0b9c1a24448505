/- The walker's scopes: regions walked by hand. Written by mkkc.py. -/
import Derived.Test.YtaofbminodhcnaaZcak
import Derived.Test.YtaofbminodhcnaaZcal
import Derived.Test.YtaofbminodhcnaaZcam
set_option linter.unusedVariables false
set_option linter.unusedSimpArgs false
set_option maxHeartbeats 4000000
namespace Go.Proofs.Ytaofbminodhcnaa
open Go.RowKit Go.Maps
theorem keyK:Keyed Try.prog 9:=string_keyed Try.underlying9
theorem Jre{s:List UInt8}(h:s.length≤9223372036854775807):keyOf Try.prog 9 (str s)=some (.string s):=by
 have h':s.length≤maxLen:=by unfold maxLen; exact h
 simp[keyOf,str,Try.underlying9,mapKey,ByteArray.size,h']
theorem Jk6:tOff Try.prog 61 1=1:=by kernel_rfl
theorem Jya:∃ i:TypeInfo,Try.prog.info? 58=some i∧True∧i.size=1∧i.bytes≤8∧∃ z,i.zero=some z∧z.cells.size=1:=by
 obtain⟨z,_,h2,h3⟩:=XR (P:=Try.prog) (t:=58) (by kernel_rfl) default
 have h4:tZ Try.prog 58=[.map none]:=by kernel_rfl
 have h5:Zc Try.prog 58=8:=by kernel_rfl
 have h6:=Jh1
 cases hi:Try.prog.info? 58 with
 | none=>rw[hi]at h3; cases h3
 | some i =>
  simp only[Jo,hi,Option.map_some,Option.getD_some]at h6
  simp only[Zc,hi,Option.map_some,Option.getD_some]at h5
  rw[hi]at h3
  refine⟨i,rfl,trivial,h6,by omega,z,h3,?_⟩
  rw[← Array.length_toList,h2,h4]; rfl
theorem JvS(n:Nat):n * Jo Try.prog 58=n:=by rw[Jh1,Nat.mul_one]
theorem rowK{c0 c2:C}{Φ:KP}(h:(c0.noK && c2.noK)=true)(i:Nat)(Ψ:KP)(hi:i≠1):[c0,.kc Φ,c2][i]?≠some (.kc Ψ):=by
 simp only[Bool.and_eq_true]at h
 rcases i with _|_|_|_ <;> simp_all [C.noK]
 all_goals (intro he; simp_all [C.noK])
theorem Jhh{Γ:Ctx}{h:Hp}{e:Env}(hw:WInv Γ h e){n:Nat}{c0 c2:C}{K:List KD}(hn:h.H n=some [c0,.kc (KSK K),c2]){v:Value}(h0:RA e (.c (.pt n 0)) v):
  ∃ b cs ty g cap gs ms,e.ρ n=some b∧v=.pointer (some ⟨b,0,none⟩)∧e.w.heap[b]? = some (.cells cs ty (0,0))∧cs[1]? = some (.slice (some ⟨g,0,none⟩) K.length cap)∧KSp Try.prog 9 58 (K.map cvN) e.w (e.μ n) g cap gs ms ∧
   e.w.cell? ⟨b,0+tOff Try.prog 61 1,none⟩=some (.slice (some ⟨g,0,none⟩) K.length cap):=by
 obtain⟨b,cs,ty,v',k1,k2,k3,g,cap,gs,ms,rfl,k4⟩:=hw.ext.kc n _ 1 _ hn rfl
 obtain⟨b',q1,q2⟩:=h0
 rw[k1]at q1
 cases q1
 refine⟨b,cs,ty,g,cap,gs,ms,k1,q2,k2,by simpa using k3,k4,?_⟩
 rw[Jk6]
 simp[World.cell?,k2,k3]
theorem KSp.mem{P:Program}{k el:TypeId}{L:List ME}{w:World}{μ:Nat→Prop}{b cap:Nat}{cs:Array Value}{ms:List Nat}(h:KSp P k el L w μ b cap cs ms){m:Nat}(hm:m∈ms):μ m:=by
 obtain⟨h1,h2,h3,h4,h5,h6,h7,h8,h9,h10⟩:=h
 obtain⟨i,hi⟩:=List.mem_iff_getElem?.1 hm
 have hl:=(List.getElem?_eq_some_iff.1 hi).1
 exact(h10 i m L[i] hi (List.getElem?_eq_getElem (by omega))).1
theorem KSp.mapsMu{P:Program}{k el:TypeId}{L:List ME}{w:World}{μ:Nat→Prop}{b cap:Nat}{cs:Array Value}{ms:List Nat}(h:KSp P k el L w μ b cap cs ms):μ b∧w.heap[b]? = some (.cells cs el (0,0))∧L.length≤cap∧cap≤maxLen∧cs.size=cap∧ms.length=L.length:=⟨h.2.1,h.1,h.2.2.1,h.2.2.2.1,h.2.2.2.2.1,h.2.2.2.2.2.1⟩
theorem Ju9{cs:Array Value}{j:Nat}{v:Value}(h:cs[j]? = some v):cs.toList=cs.toList.set j v:=by
 have h':cs.toList[j]? = some v:=by simpa using h
 obtain⟨hl,he⟩:=List.getElem?_eq_some_iff.1 h'
 rw[← he,List.set_getElem_self]
theorem Jsf(K:List KD)(i:Nat)(h:i<K.length):(K.map cvN)[i]? = some (cvN (K.getD i [])):=by
 rw[List.getElem?_map,List.getElem?_eq_getElem h,List.getD_eq_getElem?_getD,List.getElem?_eq_getElem h]
 rfl
theorem JoD{Γ:Ctx}{h:Hp}{e:Env}(hw:WInv Γ h e){n:Nat}(hnn:h.H n≠none){w':World}{m:Nat}(hm:e.μ n m)(hs:e.w.heap.size≤w'.heap.size)(hob:w'.heap[m]? = e.w.heap[m]?):
  (e.μ n m∨e.w.heap.size≤m∨Unowned Γ h e m)∧m<w'.heap.size∧(∀ o,w'.heap[m]? = some o→JjF o=true)∧(m<e.w.heap.size→∀ o,JeJ w' m o→e.S m o):=by
 have q:=hw.ext.mu n m hnn hm
 exact⟨.inl hm,Nat.lt_of_lt_of_le q.lt hs,fun o ho=>q.ob o (hob ▸ ho),fun _ o hx=>q.s o (hx.of hob)⟩
theorem Jtq{Γ:Ctx}{h:Hp}{e:Env}{n m k:Nat}{w':World}{D:DataW Unit}(hm:e.μ n m∨e.w.heap.size≤m∨Unowned Γ h e m)(ho:w'.ownsMap Try.prog 9 anyE m k D)(hS:m<e.w.heap.size→e.S m 0):
  (e.μ n m∨e.w.heap.size≤m∨Unowned Γ h e m)∧m<w'.heap.size∧(∀ o,w'.heap[m]? = some o→JjF o=true)∧(m<e.w.heap.size→∀ o,JeJ w' m o→e.S m o):=by
 have hlt:=ho.lt
 obtain⟨es,clock,hb,_⟩:=ho
 exact⟨hm,hlt,fun o h=>by rw[hb]at h; cases h; rfl,fun hm o hx=>by
  rcases hx with⟨x,hx⟩|⟨rfl,_⟩
  ·simp[World.cell?,hb]at hx
  ·exact hS hm⟩
theorem Jtl(K:List KD)(hg:0<K.length){t:Tab}{σ:Nat→AV}{h:Hp}{Q:KA}{n:Nat}{c0 c2:C}{ops:Array Oper}
  (x:Q .normal (fgt [16,17,18,19,20,21,22,23,24,25,26,27,28,29] σ) { h with H:=upd h.H n (some [c0,.kc (KSK (List.dropLast K)),c2]) }) (h0:σ 0=.c (.pt n 0):=by(simp -implicitDefEqProofs only[goR,↓Jk,goS,↓reduceIte,reduceCtorEq,seval,Y]; try rfl)) (hn:h.H n=some [c0,.kc (KSK K),c2]:=by(simp -implicitDefEqProofs only[goR,↓Jk,goS,↓reduceIte,reduceCtorEq,seval,Y]; try rfl))
  (hk:(c0.noK && c2.noK)=true:=by rfl) (hrp:rowP [c0,.kc (KSK K),c2]=true:=by rfl) (hP:t.P=Try.prog:=by rfl) (hl0:t.lk.contains 999999=false:=by rfl) (hlk:t.lk.contains 1000030=true:=by rfl) (hops:ops.toList.map shO=[(.move (.tmp 0),some 16,none),(.move (.tmp 0),some 17,none),(.nilCheck (.tmp 17),some 18,none),(.fieldAddr 61 (.tmp 18) 1,some 19,none),(.load 59 (.tmp 19),some 20,none),(.move (.tmp 0),some 21,none),(.nilCheck (.tmp 21),some 22,none),(.fieldAddr 61 (.tmp 22) 1,some 23,none),(.load 59 (.tmp 23),some 24,none),(.call { callee:=.builtin .len,args:=#[.tmp 24],argTypes:=#[59] },some 25,none),(.binOp .sub 3 (.tmp 25) (.const (.int .i64 1)) 3,some 26,none),(.slice 59 (.tmp 20) none (some (.tmp 26)) none,some 27,none),(.nilCheck (.tmp 16),some 28,none),(.fieldAddr 61 (.tmp 28) 1,some 29,none)]++[(.store 59 (.tmp 29) (.tmp 27),none,none)]:=by rfl) (hch:chkR ops 14=true:=by kernel_rfl):aC t (.region 2 ops true) σ h Q:=by
 refine⟨σ,h,Wk.refl _ _ _,.inr ⟨_,_,⟨hl0,fun Γ a e hΓ hnt hs hw=>?_⟩,x⟩⟩
 have hN:Γ.nt=30:=hnt 30 hlk
 rw[hP]
 have hsz:a.tmps.size=30:=hs.1.trans hN
 have r0:=hs.2.2 0 (by omega)
 rw[h0]at r0
 obtain⟨p,cs,ty,g,cap,gs,ms,k1,k2,k3,k4,k5,k6⟩:=Jhh hw hn r0
 have k2:a.eval (.tmp 0)=.pointer (some ⟨p,0,none⟩):=k2
 obtain⟨u1,u2,u3,u4,u5,u6⟩:=k5.mapsMu
 simp only[List.length_map]at u3 u6
 have hnn:h.H n≠none:=by rw[hn]; simp
 have e1:((K.length:Int)-1).toNat=K.length-1:=by omega
 have E:∀ i,(Ji a [(16,.pointer (some ⟨p,0,none⟩)),(17,.pointer (some ⟨p,0,none⟩)),(18,.pointer (some ⟨p,0,none⟩)),(19,.pointer (some ⟨p,0+tOff Try.prog 61 1,none⟩)),(20,.slice (some ⟨g,0,none⟩) K.length cap),(21,.pointer (some ⟨p,0,none⟩)),(22,.pointer (some ⟨p,0,none⟩)),(23,.pointer (some ⟨p,0+tOff Try.prog 61 1,none⟩)),(24,.slice (some ⟨g,0,none⟩) K.length cap),(25,.int .i64 (K.length:Int)),(26,.int .i64 ((K.length:Int)-1)),(27,.slice (some ⟨g,0,none⟩) ((K.length:Int)-1).toNat cap),(28,.pointer (some ⟨p,0,none⟩)),(29,.pointer (some ⟨p,0+tOff Try.prog 61 1,none⟩))]).eval (.tmp i)=(lkv [(16,.pointer (some ⟨p,0,none⟩)),(17,.pointer (some ⟨p,0,none⟩)),(18,.pointer (some ⟨p,0,none⟩)),(19,.pointer (some ⟨p,0+tOff Try.prog 61 1,none⟩)),(20,.slice (some ⟨g,0,none⟩) K.length cap),(21,.pointer (some ⟨p,0,none⟩)),(22,.pointer (some ⟨p,0,none⟩)),(23,.pointer (some ⟨p,0+tOff Try.prog 61 1,none⟩)),(24,.slice (some ⟨g,0,none⟩) K.length cap),(25,.int .i64 (K.length:Int)),(26,.int .i64 ((K.length:Int)-1)),(27,.slice (some ⟨g,0,none⟩) ((K.length:Int)-1).toNat cap),(28,.pointer (some ⟨p,0,none⟩)),(29,.pointer (some ⟨p,0+tOff Try.prog 61 1,none⟩))] i).getD (a.eval (.tmp i)):=fun i=>Jd hsz rfl
 refine Jsc _ _ [(16,.pointer (some ⟨p,0,none⟩)),(17,.pointer (some ⟨p,0,none⟩)),(18,.pointer (some ⟨p,0,none⟩)),(19,.pointer (some ⟨p,0+tOff Try.prog 61 1,none⟩)),(20,.slice (some ⟨g,0,none⟩) K.length cap),(21,.pointer (some ⟨p,0,none⟩)),(22,.pointer (some ⟨p,0,none⟩)),(23,.pointer (some ⟨p,0+tOff Try.prog 61 1,none⟩)),(24,.slice (some ⟨g,0,none⟩) K.length cap),(25,.int .i64 (K.length:Int)),(26,.int .i64 ((K.length:Int)-1)),(27,.slice (some ⟨g,0,none⟩) ((K.length:Int)-1).toNat cap),(28,.pointer (some ⟨p,0,none⟩)),(29,.pointer (some ⟨p,0+tOff Try.prog 61 1,none⟩))] 30 hsz mixed hops rfl (by simp) rfl hch ⟨fun o e=>Jw e ((E 0).trans k2),fun o e=>Jw e ((E 0).trans k2),fun o e=>JaW e (E 17),fun o e=>Vc e Jao (E 18),fun o e=>VN e JcD Jgd (E 19) k6,fun o e=>Jw e ((E 0).trans k2),fun o e=>JaW e (E 21),fun o e=>Vc e Jao (E 22),fun o e=>VN e JcD Jgd (E 23) k6,fun o e=>Jo0 e JgX (E 24),fun o e=>JlG e (E 25) (by omega),fun o e=>Jvq e Try.underlying59 (E 20) (E 26) (by omega) (by omega) Ji1 (by omega),fun o e=>JaW e (E 16),fun o e=>Vc e Jao (E 28),trivial⟩ (fun o e0=>?_)
 have hv:(Ji a [(16,.pointer (some ⟨p,0,none⟩)),(17,.pointer (some ⟨p,0,none⟩)),(18,.pointer (some ⟨p,0,none⟩)),(19,.pointer (some ⟨p,0+tOff Try.prog 61 1,none⟩)),(20,.slice (some ⟨g,0,none⟩) K.length cap),(21,.pointer (some ⟨p,0,none⟩)),(22,.pointer (some ⟨p,0,none⟩)),(23,.pointer (some ⟨p,0+tOff Try.prog 61 1,none⟩)),(24,.slice (some ⟨g,0,none⟩) K.length cap),(25,.int .i64 (K.length:Int)),(26,.int .i64 ((K.length:Int)-1)),(27,.slice (some ⟨g,0,none⟩) ((K.length:Int)-1).toNat cap),(28,.pointer (some ⟨p,0,none⟩)),(29,.pointer (some ⟨p,0+tOff Try.prog 61 1,none⟩))]).eval (.tmp 27)=.slice (some ⟨g,0,none⟩) ((K.length:Int)-1).toNat cap:=(E 27)
 obtain⟨cs',q1,q2⟩:=JpP (w:=e.w.drew) (i:=0+tOff Try.prog 61 1) (cs:=cs) (ty:=ty) (b:=p) e0 JcD JhX (E 29) k3 (by rw[Jk6]; exact(Array.getElem?_eq_some_iff.1 k4).1) (by rw[hv]; rfl) (by rw[hv]; rfl)
 rw[hv,Jk6]at q2
 refine⟨_,q1,?_⟩
 obtain⟨o1,o2,o3,o4,o5⟩:=Only.setRow e.w.drew p cs'
 have hpm:∀ k,e.μ n k→k≠p:=fun k hk he=>(hw.ext.mu n k hnn hk).box n hnn (by rw[k1,he])
 obtain⟨w1,l1⟩:=hw.kcSet (KSK (List.dropLast K)) (e.μ n) hn hrp k1 k3 (setRow_heap _ _ _ _ _ _ k3) q2 (by simp) (rowK hk) (w':=e.w.drew.setRow p cs') o1 o2 o3 (Nat.le_of_eq o4.symm)
  (fun k _ hk1 _=>o5 k hk1) (fun k hk=>JoD hw hnn hk (Nat.le_of_eq o4.symm) (o5 k (hpm k hk)))
  ((KSK (List.dropLast K)).fr e.w _ _ _ _ ⟨g,cap,gs,ms.take (K.length-1),by simp[e1],by
   obtain⟨l,hl⟩:∃ l,K=List.dropLast K++[l]:=⟨_,(List.dropLast_concat_getLast (show K≠[] by intro he; rw[he]at hg; simp at hg)).symm⟩
   have h9:=k5
   rw[hl,List.map_append]at h9
   have:=h9.pop
   simpa using this⟩ (fun k hk=>o5 k (hpm k hk)) (fun _ h=>h))
 exact⟨rfl,_,rfl,Vi hs l1 [(16,.pointer (some ⟨p,0,none⟩)),(17,.pointer (some ⟨p,0,none⟩)),(18,.pointer (some ⟨p,0,none⟩)),(19,.pointer (some ⟨p,0+tOff Try.prog 61 1,none⟩)),(20,.slice (some ⟨g,0,none⟩) K.length cap),(21,.pointer (some ⟨p,0,none⟩)),(22,.pointer (some ⟨p,0,none⟩)),(23,.pointer (some ⟨p,0+tOff Try.prog 61 1,none⟩)),(24,.slice (some ⟨g,0,none⟩) K.length cap),(25,.int .i64 (K.length:Int)),(26,.int .i64 ((K.length:Int)-1)),(27,.slice (some ⟨g,0,none⟩) ((K.length:Int)-1).toNat cap),(28,.pointer (some ⟨p,0,none⟩)),(29,.pointer (some ⟨p,0+tOff Try.prog 61 1,none⟩))] [16,17,18,19,20,21,22,23,24,25,26,27,28,29] (fun i hi=>hi) (by rw[hN]; rfl),w1⟩
theorem Jxw(K:List KD){t:Tab}{σ:Nat→AV}{h:Hp}{Q:KA}{n:Nat}{c0 c2:C}{ops:Array Oper}
  (x:Q .normal (upd (fgt [7,8,9,10,11,12,4] σ) 4 (.c (.d (.v (.int .i64 ((K.length:Int)-1)))))) h) (h0:σ 0=.c (.pt n 0):=by(simp -implicitDefEqProofs only[goR,↓Jk,goS,↓reduceIte,reduceCtorEq,seval,Y]; try rfl)) (hn:h.H n=some [c0,.kc (KSK K),c2]:=by(simp -implicitDefEqProofs only[goR,↓Jk,goS,↓reduceIte,reduceCtorEq,seval,Y]; try rfl)) (hP:t.P=Try.prog:=by rfl) (hl0:t.lk.contains 999999=false:=by rfl) (hlk:t.lk.contains 1000052=true:=by rfl) (hops:ops.toList.map shO=[(.move (.tmp 0),some 7,none),(.nilCheck (.tmp 7),some 8,none),(.fieldAddr 61 (.tmp 8) 1,some 9,none),(.load 59 (.tmp 9),some 10,none),(.call { callee:=.builtin .len,args:=#[.tmp 10],argTypes:=#[59] },some 11,none),(.binOp .sub 3 (.tmp 11) (.const (.int .i64 1)) 3,some 12,none),(.assign (.tmp 12),some 4,none)]:=by rfl):aC t (.region 0 ops false) σ h Q:=by
 refine⟨σ,h,Wk.refl _ _ _,.inr ⟨_,_,⟨hl0,fun Γ a e hΓ hnt hs hw=>?_⟩,x⟩⟩
 have hN:Γ.nt=52:=hnt 52 hlk
 rw[hP]
 have hsz:a.tmps.size=52:=hs.1.trans hN
 have r0:=hs.2.2 0 (by omega)
 rw[h0]at r0
 obtain⟨p,cs,ty,g,cap,gs,ms,k1,k2,k3,k4,k5,k6⟩:=Jhh hw hn r0
 have k2:a.eval (.tmp 0)=.pointer (some ⟨p,0,none⟩):=k2
 obtain⟨u1,u2,u3,u4,u5,u6⟩:=k5.mapsMu
 simp only[List.length_map]at u3 u6
 have hnn:h.H n≠none:=by rw[hn]; simp
 refine wp_region_list ?_
 generalize ops.toList=l at hops ⊢
 change wpList _ _ _ l (Ji a []) _
 obtain⟨o,l,rfl,e1,e2,e3,hops⟩:=Jn hops
 refine Je e3 e2 (Jw e1 ((Jd hsz rfl).trans k2)) ?_
 obtain⟨o,l,rfl,e1,e2,e3,hops⟩:=Jn hops
 refine Je e3 e2 (JaW e1 (Jd hsz rfl)) ?_
 obtain⟨o,l,rfl,e1,e2,e3,hops⟩:=Jn hops
 refine Je e3 e2 (Vc e1 Jao (Jd hsz rfl)) ?_
 obtain⟨o,l,rfl,e1,e2,e3,hops⟩:=Jn hops
 refine Je e3 e2 (VN e1 JcD Jgd (Jd hsz rfl) k6) ?_
 obtain⟨o,l,rfl,e1,e2,e3,hops⟩:=Jn hops
 refine Je e3 e2 (Jo0 e1 JgX (Jd hsz rfl)) ?_
 obtain⟨o,l,rfl,e1,e2,e3,hops⟩:=Jn hops
 refine Je e3 e2 (JlG e1 (Jd hsz rfl) (by omega)) ?_
 obtain⟨o,l,rfl,e1,e2,e3,hops⟩:=Jn hops
 refine Je e3 e2 (Ve e1 (Jd hsz rfl)) ?_
 obtain rfl:=List.map_eq_nil_iff.1 hops
 refine⟨rfl,e,rfl,Ja7 (Vi hs (Env.le.refl _) _ [7,8,9,10,11,12,4] (fun i hi=>by simp at hi ⊢; omega) (by rw[hN]; rfl)) (by omega) ?_,hw⟩
 rw[Jd hsz rfl]
 exact .v _
theorem JqM(K:List KD)(hg:K.length<17592186044416){t:Tab}{σ:Nat→AV}{h:Hp}{Q:KA}{n:Nat}{c0 c2:C}{ops:Array Oper}
  (x:Q .normal (fgt [4,5,6,7,8,9,10,11,12,13] σ) { h with H:=upd h.H n (some [c0,.kc (KSK (K++[[]])),c2]) }) (h0:σ 0=.c (.pt n 0):=by(simp -implicitDefEqProofs only[goR,↓Jk,goS,↓reduceIte,reduceCtorEq,seval,Y]; try rfl)) (hn:h.H n=some [c0,.kc (KSK K),c2]:=by(simp -implicitDefEqProofs only[goR,↓Jk,goS,↓reduceIte,reduceCtorEq,seval,Y]; try rfl))
  (hk:(c0.noK && c2.noK)=true:=by rfl) (hrp:rowP [c0,.kc (KSK K),c2]=true:=by rfl) (hP:t.P=Try.prog:=by rfl) (hl0:t.lk.contains 999999=false:=by rfl) (hlk:t.lk.contains 1000030=true:=by rfl) (hops:ops.toList.map shO=[(.move (.tmp 0),some 4,none),(.move (.tmp 0),some 5,none),(.nilCheck (.tmp 5),some 6,none),(.fieldAddr 61 (.tmp 6) 1,some 7,none),(.load 59 (.tmp 7),some 8,none),(.makeMap 58 none,some 9,none),(.buildSlice 59 1 #[(0,.tmp 9)],some 10,none),(.call { callee:=.builtin .append,args:=#[.tmp 8,.tmp 10],argTypes:=#[59,59] },some 11,none),(.nilCheck (.tmp 4),some 12,none),(.fieldAddr 61 (.tmp 12) 1,some 13,none),(.store 59 (.tmp 13) (.tmp 11),none,none)]:=by rfl):aC t (.region 0 ops false) σ h Q:=by
 refine⟨σ,h,Wk.refl _ _ _,.inr ⟨_,_,⟨hl0,fun Γ a e hΓ hnt hs hw=>?_⟩,x⟩⟩
 have hN:Γ.nt=30:=hnt 30 hlk
 rw[hP]
 have hsz:a.tmps.size=30:=hs.1.trans hN
 have r0:=hs.2.2 0 (by omega)
 rw[h0]at r0
 obtain⟨p,cs,ty,g,cap,gs,ms,k1,k2,k3,k4,k5,k6⟩:=Jhh hw hn r0
 have k2:a.eval (.tmp 0)=.pointer (some ⟨p,0,none⟩):=k2
 obtain⟨u1,u2,u3,u4,u5,u6⟩:=k5.mapsMu
 simp only[List.length_map]at u3 u6
 have hnn:h.H n≠none:=by rw[hn]; simp
 have hplt:=(Array.getElem?_eq_some_iff.1 k3).1
 have hglt:=(Array.getElem?_eq_some_iff.1 u2).1
 have hpm:∀ k,e.μ n k→k≠p:=fun k hk he=>(hw.ext.mu n k hnn hk).box n hnn (by rw[k1,he])
 have hmm:∀ k,e.μ n k→k<e.w.heap.size:=fun k hk=>(hw.ext.mu n k hnn hk).lt
 refine wp_region_list ?_
 generalize ops.toList=l at hops ⊢
 change wpList _ _ _ l (Ji a []) _
 obtain⟨o,l,rfl,e1,e2,e3,hops⟩:=Jn hops
 refine Je e3 e2 (Jw e1 ((Jd hsz rfl).trans k2)) ?_
 obtain⟨o,l,rfl,e1,e2,e3,hops⟩:=Jn hops
 refine Je e3 e2 (Jw e1 ((Jd hsz rfl).trans k2)) ?_
 obtain⟨o,l,rfl,e1,e2,e3,hops⟩:=Jn hops
 refine Je e3 e2 (JaW e1 (Jd hsz rfl)) ?_
 obtain⟨o,l,rfl,e1,e2,e3,hops⟩:=Jn hops
 refine Je e3 e2 (Vc e1 Jao (Jd hsz rfl)) ?_
 obtain⟨o,l,rfl,e1,e2,e3,hops⟩:=Jn hops
 refine Je e3 e2 (VN e1 JcD Jgd (Jd hsz rfl) k6) ?_
 obtain⟨o,l,rfl,e1,e2,e3,hops⟩:=Jn hops
 refine Je e3 e2 (Jfh e1) ?_
 obtain⟨o,l,rfl,e1,e2,e3,hops⟩:=Jn hops
 refine Je e3 e2 (Jrb e1 Try.underlying59 (Try.sizeOf58 _) (Try.zeroValue58 _) (Jd hsz rfl) rfl) ?_
 -- what there is by now
 have a4:(e.w.alloc (.map #[] 0)).heap.size=e.w.heap.size+1:=Array.size_push ..
 have a5:((e.w.alloc (.map #[] 0)).alloc (.cells #[.map (some e.w.heap.size)] 58)).heap.size=e.w.heap.size+2:=(Array.size_push ..).trans (by rw[a4])
 have a1:∀ j,j<e.w.heap.size→((e.w.alloc (.map #[] 0)).alloc (.cells #[.map (some e.w.heap.size)] 58)).heap[j]? = e.w.heap[j]? := fun j hj=>(heap_alloc_old (e.w.alloc (.map #[] 0)) _ (by rw[a4]; omega)).trans (heap_alloc_old e.w _ hj)
 have a2:((e.w.alloc (.map #[] 0)).alloc (.cells #[.map (some e.w.heap.size)] 58)).heap[e.w.heap.size]? = some (.map #[] 0):=(heap_alloc_old (e.w.alloc (.map #[] 0)) _ (by rw[a4]; omega)).trans (heap_alloc_new e.w _)
 have a3:((e.w.alloc (.map #[] 0)).alloc (.cells #[.map (some e.w.heap.size)] 58)).heap[(e.w.alloc (.map #[] 0)).heap.size]? = some (.cells #[.map (some e.w.heap.size)] 58):=heap_alloc_new (e.w.alloc (.map #[] 0)) _
 obtain⟨o,l,rfl,e1,e2,e3,hops⟩:=Jn hops
 obtain⟨i,hi,hz,hi1,hi2,z,hzi,hzc⟩:∃ i:TypeInfo,Try.prog.info? 58=some i∧True∧i.size=1∧i.bytes≤8∧∃ z,i.zero=some z∧z.cells.size=1:=Jya
 obtain⟨g',cap',cur',w3,y1,y2,y3,y4,y5,y6,y7,y8,y9,y10,y11,y12,y13,y14,y15,y16⟩:=JsU (a:=Ji a [(10,.slice (some ⟨(e.w.alloc (.map #[] 0)).heap.size,0,none⟩) 1 1),(9,.map (some e.w.heap.size)),(8,.slice (some ⟨g,0,none⟩) K.length cap),(7,.pointer (some ⟨p,0+tOff Try.prog 61 1,none⟩)),(6,.pointer (some ⟨p,0,none⟩)),(5,.pointer (some ⟨p,0,none⟩)),(4,.pointer (some ⟨p,0,none⟩))]) (w:=(e.w.alloc (.map #[] 0)).alloc (.cells #[.map (some e.w.heap.size)] 58)) (v:=.map (some e.w.heap.size)) (q:=(e.w.alloc (.map #[] 0)).heap.size) (c:=1) (cap:=cap) (n:=K.length) (g:=g) e1 Try.underlying59 hi hzi hi1 hi2 hzc
  (Jd hsz rfl) (Jd hsz rfl) ((a1 g hglt).trans u2) u5 u3 u4 (by simp only[World.cell?,a3]; rfl) rfl hg
 rw[a5]at y2 y9 y10
 change wpList _ _ _ _ (Ji a [(10,.slice (some ⟨(e.w.alloc (.map #[] 0)).heap.size,0,none⟩) 1 1),(9,.map (some e.w.heap.size)),(8,.slice (some ⟨g,0,none⟩) K.length cap),(7,.pointer (some ⟨p,0+tOff Try.prog 61 1,none⟩)),(6,.pointer (some ⟨p,0,none⟩)),(5,.pointer (some ⟨p,0,none⟩)),(4,.pointer (some ⟨p,0,none⟩))]) _
 refine Je e3 e2 y1 ?_
 obtain⟨o,l,rfl,e1,e2,e3,hops⟩:=Jn hops
 refine Je e3 e2 (JaW e1 (Jd hsz rfl)) ?_
 obtain⟨o,l,rfl,e1,e2,e3,hops⟩:=Jn hops
 refine Je e3 e2 (Vc e1 Jao (Jd hsz rfl)) ?_
 obtain⟨o,l,rfl,e1,e2,e3,hops⟩:=Jn hops
 have y8':∀ j,j<e.w.heap.size→j≠g→w3.heap[j]? = e.w.heap[j]? := fun j hj hjg=>(y8 j (by rw[a5]; omega) hjg).trans (a1 j hj)
 have hpg:p≠g:=fun he=>hpm g u1 he.symm
 have k3':w3.heap[p]? = some (.cells cs ty (0,0)):=(y8' p hplt hpg).trans k3
 have hcl:1<cs.size:=(Array.getElem?_eq_some_iff.1 k4).1
 obtain⟨cs',q1,q2⟩:=JpP (a:=Ji a [(13,.pointer (some ⟨p,0+tOff Try.prog 61 1,none⟩)),(12,.pointer (some ⟨p,0,none⟩)),(11,.slice (some ⟨g',0,none⟩) (K.length+1) cap'),(10,.slice (some ⟨(e.w.alloc (.map #[] 0)).heap.size,0,none⟩) 1 1),(9,.map (some e.w.heap.size)),(8,.slice (some ⟨g,0,none⟩) K.length cap),(7,.pointer (some ⟨p,0+tOff Try.prog 61 1,none⟩)),(6,.pointer (some ⟨p,0,none⟩)),(5,.pointer (some ⟨p,0,none⟩)),(4,.pointer (some ⟨p,0,none⟩))]) (w:=w3) (i:=0+tOff Try.prog 61 1) (cs:=cs) (ty:=ty) (b:=p) (P:=Try.prog) (x:=.tmp 13) (y:=.tmp 11) e1 JcD JhX (Jd hsz rfl) k3' (by rw[Jk6]; exact hcl) (by rw[Jd hsz rfl]; rfl) (by rw[Jd hsz rfl]; rfl)
 rw[Jd hsz rfl,Jk6]at q2
 have q2:cs'.toList=cs.toList.set 1 (.slice (some ⟨g',0,none⟩) (K.length+1) cap'):=q2
 change wpList _ _ _ _ (Ji a [(13,.pointer (some ⟨p,0+tOff Try.prog 61 1,none⟩)),(12,.pointer (some ⟨p,0,none⟩)),(11,.slice (some ⟨g',0,none⟩) (K.length+1) cap'),(10,.slice (some ⟨(e.w.alloc (.map #[] 0)).heap.size,0,none⟩) 1 1),(9,.map (some e.w.heap.size)),(8,.slice (some ⟨g,0,none⟩) K.length cap),(7,.pointer (some ⟨p,0+tOff Try.prog 61 1,none⟩)),(6,.pointer (some ⟨p,0,none⟩)),(5,.pointer (some ⟨p,0,none⟩)),(4,.pointer (some ⟨p,0,none⟩))]) _
 refine Za e3 e2 q1 ?_
 obtain rfl:=List.map_eq_nil_iff.1 hops
 obtain⟨o1,o2,o3,o4,o5⟩:=Only.setRow w3 p cs'
 have hg'p:g'≠p:=by
  rcases y2 with rfl | rfl
  ·exact fun he=>hpm _ u1 he
  ·omega
 have hmg:∀ k,k∈ms→e.μ n k:=fun k hk=>k5.mem hk
 have hgms:g∉ms:=k5.2.2.2.2.2.2.2.2.1
 have hm4:(w3.setRow p cs').heap[e.w.heap.size]? = some (.map #[] 0):=by
  rw[o5 _ (by omega),y8 _ (by rw[a5]; omega) (by omega),a2]
 have hown:(w3.setRow p cs').ownsMap Try.prog 9 anyE e.w.heap.size 0 (.map []):=Zk (World.ownsMap_made (H:=Unit) e.w Try.prog 9 anyE) (hm4.trans (heap_alloc_new e.w _).symm)
 have hrow4:(w3.setRow p cs').heap[g']? = some (.cells cur' 58 (0,0)):=(o5 _ hg'p).trans y3
 have hold:∀ j,j<e.w.heap.size→j≠p→j≠g→(w3.setRow p cs').heap[j]? = e.w.heap[j]? := fun j hj hjp hjg=>(o5 j hjp).trans (y8' j hj hjg)
 have hsz4:e.w.heap.size≤(w3.setRow p cs').heap.size:=by rw[o4]; omega
 obtain⟨w1,l1⟩:=hw.kcSet (KSK (K++[[]])) (fun x=>e.μ n x∨x=e.w.heap.size∨x=g') hn hrp k1 k3 (setRow_heap _ _ _ _ _ _ k3') q2 (by simp) (rowK hk) (o1.trans y12) (o2.trans y13) (o3.trans y14) hsz4
  (fun k hk hk1 hk2=>hold k hk hk1 (fun he=>hk2 (he ▸ u1)))
  (fun k hk=>by
   have gnew:∀ k,k=g'→e.μ n k∨e.w.heap.size≤k∨Unowned Γ h e k:=fun k he=>by
    rcases y2 with y2 | y2
    ·exact .inl (by rw[he,y2]; exact u1)
    ·exact .inr (.inl (by omega))
   have gobj:(∀ o,(w3.setRow p cs').heap[g']? = some o→JjF o=true):=fun o ho=>by rw[hrow4]at ho; cases ho; rfl
   by_cases hkg:k=g'
   ·refine⟨gnew k hkg,by rw[hkg,o4]; exact y11,by rw[hkg]; exact gobj,fun hlt o hx=>?_⟩
    rcases y2 with y2 | y2
    ·-- the same row: its cells are the box's
     have hmu:=hw.ext.mu n g hnn u1
     rw[hkg]at hx ⊢
     have hsz0:cur'.size=gs.size:=by
      have:=y15 y2
      omega
     replace hx:∃ x,(w3.setRow p cs').cell? ⟨g',o,none⟩=some x:=by
      rcases hx with hx | ⟨_,es,c,hx⟩
      ·exact hx
      ·rw[hrow4]at hx; cases hx
     obtain⟨x,hx⟩:=hx
     simp only[World.cell?,hrow4]at hx
     have ho:o<gs.size:=by
      have:=(Array.getElem?_eq_some_iff.1 (by simpa using hx)).1
      omega
     rw[y2]
     exact hmu.s o (.inl ⟨gs[o],by simp only[World.cell?,u2]; exact Array.getElem?_eq_getElem ho⟩)
    ·omega
   ·rcases hk with hk | hk | hk
    ·by_cases hkg2:k=g
     ·-- the old row,where the new one is another
      subst hkg2
      have y2':=y2.resolve_left (fun he=>hkg he.symm)
      exact JoD hw hnn hk hsz4 ((o5 k (hpm k hk)).trans ((y16 (fun he=>hkg he.symm)).trans (a1 k (hmm k hk))))
     ·exact JoD hw hnn hk hsz4 (hold k (hmm k hk) (hpm k hk) hkg2)
    ·subst hk
     exact Jtq (.inr (.inl (Nat.le_refl _))) hown (fun h=>absurd h (Nat.lt_irrefl _))
    ·exact absurd hk hkg)
  ⟨g',cap',cur',ms++[e.w.heap.size],by simp,by
   have:=k5.push (w':=w3.setRow p cs') (m:=e.w.heap.size) (b':=g') (cap':=cap') (cs':=cur') hown (fun hm=>by have:=hmm _ (hmg _ hm); omega) (by rcases y2 with y2 | y2 <;> omega)
    (by
     rcases y2 with y2 | y2
     ·rw[y2]; exact hgms
     ·exact fun hm=>by have:=hmm _ (hmg _ hm); omega) hrow4 (by simpa using y5) y6 y4 (by simpa using y7)
    (fun j hj=>hold j (hmm j (hmg j hj)) (hpm j (hmg j hj)) (fun he=>hgms (he ▸ hj)))
   rw[List.map_append]
   exact this⟩
 exact⟨rfl,_,rfl,Vi hs l1 _ [4,5,6,7,8,9,10,11,12,13] (fun i hi=>by simp at hi ⊢; omega) (by rw[hN]; rfl),w1⟩
theorem JxA{t:Tab}{σ:Nat→AV}{h:Hp}{Q:KA}{y:D}{ops:Array Oper}(x:Q .normal (upd (upd (fgt [8,9,10,11,12,6] σ) 12 (.c (.pt h.nx 0))) 6 (.c (.pt h.nx 0))) (h.box [.d y,.kc (KSK [[]]),.sl 2 [] 0]))
  (h0:σ 0=.c (.d y):=by(simp -implicitDefEqProofs only[goR,↓Jk,goS,↓reduceIte,reduceCtorEq,seval,Y]; try rfl)) (hy:∀ (w:World) (S:Nat→Nat→Prop) (v:Value),R1 w S y v→v.cells=#[v]:=by intro w S v hv; rcases hv.slInv with⟨_,o,rfl⟩|⟨vs,b,of,cap,rfl,_⟩ <;> rfl)
  (hP:t.P=Try.prog:=by rfl) (hl0:t.lk.contains 999999=false:=by rfl) (hlk:t.lk.contains 1000025=true:=by rfl) (hops:ops.toList.map shO=[(.move (.tmp 0),some 8,none),(.makeMap 58 none,some 9,none),(.buildSlice 59 1 #[(0,.tmp 9)],some 10,none),(.build 61 #[(0,.tmp 8),(1,.tmp 10)],some 11,none),(.box 61 (.tmp 11),some 12,none),(.assign (.tmp 12),some 6,none)]:=by rfl):aC t (.region 2 ops false) σ h Q:=by
 refine⟨σ,h,Wk.refl _ _ _,.inr ⟨_,_,⟨hl0,fun Γ a e hΓ hnt hs hw=>?_⟩,x⟩⟩
 have hN:Γ.nt=25:=hnt 25 hlk
 rw[hP]
 have hsz:a.tmps.size=25:=hs.1.trans hN
 have r0:=hs.2.2 0 (by omega)
 rw[h0]at r0
 have r0:R1 e.w e.S y (a.eval (.tmp 0)):=r0
 have hc0:=hy _ _ _ r0
 refine wp_region_list ?_
 generalize ops.toList=l at hops ⊢
 change wpList _ _ _ l (Ji a []) _
 obtain⟨o,l,rfl,e1,e2,e3,hops⟩:=Jn hops
 refine Je e3 e2 (Jw e1 (Jd hsz rfl)) ?_
 obtain⟨o,l,rfl,e1,e2,e3,hops⟩:=Jn hops
 refine Je e3 e2 (Jfh e1) ?_
 obtain⟨o,l,rfl,e1,e2,e3,hops⟩:=Jn hops
 refine Je e3 e2 (Jrb e1 Try.underlying59 (Try.sizeOf58 _) (Try.zeroValue58 _) (Jd hsz rfl) rfl) ?_
 have a4:(e.w.alloc (.map #[] 0)).heap.size=e.w.heap.size+1:=Array.size_push ..
 have a5:((e.w.alloc (.map #[] 0)).alloc (.cells #[.map (some e.w.heap.size)] 58)).heap.size=e.w.heap.size+2:=(Array.size_push ..).trans (by rw[a4])
 have a1:∀ j,j<e.w.heap.size→((e.w.alloc (.map #[] 0)).alloc (.cells #[.map (some e.w.heap.size)] 58)).heap[j]? = e.w.heap[j]? := fun j hj=>(heap_alloc_old (e.w.alloc (.map #[] 0)) _ (by rw[a4]; omega)).trans (heap_alloc_old e.w _ hj)
 have a2:((e.w.alloc (.map #[] 0)).alloc (.cells #[.map (some e.w.heap.size)] 58)).heap[e.w.heap.size]? = some (.map #[] 0):=(heap_alloc_old (e.w.alloc (.map #[] 0)) _ (by rw[a4]; omega)).trans (heap_alloc_new e.w _)
 have a3:((e.w.alloc (.map #[] 0)).alloc (.cells #[.map (some e.w.heap.size)] 58)).heap[(e.w.alloc (.map #[] 0)).heap.size]? = some (.cells #[.map (some e.w.heap.size)] 58):=heap_alloc_new (e.w.alloc (.map #[] 0)) _
 obtain⟨o,l,rfl,e1,e2,e3,hops⟩:=Jn hops
 change wpList _ _ _ _ (Ji a [(10,.slice (some ⟨(e.w.alloc (.map #[] 0)).heap.size,0,none⟩) 1 1),(9,.map (some e.w.heap.size)),(8,a.eval (.tmp 0))]) _
 have ea:(Ji a [(10,.slice (some ⟨(e.w.alloc (.map #[] 0)).heap.size,0,none⟩) 1 1),(9,.map (some e.w.heap.size)),(8,a.eval (.tmp 0))]).eval (.tmp 8)=a.eval (.tmp 0):=Jd hsz rfl
 have eb:(Ji a [(10,.slice (some ⟨(e.w.alloc (.map #[] 0)).heap.size,0,none⟩) 1 1),(9,.map (some e.w.heap.size)),(8,a.eval (.tmp 0))]).eval (.tmp 10)=.slice (some ⟨(e.w.alloc (.map #[] 0)).heap.size,0,none⟩) 1 1:=Jd hsz rfl
 have hb:(execOp (Ji a [(10,.slice (some ⟨(e.w.alloc (.map #[] 0)).heap.size,0,none⟩) 1 1),(9,.map (some e.w.heap.size)),(8,a.eval (.tmp 0))]).eval o).run Try.prog ((e.w.alloc (.map #[] 0)).alloc (.cells #[.map (some e.w.heap.size)] 58))=.ok (.value (.agg #[(a.eval (.tmp 0)),.slice (some ⟨(e.w.alloc (.map #[] 0)).heap.size,0,none⟩) 1 1,.slice none 0 0])) ((e.w.alloc (.map #[] 0)).alloc (.cells #[.map (some e.w.heap.size)] 58)):=by
  have hz:=Try.zeroValue61 ((e.w.alloc (.map #[] 0)).alloc (.cells #[.map (some e.w.heap.size)] 58))
  have hag:∀ cs:Array Value,(Value.agg cs).cells=cs:=fun _=>rfl
  have hsl:∀ o n c,(Value.slice o n c).cells=#[Value.slice o n c]:=fun _ _ _=>rfl
  simp only[execOp,e1,Instr.build,Sem.run_bind,hz,Result.andThen_ok,run_underlying Try.underlying61,List.mapM_toArray,Array.mapM_eq_mapM_toList,List.mapM_cons,List.mapM_nil,Try.sizeOf22,Try.sizeOf59,Try.sizeOf32,Sem.run_pure,List.map_toArray,List.map_cons,List.map_nil,ea,eb,hag]
  simp[Instr.fill,hc0,hsl]
 refine Je e3 e2 hb ?_
 obtain⟨o,l,rfl,e1,e2,e3,hops⟩:=Jn hops
 change wpList _ _ _ _ (Ji a [(11,.agg #[(a.eval (.tmp 0)),.slice (some ⟨(e.w.alloc (.map #[] 0)).heap.size,0,none⟩) 1 1,.slice none 0 0]),(10,.slice (some ⟨(e.w.alloc (.map #[] 0)).heap.size,0,none⟩) 1 1),(9,.map (some e.w.heap.size)),(8,a.eval (.tmp 0))]) _
 have ec:(Ji a [(11,.agg #[(a.eval (.tmp 0)),.slice (some ⟨(e.w.alloc (.map #[] 0)).heap.size,0,none⟩) 1 1,.slice none 0 0]),(10,.slice (some ⟨(e.w.alloc (.map #[] 0)).heap.size,0,none⟩) 1 1),(9,.map (some e.w.heap.size)),(8,a.eval (.tmp 0))]).eval (.tmp 11)=.agg #[(a.eval (.tmp 0)),.slice (some ⟨(e.w.alloc (.map #[] 0)).heap.size,0,none⟩) 1 1,.slice none 0 0]:=Jd hsz rfl
 refine Je (v:=.pointer (some ⟨((e.w.alloc (.map #[] 0)).alloc (.cells #[.map (some e.w.heap.size)] 58)).heap.size,0,none⟩)) (w':=((e.w.alloc (.map #[] 0)).alloc (.cells #[.map (some e.w.heap.size)] 58)).alloc (.cells #[(a.eval (.tmp 0)),.slice (some ⟨(e.w.alloc (.map #[] 0)).heap.size,0,none⟩) 1 1,.slice none 0 0] 61)) e3 e2 (by
  simp only[execOp,e1,ec,Instr.box,Sem.run_bind,Result.andThen_ok,newVar,newRow,run_newObj,Sem.run_pure]
  rfl) ?_
 obtain⟨o,l,rfl,e1,e2,e3,hops⟩:=Jn hops
 refine Je e3 e2 (Ve e1 (Jd hsz rfl)) ?_
 obtain rfl:=List.map_eq_nil_iff.1 hops
 -- the world's end
 have hgr:Grows e.w ((e.w.alloc (.map #[] 0)).alloc (.cells #[.map (some e.w.heap.size)] 58)):=(Grows.alloc e.w _).trans (Grows.alloc _ _)
 obtain⟨w1,l1⟩:=hw.grows (S':=fun b o=>e.S b o∨(e.w.heap.size≤b∧b<((e.w.alloc (.map #[] 0)).alloc (.cells #[.map (some e.w.heap.size)] 58)).heap.size)) hgr (fun b o hb=>⟨fun h=>h.resolve_right (by omega),.inl⟩) (fun b o hb=>hb.elim (fun hb=>Nat.lt_of_lt_of_le (hw.sdom b o hb) hgr.size) (fun hb=>hb.2))
 obtain⟨e3',z1,z2,z3,z4,z5,z6,z7⟩:=w1.newBoxX (cs:=#[(a.eval (.tmp 0)),.slice (some ⟨(e.w.alloc (.map #[] 0)).heap.size,0,none⟩) 1 1,.slice none 0 0]) (ty:=61) (row:=[.d y,.top,.sl 2 [] 0]) (fun e' hle _=>by
  have q:=RC.mono (l1.trans hle) (c:=.d y) r0
  simp only[RCs]
  refine⟨q,trivial,⟨.slnil _ _,.inl ⟨none,0,rfl⟩⟩,trivial⟩) (by simp[C.noK])
 simp only at z4 z5 z6 z7
 have hm1:e3'.w.heap[e.w.heap.size]? = some (.map #[] 0):=by rw[z1]; exact(heap_alloc_old ((e.w.alloc (.map #[] 0)).alloc (.cells #[.map (some e.w.heap.size)] 58)) _ (by rw[a5]; omega)).trans a2
 have hm2:e3'.w.heap[(e.w.alloc (.map #[] 0)).heap.size]? = some (.cells #[.map (some e.w.heap.size)] 58):=by rw[z1]; exact(heap_alloc_old ((e.w.alloc (.map #[] 0)).alloc (.cells #[.map (some e.w.heap.size)] 58)) _ (by rw[a5,a4]; omega)).trans a3
 have hbox:e3'.w.heap[((e.w.alloc (.map #[] 0)).alloc (.cells #[.map (some e.w.heap.size)] 58)).heap.size]? = some (.cells #[(a.eval (.tmp 0)),.slice (some ⟨(e.w.alloc (.map #[] 0)).heap.size,0,none⟩) 1 1,.slice none 0 0] 61):=by rw[z1]; exact heap_alloc_new ((e.w.alloc (.map #[] 0)).alloc (.cells #[.map (some e.w.heap.size)] 58)) _
 have hsz3:e3'.w.heap.size=e.w.heap.size+3:=by rw[z1]; exact(Array.size_push ..).trans (by rw[a5])
 have hnxH:h.H h.nx=none:=(hw.fresh h.nx (Nat.le_refl _)).1
 have hnxT:h.T h.nx=none:=(hw.fresh h.nx (Nat.le_refl _)).2.1
 have un:∀ k,e.w.heap.size≤k→k<((e.w.alloc (.map #[] 0)).alloc (.cells #[.map (some e.w.heap.size)] 58)).heap.size→Unowned Γ (h.box [.d y,.top,.sl 2 [] 0]) e3' k:=fun k hk hk2=>by
  have hk3:k≠((e.w.alloc (.map #[] 0)).alloc (.cells #[.map (some e.w.heap.size)] 58)).heap.size:=by omega
  refine⟨by rw[hsz3]; rw[a5]at hk2; omega,.inl (Nat.le_trans hw.hB hk),fun i hi hρ=>?_,fun i v hi hv hf hb=>?_,fun i hi hm=>?_⟩
  ·rw[z4]at hρ
   by_cases hin:i=h.nx
   ·subst hin; simp only[upd_same,Option.some.injEq]at hρ; exact hk3 hρ.symm
   ·rw[JbW _ _ _ _ hin]at hρ
    obtain⟨r,hr⟩:=Option.ne_none_iff_exists'.1 (show h.H i≠none by simpa [Hp.box,upd,hin] using hi)
    obtain⟨ob,o1,_⟩:=hw.boxAny hρ r hr
    have:=(Array.getElem?_eq_some_iff.1 o1).1
    omega
  ·have hin:i≠h.nx:=fun he=>hi (by rw[he]; exact hnxT)
   rw[z5,JbW _ _ _ _ hin]at hv
   obtain⟨ty,hty⟩:=Option.ne_none_iff_exists'.1 (show h.T i≠none from hi)
   obtain⟨_,v',q1,q2⟩:=hw.tok i ty hty
   rw[hv]at q1; cases q1
   obtain⟨sz,n,xs,_,q2,_⟩:=q2.resolve_left hf
   have:=(q2.1.lt _ hb).2
   omega
  ·rw[z6]at hm
   by_cases hin:i=h.nx
   ·subst hin; exact(hw.fresh h.nx (Nat.le_refl _)).2.2.2.2 k hm
   ·have:=(hw.ext.mu i k (by simpa [Hp.box,upd,hin] using hi) hm).lt
    omega
 have hS3:∀ k o,e.w.heap.size≤k→k<((e.w.alloc (.map #[] 0)).alloc (.cells #[.map (some e.w.heap.size)] 58)).heap.size→e3'.S k o:=fun k o h1 h2=>(z7 k o).2 (.inl (.inr ⟨h1,h2⟩))
 have hown:e3'.w.ownsMap Try.prog 9 anyE e.w.heap.size 0 (.map []):=Zk (World.ownsMap_made (H:=Unit) e.w Try.prog 9 anyE) (hm1.trans (heap_alloc_new e.w _).symm)
 obtain⟨w2,l2⟩:=z2.kcSet (n:=h.nx) (j:=1) (b:=((e.w.alloc (.map #[] 0)).alloc (.cells #[.map (some e.w.heap.size)] 58)).heap.size) (row:=[.d y,.top,.sl 2 [] 0]) (cs:=#[(a.eval (.tmp 0)),.slice (some ⟨(e.w.alloc (.map #[] 0)).heap.size,0,none⟩) 1 1,.slice none 0 0]) (cs':=#[(a.eval (.tmp 0)),.slice (some ⟨(e.w.alloc (.map #[] 0)).heap.size,0,none⟩) 1 1,.slice none 0 0]) (v':=.slice (some ⟨(e.w.alloc (.map #[] 0)).heap.size,0,none⟩) 1 1) (w':=e3'.w) (KSK [[]]) (fun k=>k=e.w.heap.size∨k=(e.w.alloc (.map #[] 0)).heap.size)
  (by simp[Hp.box]) rfl (by rw[z4]; simp) hbox hbox rfl (by simp) (fun i Ψ hi=>by rcases i with _|_|_|_ <;> simp) rfl rfl rfl (Nat.le_refl _) (fun k _ _ _=>rfl)
  (fun k hk=>by
   have hk1:e.w.heap.size≤k∧k<((e.w.alloc (.map #[] 0)).alloc (.cells #[.map (some e.w.heap.size)] 58)).heap.size:=by rcases hk with hk | hk <;> rw[hk,a5] <;> omega
   refine⟨.inr (.inr (un k hk1.1 hk1.2)),by rw[hsz3]; rw[a5]at hk1; omega,fun o ho=>?_,fun _ o _=>hS3 k o hk1.1 hk1.2⟩
   rcases hk with hk | hk
   ·rw[hk,hm1]at ho; cases ho; rfl
   ·rw[hk,hm2]at ho; cases ho; rfl)
  ⟨(e.w.alloc (.map #[] 0)).heap.size,1,_,[e.w.heap.size],rfl,KSp.one hown (by rw[a4]; omega) hm2 rfl⟩
 have hH:{ h.box [.d y,.top,.sl 2 [] 0] with H:=upd (h.box [.d y,.top,.sl 2 [] 0]).H h.nx (some [.d y,.kc (KSK [[]]),.sl 2 [] 0]) }=h.box [.d y,.kc (KSK [[]]),.sl 2 [] 0]:=by
  simp only[Hp.box]
  congr 1
  funext i
  by_cases hi:i=h.nx <;> simp[upd,hi]
 have w3:=w2
 rw[show([.d y,.top,.sl 2 [] 0]:List C).set 1 (.kc (KSK [[]]))=[.d y,.kc (KSK [[]]),.sl 2 [] 0] from rfl,hH]at w3
 have hpt:∀ E:Env,E.ρ=e3'.ρ→RC E (.pt h.nx 0) (.pointer (some ⟨((e.w.alloc (.map #[] 0)).alloc (.cells #[.map (some e.w.heap.size)] 58)).heap.size,0,none⟩)):=fun E hE=>⟨_,by rw[hE,z4]; simp,rfl⟩
 refine⟨rfl,_,?z,Ja7 (Ja7 (Vi hs ((l1.trans z3).trans l2) _ [8,9,10,11,12,6] (fun i hi=>by simp at hi ⊢; omega) (by rw[hN]; rfl)) (by rw[hN]; decide) ?_) (by rw[hN]; decide) ?_,w3⟩
 case z=>exact z1
 ·rw[Jd hsz rfl]; exact hpt _ rfl
 ·rw[Jd hsz rfl]; exact hpt _ rfl
end Go.Proofs.Ytaofbminodhcnaa
