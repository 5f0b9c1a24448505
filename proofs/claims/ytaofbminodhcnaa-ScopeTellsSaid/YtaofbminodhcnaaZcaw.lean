/- names' with by hand,and what an S's map is asked. Written by mkqk.py. -/
import Derived.Test.YtaofbminodhcnaaZcan
import Derived.Test.YtaofbminodhcnaaZcat
set_option linter.unusedVariables false
set_option linter.unusedSimpArgs false
set_option maxHeartbeats 4000000
set_option maxRecDepth 100000
namespace Go.Proofs.Ytaofbminodhcnaa
open Go.RowKit Go.Maps
section
variable {a:Act} {w:World} {o:Oper}
theorem JoI{x:Operand}{b:Nat}(h:o.op=.fieldAddr 72 x 0)(hx:a.eval x=.pointer (some ⟨b,0,none⟩)):(execOp a.eval o).run Try.prog w=.ok (.value (.pointer (some ⟨b,0,none⟩))) w:=by
 have:=Vc (P:=Try.prog) (w:=w) h (by kernel_rfl) hx
 rwa [show tOff Try.prog 72 0=0 by kernel_rfl]at this
theorem JoG{x:Operand}{b:Nat}(h:o.op=.fieldAddr 72 x 1)(hx:a.eval x=.pointer (some ⟨b,0,none⟩)):(execOp a.eval o).run Try.prog w=.ok (.value (.pointer (some ⟨b,1,none⟩))) w:=by
 have:=Vc (P:=Try.prog) (w:=w) h (by kernel_rfl) hx
 rwa [show tOff Try.prog 72 1=1 by kernel_rfl]at this
theorem JoJ{x:Operand}{b:Nat}{v0 v1:Value}{ty:TypeId}(h:o.op=.load 58 x)(hx:a.eval x=.pointer (some ⟨b,0,none⟩))(hc:w.heap[b]? = some (.cells #[v0,v1] ty (0,0))):(execOp a.eval o).run Try.prog w=.ok (.value v0) w :=
 VN h (by kernel_rfl) (by kernel_rfl) hx (by simp[World.cell?,hc])
theorem JoK{x:Operand}{b:Nat}{v0 v1:Value}{ty:TypeId}(h:o.op=.load 58 x)(hx:a.eval x=.pointer (some ⟨b,1,none⟩))(hc:w.heap[b]? = some (.cells #[v0,v1] ty (0,0))):(execOp a.eval o).run Try.prog w=.ok (.value v1) w :=
 VN h (by kernel_rfl) (by kernel_rfl) hx (by simp[World.cell?,hc])
theorem Jtu{x:Operand}{b:Nat}{v0 v1:Value}{ty:TypeId}(h:o.op=.load 72 x)(hx:a.eval x=.pointer (some ⟨b,0,none⟩))(hc:w.heap[b]? = some (.cells #[v0,v1] ty (0,0))):(execOp a.eval o).run Try.prog w=.ok (.value (.agg #[v0,v1])) w:=by
 have hs:=J6 Try.prog 72 w (by kernel_rfl)
 rw[show Jo Try.prog 72=2 by kernel_rfl]at hs
 have hi:=JfM Try.prog 72 w (by kernel_rfl)
 rw[show tAgg Try.prog 72=true by kernel_rfl]at hi
 have hcells:(loadCells ⟨b,0,none⟩ 2).run Try.prog w=.ok #[v0,v1] w:=by
  have:=run_loadCells_list (P:=Try.prog) (w:=w) ⟨b,0,none⟩ [v0,v1] (fun j x hx=>by
   rcases j with _ | _ | j
   ·simp at hx; subst hx; simp[Addr.add,World.cell?,hc]
   ·simp at hx; subst hx; simp[Addr.add,World.cell?,hc]
   ·simp at hx)
  simpa using this
 simp[execOp,h,hx,Instr.loadAt,Instr.sureAddr,loadVar,hi,hs,hcells]
theorem JkV{x y:Operand}{b:Nat}{v0 v1:Value}{cs:Array Value}{ty:TypeId}(h:o.op=.store 72 x y)(hx:a.eval x=.pointer (some ⟨b,0,none⟩))(hy:a.eval y=.agg #[v0,v1])(h0:Value.oneCell' v0=true)(h1:Value.oneCell' v1=true)(hc:w.heap[b]? = some (.cells cs ty (0,0)))(hsz:cs.size=2):
  (execOp a.eval o).run Try.prog w=.ok .skip (w.setRow b #[v0,v1]):=by
 have hs:=J6 Try.prog 72 w (by kernel_rfl)
 rw[show Jo Try.prog 72=2 by kernel_rfl]at hs
 have hsc:=run_storeCells_at Try.prog b 0 ty [v0,v1] 0 cs w hc (by simp; omega) (by simp[h0,h1])
 have hl2:cs.toList.drop 2=[]:=List.drop_eq_nil_of_le (by simp; omega)
 simp only[Nat.add_zero,List.take_zero,List.nil_append,List.length_cons,List.length_nil,Nat.zero_add,Nat.reduceAdd,hl2,List.append_nil]at hsc
 simp only[execOp,h,hx,hy,Instr.storeAt,Instr.sureAddr,storeVar,Sem.run_bind,Sem.run_pure,Result.andThen_ok,hs,Value.cells]
 simp[hsc]
theorem Jsu(h:o.op=.alloc 72):(execOp a.eval o).run Try.prog w=.ok (.value (.pointer (some ⟨w.heap.size,0,none⟩))) (w.alloc (.cells #[.map none,.map none] 72)):=by
 have hz:=Try.zeroValue72 w
 simp only[execOp,h,Instr.alloc,Sem.run_bind,hz,Result.andThen_ok,newVar,newRow,run_newObj,Sem.run_pure]
 rfl
theorem Jsh{x y:Nat}{v0 v1:Value}(h:o.op=.build 72 #[(0,.tmp x),(1,.tmp y)])(hx:a.eval (.tmp x)=v0)(hy:a.eval (.tmp y)=v1)(h0:v0.cells=#[v0])(h1:v1.cells=#[v1]):(execOp a.eval o).run Try.prog w=.ok (.value (.agg #[v0,v1])) w:=by
 have hz:=Try.zeroValue72 w
 have hag:∀ cs:Array Value,(Value.agg cs).cells=cs:=fun _=>rfl
 simp only[execOp,h,Instr.build,Sem.run_bind,hz,Result.andThen_ok,run_underlying Try.underlying72,List.mapM_toArray,Array.mapM_eq_mapM_toList,List.mapM_cons,List.mapM_nil,Try.sizeOf58,Sem.run_pure,List.map_toArray,List.map_cons,List.map_nil,hx,hy,hag]
 simp[Instr.fill,h0,h1]
end
abbrev LS75:List Nat:=[7,8,9,10,11,12,13,14,15,16,17,18,19,20,21,22,23,24,25,26,27,28,29,30,31,32,33,34,35,36,37,38,39,40,41,42,43,44,45,46,47]
theorem hNw(A B:EN)(s:List UInt8)(v:Int)(hg:s.length≤9223372036854775807∧A.length<9223372036854775806∧B.length<9223372036854775806){t:Tab}{σ:Nat→AV}{h:Hp}{Q:KA}{n3 n6:Nat}{c1 c2:C}{o1 o2 o3 o4 o5 o6 o7 o8 o9 o10 o11:Array Oper}
  (x:Q .ret (fgt LS75 σ) { h with H:=upd h.H n6 (some [.fm (EM Try.prog 58 (cvN ((s,v)::A))),.fm (EM Try.prog 58 (cvN ((s,v)::B)))]) })
  (h3:σ 3=.c (.pt n3 0))
  (h6:σ 6=.c (.pt n6 0))
  (h1:σ 1=.c (.d (.v (str s))))
  (h2:σ 2=.c (.d (.v (.int .i64 v))))
  (hn3:h.H n3=some [.fm (EM Try.prog 58 (cvN A)),.fm (EM Try.prog 58 (cvN B))])
  (hn6:h.H n6=some [c1,c2])
  (hb:JcF [c1,c2]=true)
  (hrp:rowP [c1,c2]=true)
  (hne:n3≠n6)
  (hP:t.P=Try.prog)
  (hl0:t.lk.contains 999999=false)
  (hlk:t.lk.contains 1000048=true)
  (hops1:o1.toList.map shO=[(.makeMap 58 none,some 12,none),(.makeMap 58 none,some 13,none),(.build 72 #[(0,.tmp 12),(1,.tmp 13)],some 14,none),(.alloc 72,some 7,none),(.store 72 (.tmp 7) (.tmp 14),none,none)])
  (hops2:o2.toList.map shO=[(.fieldAddr 72 (.tmp 3) 0,some 15,none),(.load 58 (.tmp 15),some 16,none),(.range 58 (.tmp 16),some 17,none)])
  (hops3:o3.toList.map shO=[(.next (.tmp 17) false,some 18,none),(.extract (.tmp 18) 0,some 19,none)])
  (hops4:o4.toList.map shO=[(.entry (.tmp 17),some 20,none),(.extract (.tmp 20) 0,some 21,none),(.extract (.tmp 20) 1,some 22,none),(.assign (.tmp 21),some 8,none),(.assign (.tmp 22),some 9,none)])
  (hops5:o5.toList.map shO=[(.fieldAddr 72 (.tmp 7) 0,some 23,none),(.load 58 (.tmp 23),some 24,none),(.move (.tmp 8),some 25,none),(.move (.tmp 9),some 26,none),(.mapUpdate 58 (.tmp 24) (.tmp 25) (.tmp 26),none,none)])
  (hops6:o6.toList.map shO=[(.fieldAddr 72 (.tmp 3) 1,some 27,none),(.load 58 (.tmp 27),some 28,none),(.range 58 (.tmp 28),some 29,none)])
  (hops7:o7.toList.map shO=[(.next (.tmp 29) false,some 30,none),(.extract (.tmp 30) 0,some 31,none)])
  (hops8:o8.toList.map shO=[(.entry (.tmp 29),some 32,none),(.extract (.tmp 32) 0,some 33,none),(.extract (.tmp 32) 1,some 34,none),(.assign (.tmp 33),some 10,none),(.assign (.tmp 34),some 11,none)])
  (hops9:o9.toList.map shO=[(.fieldAddr 72 (.tmp 7) 1,some 35,none),(.load 58 (.tmp 35),some 36,none),(.move (.tmp 10),some 37,none),(.move (.tmp 11),some 38,none),(.mapUpdate 58 (.tmp 36) (.tmp 37) (.tmp 38),none,none)])
  (hops10:o10.toList.map shO=[(.fieldAddr 72 (.tmp 7) 0,some 39,none),(.load 58 (.tmp 39),some 40,none),(.move (.tmp 1),some 41,none),(.fieldAddr 72 (.tmp 7) 1,some 42,none),(.load 58 (.tmp 42),some 43,none),(.move (.tmp 1),some 44,none),(.move (.tmp 2),some 45,none),(.move (.tmp 2),some 46,none)]++[(.mapUpdate 58 (.tmp 40) (.tmp 41) (.tmp 45),none,none),(.mapUpdate 58 (.tmp 43) (.tmp 44) (.tmp 46),none,none)])
  (hops11:o11.toList.map shO=[(.load 72 (.tmp 7),some 47,none),(.store 72 (.tmp 6) (.tmp 47),none,none)])
  (hch:Jk9 o10 8=true) :
  SemC t (.seq (.region 1 o1 false) (.seq (.seq (.region 2 o2 false) (.block 0 (.loop (.seq (.region 3 o3 false) (.seq (.cond (.tmp 19) .skip (.exit 0)) (.block 1 (.seq (.region 4 o4 false) (.region 5 o5 false)))))))) (.seq (.seq (.region 6 o6 false) (.block 2 (.loop (.seq (.region 7 o7 false) (.seq (.cond (.tmp 31) .skip (.exit 2)) (.block 3 (.seq (.region 8 o8 false) (.region 9 o9 false)))))))) (.seq (.region 10 o10 true) (.seq (.region 11 o11 false) .ret))))) σ h Q:=by
 refine⟨hl0,fun Γ pure a e _ hΓ _ _ _ _ hc hs hw=>?_⟩
 have hN:Γ.nt=48:=Ji0 (id:=0) (.inl rfl) hc hlk
 rw[← hΓ,hP]
 have hsz:a.tmps.size=48:=hs.1.trans hN
 have r3:=hs.2.2 3 (by omega)
 rw[h3]at r3
 have r6:=hs.2.2 6 (by omega)
 rw[h6]at r6
 have r1:=hs.2.2 1 (by omega)
 rw[h1]at r1
 have r2:=hs.2.2 2 (by omega)
 rw[h2]at r2
 obtain⟨p3,p31,p32⟩:=r3
 obtain⟨p6,p61,p62⟩:=r6
 have p32:a.eval (.tmp 3)=.pointer (some ⟨p3,0,none⟩):=p32
 have p62:a.eval (.tmp 6)=.pointer (some ⟨p6,0,none⟩):=p62
 have r1:a.eval (.tmp 1)=str s:=R1.vInv r1
 have r2:a.eval (.tmp 2)=.int .i64 v:=R1.vInv r2
 obtain⟨p',cs,ty,q1,q2,q3,_⟩:=hw.boxAt p31 _ hn3 rfl
 rw[p31]at q1; cases q1
 have q3:=q3.plain rfl
 rcases cs with⟨_ | ⟨x0,_ | ⟨x1,_ | ⟨x2,cs⟩⟩⟩⟩
 ·simp[RCs]at q3
 ·simp[RCs]at q3
 rotate_left
 ·simp[RCs]at q3
 simp only[RCs,and_true]at q3
 obtain⟨bA,nA,DA,rfl,hT,hnA,hownA,hDA⟩:=Jl0 q3.1
 obtain⟨bB,nB,DB,rfl,_,hnB,hownB,hDB⟩:=Jl0 q3.2
 obtain⟨p',cs6,ty6,u1,u2,u3,_⟩:=hw.boxAt p61 _ hn6 hb
 rw[p61]at u1; cases u1
 have hcs6:cs6.size=2:=by rw[← Array.length_toList,(u3.plain hrp).length]; rfl
 have hlt3:=(Array.getElem?_eq_some_iff.1 q2).1
 have hlt6:=(Array.getElem?_eq_some_iff.1 u2).1
 obtain⟨g1,g2,g3⟩:=hg
 have hLA:(cvN A).length=A.length:=by simp[cvN]
 have hLB:(cvN B).length=B.length:=by simp[cvN]
 have ltA:=hownA.lt
 have ltB:=hownB.lt
 generalize hc0:e.w.heap.size=c0
 refine wp_seq (wp_region_list ?_)
 generalize o1.toList=l at hops1 ⊢
 change wpList _ _ _ l (Ji a []) _
 obtain⟨o,l,rfl,e1,e2,e3,hops⟩:=Jn hops1
 refine Je e3 e2 (Jfh e1) ?_
 obtain⟨o,l,rfl,e1,e2,e3,hops⟩:=Jn hops
 refine Je e3 e2 (Jfh e1) ?_
 have s1:(e.w.alloc (.map #[] 0)).heap.size=c0+1:=by rw[World.size_alloc,hc0]
 have s2:((e.w.alloc (.map #[] 0)).alloc (.map #[] 0)).heap.size=c0+2:=by rw[World.size_alloc,s1]
 have gA:Grows e.w ((e.w.alloc (.map #[] 0)).alloc (.map #[] 0)):=(Grows.alloc e.w _).trans (Grows.alloc _ _)
 have mA:((e.w.alloc (.map #[] 0)).alloc (.map #[] 0)).ownsMap Try.prog (mapK Try.prog 58) anyE bA nA DA:=(hownA.alloc _).alloc _
 have mB:((e.w.alloc (.map #[] 0)).alloc (.map #[] 0)).ownsMap Try.prog (mapK Try.prog 58) anyE bB nB DB:=(hownB.alloc _).alloc _
 have m0:=(World.ownsMap_made (H:=Unit) e.w Try.prog (mapK Try.prog 58) anyE).alloc (.map #[] 0)
 have m1:=World.ownsMap_made (H:=Unit) (e.w.alloc (.map #[] 0)) Try.prog (mapK Try.prog 58) anyE
 rw[hc0]at m0
 rw[s1]at m1
 simp only[hc0,s1]
 generalize (e.w.alloc (.map #[] 0)).alloc (.map #[] 0)=w0 at s2 gA mA mB m0 m1 ⊢
 obtain⟨o,l,rfl,e1,e2,e3,hops⟩:=Jn hops
 refine Je e3 e2 (Jsh e1 (v0:=.map (some c0)) (v1:=.map (some (c0+1))) (Jd hsz rfl) (Jd hsz rfl) rfl rfl) ?_
 obtain⟨o,l,rfl,e1,e2,e3,hops⟩:=Jn hops
 refine Je e3 e2 (Jsu e1) ?_
 obtain⟨o,l,rfl,e1,e2,e3,hops⟩:=Jn hops
 have n7:(w0.alloc (.cells #[.map none,.map none] 72)).heap[c0+2]? = some (.cells #[.map none,.map none] 72 (0,0)):=by have:=heap_alloc_new w0 (.cells #[.map none,.map none] 72); rwa [s2]at this
 simp only[s2]
 refine Za e3 e2 (JkV (v0:=.map (some c0)) (v1:=.map (some (c0+1))) e1 (Jd hsz rfl) (Jd hsz rfl) rfl rfl n7 rfl) ?_
 obtain rfl:=List.map_eq_nil_iff.1 hops
 have O:=Only.setRow (w0.alloc (.cells #[.map none,.map none] 72)) (c0+2) #[.map (some c0),.map (some (c0+1))]
 have gO:Grows w0 ((w0.alloc (.cells #[.map none,.map none] 72)).setRow (c0+2) #[.map (some c0),.map (some (c0+1))]):=⟨O.1,O.2.1,O.2.2.1,by rw[O.2.2.2.1]; simp,fun k hk=>(O.2.2.2.2 k (by omega)).trans ((Grows.alloc w0 _).block k hk)⟩
 have c7:((w0.alloc (.cells #[.map none,.map none] 72)).setRow (c0+2) #[.map (some c0),.map (some (c0+1))]).heap[c0+2]? = some (.cells #[.map (some c0),.map (some (c0+1))] 72 (0,0)):=setRow_heap _ _ _ _ _ _ n7
 have s3:((w0.alloc (.cells #[.map none,.map none] 72)).setRow (c0+2) #[.map (some c0),.map (some (c0+1))]).heap.size=c0+3:=by rw[O.2.2.2.1,World.size_alloc,s2]
 have mA:=Zk mA (gO.block bA (by omega))
 have mB:=Zk mB (gO.block bB (by omega))
 have m0:=Zk m0 (gO.block c0 (by omega))
 have m1:=Zk m1 (gO.block (c0+1) (by omega))
 have gA:=gA.trans gO
 generalize (w0.alloc (.cells #[.map none,.map none] 72)).setRow (c0+2) #[.map (some c0),.map (some (c0+1))]=w1 at gA c7 s3 mA mB m0 m1 ⊢
 clear gO O n7 s2
 obtain⟨w2,f1,f2,f3,f4⟩:=mA.range hT.K hT.u
 rw[s3]at f1 f2
 have gB:Grows e.w w2:=⟨f3.os.trans gA.os,f3.tape.trans gA.tape,f3.output.trans gA.output,Nat.le_trans gA.size f3.size,fun k hk=>(f3.block k (Nat.lt_of_lt_of_le hk gA.size) (by simp)).trans (gA.block k hk)⟩
 have m0:w2.ownsMap Try.prog (mapK Try.prog 58) anyE c0 0 (.map []):=m0.kept f3 (by simp)
 have m1:w2.ownsMap Try.prog (mapK Try.prog 58) anyE (c0+1) 0 (.map []):=m1.kept f3 (by simp)
 have c7:=(f3.block (c0+2) (by omega) (by simp)).trans c7
 have hsA:=mA.size_le
 have s4:c0+3<w2.heap.size:=f2.lt
 have SE:∀ (a':Act) (M:List (Nat×Value)),Jz Γ.nt Γ.ds (fgt LS75 σ) a' e→(∀ i,i∈M.map Prod.fst→i∈LS75)→Jz Γ.nt Γ.ds (fgt LS75 σ) (Ji a' M) e:=fun a' M hs' hM=>by
  have:=Vi hs' (Env.le.refl _) M LS75 hM (by rw[hN]; rfl)
  rw[JjN]at this
  exact this
 refine wp_seq (wp_seq (wp_region_list ?_))
 generalize o2.toList=l at hops2 ⊢
 obtain⟨o,l,rfl,e1,e2,e3,hops⟩:=Jn hops2
 refine Je e3 e2 (JoI e1 ((Jd hsz rfl).trans p32)) ?_
 obtain⟨o,l,rfl,e1,e2,e3,hops⟩:=Jn hops
 refine Je e3 e2 (JoJ e1 (Jd hsz rfl) ((gA.block p3 hlt3).trans q2)) ?_
 obtain⟨o,l,rfl,e1,e2,e3,hops⟩:=Jn hops
 refine Je e3 e2 (Jks e1 (Jd hsz rfl) f1) ?_
 obtain rfl:=List.map_eq_nil_iff.1 hops
 refine wp_block ?_
 refine wp_loop (fun a' w'=>(a'.tmps.size=48∧Jz Γ.nt Γ.ds (fgt LS75 σ) a' e∧Grows e.w w'∧w'.heap[c0+2]? = some (.cells #[.map (some c0),.map (some (c0+1))] 72 (0,0))∧a'.eval (.tmp 3)=.pointer (some ⟨p3,0,none⟩)∧a'.eval (.tmp 6)=.pointer (some ⟨p6,0,none⟩)∧a'.eval (.tmp 7)=.pointer (some ⟨c0+2,0,none⟩)∧a'.eval (.tmp 1)=str s∧a'.eval (.tmp 2)=.int .i64 v)∧a'.eval (.tmp 17)=.pointer (some ⟨c0+3,0,none⟩)∧w'.ownsMap Try.prog (mapK Try.prog 58) anyE bB nB DB∧w'.ownsMap Try.prog (mapK Try.prog 58) anyE (c0+1) 0 (.map [])∧c0+3<w'.heap.size∧∃ left cnt n' D',w'.ranges Try.prog (mapK Try.prog 58) anyE bA (c0+3) nA DA left cnt∧(∀ x,left x=true→has DA x=true)∧w'.ownsMap Try.prog (mapK Try.prog 58) anyE c0 n' D'∧n'+cnt≤nA∧JdY DA D' left) (fun _ w'=>w'.rangeLeft bA (c0+3))
  ⟨⟨(VX _ _).trans hsz,Vi hs (Env.le.refl _) _ LS75 (fun i hi=>by simp at hi ⊢; omega) (by rw[hN]; rfl),gB,c7,(Jd hsz rfl).trans p32,(Jd hsz rfl).trans p62,(Jd hsz rfl),(Jd hsz rfl).trans r1,(Jd hsz rfl).trans r2⟩,(Jd hsz rfl),mB.kept f3 (by simp),m1,s4,_,_,0,_,f2,fun _ h=>h,m0,by omega,fun s'=>by
   simp only[Bool.and_not_self]
   exact⟨rfl,fun _=>rfl⟩⟩ ?_
 rintro a1 w' ⟨⟨i1,i2,i3,iC,iP3,iP6,iP7,iP1,iP2⟩,i4,iB,iO,iS,left,cnt,n',D',i6,i7,i8,i9,i10⟩
 refine wp_seq (wp_region_list ?_)
 generalize o3.toList=l at hops3 ⊢
 change wpList _ _ _ l (Ji a1 []) _
 obtain⟨o,l,rfl,e1,e2,e3,hops⟩:=Jn hops3
 rcases i6.next hT.K o.type with⟨_,j2,j3⟩|⟨key,val,kl,y,w2,cnt',j1,j2,j3,j4,j5,j6,j7,j8,j9,j10⟩
 ·refine Je e3 e2 (Jf9 e1 ((Jd i1 rfl).trans i4) j3) ?_
  obtain⟨o,l,rfl,e1,e2,e3,hops⟩:=Jn hops
  refine Je e3 e2 (K4 (v:=.bool false) e1 (Jd i1 rfl) rfl) ?_
  obtain rfl:=List.map_eq_nil_iff.1 hops
  refine wp_seq (wp_cond_false (Jd i1 rfl) (wp_exit ?_))
  have kA:=i10.done j2
  have hnA':n'≤nA:=by omega
  have mA':=i8
  have isMA:=i8.isMap
  have i10:=(); have i7:=(); have i6:=()
  have rA:w'.heap[bB]? = w'.heap[bB]? := rfl
  obtain⟨w2,f1,f2,f3,f4⟩:=iB.range hT.K hT.u
  have gB:Grows e.w w2:=⟨f3.os.trans i3.os,f3.tape.trans i3.tape,f3.output.trans i3.output,Nat.le_trans i3.size f3.size,fun k hk=>(f3.block k (Nat.lt_of_lt_of_le hk i3.size) (by simp)).trans (i3.block k hk)⟩
  generalize hrb:w'.heap.size=rb at f1 f2 iS
  have hrbg:c0+3<rb:=iS
  have sA:=iO.size_le; have hsB:=iB.size_le
  refine wp_seq (wp_seq (wp_region_list ?_))
  generalize o6.toList=l at hops6 ⊢
  obtain⟨o,l,rfl,e1,e2,e3,hops⟩:=Jn hops6
  refine Je e3 e2 (JoG e1 ((Jd i1 rfl).trans iP3)) ?_
  obtain⟨o,l,rfl,e1,e2,e3,hops⟩:=Jn hops
  refine Je e3 e2 (JoK e1 (Jd i1 rfl) ((i3.block p3 hlt3).trans q2)) ?_
  obtain⟨o,l,rfl,e1,e2,e3,hops⟩:=Jn hops
  refine Je e3 e2 (Jks e1 (Jd i1 rfl) f1) ?_
  obtain rfl:=List.map_eq_nil_iff.1 hops
  refine wp_block ?_
  refine wp_loop (fun a' w'=>(a'.tmps.size=48∧Jz Γ.nt Γ.ds (fgt LS75 σ) a' e∧Grows e.w w'∧w'.heap[c0+2]? = some (.cells #[.map (some c0),.map (some (c0+1))] 72 (0,0))∧a'.eval (.tmp 3)=.pointer (some ⟨p3,0,none⟩)∧a'.eval (.tmp 6)=.pointer (some ⟨p6,0,none⟩)∧a'.eval (.tmp 7)=.pointer (some ⟨c0+2,0,none⟩)∧a'.eval (.tmp 1)=str s∧a'.eval (.tmp 2)=.int .i64 v)∧a'.eval (.tmp 29)=.pointer (some ⟨rb,0,none⟩)∧w'.ownsMap Try.prog (mapK Try.prog 58) anyE c0 n' D'∧rb<w'.heap.size∧∃ left cnt n2 D2,w'.ranges Try.prog (mapK Try.prog 58) anyE bB rb nB DB left cnt∧(∀ x,left x=true→has DB x=true)∧w'.ownsMap Try.prog (mapK Try.prog 58) anyE (c0+1) n2 D2∧n2+cnt≤nB∧JdY DB D2 left) (fun _ w'=>w'.rangeLeft bB rb)
   ⟨⟨(VX _ _).trans i1,SE a1 [(29,.pointer (some ⟨rb,0,none⟩)),(28,.map (some bB)),(27,.pointer (some ⟨p3,1,none⟩)),(19,.bool false),(18,.tuple #[.bool false])] i2 (fun i hi=>by simp at hi ⊢; omega),gB,(f3.block (c0+2) (by omega) (by simp)).trans iC,(Jd i1 rfl).trans iP3,(Jd i1 rfl).trans iP6,(Jd i1 rfl).trans iP7,(Jd i1 rfl).trans iP1,(Jd i1 rfl).trans iP2⟩,(Jd i1 rfl),mA'.kept f3 (by simp),f2.lt,_,_,0,_,f2,fun _ h=>h,iO.kept f3 (by simp),by omega,fun s'=>by
    simp only[Bool.and_not_self]
    exact⟨rfl,fun _=>rfl⟩⟩ ?_
  clear f1 f2 f3 f4 gB iC i3 iB iO iS i1 i2 iP3 iP6 iP7 iP1 iP2 i4 hrb mA' i8 hops
  rintro a2 w3 ⟨⟨i1,i2,i3,iC,iP3,iP6,iP7,iP1,iP2⟩,i4,iO,iS,left,cnt,n2,D2,i6,i7,i8,i9,i10⟩
  refine wp_seq (wp_region_list ?_)
  generalize o7.toList=l at hops7 ⊢
  change wpList _ _ _ l (Ji a2 []) _
  obtain⟨o,l,rfl,e1,e2,e3,hops⟩:=Jn hops7
  rcases i6.next hT.K o.type with⟨_,j2,j3⟩|⟨key,val,kl,y,w4,cnt',j1,j2,j3,j4,j5,j6,j7,j8,j9,j10⟩
  ·refine Je e3 e2 (Jf9 e1 ((Jd i1 rfl).trans i4) j3) ?_
   obtain⟨o,l,rfl,e1,e2,e3,hops⟩:=Jn hops
   refine Je e3 e2 (K4 (v:=.bool false) e1 (Jd i1 rfl) rfl) ?_
   obtain rfl:=List.map_eq_nil_iff.1 hops
   refine wp_seq (wp_cond_false (Jd i1 rfl) (wp_exit ?_))
   refine wp_seq ?_
   have z1:(Ji a2 [(31,.bool false),(30,.tuple #[.bool false])]).tmps.size=48:=(VX _ _).trans i1
   have z2:=SE a2 [(31,.bool false),(30,.tuple #[.bool false])] i2 (fun i hi=>by simp at hi ⊢; omega)
   have iP6:=(show(Ji a2 [(31,.bool false),(30,.tuple #[.bool false])]).eval (.tmp 6)=_ from(Jd i1 rfl)).trans iP6
   have iP7:=(show(Ji a2 [(31,.bool false),(30,.tuple #[.bool false])]).eval (.tmp 7)=_ from(Jd i1 rfl)).trans iP7
   have iP1:=(show(Ji a2 [(31,.bool false),(30,.tuple #[.bool false])]).eval (.tmp 1)=_ from(Jd i1 rfl)).trans iP1
   have iP2:=(show(Ji a2 [(31,.bool false),(30,.tuple #[.bool false])]).eval (.tmp 2)=_ from(Jd i1 rfl)).trans iP2
   generalize Ji a2 [(31,.bool false),(30,.tuple #[.bool false])]=a3 at z1 z2 iP6 iP7 iP1 iP2 ⊢
   have E:∀ i,(Ji a3 [(39,.pointer (some ⟨c0+2,0,none⟩)),(40,.map (some c0)),(41,str s),(42,.pointer (some ⟨c0+2,1,none⟩)),(43,.map (some (c0+1))),(44,str s),(45,.int .i64 v),(46,.int .i64 v)]).eval (.tmp i)=(lkv [(39,.pointer (some ⟨c0+2,0,none⟩)),(40,.map (some c0)),(41,str s),(42,.pointer (some ⟨c0+2,1,none⟩)),(43,.map (some (c0+1))),(44,str s),(45,.int .i64 v),(46,.int .i64 v)] i).getD (a3.eval (.tmp i)):=fun i=>Jd z1 rfl
   have hnA2:n'<maxLen:=by unfold maxLen; omega
   have hnB2:n2<maxLen:=by unfold maxLen; omega
   have kB:=i10.done j2
   have mB2:=i8.drew; have mA2:=iO.drew
   have lt0:=iO.lt; have lt1:=i8.lt
   have hmid:∃ w5,(∀ o:Oper,o.op=.mapUpdate 58 (.tmp 40) (.tmp 41) (.tmp 45)→(execOp (Ji a3 [(39,.pointer (some ⟨c0+2,0,none⟩)),(40,.map (some c0)),(41,str s),(42,.pointer (some ⟨c0+2,1,none⟩)),(43,.map (some (c0+1))),(44,str s),(45,.int .i64 v),(46,.int .i64 v)]).eval o).run Try.prog w3.drew=.ok .skip w5)∧w5.ownsMap Try.prog (mapK Try.prog 58) anyE c0 (n'+1) (D'.put (.string s) (.lit (.int .i64 v)))∧w3.drew.grownBy w5 (some c0):=by
    obtain⟨w5,y1,y2,y3⟩:=mA2.update hT.K hT.u hnA2 (kl:=.string s) (d:=.lit (.int .i64 v)) (ps:=[]) (key:=str s) (val:=.int .i64 v) (hT.of g1) rfl
    exact⟨w5,fun o h=>by simp[execOp,h,show(Ji a3 [(39,.pointer (some ⟨c0+2,0,none⟩)),(40,.map (some c0)),(41,str s),(42,.pointer (some ⟨c0+2,1,none⟩)),(43,.map (some (c0+1))),(44,str s),(45,.int .i64 v),(46,.int .i64 v)]).eval (.tmp 40)=.map (some c0) from E 40,show(Ji a3 [(39,.pointer (some ⟨c0+2,0,none⟩)),(40,.map (some c0)),(41,str s),(42,.pointer (some ⟨c0+2,1,none⟩)),(43,.map (some (c0+1))),(44,str s),(45,.int .i64 v),(46,.int .i64 v)]).eval (.tmp 41)=str s from E 41,show(Ji a3 [(39,.pointer (some ⟨c0+2,0,none⟩)),(40,.map (some c0)),(41,str s),(42,.pointer (some ⟨c0+2,1,none⟩)),(43,.map (some (c0+1))),(44,str s),(45,.int .i64 v),(46,.int .i64 v)]).eval (.tmp 45)=.int .i64 v from E 45,y1],y2,y3⟩
   obtain⟨w5,y1,y2,y3⟩:=hmid
   have mB3:=mB2.kept y3 (by simp)
   have hlst:∃ w6,(∀ o:Oper,o.op=.mapUpdate 58 (.tmp 43) (.tmp 44) (.tmp 46)→(execOp (Ji a3 [(39,.pointer (some ⟨c0+2,0,none⟩)),(40,.map (some c0)),(41,str s),(42,.pointer (some ⟨c0+2,1,none⟩)),(43,.map (some (c0+1))),(44,str s),(45,.int .i64 v),(46,.int .i64 v)]).eval o).run Try.prog w5=.ok .skip w6)∧w6.ownsMap Try.prog (mapK Try.prog 58) anyE (c0+1) (n2+1) (D2.put (.string s) (.lit (.int .i64 v)))∧w5.grownBy w6 (some (c0+1)):=by
    obtain⟨w6,x1,x2,x3⟩:=mB3.update hT.K hT.u hnB2 (kl:=.string s) (d:=.lit (.int .i64 v)) (ps:=[]) (key:=str s) (val:=.int .i64 v) (hT.of g1) rfl
    exact⟨w6,fun o h=>by simp[execOp,h,show(Ji a3 [(39,.pointer (some ⟨c0+2,0,none⟩)),(40,.map (some c0)),(41,str s),(42,.pointer (some ⟨c0+2,1,none⟩)),(43,.map (some (c0+1))),(44,str s),(45,.int .i64 v),(46,.int .i64 v)]).eval (.tmp 43)=.map (some (c0+1)) from E 43,show(Ji a3 [(39,.pointer (some ⟨c0+2,0,none⟩)),(40,.map (some c0)),(41,str s),(42,.pointer (some ⟨c0+2,1,none⟩)),(43,.map (some (c0+1))),(44,str s),(45,.int .i64 v),(46,.int .i64 v)]).eval (.tmp 44)=str s from E 44,show(Ji a3 [(39,.pointer (some ⟨c0+2,0,none⟩)),(40,.map (some c0)),(41,str s),(42,.pointer (some ⟨c0+2,1,none⟩)),(43,.map (some (c0+1))),(44,str s),(45,.int .i64 v),(46,.int .i64 v)]).eval (.tmp 46)=.int .i64 v from E 46,x1],x2,x3⟩
   obtain⟨w6,x1,x2,x3⟩:=hlst
   have lt2:=(Array.getElem?_eq_some_iff.1 iC).1
   have iCd:w3.drew.heap[c0+2]? = some (.cells #[.map (some c0),.map (some (c0+1))] 72 (0,0)):=iC
   have iC5:w5.heap[c0+2]? = some (.cells #[.map (some c0),.map (some (c0+1))] 72 (0,0)):=(y3.block (c0+2) lt2 (by simp)).trans iCd
   have lt5:=(Array.getElem?_eq_some_iff.1 iC5).1
   have iC6:w6.heap[c0+2]? = some (.cells #[.map (some c0),.map (some (c0+1))] 72 (0,0)):=(x3.block (c0+2) lt5 (by simp)).trans iC5
   refine JqE (w1:=w5) (w2:=w6) _ _ _ [(39,.pointer (some ⟨c0+2,0,none⟩)),(40,.map (some c0)),(41,str s),(42,.pointer (some ⟨c0+2,1,none⟩)),(43,.map (some (c0+1))),(44,str s),(45,.int .i64 v),(46,.int .i64 v)] 48 z1 mixed hops10 rfl (by simp) rfl hch ⟨fun o e=>JoI e ((E 7).trans iP7),fun o e=>JoJ e (E 39) iCd,fun o e=>Jw e ((E 1).trans iP1),fun o e=>JoG e ((E 7).trans iP7),fun o e=>JoK e (E 42) iCd,fun o e=>Jw e ((E 1).trans iP1),fun o e=>Jw e ((E 2).trans iP2),fun o e=>Jw e ((E 2).trans iP2),trivial⟩ ⟨fun o e=>JoI e ((E 7).trans iP7),fun o e=>JoJ e (E 39) iC5,fun o e=>Jw e ((E 1).trans iP1),fun o e=>JoG e ((E 7).trans iP7),fun o e=>JoK e (E 42) iC5,fun o e=>Jw e ((E 1).trans iP1),fun o e=>Jw e ((E 2).trans iP2),fun o e=>Jw e ((E 2).trans iP2),trivial⟩ y1 x1 ?_
   have z3:=SE a3 [(39,.pointer (some ⟨c0+2,0,none⟩)),(40,.map (some c0)),(41,str s),(42,.pointer (some ⟨c0+2,1,none⟩)),(43,.map (some (c0+1))),(44,str s),(45,.int .i64 v),(46,.int .i64 v)] z2 (fun i hi=>by simp at hi ⊢; omega)
   have iP6:=(show(Ji a3 [(39,.pointer (some ⟨c0+2,0,none⟩)),(40,.map (some c0)),(41,str s),(42,.pointer (some ⟨c0+2,1,none⟩)),(43,.map (some (c0+1))),(44,str s),(45,.int .i64 v),(46,.int .i64 v)]).eval (.tmp 6)=_ from(E 6)).trans iP6
   have iP7:=(show(Ji a3 [(39,.pointer (some ⟨c0+2,0,none⟩)),(40,.map (some c0)),(41,str s),(42,.pointer (some ⟨c0+2,1,none⟩)),(43,.map (some (c0+1))),(44,str s),(45,.int .i64 v),(46,.int .i64 v)]).eval (.tmp 7)=_ from(E 7)).trans iP7
   have z4:(Ji a3 [(39,.pointer (some ⟨c0+2,0,none⟩)),(40,.map (some c0)),(41,str s),(42,.pointer (some ⟨c0+2,1,none⟩)),(43,.map (some (c0+1))),(44,str s),(45,.int .i64 v),(46,.int .i64 v)]).tmps.size=48:=(VX _ _).trans z1
   generalize Ji a3 [(39,.pointer (some ⟨c0+2,0,none⟩)),(40,.map (some c0)),(41,str s),(42,.pointer (some ⟨c0+2,1,none⟩)),(43,.map (some (c0+1))),(44,str s),(45,.int .i64 v),(46,.int .i64 v)]=a4 at z3 z4 iP6 iP7 ⊢
   refine wp_seq (wp_region_list ?_)
   generalize o11.toList=l at hops11 ⊢
   change wpList _ _ _ l (Ji a4 []) _
   obtain⟨o,l,rfl,e1,e2,e3,hops⟩:=Jn hops11
   refine Je e3 e2 (Jtu e1 ((Jd z4 rfl).trans iP7) iC6) ?_
   obtain⟨o,l,rfl,e1,e2,e3,hops⟩:=Jn hops
   have gF:Grows e.w w6:=by
    have k3:=i3.trans (Grows.drew w3)
    have k5:Grows e.w w5:=⟨y3.os.trans k3.os,y3.tape.trans k3.tape,y3.output.trans k3.output,Nat.le_trans k3.size y3.size,fun k hk=>(y3.block k (Nat.lt_of_lt_of_le hk k3.size) (by simp; omega)).trans (k3.block k hk)⟩
    exact⟨x3.os.trans k5.os,x3.tape.trans k5.tape,x3.output.trans k5.output,Nat.le_trans k5.size x3.size,fun k hk=>(x3.block k (Nat.lt_of_lt_of_le hk k5.size) (by simp; omega)).trans (k5.block k hk)⟩
   have u2':=(gF.block p6 hlt6).trans u2
   refine Za e3 e2 (JkV (v0:=.map (some c0)) (v1:=.map (some (c0+1))) e1 ((Jd z4 rfl).trans iP6) (Jd z4 rfl) rfl rfl u2' hcs6) ?_
   obtain rfl:=List.map_eq_nil_iff.1 hops
   refine wp_ret ?_
   obtain⟨w7,l7⟩:=hw.grows (S':=e.S) gF (fun _ _ _=>Iff.rfl) (fun b o hb=>Nat.lt_of_lt_of_le (hw.sdom b o hb) gF.size)
   have y2':w6.ownsMap Try.prog (mapK Try.prog 58) anyE c0 (n'+1) (D'.put (.string s) (.lit (.int .i64 v))):=y2.kept x3 (by simp)
   obtain⟨es0,k0,v1,v2⟩:=Ji6 hT hDA kA isMA (by omega) y2'
   obtain⟨es1,k1,v3,v4⟩:=Ji6 hT hDB kB i8.isMap (by omega) x2
   obtain⟨w8,l8⟩:=w7.setBox (n:=n6) (b:=p6) (row':=[.fm (EM Try.prog 58 (cvN ((s,v)::A))),.fm (EM Try.prog 58 (cvN ((s,v)::B)))]) (vs:=[.map (some c0),.map (some (c0+1))]) hn6 p61 u2' (.of ⟨⟨c0,es0,k0,rfl,v1,v2,fun hs=>by have:=hw.sdom _ _ hs; omega⟩,⟨c0+1,es1,k1,rfl,v3,v4,fun hs=>by have:=hw.sdom _ _ hs; omega⟩,trivial⟩) (by rw[hcs6]; rfl) hb (fun _=>hrp) (fun j Φ hj=>by rcases j with _|_|j <;> simp at hj)
   refine⟨_,_,_,x,rfl,?_,w8⟩
   have:=Vi z3 (l7.trans l8) [(47,.agg #[.map (some c0),.map (some (c0+1))])] LS75 (fun i hi=>by simp at hi ⊢; omega) (by rw[hN]; rfl)
   rw[JjN]at this
   exact this
  ·obtain⟨s0,rfl,rfl,hs0'⟩:=hT.inv j1
   refine Je e3 e2 (Jf9 e1 ((Jd i1 rfl).trans i4) j5) ?_
   obtain⟨o,l,rfl,e1,e2,e3,hops⟩:=Jn hops
   refine Je e3 e2 (K4 e1 (Jd i1 rfl) rfl) ?_
   obtain rfl:=List.map_eq_nil_iff.1 hops
   refine wp_seq (wp_cond_true (Jd i1 rfl) (wp_skip ?_))
   refine wp_block (wp_seq (wp_region_list ?_))
   generalize o8.toList=l at hops8 ⊢
   obtain⟨o,l,rfl,e1,e2,e3,hops⟩:=Jn hops8
   refine Je e3 e2 (Jkf e1 ((Jd i1 rfl).trans i4) j10) ?_
   obtain⟨o,l,rfl,e1,e2,e3,hops⟩:=Jn hops
   refine Je e3 e2 (K4 e1 (Jd i1 rfl) rfl) ?_
   obtain⟨o,l,rfl,e1,e2,e3,hops⟩:=Jn hops
   refine Je e3 e2 (K4 e1 (Jd i1 rfl) rfl) ?_
   obtain⟨o,l,rfl,e1,e2,e3,hops⟩:=Jn hops
   refine Je e3 e2 (Ve e1 (Jd i1 rfl)) ?_
   obtain⟨o,l,rfl,e1,e2,e3,hops⟩:=Jn hops
   refine Je e3 e2 (Ve e1 (Jd i1 rfl)) ?_
   obtain rfl:=List.map_eq_nil_iff.1 hops
   have iC2:=(j8.block (c0+2) (Array.getElem?_eq_some_iff.1 iC).1 (by simp; omega)).trans iC
   refine wp_region_list ?_
   generalize o9.toList=l at hops9 ⊢
   obtain⟨o,l,rfl,e1,e2,e3,hops⟩:=Jn hops9
   refine Je e3 e2 (JoG e1 ((Jd i1 rfl).trans iP7)) ?_
   obtain⟨o,l,rfl,e1,e2,e3,hops⟩:=Jn hops
   refine Je e3 e2 (JoK e1 (Jd i1 rfl) iC2) ?_
   obtain⟨o,l,rfl,e1,e2,e3,hops⟩:=Jn hops
   refine Je e3 e2 (Jw e1 (Jd i1 rfl)) ?_
   obtain⟨o,l,rfl,e1,e2,e3,hops⟩:=Jn hops
   refine Je e3 e2 (Jw e1 (Jd i1 rfl)) ?_
   obtain⟨o,l,rfl,e1,e2,e3,hops⟩:=Jn hops
   have hn':n2<maxLen:=by unfold maxLen; omega
   have i8':=i8.kept j8 (by simp; omega)
   obtain⟨w5,u1',u2',u3'⟩:=Jgt (a:=Ji a2 [(38,val),(37,str s0),(36,.map (some (c0+1))),(35,.pointer (some ⟨c0+2,1,none⟩)),(11,val),(10,str s0),(34,val),(33,str s0),(32,.tuple #[str s0,val]),(31,.bool true),(30,.tuple #[.bool true,str s0,val])]) (kl:=.string s0) (d:=y.1) (ps:=y.2) e1 hT.K hT.u hn' i8' (Jd i1 rfl) (by rw[show Act.eval (Ji a2 [(38,val),(37,str s0),(36,.map (some (c0+1))),(35,.pointer (some ⟨c0+2,1,none⟩)),(11,val),(10,str s0),(34,val),(33,str s0),(32,.tuple #[str s0,val]),(31,.bool true),(30,.tuple #[.bool true,str s0,val])]) (.tmp 37)=str s0 from Jd i1 rfl]; exact j1) (by rw[show Act.eval (Ji a2 [(38,val),(37,str s0),(36,.map (some (c0+1))),(35,.pointer (some ⟨c0+2,1,none⟩)),(11,val),(10,str s0),(34,val),(33,str s0),(32,.tuple #[str s0,val]),(31,.bool true),(30,.tuple #[.bool true,str s0,val])]) (.tmp 38)=val from Jd i1 rfl]; exact j3)
   refine Za e3 e2 u1' ?_
   obtain rfl:=List.map_eq_nil_iff.1 hops
   have gr2:Grows e.w w4:=⟨j8.os.trans i3.os,j8.tape.trans i3.tape,j8.output.trans i3.output,Nat.le_trans i3.size j8.size,fun k hk=>(j8.block k (Nat.lt_of_lt_of_le hk i3.size) (by simp; omega)).trans (i3.block k hk)⟩
   have gr3:Grows e.w w5:=⟨u3'.os.trans gr2.os,u3'.tape.trans gr2.tape,u3'.output.trans gr2.output,Nat.le_trans gr2.size u3'.size,fun k hk=>(u3'.block k (Nat.lt_of_lt_of_le hk gr2.size) (by simp; omega)).trans (gr2.block k hk)⟩
   have j6':=j6.kept u3' (by simp; omega) (by simp; try omega)
   have iC3:=(u3'.block (c0+2) (Array.getElem?_eq_some_iff.1 iC2).1 (by simp)).trans iC2
   have iSz:rb<w5.heap.size:=j6'.lt
   refine⟨⟨⟨(VX _ _).trans i1,SE a2 [(38,val),(37,str s0),(36,.map (some (c0+1))),(35,.pointer (some ⟨c0+2,1,none⟩)),(11,val),(10,str s0),(34,val),(33,str s0),(32,.tuple #[str s0,val]),(31,.bool true),(30,.tuple #[.bool true,str s0,val])] i2 (fun i hi=>by simp at hi ⊢; omega),gr3,iC3,(Jd i1 rfl).trans iP3,(Jd i1 rfl).trans iP6,(Jd i1 rfl).trans iP7,(Jd i1 rfl).trans iP1,(Jd i1 rfl).trans iP2⟩,(Jd i1 rfl).trans i4,(iO.kept j8 (by simp; omega)).kept u3' (by simp),iSz,_,_,_,_,j6',fun x hx=>i7 x (by simp at hx; exact hx.1),u2',by omega,i10.step i8.isMap (i7 _ j2) j4⟩,?_⟩
   rw[j6'.left_eq,i6.left_eq]; exact j7
 ·obtain⟨s0,rfl,rfl,hs0'⟩:=hT.inv j1
  refine Je e3 e2 (Jf9 e1 ((Jd i1 rfl).trans i4) j5) ?_
  obtain⟨o,l,rfl,e1,e2,e3,hops⟩:=Jn hops
  refine Je e3 e2 (K4 e1 (Jd i1 rfl) rfl) ?_
  obtain rfl:=List.map_eq_nil_iff.1 hops
  refine wp_seq (wp_cond_true (Jd i1 rfl) (wp_skip ?_))
  refine wp_block (wp_seq (wp_region_list ?_))
  generalize o4.toList=l at hops4 ⊢
  obtain⟨o,l,rfl,e1,e2,e3,hops⟩:=Jn hops4
  refine Je e3 e2 (Jkf e1 ((Jd i1 rfl).trans i4) j10) ?_
  obtain⟨o,l,rfl,e1,e2,e3,hops⟩:=Jn hops
  refine Je e3 e2 (K4 e1 (Jd i1 rfl) rfl) ?_
  obtain⟨o,l,rfl,e1,e2,e3,hops⟩:=Jn hops
  refine Je e3 e2 (K4 e1 (Jd i1 rfl) rfl) ?_
  obtain⟨o,l,rfl,e1,e2,e3,hops⟩:=Jn hops
  refine Je e3 e2 (Ve e1 (Jd i1 rfl)) ?_
  obtain⟨o,l,rfl,e1,e2,e3,hops⟩:=Jn hops
  refine Je e3 e2 (Ve e1 (Jd i1 rfl)) ?_
  obtain rfl:=List.map_eq_nil_iff.1 hops
  have iC2:=(j8.block (c0+2) (Array.getElem?_eq_some_iff.1 iC).1 (by simp)).trans iC
  refine wp_region_list ?_
  generalize o5.toList=l at hops5 ⊢
  obtain⟨o,l,rfl,e1,e2,e3,hops⟩:=Jn hops5
  refine Je e3 e2 (JoI e1 ((Jd i1 rfl).trans iP7)) ?_
  obtain⟨o,l,rfl,e1,e2,e3,hops⟩:=Jn hops
  refine Je e3 e2 (JoJ e1 (Jd i1 rfl) iC2) ?_
  obtain⟨o,l,rfl,e1,e2,e3,hops⟩:=Jn hops
  refine Je e3 e2 (Jw e1 (Jd i1 rfl)) ?_
  obtain⟨o,l,rfl,e1,e2,e3,hops⟩:=Jn hops
  refine Je e3 e2 (Jw e1 (Jd i1 rfl)) ?_
  obtain⟨o,l,rfl,e1,e2,e3,hops⟩:=Jn hops
  have hn':n'<maxLen:=by unfold maxLen; omega
  have i8':=i8.kept j8 (by simp)
  obtain⟨w5,u1',u2',u3'⟩:=Jgt (a:=Ji a1 [(26,val),(25,str s0),(24,.map (some c0)),(23,.pointer (some ⟨c0+2,0,none⟩)),(9,val),(8,str s0),(22,val),(21,str s0),(20,.tuple #[str s0,val]),(19,.bool true),(18,.tuple #[.bool true,str s0,val])]) (kl:=.string s0) (d:=y.1) (ps:=y.2) e1 hT.K hT.u hn' i8' (Jd i1 rfl) (by rw[show Act.eval (Ji a1 [(26,val),(25,str s0),(24,.map (some c0)),(23,.pointer (some ⟨c0+2,0,none⟩)),(9,val),(8,str s0),(22,val),(21,str s0),(20,.tuple #[str s0,val]),(19,.bool true),(18,.tuple #[.bool true,str s0,val])]) (.tmp 25)=str s0 from Jd i1 rfl]; exact j1) (by rw[show Act.eval (Ji a1 [(26,val),(25,str s0),(24,.map (some c0)),(23,.pointer (some ⟨c0+2,0,none⟩)),(9,val),(8,str s0),(22,val),(21,str s0),(20,.tuple #[str s0,val]),(19,.bool true),(18,.tuple #[.bool true,str s0,val])]) (.tmp 26)=val from Jd i1 rfl]; exact j3)
  refine Za e3 e2 u1' ?_
  obtain rfl:=List.map_eq_nil_iff.1 hops
  have gr2:Grows e.w w2:=⟨j8.os.trans i3.os,j8.tape.trans i3.tape,j8.output.trans i3.output,Nat.le_trans i3.size j8.size,fun k hk=>(j8.block k (Nat.lt_of_lt_of_le hk i3.size) (by simp; omega)).trans (i3.block k hk)⟩
  have gr3:Grows e.w w5:=⟨u3'.os.trans gr2.os,u3'.tape.trans gr2.tape,u3'.output.trans gr2.output,Nat.le_trans gr2.size u3'.size,fun k hk=>(u3'.block k (Nat.lt_of_lt_of_le hk gr2.size) (by simp; omega)).trans (gr2.block k hk)⟩
  have j6':=j6.kept u3' (by simp; omega) (by simp; try omega)
  have iC3:=(u3'.block (c0+2) (Array.getElem?_eq_some_iff.1 iC2).1 (by simp)).trans iC2
  have iSz:(c0+3)<w5.heap.size:=j6'.lt
  refine⟨⟨⟨(VX _ _).trans i1,SE a1 [(26,val),(25,str s0),(24,.map (some c0)),(23,.pointer (some ⟨c0+2,0,none⟩)),(9,val),(8,str s0),(22,val),(21,str s0),(20,.tuple #[str s0,val]),(19,.bool true),(18,.tuple #[.bool true,str s0,val])] i2 (fun i hi=>by simp at hi ⊢; omega),gr3,iC3,(Jd i1 rfl).trans iP3,(Jd i1 rfl).trans iP6,(Jd i1 rfl).trans iP7,(Jd i1 rfl).trans iP1,(Jd i1 rfl).trans iP2⟩,(Jd i1 rfl).trans i4,(iB.kept j8 (by simp; omega)).kept u3' (by simp; omega),(iO.kept j8 (by simp)).kept u3' (by simp),iSz,_,_,_,_,j6',fun x hx=>i7 x (by simp at hx; exact hx.1),u2',by omega,i10.step i8.isMap (i7 _ j2) j4⟩,?_⟩
  rw[j6'.left_eq,i6.left_eq]; exact j7
theorem Jyk(A B:EN)(s:List UInt8)(v:Int)(hg:s.length≤9223372036854775807∧A.length<9223372036854775806∧B.length<9223372036854775806){t:Tab}{σ:Nat→AV}{h:Hp}{Q:KA}{n3 n6:Nat}{c1 c2:C}{o1 o2 o3 o4 o5 o6 o7 o8 o9 o10 o11:Array Oper}
  (x:Q .ret (fgt LS75 σ) { h with H:=upd h.H n6 (some [.fm (EM Try.prog 58 (cvN ((s,v)::A))),.fm (EM Try.prog 58 (cvN ((s,v)::B)))]) })
  (h3:σ 3=.c (.pt n3 0):=by(simp -implicitDefEqProofs only[goR,↓Jk,goS,↓reduceIte,reduceCtorEq,seval,Y]; try rfl))
  (h6:σ 6=.c (.pt n6 0):=by(simp -implicitDefEqProofs only[goR,↓Jk,goS,↓reduceIte,reduceCtorEq,seval,Y]; try rfl))
  (h1:σ 1=.c (.d (.v (str s))):=by(simp -implicitDefEqProofs only[goR,↓Jk,goS,↓reduceIte,reduceCtorEq,seval,Y]; try rfl))
  (h2:σ 2=.c (.d (.v (.int .i64 v))):=by(simp -implicitDefEqProofs only[goR,↓Jk,goS,↓reduceIte,reduceCtorEq,seval,Y]; try rfl))
  (hn3:h.H n3=some [.fm (EM Try.prog 58 (cvN A)),.fm (EM Try.prog 58 (cvN B))]:=by(simp -implicitDefEqProofs only[goR,↓Jk,goS,↓reduceIte,reduceCtorEq,seval,Y]; try rfl))
  (hn6:h.H n6=some [c1,c2]:=by(simp -implicitDefEqProofs only[goR,↓Jk,goS,↓reduceIte,reduceCtorEq,seval,Y]; try rfl))
  (hb:JcF [c1,c2]=true:=by rfl)
  (hrp:rowP [c1,c2]=true:=by rfl)
  (hne:n3≠n6:=by decide)
  (hP:t.P=Try.prog:=by rfl)
  (hl0:t.lk.contains 999999=false:=by rfl)
  (hlk:t.lk.contains 1000048=true:=by rfl)
  (hops1:o1.toList.map shO=[(.makeMap 58 none,some 12,none),(.makeMap 58 none,some 13,none),(.build 72 #[(0,.tmp 12),(1,.tmp 13)],some 14,none),(.alloc 72,some 7,none),(.store 72 (.tmp 7) (.tmp 14),none,none)]:=by rfl)
  (hops2:o2.toList.map shO=[(.fieldAddr 72 (.tmp 3) 0,some 15,none),(.load 58 (.tmp 15),some 16,none),(.range 58 (.tmp 16),some 17,none)]:=by rfl)
  (hops3:o3.toList.map shO=[(.next (.tmp 17) false,some 18,none),(.extract (.tmp 18) 0,some 19,none)]:=by rfl)
  (hops4:o4.toList.map shO=[(.entry (.tmp 17),some 20,none),(.extract (.tmp 20) 0,some 21,none),(.extract (.tmp 20) 1,some 22,none),(.assign (.tmp 21),some 8,none),(.assign (.tmp 22),some 9,none)]:=by rfl)
  (hops5:o5.toList.map shO=[(.fieldAddr 72 (.tmp 7) 0,some 23,none),(.load 58 (.tmp 23),some 24,none),(.move (.tmp 8),some 25,none),(.move (.tmp 9),some 26,none),(.mapUpdate 58 (.tmp 24) (.tmp 25) (.tmp 26),none,none)]:=by rfl)
  (hops6:o6.toList.map shO=[(.fieldAddr 72 (.tmp 3) 1,some 27,none),(.load 58 (.tmp 27),some 28,none),(.range 58 (.tmp 28),some 29,none)]:=by rfl)
  (hops7:o7.toList.map shO=[(.next (.tmp 29) false,some 30,none),(.extract (.tmp 30) 0,some 31,none)]:=by rfl)
  (hops8:o8.toList.map shO=[(.entry (.tmp 29),some 32,none),(.extract (.tmp 32) 0,some 33,none),(.extract (.tmp 32) 1,some 34,none),(.assign (.tmp 33),some 10,none),(.assign (.tmp 34),some 11,none)]:=by rfl)
  (hops9:o9.toList.map shO=[(.fieldAddr 72 (.tmp 7) 1,some 35,none),(.load 58 (.tmp 35),some 36,none),(.move (.tmp 10),some 37,none),(.move (.tmp 11),some 38,none),(.mapUpdate 58 (.tmp 36) (.tmp 37) (.tmp 38),none,none)]:=by rfl)
  (hops10:o10.toList.map shO=[(.fieldAddr 72 (.tmp 7) 0,some 39,none),(.load 58 (.tmp 39),some 40,none),(.move (.tmp 1),some 41,none),(.fieldAddr 72 (.tmp 7) 1,some 42,none),(.load 58 (.tmp 42),some 43,none),(.move (.tmp 1),some 44,none),(.move (.tmp 2),some 45,none),(.move (.tmp 2),some 46,none)]++[(.mapUpdate 58 (.tmp 40) (.tmp 41) (.tmp 45),none,none),(.mapUpdate 58 (.tmp 43) (.tmp 44) (.tmp 46),none,none)]:=by rfl)
  (hops11:o11.toList.map shO=[(.load 72 (.tmp 7),some 47,none),(.store 72 (.tmp 6) (.tmp 47),none,none)]:=by rfl)
  (hch:Jk9 o10 8=true:=by kernel_rfl) :
  aC t (.seq (.region 1 o1 false) (.seq (.seq (.region 2 o2 false) (.block 0 (.loop (.seq (.region 3 o3 false) (.seq (.cond (.tmp 19) .skip (.exit 0)) (.block 1 (.seq (.region 4 o4 false) (.region 5 o5 false)))))))) (.seq (.seq (.region 6 o6 false) (.block 2 (.loop (.seq (.region 7 o7 false) (.seq (.cond (.tmp 31) .skip (.exit 2)) (.block 3 (.seq (.region 8 o8 false) (.region 9 o9 false)))))))) (.seq (.region 10 o10 true) (.seq (.region 11 o11 false) .ret))))) σ h Q :=
 .inr (hNw A B s v hg x h3 h6 h1 h2 hn3 hn6 hb hrp hne hP hl0 hlk hops1 hops2 hops3 hops4 hops5 hops6 hops7 hops8 hops9 hops10 hops11 hch)
end Go.Proofs.Ytaofbminodhcnaa
