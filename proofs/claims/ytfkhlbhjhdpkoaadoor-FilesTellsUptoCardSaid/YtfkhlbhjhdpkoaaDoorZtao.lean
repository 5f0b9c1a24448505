/- From a function of data to a tied card: what the listed variables hold. -/
import Derived.Test.YtfkhlbhjhdpkoaaDoorZtaf
import Derived.Test.YtfkhlbhjhdpkoaaDoorZtah
import Derived.Test.YtfkhlbhjhdpkoaaDoorZtak
import Derived.Test.YtfkhlbhjhdpkoaaDoorCards
import Derived.Test.YtfkhlbhjhdpkoaaDoorTie
import Derived.Shelf.Vars
import Derived.SizedLaws
import Derived.ProofKit
import Derived.OpenShut
import Derived.LaidMore
import Derived.Lay
import Derived.SevenTiedAt
import Derived.Stop.Joined
import Derived.MakeChecks
import Derived.Deep.DeepHandedRow
import Derived.Deep.Slices
set_option linter.unusedVariables false
set_option linter.unusedSimpArgs false
set_option maxRecDepth 100000
namespace Go.Proofs.YtfkhlbhjhdpkoaaDoor
open Go.ChangeShapes Go.WideShapes Go.ChangeAt Go.RowKit
theorem own:ownKnob Tryd.prog.godebug=none:=by kernel_rfl
theorem Grows.below{w w':World}(h:Grows w w'):Below w.heap.size w w':=⟨h.os,h.tape,h.output,h.size,h.block⟩
theorem Jha{H:Type}{enc:TypeId×Value→H}{P:Program}{f:Func}{s:ChangeSpec}{fresh handsOn again:Bool}{W W':World}{args:Array Value}{v:Value}{ds gs:List (DataW H)}{before pa pv:List MemPlace}
  (hW:DataW.Whole enc P f.params.toList s.vars false W args.toList ds gs before)
  (hres:∀ (b:Nat) (sp:Nat→Bool) (hd:Bool),DataW.TrodAll enc P W' b sp hd f.resultTypes.toList (v.resultList f.resultTypes.size) (s.fn H (ds++gs)).results [])
  (hargs:∀ sp:Nat→Bool,(∀ p∈before,sp p.block=true)→DataW.TrodAll enc P W' 0 sp true f.params.toList args.toList (s.fn H (ds++gs)).args pa)
  (hvars:∀ sp:Nat→Bool,(∀ p∈before,sp p.block=true)→DataW.TrodVars enc P W' sp s.vars (s.fn H (ds++gs)).vars pv)
  (hps:before=pa++pv) (hg:Grows W W')
  (hok:∀ (j:Nat) (t:TypeId) (r:Value),f.resultTypes[j]? = some t→(v.resultList f.resultTypes.size)[j]? = some r→Value.okWide P W' .any 0 t r) :
  s.post enc P f false fresh handsOn again W args v W':=by
 have hlt:=hW.lt
 refine⟨ds,gs,before,[],pa,pv,hW,hres _ _ _,hargs _ (fun p hp=>by simpa using hlt p hp),hvars _ (fun p hp=>by simpa using hlt p hp),World.keptBut_mono (fun p hp=>⟨hp,?_⟩) (hg.below.frame (·∈before)),fun _=>?_⟩
 ·rw[hps,List.mem_append]at hp
  exact Or.inr hp
 ·obtain⟨_,_,_,_,_,hz,hn⟩:=hW
  refine⟨hok,_,_,([]++pa)++pv,⟨[]++pa,pv,trodAll_append (hargs _ (fun _ _=>rfl)) (hres _ _ _),hvars _ (fun _ _=>rfl),rfl,?_,?_⟩,?_⟩
  ·intro b off hp
   have hm:MemPlace.cell b off∈before:=by rw[hps]; simpa using hp
   have h1:=hz b off hm
   rw[hg.below.frozen (hlt _ hm)]
   exact h1
  ·intro ha; cases ha
  ·intro p hp _
   rw[hps]
   simpa using hp
def lst:List (String×DataW Unit):=[("unicode/utf8.acceptRanges", Rows.laid_unicode_utf8_acceptRanges),("unicode/utf8.first", Rows.laid_unicode_utf8_first)]
theorem JhI{w:World}(hsh:w.ShapedOpen Tryd.prog):GW w (fun _ _=>False):=by
 intro q hq
 have hq:q∈Jd9:=hq
 unfold Jd9 at hq
 rcases List.mem_cons.1 hq with rfl | hq
 ·obtain⟨cs,hh,hs,_⟩:=hsh.1 2 #[.int .i64 0] 3 (of_decide_eq_true (by kernel_rfl)) (by kernel_rfl)
  obtain⟨m,hm⟩:=Go.Proofs.cell_of_shapedOpen_int (g:=2) (t:=3) (zero:=#[.int .i64 0]) (k:=.i64) hsh (of_decide_eq_true (by kernel_rfl)) (by kernel_rfl) rfl (by kernel_rfl) (by kernel_rfl) Tryd.underlying3
  simp only[World.cell?,hh]at hm
  exact⟨cs,3,hh,⟨m,hm⟩,by rw[hs]; decide,fun _ _ h=>h⟩
 ·cases hq
theorem Jj0(os:Os)(args:Array Value):laidMet Tryd.prog lst ((World.laidAll Tryd.prog os lst).forCall (fun _ _=>0) ⟨#[],args,[]⟩).memory:=laidMet_laidAll args (by kernel_rfl) (by kernel_rfl)
end Go.Proofs.YtfkhlbhjhdpkoaaDoor
namespace Go.Proofs.YtfkhlbhjhdpkoaaDoor
open Go.ChangeShapes Go.WideShapes Go.ChangeAt Go.RowKit
structure Opn (t:TypeId) {α:Type} (e:α→D) (b:α→Nat) (ok:α→Prop):Prop where
 go:∀ (H:Type) (enc:TypeId×Value→H) (W:World) (hd:Bool) (n:Nat) (cs:List Value) (x:DataW H×List MemPlace),
  DataW.trod enc Tryd.prog W 0 (fun _=>true) hd n t cs=some x→∃ a,Rn W (fun _ _=>False) (e a).cells cs∧b a≤Rows.uptoBulk x.1∧ok a
def bkS(l:List UInt8):Nat:=l.length+1
def bk1{α:Type}(_:α):Nat:=1
def bkL{α:Type}(b:α→Nat)(l:List α):Nat:=(l.map b).sum+1
def okI(n:Int):Prop:=-9223372036854775808≤n∧n≤9223372036854775807
def okT{α:Type}(_:α):Prop:=True
def okL{α:Type}(ok:α→Prop)(l:List α):Prop:=∀ a∈l,ok a
theorem Opn.str{t:TypeId}(ht:Tryd.prog.underlying t=some .string):Opn t dS bkS okT:=⟨fun H enc W hd n cs x h=>by
 obtain⟨s,rfl,rfl,_⟩:=DataW.trod_string ht h
 refine⟨bl s,?_,?_,trivial⟩
 ·show Rn _ _ [.v (Proofs.YtfkhlbhjhdpkoaaDoor.str (bl s))] _
  rw[JkK]
  exact .acons _ _ _ _ (.v _) .anil
 ·exact Nat.le_refl _⟩
theorem Opn.int{t:TypeId}(ht:Tryd.prog.underlying t=some (.int .i64)):Opn t dI bk1 okI:=⟨fun H enc W hd n cs x h=>by
 obtain⟨m,rfl,rfl,hw⟩:=DataW.trod_int ht h
 refine⟨m,?_,Nat.le_refl _,?_⟩
 ·exact .acons _ _ _ _ (.v _) .anil
 ·simpa [okI,Lit.wf,IntKind.min,IntKind.max,IntKind.signed,IntKind.bits] using hw⟩
theorem Opn.bool{t:TypeId}(ht:Tryd.prog.underlying t=some .bool):Opn t dB bk1 okT:=⟨fun H enc W hd n cs x h=>by
 obtain⟨m,rfl,rfl⟩:=DataW.trod_bool ht h
 exact⟨m,.acons _ _ _ _ (.v _) .anil,Nat.le_refl _,trivial⟩⟩
theorem Jft{w:World}{a:Addr}{x:Value}(j:Nat)(h:w.cell? (a.add j)=some x):(j=0→a.spot=none)∧w.cell? ⟨a.block,a.off+j,none⟩=some x:=by
 have hspot:(a.add j).spot=none:=by
  cases hsp:(a.add j).spot with
  | none=>rfl
  | some s =>
   simp only[World.cell?]at h
   split at h
   ·simp[hsp]at h
   ·cases h
 unfold Addr.add at hspot h
 by_cases h0:j=0
 ·subst h0
  rw[if_pos rfl]at h hspot
  refine⟨fun _=>hspot,?_⟩
  cases a
  simp_all
 ·rw[if_neg h0]at h
  exact⟨fun h=>absurd h h0,h⟩
theorem Jcy{H:Type}:∀ (l m:List (DataW H)),Rows.uptoBulkAll (l++m)=Rows.uptoBulkAll l+Rows.uptoBulkAll m
 | [],m=>by simp[Rows.uptoBulkAll]
 | d::l,m=>by simp only[List.cons_append,Rows.uptoBulkAll,Jcy l m]; omega
theorem Opn.slice{t el:TypeId}{α:Type}{e:α→D}{b:α→Nat}{ok:α→Prop}{sz:Nat}(ht:Tryd.prog.underlying t=some (.slice el))(hz:Tryd.prog.cellsOf el=sz)(h0:0<sz)
  (he:Opn el e b ok) (hc:∀ a,(e a).cells.length=sz):Opn t (dL sz e) (bkL b) (okL ok):=⟨fun H enc W hd n cs x h=>by
 rcases DataW.trod_slice ht h with⟨rfl,rfl⟩|⟨a,len,cap,elems,rest,m,_,rfl,rfl,_,hlc,_,hlen,hel,hsp,_⟩
 ·exact⟨[],.acons _ _ _ _ (.slnil sz none) .anil,Nat.le_refl _,fun _ h=>by cases h⟩
 ·rw[hz]at hel hsp
  obtain⟨hrl,hr⟩:=hsp rfl
  by_cases hc0:cap=0
  ·have hl0:len=0:=by omega
   subst hl0; subst hc0
   refine⟨[],.acons _ _ _ _ (.slnil sz (some a)) .anil,?_,fun _ h=>by cases h⟩
   simp[bkL,Rows.uptoBulk]
  ·have hspot:a.spot=none:=by
    have:∃ (q:List Value→Option (DataW H×List MemPlace)) (y:DataW H×List MemPlace),(W.cells? 0 (a.add (0 * sz)) sz).bind q=some y:=by
     by_cases hl:0<len
     ·have:=hel 0 hl
      rw[List.getElem?_eq_getElem (by omega)]at this
      exact⟨_,_,this⟩
     ·have:=hr 0 (by omega)
      rw[List.getElem?_eq_getElem (by omega),show len+0=0 by omega]at this
      exact⟨_,_,this⟩
    obtain⟨q,y,hy⟩:=this
    obtain⟨cs',h1,_⟩:=Option.bind_eq_some_iff.1 hy
    obtain⟨_,h2,h3⟩:=World.cells?_some h1
    have h4:=h3 0 h0
    rw[List.getElem?_eq_getElem (by omega),Nat.zero_mul,Deep.add_add]at h4
    exact(Jft _ h4).1 rfl
   have key:∀ k,k≤len→∃ (l:List α) (vs:List Value),l.length=k∧vs.length=k * sz∧Rn W (fun _ _=>False) ((l.map e).flatMap D.cells) vs ∧
     (∀ j y,vs[j]? = some y→W.cell? ⟨a.block,a.off+j,none⟩=some y)∧(l.map b).sum≤Rows.uptoBulkAll ((elems.take k).map (·.1))∧∀ z∈l,ok z:=by
    intro k
    induction k with
    | zero=>exact fun _=>⟨[],[],rfl,by simp,.anil,fun j y hj=>by simp at hj,by simp[Rows.uptoBulkAll],fun _ h=>by cases h⟩
    | succ k ih =>
     intro hk
     obtain⟨l,vs,l1,l2,l3,l4,l5,l6⟩:=ih (by omega)
     have hk':k<elems.length:=by omega
     have h1:=hel k (by omega)
     rw[List.getElem?_eq_getElem hk']at h1
     obtain⟨cs',h1,h2⟩:=Option.bind_eq_some_iff.1 h1
     obtain⟨_,h3,h4⟩:=World.cells?_some h1
     obtain⟨z,r1,r2,r3⟩:=he.go H enc W hd m cs' _ h2
     refine⟨l++[z],vs++cs',by simp[l1],by rw[List.length_append,l2,h3,Nat.add_mul]; omega,?_,fun j y hj=>?_,?_,?_⟩
     ·rw[List.map_append,List.flatMap_append]
      refine l3.append ?_
      simpa using r1
     ·by_cases hjv:j<vs.length
      ·rw[List.getElem?_append_left hjv]at hj
       exact l4 j y hj
      ·rw[List.getElem?_append_right (by omega)]at hj
       have hj':j-vs.length<sz:=by
        rcases Nat.lt_or_ge (j-vs.length) sz with h | h
        ·exact h
        ·rw[List.getElem?_eq_none (by omega)]at hj; cases hj
       have:=h4 _ hj'
       rw[hj,Deep.add_add]at this
       have:=(Jft _ this).2
       rwa [show k * sz+(j-vs.length)=j by omega]at this
     ·rw[List.take_add_one,List.getElem?_eq_getElem hk',List.map_append,List.map_append,Jcy,List.sum_append]
      have:Rows.uptoBulkAll ((some elems[k]).toList.map (·.1))=Rows.uptoBulk elems[k].1:=by simp[Rows.uptoBulkAll]
      rw[this]
      simp only[List.map_cons,List.map_nil,List.sum_cons,List.sum_nil]
      omega
     ·intro w hw
      rcases List.mem_append.1 hw with hw | hw
      ·exact l6 w hw
      ·rw[List.mem_singleton]at hw
       exact hw ▸ r3
   obtain⟨l,vs,l1,l2,l3,l4,l5,l6⟩:=key len (Nat.le_refl _)
   refine⟨l,?_,?_,l6⟩
   ·have:=RD.sl (w:=W) (S:=fun _ _=>False) sz (l.map e) vs a.block a.off cap l3 (fun i y hi=>⟨l4 i y hi,fun h=>h⟩) (fun d hd'=>by
     obtain⟨z,_,rfl⟩:=List.mem_map.1 hd'
     exact hc z) (by rw[List.length_map]; omega)
    rw[List.length_map,l1]at this
    have ha:a=⟨a.block,a.off,none⟩:=by cases a; simp at hspot; subst hspot; rfl
    rw[← ha]at this
    exact .acons _ _ _ _ this .anil
   ·rw[List.take_of_length_le (by omega)]at l5
    simp only[bkL,Rows.uptoBulk]
    omega⟩
theorem Opn.top{t:TypeId}{α:Type}{e:α→D}{b:α→Nat}{ok:α→Prop}(he:Opn t e b ok){H:Type}{enc:TypeId×Value→H}{W:World}{v:Value}{d:DataW H}{p:List MemPlace}
  (hv:v.cells=#[v]) (h1:(fun a=>(e a).cells)=fun a=>[e a]) (h:DataW.Trod enc Tryd.prog W 0 (fun _=>true) true t v d p):∃ a,R1 W (fun _ _=>False) (e a) v∧b a≤Rows.uptoBulk d∧ok a:=by
 obtain⟨n,hn⟩:=h
 rw[hv]at hn
 obtain⟨a,r1,r2,r3⟩:=he.go H enc W true n _ _ hn
 rw[show(e a).cells=[e a] from congrFun h1 a]at r1
 refine⟨a,?_,r2,r3⟩
 cases r1 with | acons _ _ _ _ h1 h2=>exact h1
theorem Jez{W:World}{base:Nat}{t el:TypeId}{v:Value}(ht:Tryd.prog.underlying t=some (.slice el))(hv:Value.okWide Tryd.prog W .any base t v):v.cells=#[v]:=by
 obtain⟨a,len,cap,rfl⟩:=okWide_slice ht hv
 rfl
theorem stays{H:Type}{enc:TypeId×Value→H}{W W':World}{t:TypeId}{v:Value}{d:DataW H}{ps:List MemPlace}{sp:Nat→Bool}(hl:laidOutB Tryd.prog=true)(hr:Tryd.prog.readableRec t=true)(hrow:t<Tryd.prog.types.size)
  (h:DataW.Trod enc Tryd.prog W 0 (fun _=>true) true t v d ps) (hg:Grows W W') (hlt:∀ x∈ps,x.block<W.heap.size) (hs:∀ x∈ps,sp x.block=true) :
  DataW.Trod enc Tryd.prog W' 0 sp true t v d ps :=
 WideElems.Trod_stays hl hr hrow h (fun x hx=>hg.below.same (hlt x hx)) hs
end Go.Proofs.YtfkhlbhjhdpkoaaDoor
namespace Go.Proofs.YtfkhlbhjhdpkoaaDoor
open Go.RowKit
theorem JiW{α:Type}{b:α→Nat}:∀ {l:List α} {a:α},a∈l→b a+1≤bkL b l
 | x::l,a,h=>by
  rcases List.mem_cons.1 h with rfl | h
  ·simp only[bkL,List.map_cons,List.sum_cons]; omega
  ·have:=JiW (b:=b) h
   simp only[bkL,List.map_cons,List.sum_cons]at this ⊢; omega
theorem JiT{α:Type}{b:α→Nat}(hb:∀ a,1≤b a):∀ l:List α,l.length+1≤bkL b l
 | []=>by simp[bkL]
 | x::l=>by
  have h1:=JiT hb l
  have h2:=hb x
  simp only[bkL,List.map_cons,List.sum_cons,List.length_cons]at h1 ⊢; omega
end Go.Proofs.YtfkhlbhjhdpkoaaDoor
namespace Go.Proofs.YtfkhlbhjhdpkoaaDoor
open Go.ChangeShapes Go.WideShapes Go.ChangeAt Go.RowKit
set_option maxRecDepth 100000
theorem cl33:Tryd.prog.cellsOf 33=2:=by kernel_rfl
theorem cl9:Tryd.prog.cellsOf 9=1:=by kernel_rfl
def XG(x:Source):Nat:=bkS x.Path+bkS x.Text+1
def Jka(x:Source):Prop:=okT x.Path∧okT x.Text
theorem JjS:Opn 33 Ja XG Jka:=⟨fun H enc W hd n cs x h=>by
 obtain⟨xs,m,rfl,rfl,hl,hx,hf⟩:=DataW.trod_struct Tryd.underlying33 h
 rw[cl33]at hl
 obtain⟨c0,c1,rfl⟩:∃ c0 c1,cs=[c0,c1]:=by
  match cs,hl with
  | [c0,c1],_=>exact⟨c0,c1,rfl⟩
 obtain⟨x0,x1,rfl⟩:∃ x0 x1,xs=[x0,x1]:=by
  match xs,hx with
  | [x0,x1],_=>exact⟨x0,x1,rfl⟩
 have f0:DataW.trod enc Tryd.prog W 0 (fun _=>true) hd m 9 [c0]=some x0:=by
  have:=hf 0 _ rfl
  change DataW.trod enc Tryd.prog W 0 (fun _=>true) hd m 9 (([c0,c1].drop 0).take (Tryd.prog.cellsOf 9))=some x0 at this
  rw[cl9]at this
  exact this
 obtain⟨a0,r0,b0,k0⟩:=(Opn.str Tryd.underlying9).go H enc W hd m _ _ f0
 have f1:DataW.trod enc Tryd.prog W 0 (fun _=>true) hd m 9 [c1]=some x1:=by
  have:=hf 1 _ rfl
  change DataW.trod enc Tryd.prog W 0 (fun _=>true) hd m 9 (([c0,c1].drop 1).take (Tryd.prog.cellsOf 9))=some x1 at this
  rw[cl9]at this
  exact this
 obtain⟨a1,r1,b1,k1⟩:=(Opn.str Tryd.underlying9).go H enc W hd m _ _ f1
 refine⟨⟨a0,a1⟩,(r0.append r1),?_,⟨k0,k1⟩⟩
 simp only[XG,List.map_cons,List.map_nil,Rows.uptoBulk,Rows.uptoBulkAll]
 omega⟩
theorem cl41:Tryd.prog.cellsOf 41=4:=by kernel_rfl
theorem cl3:Tryd.prog.cellsOf 3=1:=by kernel_rfl
def JcG(x:Edit):Nat:=bk1 x.File+bk1 x.From+bk1 x.To+bkS x.Text+1
def Jmk(x:Edit):Prop:=okI x.File∧okI x.From∧okI x.To∧okT x.Text
theorem JlA:Opn 41 Jb JcG Jmk:=⟨fun H enc W hd n cs x h=>by
 obtain⟨xs,m,rfl,rfl,hl,hx,hf⟩:=DataW.trod_struct Tryd.underlying41 h
 rw[cl41]at hl
 obtain⟨c0,c1,c2,c3,rfl⟩:∃ c0 c1 c2 c3,cs=[c0,c1,c2,c3]:=by
  match cs,hl with
  | [c0,c1,c2,c3],_=>exact⟨c0,c1,c2,c3,rfl⟩
 obtain⟨x0,x1,x2,x3,rfl⟩:∃ x0 x1 x2 x3,xs=[x0,x1,x2,x3]:=by
  match xs,hx with
  | [x0,x1,x2,x3],_=>exact⟨x0,x1,x2,x3,rfl⟩
 have f0:DataW.trod enc Tryd.prog W 0 (fun _=>true) hd m 3 [c0]=some x0:=by
  have:=hf 0 _ rfl
  change DataW.trod enc Tryd.prog W 0 (fun _=>true) hd m 3 (([c0,c1,c2,c3].drop 0).take (Tryd.prog.cellsOf 3))=some x0 at this
  rw[cl3]at this
  exact this
 obtain⟨a0,r0,b0,k0⟩:=(Opn.int Tryd.underlying3).go H enc W hd m _ _ f0
 have f1:DataW.trod enc Tryd.prog W 0 (fun _=>true) hd m 3 [c1]=some x1:=by
  have:=hf 1 _ rfl
  change DataW.trod enc Tryd.prog W 0 (fun _=>true) hd m 3 (([c0,c1,c2,c3].drop 1).take (Tryd.prog.cellsOf 3))=some x1 at this
  rw[cl3]at this
  exact this
 obtain⟨a1,r1,b1,k1⟩:=(Opn.int Tryd.underlying3).go H enc W hd m _ _ f1
 have f2:DataW.trod enc Tryd.prog W 0 (fun _=>true) hd m 3 [c2]=some x2:=by
  have:=hf 2 _ rfl
  change DataW.trod enc Tryd.prog W 0 (fun _=>true) hd m 3 (([c0,c1,c2,c3].drop 2).take (Tryd.prog.cellsOf 3))=some x2 at this
  rw[cl3]at this
  exact this
 obtain⟨a2,r2,b2,k2⟩:=(Opn.int Tryd.underlying3).go H enc W hd m _ _ f2
 have f3:DataW.trod enc Tryd.prog W 0 (fun _=>true) hd m 9 [c3]=some x3:=by
  have:=hf 3 _ rfl
  change DataW.trod enc Tryd.prog W 0 (fun _=>true) hd m 9 (([c0,c1,c2,c3].drop 3).take (Tryd.prog.cellsOf 9))=some x3 at this
  rw[cl9]at this
  exact this
 obtain⟨a3,r3,b3,k3⟩:=(Opn.str Tryd.underlying9).go H enc W hd m _ _ f3
 refine⟨⟨a0,a1,a2,a3⟩,(r0.append (r1.append (r2.append r3))),?_,⟨k0,k1,k2,k3⟩⟩
 simp only[JcG,List.map_cons,List.map_nil,Rows.uptoBulk,Rows.uptoBulkAll]
 omega⟩
end Go.Proofs.YtfkhlbhjhdpkoaaDoor
