/- TopDoubles answers true. Plain. -/
import Derived.Test.YtfkhlbhjhdpkoaaGreatDoorZrbp
import Derived.Test.YtfkhlbhjhdpkoaaGreatDoorZrbs
import Derived.Test.YtfkhlbhjhdpkoaaGreatDoorZrbu
import Derived.Test.YtfkhlbhjhdpkoaaGreatDoorZrby
set_option linter.unusedVariables false
set_option linter.unusedSimpArgs false
set_option maxHeartbeats 4000000
namespace Go.Proofs.YtfkhlbhjhdpkoaaGreatDoor
open Go.RowKit
set_option maxHeartbeats 1000000
def nmD(k:Nat):List UInt8:=[77]++Lib.itoa (k:Int)
def dblS:Nat→List UInt8
 | 0=>[]
 | k+1=>((((((dblS k++[35,100,101,102,105,110,101,32])++nmD k)++[32])++nmD (k+1))++[32])++nmD (k+1))++[10]
def txD(n:Nat):List UInt8:=dblS n++nmD 0
def fsT(n:Nat):List Source:=[⟨[109],txD n⟩]
def JsD{S R:Type}(b:S→Option (S ⊕ R)):Nat→S→Option (S ⊕ R)
 | 0,s=>some (.inl s)
 | k+1,s=>match b s with
  | some (.inl s')=>JsD b k s'
  | x=>x
theorem Jpi{S R:Type}{b:S→Option (S ⊕ R)}:∀ (k:Nat) (s s':S),JsD b k s=some (.inl s')→Jt b s=Jt b s'
 | 0,s,s',h=>by cases h; rfl
 | k+1,s,s',h=>by
  unfold JsD at h
  split at h
  ·rename_i s1 hb
   rw[Zo hb]
   exact Jpi k s1 s' h
  rename_i hx
  exact absurd h (hx s')
noncomputable def ZI(n:Nat):List (List Token):=Jfq (Jcb 0 (txD n)).1
noncomputable def q2D:Q2:=VC (Jn (bigF-2)).1 (Jn (bigF-2)).2.1 (Jn (bigF-2)).2.2
def Jw6(i:Nat)(b:Token):Bool:=decide (b.Kind=1) && decide (b.Text=nmD (i+1)) && decide (b.Hide=[]) && decide (b.Calls=[])
def macD(i:Nat)(m:Macro):Bool:=decide (m.Params=[]) && !m.Call && decide (m.Name=nmD i) && decide (m.Body.length=2) && Jw6 i (m.Body.getD 0 default) && Jw6 i (m.Body.getD 1 default)
noncomputable def chkD(n:Nat):Bool :=
 match JsD (JD q2D (fsT n) 1500 6 (ZI n)) n (0,((ZI n).length:Int),0,4000,[],[],[0],0,[],[],[]) with
 | some (.inl (a,b,c,d,M,o,rd,dd,gs,wait,out))=>decide (a=0) && decide (b=((ZI n).length:Int)) && decide (c=(n:Int)) && decide (d=4000) && o.isEmpty && decide (rd=[0]) && decide (dd=0) && gs.isEmpty && wait.isEmpty && out.isEmpty &&
   decide (M.length=n) && decide (∀ i,i<n→macD i (M.getD i default)=true) && decide (∀ i,i<n→Vz M (nmD i)=some (i:Int)) && decide (Vz M (nmD n)=some (-1))
 | _=>false
def tokD(n:Nat):Bool:=decide ((Jcb 0 (txD n)).2=⟨0,-1,0⟩) && decide ((Jfq (Jcb 0 (txD n)).1).length=n+1) && decide (((Jfq (Jcb 0 (txD n)).1).getD n default).length=1) &&
 (let t:=((Jfq (Jcb 0 (txD n)).1).getD n default).getD 0 default
  decide (t.Kind=1) && decide (t.Text=nmD 0) && decide (t.Hide=[]) && decide (t.Calls=[]))
theorem JCF:∀ i,i<13→∀ j,j<13→nmD i=nmD j→i=j:=by decide +kernel
theorem JtZ:∀ i,i<13→nmD i≠JlF∧nmD i≠JlH∧nmD i≠[35,35]∧nmD i≠[35]:=by decide +kernel
theorem JvU:∀ n,n<13→(txD n).length≤3000:=by decide +kernel
theorem Jzv:(List.range 13).all tokD=true:=by decide +kernel
theorem Jz2:(List.range 13).all chkD=true:=by decide +kernel
theorem Jyt(n:Nat)(hn:n<13):∃ M,Dbl n nmD M∧Jt (JD q2D (fsT n) 1500 6 (ZI n)) (0,((ZI n).length:Int),0,4000,[],[],[0],0,[],[],[])=Jt (JD q2D (fsT n) 1500 6 (ZI n)) (0,((ZI n).length:Int),(n:Int),4000,M,[],[0],0,[],[],[]):=by
 have h:=List.all_eq_true.1 Jz2 n (List.mem_range.2 hn)
 unfold chkD at h
 split at h
 ·rename_i a b c d M o rd dd gs wait out hit
  simp only[Bool.and_eq_true,decide_eq_true_eq,List.isEmpty_iff]at h
  obtain⟨⟨⟨⟨⟨⟨⟨⟨⟨⟨⟨⟨⟨rfl,rfl⟩,rfl⟩,rfl⟩,rfl⟩,rfl⟩,rfl⟩,rfl⟩,rfl⟩,rfl⟩,h1⟩,h2⟩,h3⟩,h4⟩:=h
  refine⟨M,⟨h1,by omega,fun i j hi hj e=>JCF i (by omega) j (by omega) e,fun i hi=>JtZ i (by omega),h3,h4,fun i hi=>?_⟩,Jpi n _ _ hit⟩
  have hb:=h2 i hi
  generalize M.getD i default=m at hb ⊢
  unfold macD Jw6 at hb
  simp only[Bool.and_eq_true,decide_eq_true_eq,Bool.not_eq_true']at hb
  obtain⟨⟨⟨⟨⟨m1,m2⟩,m3⟩,m4⟩,⟨⟨x1,x2⟩,x3⟩,x4⟩,⟨⟨y1,y2⟩,y3⟩,y4⟩:=hb
  have m5:=And.intro x1 (And.intro x2 (And.intro x3 x4))
  have m6:=And.intro y1 (And.intro y2 (And.intro y3 y4))
  clear x1 x2 x3 x4 y1 y2 y3 y4
  obtain⟨nm',cl,ps,vr,bd⟩:=m
  simp only at m1 m2 m3 m4 m5 m6
  match bd,m4,m5,m6 with
  | [x,y],_,m5,m6=>exact⟨x,y,m1,m2,m3,rfl,m5,m6⟩
 cases h
theorem Jz3(n:Nat)(hn:n<13):∃ ts t,Jcb 0 (txD n)=(ts,⟨0,-1,0⟩)∧(ZI n).length=n+1∧(ZI n).getD n default=[t]∧atD nmD 0 t∧ZI n=Jfq ts:=by
 have h:=List.all_eq_true.1 Jzv n (List.mem_range.2 hn)
 unfold tokD at h
 simp only[Bool.and_eq_true,decide_eq_true_eq]at h
 obtain⟨⟨⟨h1,h2⟩,h3⟩,⟨⟨h4,h5⟩,h6⟩,h7⟩:=h
 have hl:ZI n=Jfq (Jcb 0 (txD n)).1:=rfl
 rw[← hl]at h2 h3 h4 h5 h6 h7
 generalize hg:(ZI n).getD n default=L at *
 match L,h3 with
 | [t],_ =>
  refine⟨(Jcb 0 (txD n)).1,t,Prod.ext rfl h1,h2,rfl,⟨h4,h5,?_,?_,?_⟩,hl⟩
  ·have h6:t.Hide=[]:=h6
   rw[h6]; simp
  ·have h6:t.Hide=[]:=h6
   rw[h6]; simp
  have h7:t.Calls=[]:=h7
  rw[h7]; rfl
theorem JpQ(n:Nat)(hn:n<13):Zg (fsT n)=some ⟨0,-1,0⟩:=by
 refine Jzi (fsT n) (by simp[fsT]) (fun j hj=>?_)
 have:j=0:=by simp only[fsT,List.length_cons,List.length_nil]at hj; omega
 subst this
 exact⟨JBS,JvU n hn,fun h=>absurd h (by omega)⟩
theorem Jvr(q2:Q2)(fs:List Source)(most D:Int)(lines:List (List Token))(F:Int)(M:List Macro)(o rd:List Int)(d:Int)(gs:List drive_group)(wait out:List Token){e:Int×Int×Int×Int×List Token}(hf:Kj wait fs F most D M o rd d out=some (.er e)):
  JD q2 fs most D lines (0,(lines.length:Int),(lines.length:Int),F,M,o,rd,d,gs,wait,out)=some (.inr (.er (e.1,e.2.1,e.2.2.1,e.2.2.2.1,M,o,rd,d,e.2.2.2.2))):=by
 simp only[JD,ltI,decide_eq_true_eq]
 rw[if_neg (by omega)]
 simp only[hf,grB,inrO]
 rfl
theorem JCf(n:Nat)(hn:n<13):(700<2 ^ n∧∃ x a b,XN (fsT n) 0 [] ⟨4000,1500,6⟩=some ([],[],[],x,a,b)∧(x=4∨x=11)) ∨
  ∃ R x M,XN (fsT n) 0 [] ⟨4000,1500,6⟩=some (R,x,M,0,-1,0)∧R.length=2 ^ n∧R.length≤1500∧∀ r∈R,endD n nmD r:=by
 obtain⟨M,H,hloop⟩:=Jyt n hn
 obtain⟨ts,t,t1,t2,t3,t4,t5⟩:=Jz3 n hn
 have hF:bigF=(bigF-2)+1+1:=by have:=JBk; omega
 have hfile:∀ r,Jt (JD q2D (fsT n) 1500 6 (ZI n)) (0,((ZI n).length:Int),(n:Int),4000,M,[],[0],0,[],[],[])=some r→(Jn bigF).1 0 (fsT n) 4000 1500 6 [] [] [] 0 []=some r:=by
  intro r hr
  rw[hF,Jzd,Jxx]
  have hf:=JBc (Jn (bigF-2+1)).1 q2D (Jn (bigF-2+1)).2.2 (fsT n) 4000 1500 6 [] [] [] 0 [] 0 (by simp[fsT]) (ts:=ts) (by exact t1) (JvU n hn) (by simp)
  rw[← t5]at hf
  exact hf.trans (hloop.trans hr)
 have s0:=JwT q2D (fsT n) 1500 6 (ZI n) 0 n 4000 M [] [0] 0 [] [] [] (by omega) (by omega) (by rw[t3]; simp) (by rw[t3]; show t.Text≠[35]; rw[t4.2.1]; exact(JtZ 0 (by omega)).2.2.2) (JCq []) (by rw[t3]; simp)
 rw[t3]at s0
 simp only[if_true,List.nil_append]at s0
 rw[← t2]at s0
 rcases JuY H (fsT n) t t4 with⟨h7,r,hr,he⟩|⟨R,f,hr,hl1,hl2,hall⟩
 ·refine .inl ⟨h7,?_⟩
  have hfl:Kj [t] (fsT n) 4000 1500 6 M [] [0] 0 []=some (.er (r.2.2.Err,r.2.2.File,r.2.2.At,4000,[])):=by
   unfold Kj
   rw[if_neg (show ¬ eqI (([t]:List Token).length:Int) 0=true from Bool.false_ne_true)]
   unfold VM
   rw[hr]
   simp only[Option.bind_some,JaF]
   have hne:(!eqI r.2.2.Err 0)=true:=by
    rcases he with he | he <;> rw[he] <;> rfl
   rw[if_pos hne]
   rfl
  have hend:=Jvr q2D (fsT n) 1500 6 (ZI n) 4000 M [] [0] 0 [] [t] [] hfl
  have:=hfile _ ((Zo s0).trans (lend hend))
  exact⟨r.2.2.Err,r.2.2.File,r.2.2.At,Jyv (fsT n) 0 (by simp[fsT]) (JpQ n hn) 6 (by omega) this,he⟩
 refine .inr ⟨R,[0],M,?_,hl1,hl2,hall⟩
 have hfl:Kj [t] (fsT n) 4000 1500 6 M [] [0] 0 []=some (.ok (f,[]++R)):=by
  unfold Kj
  rw[if_neg (show ¬ eqI (([t]:List Token).length:Int) 0=true from Bool.false_ne_true)]
  unfold VM
  rw[hr]
  simp only[Option.bind_some,Jv1,grB,List.length_nil,Nat.zero_add,ltI,decide_eq_true_eq]
  rw[if_pos (by omega),if_neg (by omega)]
 have hend:=Jz5 q2D (fsT n) 1500 6 (ZI n) 4000 M [] [0] 0 [] [t] [] hfl
 have:=hfile _ ((Zo s0).trans (lend hend))
 exact Jyv (fsT n) 0 (by simp[fsT]) (JpQ n hn) 6 (by omega) this
theorem JlD(k:Nat)(hk:k<14):Xr (k:Int)=some (nmD k):=by
 have hl:(Lib.itoa (k:Int)).length≤1000:=(by decide +kernel:∀ k:Nat,k<14→(Lib.itoa (k:Int)).length≤1000) k hk
 unfold Xr ZH
 rw[if_pos (by omega)]
 simp only[Option.bind_some]
 rw[if_pos (by omega)]
 rfl
theorem Jot:∀ k:Nat,k<14→(nmD k).length≤10:=by decide +kernel
theorem Jur:∀ k:Nat,k<13→(dblS k).length≤3000:=by decide +kernel
theorem JAN(n:Nat)(hn:n<13)(r6:(List Token)×(List Int)×(List Macro)×Int×Int×Int)(hl:r6.1.length≤1500)(h:∀ r∈r6.1,endD n nmD r):∀ k j:Nat,j+k=r6.1.length→Jt (K0 (n:Int) r6) ((r6.1.length:Int),(j:Int))=some true
 | 0,j,e=>by
  refine lend ?_
  simp only[K0,ltI,decide_eq_true_eq]
  rw[if_neg (by omega)]; rfl
 | k+1,j,e=>by
  obtain⟨e1,e2⟩:=h _ (Jzt r6.1 j default (by omega))
  have hs:K0 (n:Int) r6 ((r6.1.length:Int),(j:Int))=some (.inl ((r6.1.length:Int),((j+1:Nat):Int))):=by
   simp only[K0,ltI,decide_eq_true_eq,Int.toNat_natCast,JlD n (by omega),Option.bind_some,e1,e2]
   rw[if_pos (by omega),if_pos (by omega)]
   have a1:(!eqS (nmD n) (nmD n))=false:=by simp[eqS]
   have a2:∀ x:Int,(!eqI x x)=false:=fun x=>by simp[eqI]
   rw[a1,a2]
   simp only[Bool.false_eq_true,if_false,Xw,wN1 j (by omega)]
  rw[Zo hs]
  exact JAN n hn r6 hl h k (j+1) (by omega)
theorem JCA(n:Nat)(hn:n<13):KA (n:Int) (dblS n,((2 ^ n:Nat):Int),(n:Int))=some (.inr true):=by
 have hs:=Jur n hn
 have hm:=Jot 0 (by omega)
 simp only[KA,ltI,decide_eq_true_eq]
 rw[if_neg (by omega)]
 have h0:Xr 0=some (nmD 0):=JlD 0 (by omega)
 rw[h0]
 simp only[Option.bind_some,JbX]
 rw[if_pos (by omega)]
 rcases JCf n hn with⟨h7,x,a,b,hr,hx⟩|⟨R,x,M,hr,h1,h2,h3⟩
 ·have hr':XN [(⟨[109],dblS n++nmD 0⟩:Source)] 0 [] ⟨4000,1500,6⟩=some ([],[],[],x,a,b):=hr
  rw[hr']
  simp only[Option.bind_some]
  have a1:(!eqI x 0)=true:=by rcases hx with rfl | rfl <;> rfl
  rw[a1,if_pos rfl,if_pos (by omega)]
  rcases hx with rfl | rfl
  ·rfl
  rfl
 have hr':XN [(⟨[109],dblS n++nmD 0⟩:Source)] 0 [] ⟨4000,1500,6⟩=some (R,x,M,0,-1,0):=hr
 rw[hr']
 simp only[Option.bind_some]
 have a1:(!eqI 0 0)=false:=rfl
 have a2:(!eqI (R.length:Int) ((2 ^ n:Nat):Int))=false:=by rw[h1]; simp[eqI]
 rw[a1,if_neg Bool.false_ne_true,a2,if_neg Bool.false_ne_true]
 have:=JAN n hn (R,x,M,0,-1,0) h2 h3 R.length 0 (by simp)
 rw[show((0:Nat):Int)=0 from rfl]at this
 rw[this]; rfl
theorem JwJ(n:Nat)(hn:n<13):∀ k j:Nat,j+k=n→Jt (KA (n:Int)) (dblS j,((2 ^ j:Nat):Int),(j:Int))=some true
 | 0,j,e=>by
  obtain rfl:j=n:=by omega
  exact lend (JCA j hn)
 | k+1,j,e=>by
  have hs:=Jur j (by omega)
  have hm:=Jot j (by omega)
  have hm1:=Jot (j+1) (by omega)
  have hp:2 ^ j≤4096:=Nat.le_trans (Nat.pow_le_pow_right (n:=2) (by decide) (show j≤12 by omega)) (by decide)
  have hstep:KA (n:Int) (dblS j,((2 ^ j:Nat):Int),(j:Int))=some (.inl (dblS (j+1),((2 ^ (j+1):Nat):Int),((j+1:Nat):Int))):=by
   have w2:IntKind.i64.wrap (2 * ((2 ^ j:Nat):Int))=((2 ^ (j+1):Nat):Int):=by
    rw[Nat.pow_succ]
    generalize 2 ^ j=p at hp ⊢
    rw[wr _ (by omega)]; omega
   simp only[KA,ltI,decide_eq_true_eq,JlD j (by omega),Option.bind_some,wN1 j (by omega),JlD (j+1) (by omega),w2]
   rw[if_pos (by omega),if_pos (by omega),if_pos (by omega),if_pos (by omega),if_pos (by omega),if_pos (by omega),if_pos (by omega),if_pos (by omega)]
   rfl
  rw[Zo hstep]
  exact JwJ n hn k (j+1) (by omega)
theorem Joz(n:Int):Jad n=some true:=by
 unfold Jad
 rw[JCI]
 simp only[Option.bind_some,Bool.not_true,Bool.false_eq_true,if_false,ltI,decide_eq_true_eq]
 by_cases h:n<0
 ·rw[if_pos h]; rfl
 rw[if_neg h]
 by_cases h12:12<n
 ·rw[decide_eq_true h12]; rfl
 rw[decide_eq_false h12]
 simp only[XB,Bool.false_eq_true,if_false]
 obtain⟨m,rfl⟩:∃ m:Nat,n=(m:Int):=⟨n.toNat,by omega⟩
 exact JwJ m (by omega) m 0 (by omega)
theorem Jov(n:Int)(_:-9223372036854775808≤n∧n≤9223372036854775807):Jad n=some true:=Joz n
end Go.Proofs.YtfkhlbhjhdpkoaaGreatDoor
