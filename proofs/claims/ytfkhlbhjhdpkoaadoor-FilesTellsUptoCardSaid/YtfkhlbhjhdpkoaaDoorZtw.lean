/- FilesTells: its tied card,second form: called with whatever arguments that hold together at most 1048576 values and letters it returns true,and they read as they did. Condition: what its row lists of the package-level variables,tied to the program's text. -/
import Derived.Test.YtfkhlbhjhdpkoaaDoorZtao
import Derived.Test.YtfkhlbhjhdpkoaaDoorZtba
set_option linter.unusedVariables false
set_option linter.unusedSimpArgs false
set_option maxRecDepth 100000
namespace Go.Proofs.YtfkhlbhjhdpkoaaDoor.filesTells
open Go.ChangeShapes Go.WideShapes Go.ChangeAt Go.RowKit Go.ChangeMaps
theorem laid:laidOutB Tryd.prog=true:=by kernel_rfl
theorem Jii(H:Type)(enc:TypeId×Value→H)(W:World)(base:Nat)(args:Array Value)(ds gs:List (DataW H))(before:List MemPlace)
  (hval0:∀ (j:Nat) t v,Tryd.f3.params[j]? = some t→args[j]? = some v→Value.okWide Tryd.prog W .any base t v)
  (hW:DataW.Whole enc Tryd.prog Tryd.f3.params.toList Rows.filesTellsSpec.vars false W args.toList ds gs before)
  (hk:Rows.uptoSmall H (ds++gs)=true) (hsh:W.ShapedOpen Tryd.prog) :
  Calls Tryd.prog 3 args W fun e W'=>∃ v,e=.returned v∧Rows.filesTellsSpec.post enc Tryd.prog Tryd.f3 false true false false W args v W':=by
 have hval:∀ (j:Nat) t v,Tryd.f3.params[j]? = some t→args[j]? = some v→Value.okWide Tryd.prog W .any base t v:=hval0
 have hW':=hW
 obtain⟨p,q,hA0,hV,rfl,_,_⟩:=hW
 have hA:DataW.TrodAll enc Tryd.prog W 0 (fun _=>true) true Tryd.f3.params.toList args.toList ds p:=hA0
 rw[Tryd.params3]at hA hval
 have hlt:=hW'.lt
 obtain⟨v0,vs0,d0,ds0,p0,q0,hargs,rfl,rfl,h0,r0⟩:=trodAll_cons hA
 obtain⟨v1,vs1,d1,ds1,p1,q1,rfl,rfl,rfl,h1,r1⟩:=trodAll_cons r0
 obtain⟨v2,vs2,d2,ds2,p2,q2,rfl,rfl,rfl,h2,r2⟩:=trodAll_cons r1
 obtain⟨v3,vs3,d3,ds3,p3,q3,rfl,rfl,rfl,h3,r3⟩:=trodAll_cons r2
 obtain⟨v4,vs4,d4,ds4,p4,q4,rfl,rfl,rfl,h4,r4⟩:=trodAll_cons r3
 obtain⟨rfl,rfl,rfl⟩:=trodAll_nil r4
 obtain rfl:args=#[v0,v1,v2,v3,v4]:=by cases args; simp_all
 obtain⟨rfl,rfl⟩:=trodVars_none hV
 obtain⟨l0,RR0,B0,K0⟩:=(Opn.slice (sz:=2) Tryd.underlying23 cl33 (by decide) JjS (fun _=>rfl)).top (Jez Tryd.underlying23 (hval 0 23 v0 rfl rfl)) rfl h0
 obtain⟨l1,RR1,B1,K1⟩:=(Opn.slice (sz:=4) Tryd.underlying24 cl41 (by decide) JlA (fun _=>rfl)).top (Jez Tryd.underlying24 (hval 1 24 v1 rfl rfl)) rfl h1
 obtain⟨n2,rfl,rfl,rfl,w2⟩:=open_int Tryd.underlying3 (hval 2 3 v2 rfl rfl) h2
 have hn2:-9223372036854775808≤n2∧n2≤9223372036854775807:=by simpa [Lit.wf,IntKind.min,IntKind.max,IntKind.signed,IntKind.bits] using w2
 obtain⟨s3,rfl,rfl,rfl,w3⟩:=open_string Tryd.underlying9 (hval 3 9 v3 rfl rfl) h3
 obtain⟨b4,rfl,rfl,rfl⟩:=open_bool Tryd.underlying4 (hval 4 4 v4 rfl rfl) h4
 clear hA0
 simp only[List.append_nil]at hW' hk
 have hb:=of_decide_eq_true hk
 simp only[Rows.uptoBulkAll,Rows.uptoBulk]at hb
 have hB0:=Nat.le_trans B0 (show Rows.uptoBulk d0≤1048576 by omega)
 have hB1:=Nat.le_trans B1 (show Rows.uptoBulk d1≤1048576 by omega)
 have hs3:(bl s3).length≤1048576:=by
  show s3.data.toList.length≤1048576
  omega
 have hf:=JkX (l0) (l1) (n2) (bl s3) (b4) hB0 hB1 hs3
 have hl:les1 [dL 2 Ja l0,dL 4 Jb l1,.v (.int .i64 n2),.v (.string s3),.v (.bool b4)] ((E5 (dL 2 Ja) (dL 4 Jb) dI dS dB) (l0,l1,n2,bl s3,b4)):=by
  simp only[E5,dS,JkK,dI,dB]
  exact Jb8 _
 have hc:=Jcw W (fun _ _=>False) [dL 2 Ja l0,dL 4 Jb l1,.v (.int .i64 n2),.v (.string s3),.v (.bool b4)] [v0,v1,.int .i64 n2,.string s3,.bool b4] (JhI hsh) (.acons _ _ _ _ RR0 (.acons _ _ _ _ RR1 (.acons _ _ _ _ (.v _) (.acons _ _ _ _ (.v _) (.acons _ _ _ _ (.v _) .anil))))) (fun _ _ h=>h.elim) ⟨(l0,l1,n2,bl s3,b4),true,hl,hf⟩
 refine hc.mono fun e W' ⟨v,he,hg,hr⟩=>?_
 rw[show(JaC).val _=dB true from PF.of_vall IEnc.inj hl hf]at hr
 obtain rfl:v=.bool true:=R1.vInv hr
 subst he
 exact⟨_,rfl,Jha (pa:=(p0++(p1++([]++([]++([]++[])))))) (pv:=[]) hW' (fun _ _ _=>(trodAll_cons_mk (shut_bool Tryd.underlying4 _) trodAll_mk0)) (fun sp hsp=>(trodAll_cons_mk (stays laid (by kernel_rfl) (of_decide_eq_true (by kernel_rfl)) h0 hg (fun x hx=>hlt x (by simp[hx])) (fun x hx=>hsp x (by simp[hx]))) (trodAll_cons_mk (stays laid (by kernel_rfl) (of_decide_eq_true (by kernel_rfl)) h1 hg (fun x hx=>hlt x (by simp[hx])) (fun x hx=>hsp x (by simp[hx]))) (trodAll_cons_mk (shut_int Tryd.underlying3 w2) (trodAll_cons_mk (shut_string Tryd.underlying9 w3) (trodAll_cons_mk (shut_bool Tryd.underlying4 b4) (trodAll_mk0))))))) (fun _ _=>rfl) (by simp)
  hg (ok_one (by kernel_rfl) rfl (okWide_bool_mk Tryd.underlying4 _))⟩
theorem Jfi(os:Os){H:Type}(enc:TypeId×Value→H):∃ places,DataW.whole enc Tryd.prog ((World.laidAll Tryd.prog os lst).forCall (fun _ _=>0) ⟨#[],#[.slice none 0 0,.slice none 0 0,.int .i64 0,.string ⟨#[]⟩,.bool false],[]⟩).memory Tryd.f3.params.toList Rows.filesTellsSpec.vars false (#[.slice none 0 0,.slice none 0 0,.int .i64 0,.string ⟨#[]⟩,.bool false]:Array Value).toList 8=some ([.nil,.nil,.lit (.int .i64 0),.lit (.string []),.lit (.bool false)],[],places) :=
 ⟨[],by kernel_rfl⟩
theorem lifted(os:Os)(started:os.Started)(H:Type)(enc:TypeId×Value→H)(F:Stop.Interp):
  ReturnsInHanded {} Tryd.checked os 3 .any ((Rows.OpenSpec.upto Rows.filesTellsSpec).preRow enc Tryd.prog Tryd.f3 Rows.filesTellsUptoRow.domain false Rows.filesTellsUptoRow.laid) (((Rows.OpenSpec.upto Rows.filesTellsSpec).at F).post enc Tryd.prog Tryd.f3 false true false false):=by
 obtain⟨places,hx⟩:=Jfi os enc
 refine returnsInHanded_of_row (C:=Tryd.checked) (s:=Rows.OpenSpec.upto Rows.filesTellsSpec) own started (by kernel_rfl) Tryd.func3
  (witness_row_at (enc:=enc) (C:=Tryd.checked) false (World.laidAll Tryd.prog os lst) #[.slice none 0 0,.slice none 0 0,.int .i64 0,.string ⟨#[]⟩,.bool false] (World.laidAll_os _ _ _) (by kernel_rfl) (by kernel_rfl) (by kernel_rfl)
   (OpenSpec.preRow_of_cond 8 hx (by kernel_rfl) (fun k hk=>by cases hk; kernel_rfl) (by kernel_rfl) (Jj0 os _))) ?_
 intro W base args ds gs before hval hW _ hcond _ hL hsh _
 exact Jii H enc W base args ds gs before hval hW (hcond _ rfl) hsh
theorem holds:Rows.FilesTellsUptoSaid :=
 OpenClaim.holds_of_cond 3 Tryd.f3 rfl rfl rfl rfl rfl rfl rfl ⟨rfl,rfl,rfl,rfl,rfl⟩ rfl rfl rfl rfl rfl (by kernel_rfl) Tryd.func3 (by kernel_rfl)
  (of_decide_eq_true (by kernel_rfl)) (by unfold Func.isWrapper; first | (rw[if_pos (by decide +kernel)]; kernel_rfl) | (rw[if_neg (by decide +kernel)]; exact⟨rfl,rfl⟩))
  (fun os started H enc _ F=>by rw[OpenClaim.pre_eq_preRow]; exact lifted os started H enc F)
theorem proved:Rows.FilesTellsUptoCardSaid :=
 Claim7.holds_tied_plain_at .later [] [.data,.pinned] true (true, "e97ce57402aad4befacec8afdeb7abc050fa91bb7a7434ceb9135bf3e693cb01") false holds (fun _ h=>by cases h) (by kernel_rfl) (fun _ h=>by cases h) filesTellsUpto_row_tie rfl ⟨rfl,rfl⟩ (by kernel_rfl) rfl
  (fun f fn hf hfn=>by
   obtain rfl:f=3:=Option.some.inj ((show Tryd.prog.funcNamed "preamble/prelaw1.FilesTells" = some 3 by kernel_rfl).symm.trans hf) |>.symm
   obtain rfl:fn=Tryd.f3:=(Option.some.inj (Tryd.func3.symm.trans hfn)).symm
   exact⟨by kernel_rfl,fun j t ht=>by
    rw[Tryd.params3]at ht
    have hm:t∈[23,24,3,9,4]:=by simpa using Array.mem_of_getElem? ht
    have hall:([23,24,3,9,4].all fun u=>!Tryd.prog.wantsStandIn u)=true:=by kernel_rfl
    exact(show Tryd.prog.wantsStandIn t=false by simpa using List.all_eq_true.1 hall t hm)⟩)
  (by kernel_rfl)
end Go.Proofs.YtfkhlbhjhdpkoaaDoor.filesTells
