/- FilesOrder: its tied card,second form: called with whatever arguments that hold together at most 1048576 values and letters it returns true,and they read as they did. Condition: what its row lists of the package-level variables,tied to the program's text. -/
import Derived.Test.YtfkhlbhjhdpkoaaDoorZoao
import Derived.Test.YtfkhlbhjhdpkoaaDoorZoaw
set_option linter.unusedVariables false
set_option linter.unusedSimpArgs false
set_option maxRecDepth 100000
namespace Go.Proofs.YtfkhlbhjhdpkoaaDoor.filesOrder
open Go.ChangeShapes Go.WideShapes Go.ChangeAt Go.RowKit Go.ChangeMaps
theorem laid:laidOutB Tryd.prog=true:=by kernel_rfl
theorem Jfl(H:Type)(enc:TypeId×Value→H)(W:World)(base:Nat)(args:Array Value)(ds gs:List (DataW H))(before:List MemPlace)
  (hval0:∀ (j:Nat) t v,Tryd.f4.params[j]? = some t→args[j]? = some v→Value.okWide Tryd.prog W .any base t v)
  (hW:DataW.Whole enc Tryd.prog Tryd.f4.params.toList Rows.filesOrderSpec.vars false W args.toList ds gs before)
  (hk:Rows.uptoSmall H (ds++gs)=true) (hsh:W.ShapedOpen Tryd.prog) :
  Calls Tryd.prog 4 args W fun e W'=>∃ v,e=.returned v∧Rows.filesOrderSpec.post enc Tryd.prog Tryd.f4 false true false false W args v W':=by
 have hval:∀ (j:Nat) t v,Tryd.f4.params[j]? = some t→args[j]? = some v→Value.okWide Tryd.prog W .any base t v:=hval0
 have hW':=hW
 obtain⟨p,q,hA0,hV,rfl,_,_⟩:=hW
 have hA:DataW.TrodAll enc Tryd.prog W 0 (fun _=>true) true Tryd.f4.params.toList args.toList ds p:=hA0
 rw[Tryd.params4]at hA hval
 have hlt:=hW'.lt
 obtain⟨v0,vs0,d0,ds0,p0,q0,hargs,rfl,rfl,h0,r0⟩:=trodAll_cons hA
 obtain⟨v1,vs1,d1,ds1,p1,q1,rfl,rfl,rfl,h1,r1⟩:=trodAll_cons r0
 obtain⟨rfl,rfl,rfl⟩:=trodAll_nil r1
 obtain rfl:args=#[v0,v1]:=by cases args; simp_all
 obtain⟨rfl,rfl⟩:=trodVars_none hV
 obtain⟨l0,RR0,B0,K0⟩:=(Opn.slice (sz:=2) Tryd.underlying23 cl33 (by decide) JhB (fun _=>rfl)).top (JcB Tryd.underlying23 (hval 0 23 v0 rfl rfl)) rfl h0
 obtain⟨l1,RR1,B1,K1⟩:=(Opn.slice (sz:=4) Tryd.underlying24 cl41 (by decide) Jjh (fun _=>rfl)).top (JcB Tryd.underlying24 (hval 1 24 v1 rfl rfl)) rfl h1
 clear hA0
 simp only[List.append_nil]at hW' hk
 have hb:=of_decide_eq_true hk
 simp only[Rows.uptoBulkAll,Rows.uptoBulk]at hb
 have hB0:=Nat.le_trans B0 (show Rows.uptoBulk d0≤1048576 by omega)
 have hB1:=Nat.le_trans B1 (show Rows.uptoBulk d1≤1048576 by omega)
 have hf:=JhU (l0) (l1) hB0 hB1
 have hl:les1 [dL 2 Jb l0,dL 4 Ja l1] ((E2 (dL 2 Jb) (dL 4 Ja)) (l0,l1)):=by
  simp only[E2]
  exact JaH _
 have hc:=Ja2 W (fun _ _=>False) [dL 2 Jb l0,dL 4 Ja l1] [v0,v1] (Jgg hsh) (.acons _ _ _ _ RR0 (.acons _ _ _ _ RR1 .anil)) (fun _ _ h=>h.elim) ⟨(l0,l1),true,hl,hf⟩
 refine hc.mono fun e W' ⟨v,he,hg,hr⟩=>?_
 rw[show(Zr).val _=dB true from PF.of_vall IEnc.inj hl hf]at hr
 obtain rfl:v=.bool true:=R1.vInv hr
 subst he
 exact⟨_,rfl,Je1 (pa:=(p0++(p1++[]))) (pv:=[]) hW' (fun _ _ _=>(trodAll_cons_mk (shut_bool Tryd.underlying4 _) trodAll_mk0)) (fun sp hsp=>(trodAll_cons_mk (stays laid (by kernel_rfl) (of_decide_eq_true (by kernel_rfl)) h0 hg (fun x hx=>hlt x (by simp[hx])) (fun x hx=>hsp x (by simp[hx]))) (trodAll_cons_mk (stays laid (by kernel_rfl) (of_decide_eq_true (by kernel_rfl)) h1 hg (fun x hx=>hlt x (by simp[hx])) (fun x hx=>hsp x (by simp[hx]))) (trodAll_mk0)))) (fun _ _=>rfl) (by simp)
  hg (ok_one (by kernel_rfl) rfl (okWide_bool_mk Tryd.underlying4 _))⟩
theorem JkT(os:Os){H:Type}(enc:TypeId×Value→H):∃ places,DataW.whole enc Tryd.prog ((World.laidAll Tryd.prog os lst).forCall (fun _ _=>0) ⟨#[],#[.slice none 0 0,.slice none 0 0],[]⟩).memory Tryd.f4.params.toList Rows.filesOrderSpec.vars false (#[.slice none 0 0,.slice none 0 0]:Array Value).toList 8=some ([.nil,.nil],[],places) :=
 ⟨[],by kernel_rfl⟩
theorem lifted(os:Os)(started:os.Started)(H:Type)(enc:TypeId×Value→H)(F:Stop.Interp):
  ReturnsInHanded {} Tryd.checked os 4 .any ((Rows.OpenSpec.upto Rows.filesOrderSpec).preRow enc Tryd.prog Tryd.f4 Rows.filesOrderUptoRow.domain false Rows.filesOrderUptoRow.laid) (((Rows.OpenSpec.upto Rows.filesOrderSpec).at F).post enc Tryd.prog Tryd.f4 false true false false):=by
 obtain⟨places,hx⟩:=JkT os enc
 refine returnsInHanded_of_row (C:=Tryd.checked) (s:=Rows.OpenSpec.upto Rows.filesOrderSpec) own started (by kernel_rfl) Tryd.func4
  (witness_row_at (enc:=enc) (C:=Tryd.checked) false (World.laidAll Tryd.prog os lst) #[.slice none 0 0,.slice none 0 0] (World.laidAll_os _ _ _) (by kernel_rfl) (by kernel_rfl) (by kernel_rfl)
   (OpenSpec.preRow_of_cond 8 hx (by kernel_rfl) (fun k hk=>by cases hk; kernel_rfl) (by kernel_rfl) (JhC os _))) ?_
 intro W base args ds gs before hval hW _ hcond _ hL hsh _
 exact Jfl H enc W base args ds gs before hval hW (hcond _ rfl) hsh
theorem holds:Rows.FilesOrderUptoSaid :=
 OpenClaim.holds_of_cond 4 Tryd.f4 rfl rfl rfl rfl rfl rfl rfl ⟨rfl,rfl,rfl,rfl,rfl⟩ rfl rfl rfl rfl rfl (by kernel_rfl) Tryd.func4 (by kernel_rfl)
  (of_decide_eq_true (by kernel_rfl)) (by unfold Func.isWrapper; first | (rw[if_pos (by decide +kernel)]; kernel_rfl) | (rw[if_neg (by decide +kernel)]; exact⟨rfl,rfl⟩))
  (fun os started H enc _ F=>by rw[OpenClaim.pre_eq_preRow]; exact lifted os started H enc F)
theorem proved:Rows.FilesOrderUptoCardSaid :=
 Claim7.holds_tied_plain_at .later [] [.data,.pinned] true (true, "e97ce57402aad4befacec8afdeb7abc050fa91bb7a7434ceb9135bf3e693cb01") false holds (fun _ h=>by cases h) (by kernel_rfl) (fun _ h=>by cases h) filesOrderUpto_row_tie rfl ⟨rfl,rfl⟩ (by kernel_rfl) rfl
  (fun f fn hf hfn=>by
   obtain rfl:f=4:=Option.some.inj ((show Tryd.prog.funcNamed "preamble/prelaw1.FilesOrder" = some 4 by kernel_rfl).symm.trans hf) |>.symm
   obtain rfl:fn=Tryd.f4:=(Option.some.inj (Tryd.func4.symm.trans hfn)).symm
   exact⟨by kernel_rfl,fun j t ht=>by
    rw[Tryd.params4]at ht
    have hm:t∈[23,24]:=by simpa using Array.mem_of_getElem? ht
    have hall:([23,24].all fun u=>!Tryd.prog.wantsStandIn u)=true:=by kernel_rfl
    exact(show Tryd.prog.wantsStandIn t=false by simpa using List.all_eq_true.1 hall t hm)⟩)
  (by kernel_rfl)
end Go.Proofs.YtfkhlbhjhdpkoaaDoor.filesOrder
