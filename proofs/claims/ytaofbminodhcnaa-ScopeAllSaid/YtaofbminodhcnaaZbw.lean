/- ScopeAll: the row: called with whatever text it returns true. -/
import Derived.Test.YtaofbminodhcnaaZbay
import Derived.Test.YtaofbminodhcnaaZbbd
import Derived.JoinedOf
import Derived.JoinedAt
set_option linter.unusedVariables false
set_option linter.unusedSimpArgs false
set_option maxRecDepth 100000
namespace Go.Proofs.Ytaofbminodhcnaa.scopeAll
open Go.ChangeShapes Go.WideShapes Go.ChangeAt Go.RowKit Go.ChangeMaps
theorem JnF(H:Type)(enc:TypeId×Value→H)(W:World)(base:Nat)(args:Array Value)(ds gs:List (DataW H))(before:List MemPlace)
  (hval:∀ (j:Nat) t v,Try.f5.params[j]? = some t→args[j]? = some v→Value.okWide Try.prog W .any base t v)
  (hW:DataW.Whole enc Try.prog Try.f5.params.toList Rows.scopeAllSpec.vars false W args.toList ds gs before) :
  Calls Try.prog 5 args W fun e W'=>∃ v,e=.returned v∧Rows.scopeAllSpec.post enc Try.prog Try.f5 false true false false W args v W':=by
 have hW':=hW
 obtain⟨p,q,hA0,hV,rfl,hfz,hnd⟩:=hW
 have hA:DataW.TrodAll enc Try.prog W 0 (fun _=>true) true Try.f5.params.toList args.toList ds p:=hA0
 rw[Try.params5]at hA hval
 obtain⟨v0,vs0,d0,ds0,p0,q0,hargs,rfl,rfl,h0,r0⟩:=trodAll_cons hA
 obtain⟨rfl,rfl,rfl⟩:=trodAll_nil r0
 obtain rfl:args=#[v0]:=by cases args; simp_all
 obtain⟨rfl,rfl⟩:=trodVars_none hV
 obtain⟨s0,rfl,rfl,rfl,w0⟩:=open_string Try.underlying9 (hval 0 9 v0 rfl rfl) h0
 clear hA0
 simp only[List.append_nil]at hW'
 have hf:=JoD (bl s0)
 have hl:les1 [.v (.string s0)] ((E1 dS) (bl s0)):=by
  simp only[E1,dS,Jvq]
  exact JfT _
 have hc:=JgQ W (fun _ _=>False) [.v (.string s0)] [.string s0] (fun _ h=>by cases h) (.acons _ _ _ _ (.v _) .anil) (fun _ _ h=>h.elim) ⟨(bl s0),true,hl,hf⟩
 refine hc.mono fun e W' ⟨v,he,hg,hr⟩=>?_
 rw[show(Jee).val _=dB true from PF.of_vall IEnc.inj hl hf]at hr
 obtain rfl:v=.bool true:=R1.vInv hr
 subst he
 exact⟨_,rfl,JmX (pa:=[]) (pv:=[]) hW' (fun _ _ _=>(trodAll_cons_mk (shut_bool Try.underlying4 _) trodAll_mk0)) (fun sp _=>(trodAll_cons_mk (shut_string Try.underlying9 w0) (trodAll_mk0))) (fun _ _=>rfl) rfl
  hg (ok_one (by kernel_rfl) rfl (okWide_bool_mk Try.underlying4 _))⟩
theorem lifted(os:Os)(started:os.Started)(H:Type)(enc:TypeId×Value→H):
  ReturnsInHanded {} Try.checked os 5 .any (Rows.scopeAllSpec.pre6 enc Try.prog Try.f5 Rows.scopeAllRow.domain false) (Rows.scopeAllSpec.post enc Try.prog Try.f5 false true false false):=by
 refine returnsInHanded_of_change (C:=Try.checked) own started (by kernel_rfl) Try.func5
  (ChangeSpec.witness6 (enc:=enc) (C:=Try.checked) false ⟨#[],#[.string ⟨#[]⟩],[]⟩ 8 (by kernel_rfl) (by kernel_rfl) (by kernel_rfl) (by kernel_rfl)) ?_
 intro W base args ds gs before hval hW _ _
 exact JnF H enc W base args ds gs before hval hW
theorem proved:Rows.ScopeAllSaid :=
 OpenClaim.holds_of_wide 5 Try.f5 rfl rfl rfl rfl rfl rfl rfl ⟨rfl,rfl,rfl,rfl,rfl⟩ rfl rfl rfl rfl rfl (by kernel_rfl) Try.func5 (by kernel_rfl)
  (of_decide_eq_true (by kernel_rfl)) (by unfold Func.isWrapper; first | (rw[if_pos (by decide +kernel)]; kernel_rfl) | (rw[if_neg (by decide +kernel)]; exact⟨rfl,rfl⟩))
  (fun os started H enc _=>lifted os started H enc)
end Go.Proofs.Ytaofbminodhcnaa.scopeAll
