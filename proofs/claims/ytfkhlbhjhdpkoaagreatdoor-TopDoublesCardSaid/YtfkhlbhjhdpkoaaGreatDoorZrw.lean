/- TopDoubles: its tied card: called with whatever arguments it returns true,and they read as they did. Condition: what its row lists of the package-level variables,tied to the program's text. -/
import Derived.Test.YtfkhlbhjhdpkoaaGreatDoorZrba
import Derived.Test.YtfkhlbhjhdpkoaaGreatDoorZrbz
set_option linter.unusedVariables false
set_option linter.unusedSimpArgs false
set_option maxRecDepth 100000
namespace Go.Proofs.YtfkhlbhjhdpkoaaGreatDoor.topDoubles
open Go.ChangeShapes Go.WideShapes Go.ChangeAt Go.RowKit Go.ChangeMaps
theorem lifted(os:Os)(started:os.Started)(H:Type)(enc:TypeId×Value→H):
  ReturnsInHanded {} Tryz.checked os 3 .any (fun w args=>(Rows.topDoublesSpec.pre enc Tryz.prog Tryz.f3 Rows.topDoublesRow.domain false w args∧laidMetH Tryz.prog lst w)∧sizedMet enc Tryz.prog Tryz.f3 (OpenSpec.ofChange Rows.topDoublesSpec) false w args)
   (Rows.topDoublesSpec.post enc Tryz.prog Tryz.f3 false true false false):=by
 refine Jxv (C:=Tryz.checked) (X:=fun w _=>laidMetH Tryz.prog lst w) (fun _ _ _ hh h=>h.of_heap hh) own started (by kernel_rfl) Tryz.func3
  (ChangeSpec.witness_shaped (enc:=enc) (C:=Tryz.checked) (os:=os) (X:=fun w _=>laidMetH Tryz.prog lst w) false (World.laidAll Tryz.prog os lst) #[.int .i64 0] 8 (World.laidAll_os _ _ _)
   (World.shaped_of_ZipB (by kernel_rfl) (by kernel_rfl)) (by kernel_rfl) (by kernel_rfl) (by kernel_rfl)
   (by rw[MakeChecks.laidMetH_plain _ _ _ (by kernel_rfl)]; exact laidMet_laidAll _ (by kernel_rfl) (by kernel_rfl))) ?_
 intro W base args ds gs before hval0 hW hz hL hsh
 have hval:∀ (j:Nat) t v,Tryz.f3.params[j]? = some t→args[j]? = some v→Value.okWide Tryz.prog W .any base t v:=hval0
 have hW':=hW
 obtain⟨p,q,hA0,hV,rfl,_,_⟩:=hW
 have hA:DataW.TrodAll enc Tryz.prog W 0 (fun _=>true) true Tryz.f3.params.toList args.toList ds p:=hA0
 rw[Tryz.params3]at hA hval
 obtain⟨v0,vs0,d0,ds0,p0,q0,hargs,rfl,rfl,h0,r0⟩:=trodAll_cons hA
 obtain⟨rfl,rfl,rfl⟩:=trodAll_nil r0
 obtain rfl:args=#[v0]:=by cases args; simp_all
 obtain⟨rfl,rfl⟩:=trodVars_none hV
 obtain⟨n0,rfl,rfl,rfl,w0⟩:=open_int Tryz.underlying3 (hval 0 3 v0 rfl rfl) h0
 have hn0:-9223372036854775808≤n0∧n0≤9223372036854775807:=by simpa [Lit.wf,IntKind.min,IntKind.max,IntKind.signed,IntKind.bits] using w0
 clear hA0
 simp only[List.append_nil]at hW'
 have hf:=Jov (n0) hn0
 have hl:les1 [.v (.int .i64 n0)] ((E1 dI) (n0)):=by
  simp only[E1,dI]
  exact JhJ _
 have hc:=JiE W (fun _ _=>False) [.v (.int .i64 n0)] [.int .i64 n0] (Jxf hL hsh) (.acons _ _ _ _ (.v _) .anil) (fun _ _ h=>h.elim) ⟨n0,true,hl,hf⟩
 refine hc.mono fun e W' ⟨v,he,hg,hr⟩=>?_
 rw[show(JfA).val _=dB true from PF.of_vall IEnc.inj hl hf]at hr
 obtain rfl:v=.bool true:=R1.vInv hr
 subst he
 exact⟨_,rfl,Jsx (pa:=[]) (pv:=[]) hW' (fun _ _ _=>(trodAll_cons_mk (shut_bool Tryz.underlying4 _) trodAll_mk0)) (fun sp _=>(trodAll_cons_mk (shut_int Tryz.underlying3 w0) (trodAll_mk0))) (fun _ _=>rfl) rfl
  hg (ok_one (by kernel_rfl) rfl (okWide_bool_mk Tryz.underlying4 _))⟩
theorem holds:Rows.TopDoublesSaid :=
 OpenClaim.holds_of_wide 3 Tryz.f3 rfl rfl rfl rfl rfl rfl rfl ⟨rfl,rfl,rfl,rfl,rfl⟩ rfl rfl rfl rfl rfl (by kernel_rfl) Tryz.func3 (by kernel_rfl)
  (of_decide_eq_true (by kernel_rfl)) (by unfold Func.isWrapper; first | (rw[if_pos (by decide +kernel)]; kernel_rfl) | (rw[if_neg (by decide +kernel)]; exact⟨rfl,rfl⟩))
  (fun os started H enc _=>lifted os started H enc)
theorem proved:Rows.TopDoublesCardSaid :=
 Claim7.holds_tied_plain_at .later [] [.data,.data,.data,.data,.sentinel,.sentinel,.pinned] true (true, "ae8d561167538cb2b0683586cf11148cb4b6a2621a1d920bce357e5322bc8d54") true holds (fun _ h=>by cases h) (by kernel_rfl) (fun _ h=>by cases h) topDoubles_row_tie rfl ⟨rfl,rfl⟩ (by kernel_rfl) rfl
  (fun f fn hf hfn=>by
   obtain rfl:f=3:=Option.some.inj ((show Tryz.prog.funcNamed "preamble/pretop.TopDoubles" = some 3 by kernel_rfl).symm.trans hf) |>.symm
   obtain rfl:fn=Tryz.f3:=(Option.some.inj (Tryz.func3.symm.trans hfn)).symm
   exact⟨by kernel_rfl,fun j t ht=>by
    rw[Tryz.params3]at ht
    have hm:t∈[3]:=by simpa using Array.mem_of_getElem? ht
    have hall:([3].all fun u=>!Tryz.prog.wantsStandIn u)=true:=by kernel_rfl
    exact(show Tryz.prog.wantsStandIn t=false by simpa using List.all_eq_true.1 hall t hm)⟩)
  (by kernel_rfl)
end Go.Proofs.YtfkhlbhjhdpkoaaGreatDoor.topDoubles
