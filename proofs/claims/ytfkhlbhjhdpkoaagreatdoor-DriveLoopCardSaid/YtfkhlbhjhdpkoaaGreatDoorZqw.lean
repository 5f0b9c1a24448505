/- DriveLoop: its tied card: called with whatever arguments it returns true,and they read as they did. Condition: what its row lists of the package-level variables,tied to the program's text. -/
import Derived.Test.YtfkhlbhjhdpkoaaGreatDoorZqba
import Derived.Test.YtfkhlbhjhdpkoaaGreatDoorZqbv
import Derived.SizedLaws
set_option linter.unusedVariables false
set_option linter.unusedSimpArgs false
set_option maxRecDepth 100000
namespace Go.Proofs.YtfkhlbhjhdpkoaaGreatDoor.driveLoop
open Go.ChangeShapes Go.WideShapes Go.ChangeAt Go.RowKit Go.ChangeMaps
theorem lifted(os:Os)(started:os.Started)(H:Type)(enc:TypeId×Value→H):
  ReturnsInHanded {} Tryz.checked os 6 .any (fun w args=>(Rows.driveLoopSpec.pre enc Tryz.prog Tryz.f6 Rows.driveLoopRow.domain false w args∧laidMetH Tryz.prog lst w)∧sizedMet enc Tryz.prog Tryz.f6 (OpenSpec.ofChange Rows.driveLoopSpec) false w args)
   (Rows.driveLoopSpec.post enc Tryz.prog Tryz.f6 false true false false):=by
 refine Jyu (C:=Tryz.checked) (X:=fun w _=>laidMetH Tryz.prog lst w) (fun _ _ _ hh h=>h.of_heap hh) own started (by kernel_rfl) Tryz.func6
  (ChangeSpec.witness_shaped (enc:=enc) (C:=Tryz.checked) (os:=os) (X:=fun w _=>laidMetH Tryz.prog lst w) false (World.laidAll Tryz.prog os lst) #[.string ⟨#[]⟩,.int .i64 0] 8 (World.laidAll_os _ _ _)
   (World.shaped_of_ZipB (by kernel_rfl) (by kernel_rfl)) (by kernel_rfl) (by kernel_rfl) (by kernel_rfl)
   (by rw[MakeChecks.laidMetH_plain _ _ _ (by kernel_rfl)]; exact laidMet_laidAll _ (by kernel_rfl) (by kernel_rfl))) ?_
 intro W base args ds gs before hval0 hW hz hL hsh
 have hval:∀ (j:Nat) t v,Tryz.f6.params[j]? = some t→args[j]? = some v→Value.okWide Tryz.prog W .any base t v:=hval0
 have hW':=hW
 obtain⟨p,q,hA0,hV,rfl,_,_⟩:=hW
 have hA:DataW.TrodAll enc Tryz.prog W 0 (fun _=>true) true Tryz.f6.params.toList args.toList ds p:=hA0
 rw[Tryz.params6]at hA hval
 obtain⟨v0,vs0,d0,ds0,p0,q0,hargs,rfl,rfl,h0,r0⟩:=trodAll_cons hA
 obtain⟨v1,vs1,d1,ds1,p1,q1,rfl,rfl,rfl,h1,r1⟩:=trodAll_cons r0
 obtain⟨rfl,rfl,rfl⟩:=trodAll_nil r1
 obtain rfl:args=#[v0,v1]:=by cases args; simp_all
 obtain⟨rfl,rfl⟩:=trodVars_none hV
 obtain⟨s0,rfl,rfl,rfl,w0⟩:=open_string Tryz.underlying9 (hval 0 9 v0 rfl rfl) h0
 obtain⟨n1,rfl,rfl,rfl,w1⟩:=open_int Tryz.underlying3 (hval 1 3 v1 rfl rfl) h1
 have hn1:-9223372036854775808≤n1∧n1≤9223372036854775807:=by simpa [Lit.wf,IntKind.min,IntKind.max,IntKind.signed,IntKind.bits] using w1
 clear hA0
 simp only[List.append_nil]at hW'
 have hz0:(bl s0).length≤281474976710656:=Nat.le_trans (sized_string hz (j:=0) (by rw[Tryz.params6]; rfl) rfl) (by decide)
 have hf:=Jt2 (bl s0) (n1) hn1 hz0
 have hl:les1 [.v (.string s0),.v (.int .i64 n1)] ((E2 dS dI) (bl s0,n1)):=by
  simp only[E2,dS,JEo,dI]
  exact JiG _
 have hc:=Jj5 W (fun _ _=>False) [.v (.string s0),.v (.int .i64 n1)] [.string s0,.int .i64 n1] (JyT hL hsh) (.acons _ _ _ _ (.v _) (.acons _ _ _ _ (.v _) .anil)) (fun _ _ h=>h.elim) ⟨(bl s0,n1),true,hl,hf⟩
 refine hc.mono fun e W' ⟨v,he,hg,hr⟩=>?_
 rw[show(Jgs).val _=dB true from PF.of_vall IEnc.inj hl hf]at hr
 obtain rfl:v=.bool true:=R1.vInv hr
 subst he
 exact⟨_,rfl,Jt4 (pa:=[]) (pv:=[]) hW' (fun _ _ _=>(trodAll_cons_mk (shut_bool Tryz.underlying4 _) trodAll_mk0)) (fun sp _=>(trodAll_cons_mk (shut_string Tryz.underlying9 w0) (trodAll_cons_mk (shut_int Tryz.underlying3 w1) (trodAll_mk0)))) (fun _ _=>rfl) rfl
  hg (ok_one (by kernel_rfl) rfl (okWide_bool_mk Tryz.underlying4 _))⟩
theorem holds:Rows.DriveLoopSaid :=
 OpenClaim.holds_of_wide 6 Tryz.f6 rfl rfl rfl rfl rfl rfl rfl ⟨rfl,rfl,rfl,rfl,rfl⟩ rfl rfl rfl rfl rfl (by kernel_rfl) Tryz.func6 (by kernel_rfl)
  (of_decide_eq_true (by kernel_rfl)) (by unfold Func.isWrapper; first | (rw[if_pos (by decide +kernel)]; kernel_rfl) | (rw[if_neg (by decide +kernel)]; exact⟨rfl,rfl⟩))
  (fun os started H enc _=>lifted os started H enc)
theorem proved:Rows.DriveLoopCardSaid :=
 Claim7.holds_tied_plain_at .later [] [.data,.data,.data,.data,.sentinel,.sentinel,.pinned] true (true, "ae8d561167538cb2b0683586cf11148cb4b6a2621a1d920bce357e5322bc8d54") true holds (fun _ h=>by cases h) (by kernel_rfl) (fun _ h=>by cases h) driveLoop_row_tie rfl ⟨rfl,rfl⟩ (by kernel_rfl) rfl
  (fun f fn hf hfn=>by
   obtain rfl:f=6:=Option.some.inj ((show Tryz.prog.funcNamed "preamble/prelaw7.DriveLoop" = some 6 by kernel_rfl).symm.trans hf) |>.symm
   obtain rfl:fn=Tryz.f6:=(Option.some.inj (Tryz.func6.symm.trans hfn)).symm
   exact⟨by kernel_rfl,fun j t ht=>by
    rw[Tryz.params6]at ht
    have hm:t∈[9,3]:=by simpa using Array.mem_of_getElem? ht
    have hall:([9,3].all fun u=>!Tryz.prog.wantsStandIn u)=true:=by kernel_rfl
    exact(show Tryz.prog.wantsStandIn t=false by simpa using List.all_eq_true.1 hall t hm)⟩)
  (by kernel_rfl)
end Go.Proofs.YtfkhlbhjhdpkoaaGreatDoor.driveLoop
