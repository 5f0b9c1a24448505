/- Functions of data for functions of the program. Written by dec3.py. -/
import Derived.Test.YtghmojcecefgjaaDoorZoah
import Derived.Test.YtghmojcecefgjaaDoorZoal
import Derived.Test.YtghmojcecefgjaaDoorZoaq
set_option linter.unusedVariables false
set_option linter.unusedSimpArgs false
namespace Go.Proofs.YtghmojcecefgjaaDoor
open Go.RowKit
noncomputable def prelaw4_eval (a0 : List UInt8) : Option (Int × Fault) :=
  (preref1_Tokens 0 a0).bind fun r1 => if (!eqI r1.2.Err 0) = true then some (0, r1.2) else (cond_Eval r1.1).bind fun r2 => some (r2.1, (⟨r2.2.1, r2.2.2.1, r2.2.2.2⟩ : Fault))
noncomputable def pf_prelaw4_eval : PF := PF.of (E1 dS) (fun a => prelaw4_eval a) (T2 dI d_Fault)
set_option maxRecDepth 100000 in
set_option maxHeartbeats 4000000 in
theorem prelaw4_eval_ok : PureOk Tryd.prog 17 pf_prelaw4_eval := by
  refine xF mixed [(7, pf_preref1_Tokens)] [(8, true, S_cond_Eval)] ⟨⟨call_7, preref1_Tokens_ok⟩, trivial⟩ ⟨cond_Eval_k, trivial⟩ Tryd.func17 ?_
  rintro a0 out H
  have G := True.intro
  have Y := xZ y_23 <| xZ y_25 <| xZ Tryd.results17 <| xZ d_Call.eq_1 <| xZ d_Token.eq_1 <| xZ d_Fault.eq_1 <| g_cond_Eval.eq_1
  simp only [prelaw4_eval] at H
  refine xS ?_
  refine xr ?_
  obtain ⟨r1, hr1, H⟩ := osplit H
  have F := xC Y (preref1_Tokens_c 0 a0 r1 hr1)
  refine xR ?_
  refine xr ?_
  rcases bsplit H with ⟨hp1, H⟩ | ⟨hp1, H⟩
  · obtain ⟨F, G, hq1⟩ := xH Y G hp1
    refine xT ?_
    replace H := Option.some.inj H
    refine xr ?_
    subst H
    exact xN
  · obtain ⟨F, G, hq1⟩ := xH Y G hp1
    refine xE ?_
    obtain ⟨r2, hr2, H⟩ := osplit H
    have F := Y
    refine xQ ?_
    refine xs 1 ?_
    refine xc ⟨[], []⟩ (tabG 0 (cond_Eval_c r1.1 r2 hr2)) ?_
    refine xs 4 ?_
    refine xl ?_
    replace H := Option.some.inj H
    refine xS ?_
    subst H
    exact xN
theorem prelaw4_eval_c (a0 : List UInt8) (r : Int × Fault) (H : prelaw4_eval a0 = some r) : PC pf_prelaw4_eval [dS a0] (T2 dI d_Fault r) := PF.c (a := a0) H
noncomputable def prelaw4_alive_j1 : Bool → Option Bool
  | x1 => some x1
noncomputable def prelaw4_alive  : Option Bool :=
  (prelaw4_eval [49, 32, 43, 32, 50, 32, 42, 32, 51, 32, 61, 61, 32, 55, 32, 38, 38, 32, 39, 97, 39, 32, 61, 61, 32, 57, 55, 32, 63, 32, 48, 120, 49, 48, 32, 58, 32, 49, 32, 47, 32, 48]).bind fun r1 => (cond_Num [48, 49, 55, 117]).bind fun r2 => (cond_Char [39, 92, 110, 39]).bind fun r3 => if (eqI r1.2.Err 0) = true then if (eqI r1.1 16) = true then if r2.2 = true then if (eqI r2.1 15) = true then if r3.2 = true then prelaw4_alive_j1 (eqI r3.1 10) else prelaw4_alive_j1 false else prelaw4_alive_j1 false else prelaw4_alive_j1 false else prelaw4_alive_j1 false else prelaw4_alive_j1 false
noncomputable def pf_prelaw4_alive : PF := PF.of E0 (fun _ => prelaw4_alive) dB
set_option maxRecDepth 100000 in
set_option maxHeartbeats 4000000 in
theorem prelaw4_alive_ok : PureOk Tryd.prog 14 pf_prelaw4_alive := by
  refine xF mixed [(17, pf_prelaw4_eval), (10, pf_cond_Num), (12, pf_cond_Char)] [] ⟨⟨call_17, prelaw4_eval_ok⟩, ⟨call_10, cond_Num_ok⟩, ⟨call_12, cond_Char_ok⟩, trivial⟩ trivial Tryd.func14 ?_
  rintro _ out H
  have G := True.intro
  have Y := xZ y_23 <| xZ y_25 <| xZ Tryd.results14 <| d_Fault.eq_1
  simp only [prelaw4_alive] at H
  refine xS ?_
  refine xr ?_
  obtain ⟨r1, hr1, H⟩ := osplit H
  have F := xC Y (prelaw4_eval_c [49, 32, 43, 32, 50, 32, 42, 32, 51, 32, 61, 61, 32, 55, 32, 38, 38, 32, 39, 97, 39, 32, 61, 61, 32, 57, 55, 32, 63, 32, 48, 120, 49, 48, 32, 58, 32, 49, 32, 47, 32, 48] r1 hr1)
  refine xR ?_
  obtain ⟨r2, hr2, H⟩ := osplit H
  have F := xC Y (cond_Num_c [48, 49, 55, 117] r2 hr2)
  refine xR ?_
  obtain ⟨r3, hr3, H⟩ := osplit H
  have F := xC Y (cond_Char_c [39, 92, 110, 39] r3 hr3)
  refine xR0 ?_
  refine then_normal ?_
  refine w_cut prelaw4_alive_j1 (fun s => [(0, .c (.d (.v (.bool s))))]) (fun s => []) [] out ?_ ?_
  · rcases bsplit H with ⟨hp1, H⟩ | ⟨hp1, H⟩
    · obtain ⟨F, G, hq1⟩ := xH Y G hp1
      rcases bsplit H with ⟨hp2, H⟩ | ⟨hp2, H⟩
      · obtain ⟨F, G, hq2⟩ := xH F G hp2
        rcases bsplit H with ⟨hp3, H⟩ | ⟨hp3, H⟩
        · obtain ⟨F, G, hq3⟩ := xH F G hp3
          rcases bsplit H with ⟨hp4, H⟩ | ⟨hp4, H⟩
          · obtain ⟨F, G, hq4⟩ := xH F G hp4
            rcases bsplit H with ⟨hp5, H⟩ | ⟨hp5, H⟩
            · obtain ⟨F, G, hq5⟩ := xH F G hp5
              refine xR ?_
              exact cut_at H (xK ⟨[], []⟩)
            · obtain ⟨F, G, hq5⟩ := xH F G hp5
              refine xR ?_
              exact cut_at H (xK ⟨[], []⟩)
          · obtain ⟨F, G, hq4⟩ := xH F G hp4
            refine xR ?_
            exact cut_at H (xK ⟨[], []⟩)
        · obtain ⟨F, G, hq3⟩ := xH F G hp3
          refine xR ?_
          exact cut_at H (xK ⟨[], []⟩)
      · obtain ⟨F, G, hq2⟩ := xH F G hp2
        refine xR ?_
        exact cut_at H (xK ⟨[], []⟩)
    · obtain ⟨F, G, hq1⟩ := xH Y G hp1
      refine xR ?_
      exact cut_at H (xK ⟨[], []⟩)
  · rintro x1 H
    rw [prelaw4_alive_j1] at H
    replace H := Option.some.inj H
    refine xS ?_
    subst H
    exact xN
noncomputable def prelaw4_lit (a0 : Int) : Option (List UInt8) :=
  if (ltI a0 0) = true then (strconv_Itoa (IntKind.i64.wrap ((-1) - a0))).bind fun r1 => if 2 + r1.length ≤ 9223372036854775807 then if 2 + r1.length + 1 ≤ 9223372036854775807 then some (([40, 126] ++ r1) ++ [41]) else none else none else (strconv_Itoa a0).bind fun r2 => if 1 + r2.length ≤ 9223372036854775807 then if 1 + r2.length + 1 ≤ 9223372036854775807 then some (([40] ++ r2) ++ [41]) else none else none
noncomputable def pf_prelaw4_lit : PF := PF.of (E1 dI) (fun a => prelaw4_lit a) dS
set_option maxRecDepth 100000 in
set_option maxHeartbeats 4000000 in
theorem prelaw4_lit_ok : PureOk Tryd.prog 15 pf_prelaw4_lit := by
  refine xF mixed [(28, pf_strconv_Itoa)] [] ⟨⟨call_28, strconv_Itoa_ok⟩, trivial⟩ trivial Tryd.func15 ?_
  rintro a0 out H
  have G := True.intro
  have Y := Tryd.results15
  simp only [prelaw4_lit] at H
  refine xS ?_
  refine xr ?_
  refine xr ?_
  rcases bsplit H with ⟨hp1, H⟩ | ⟨hp1, H⟩
  · obtain ⟨F, G, hq1⟩ := xH Y G hp1
    refine xT ?_
    obtain ⟨r1, hr1, H⟩ := osplit H
    have F := xC Y (strconv_Itoa_c (IntKind.i64.wrap ((-1) - a0)) r1 hr1)
    obtain ⟨hg1, H⟩ := gsplit H
    obtain ⟨hg2, H⟩ := gsplit H
    replace H := Option.some.inj H
    refine xR ?_
    subst H
    exact xN
  · obtain ⟨F, G, hq1⟩ := xH Y G hp1
    refine xE ?_
    obtain ⟨r2, hr2, H⟩ := osplit H
    have F := xC Y (strconv_Itoa_c a0 r2 hr2)
    obtain ⟨hg3, H⟩ := gsplit H
    obtain ⟨hg4, H⟩ := gsplit H
    replace H := Option.some.inj H
    refine xR ?_
    subst H
    exact xN
end Go.Proofs.YtghmojcecefgjaaDoor
