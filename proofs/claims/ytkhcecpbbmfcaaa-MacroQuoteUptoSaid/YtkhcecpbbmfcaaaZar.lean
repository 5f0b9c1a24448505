/- Functions of data for functions of the program. Written by dec3.py. -/
import Derived.Test.YtkhcecpbbmfcaaaZak
import Derived.Test.YtkhcecpbbmfcaaaZam
import Derived.Test.YtkhcecpbbmfcaaaZan
set_option linter.unusedVariables false
set_option linter.unusedSimpArgs false
namespace Go.Proofs.Ytkhcecpbbmfcaaa
open Go.RowKit
noncomputable def macro_both_j2 (x2 : Int) (x3 : Int) : (List (List UInt8)) → Option (((List (List UInt8)) × Int × Int) ⊕ (List (List UInt8)))
  | x4 => some (.inl (x4, x2, IntKind.i64.wrap (x3 + 1)))
noncomputable def macro_both_b1 (a0 : List (List UInt8)) (a1 : List (List UInt8)) : ((List (List UInt8)) × Int × Int) → Option (((List (List UInt8)) × Int × Int) ⊕ (List (List UInt8)))
  | (x1, x2, x3) => if (ltI x3 x2) = true then if (0 : Int) ≤ x3 ∧ x3.toNat < a0.length then (slices_Contains_s_string_string a1 (a0.getD x3.toNat default)).bind fun r1 => if r1 = true then if (x1.length + [(a0.getD x3.toNat default)].length) * 16 ≤ 140737488355328 then macro_both_j2 x2 x3 (x1 ++ [(a0.getD x3.toNat default)]) else none else macro_both_j2 x2 x3 x1 else none else inrO (some x1)
noncomputable def macro_both (a0 : List (List UInt8)) (a1 : List (List UInt8)) : Option (List (List UInt8)) :=
  loopO (macro_both_b1 a0 a1) (([] : List (List UInt8)), (a0.length : Int), 0)
noncomputable def pf_macro_both : PF := PF.of (E2 (dL 1 dS) (dL 1 dS)) (fun a => macro_both a.1 a.2) (dL 1 dS)
set_option maxRecDepth 100000 in
set_option maxHeartbeats 4000000 in
theorem macro_both_ok : PureOk Try.prog 56 pf_macro_both := by
  refine xF mixed [(72, pf_slices_Contains_s_string_string)] [] ⟨⟨call_72, slices_Contains_s_string_string_ok⟩, trivial⟩ trivial Try.func56 ?_
  rintro ⟨a0, a1⟩ out H
  have G := True.intro
  have Y := xZ y_9 <| xZ y_28 <| Try.results56
  simp only [macro_both] at H
  refine xS ?_
  refine xr ?_
  refine xr ?_
  refine xr ?_
  refine w_loop (macro_both_b1 a0 a1) (fun s => [(1, .c (.d (.sl 1 (List.map dS a1)))), (5, .c (.sl 1 (List.map dS s.1) 1)), (8, .c (.d (.sl 1 (List.map dS a0)))), (9, .c (.d (.v (.int .i64 s.2.1)))), (10, .c (.d (.v (.int .i64 s.2.2))))]) (fun s => []) [9] H (xK ⟨[], [0]⟩) ?_
  rintro n1 ⟨x1, x2, x3⟩ o1 H hF1
  rw [macro_both_b1] at H
  refine xS ?_
  refine xr ?_
  rcases bsplit H with ⟨hp1, H⟩ | ⟨hp1, H⟩
  · obtain ⟨F, G, hq1⟩ := xH Y G hp1
    refine xT0 ?_
    refine w_skip ?_
    refine then_normal ?_
    refine w_cut (macro_both_j2 x2 x3) (fun s => [(1, .c (.d (.sl 1 (List.map dS a1)))), (5, .c (.sl 1 (List.map dS s) 1)), (8, .c (.d (.sl 1 (List.map dS a0)))), (9, .c (.d (.v (.int .i64 x2)))), (10, .c (.d (.v (.int .i64 x3))))]) (fun s => []) [9] o1 ?_ ?_
    · refine xS ?_
      obtain ⟨hg1, H⟩ := gsplit H
      have F := xZ Y (map_getD dS a0 x3.toNat default default (by omega))
      refine xR ?_
      obtain ⟨r1, hr1, H⟩ := osplit H
      have F := xC Y (slices_Contains_s_string_string_c a1 (a0.getD x3.toNat default) r1 hr1)
      refine xR ?_
      rcases bsplit H with ⟨hp2, H⟩ | ⟨hp2, H⟩
      · obtain ⟨F, G, hq2⟩ := xH Y G hp2
        refine xT ?_
        obtain ⟨hg2, H⟩ := gsplit H
        have F := xZ Y (all_map one_dS [(a0.getD x3.toNat default)])
        refine xR ?_
        exact cut_at H (xK ⟨[], [2]⟩)
      · obtain ⟨F, G, hq2⟩ := xH Y G hp2
        refine xE ?_
        exact cut_at H (xK ⟨[], [1]⟩)
    · rintro x4 H
      rw [macro_both_j2] at H
      refine xr ?_
      exact round_at (inl_fin H hF1) (xK ⟨[], [1]⟩)
  · obtain ⟨F, G, hq1⟩ := xH Y G hp1
    replace H := inrO_fin H hF1
    refine xE ?_
    replace H := Option.some.inj H
    refine xr ?_
    subst H
    exact xN
theorem macro_both_c (a0 : List (List UInt8)) (a1 : List (List UInt8)) (r : (List (List UInt8))) (H : macro_both a0 a1 = some r) : PC pf_macro_both [(dL 1 dS) a0, (dL 1 dS) a1] ((dL 1 dS) r) := PF.c (a := (a0, a1)) H
noncomputable def macro_Paste_j1 (a0 : Token) (a1 : Token) (r1 : (List Token) × Fault) : (Bool × (List UInt8)) → Option (Token × Bool)
  | (x1, x2) => if x1 = true then some ((⟨0, [], false, false, 0, 0, 0, 0, ([] : List (List UInt8)), ([] : List Call), 0⟩ : Token), false) else if 0 < r1.1.length then if 0 < r1.1.length then (macro_both a0.Hide a1.Hide).bind fun r2 => some ((⟨(r1.1.getD 0 default).Kind, (r1.1.getD 0 default).Text, a0.Space, a0.First, a0.File, a0.At, a0.End, a0.Line, r2, a0.Calls, 1⟩ : Token), true) else none else none
noncomputable def macro_Paste (a0 : Token) (a1 : Token) : Option (Token × Bool) :=
  if a0.Text.length + a1.Text.length ≤ 9223372036854775807 then (lex_Tokens 0 (a0.Text ++ a1.Text)).bind fun r1 => if (!eqI r1.2.Err 0) = true then macro_Paste_j1 a0 a1 r1 (true, []) else if (!eqI (r1.1.length : Int) 1) = true then macro_Paste_j1 a0 a1 r1 (true, []) else if 0 < r1.1.length then if a0.Text.length + a1.Text.length ≤ 9223372036854775807 then macro_Paste_j1 a0 a1 r1 (!eqS ((r1.1.getD 0 default).Text) (a0.Text ++ a1.Text), []) else none else none else none
noncomputable def pf_macro_Paste : PF := PF.of (E2 d_Token d_Token) (fun a => macro_Paste a.1 a.2) (T2 d_Token dB)
set_option maxRecDepth 100000 in
set_option maxHeartbeats 4000000 in
theorem macro_Paste_ok : PureOk Try.prog 28 pf_macro_Paste := by
  refine xFl mixed [4] [(32, pf_lex_Tokens), (56, pf_macro_both)] [] ⟨⟨call_32, lex_Tokens_ok⟩, ⟨call_56, macro_both_ok⟩, trivial⟩ trivial Try.func28 ?_
  rintro ⟨a0, a1⟩ out H
  have G := True.intro
  have Y := xZ y_3 <| xZ y_4 <| xZ y_9 <| xZ y_22 <| xZ y_24 <| xZ y_28 <| xZ y_30 <| xZ y_43 <| xZ y_45 <| xZ Try.results28 <| xZ d_Call.eq_1 <| xZ d_Token.eq_1 <| d_Fault.eq_1
  simp only [macro_Paste] at H
  refine xS ?_
  refine xr ?_
  obtain ⟨hg1, H⟩ := gsplit H
  obtain ⟨r1, hr1, H⟩ := osplit H
  have F := xC Y (lex_Tokens_c 0 (a0.Text ++ a1.Text) r1 hr1)
  refine xR0 ?_
  refine then_normal ?_
  refine w_seq ?_
  refine w_cut (macro_Paste_j1 a0 a1 r1) (fun s => [(2, .c (.pt 1 0)), (3, .c (.pt 2 0)), (4, .c (.pt 3 0)), (6, .c (.d (.sl 11 (List.map d_Token r1.1)))), (36, .c (.d (.v (.bool s.1))))]) (fun s => [[.d (.v (.int .i64 a0.Kind)), .d (.v (str a0.Text)), .d (.v (.bool a0.Space)), .d (.v (.bool a0.First)), .d (.v (.int .i64 a0.File)), .d (.v (.int .i64 a0.At)), .d (.v (.int .i64 a0.End)), .d (.v (.int .i64 a0.Line)), .d (.sl 1 (List.map dS a0.Hide)), .d (.sl 3 (List.map d_Call a0.Calls)), .d (.v (.int .i64 a0.Made))], [.d (.v (.int .i64 a1.Kind)), .d (.v (str a1.Text)), .d (.v (.bool a1.Space)), .d (.v (.bool a1.First)), .d (.v (.int .i64 a1.File)), .d (.v (.int .i64 a1.At)), .d (.v (.int .i64 a1.End)), .d (.v (.int .i64 a1.Line)), .d (.sl 1 (List.map dS a1.Hide)), .d (.sl 3 (List.map d_Call a1.Calls)), .d (.v (.int .i64 a1.Made))], [.d (.v (.int .i64 0)), .d (.v (str s.2)), .d (.v (.bool false)), .d (.v (.bool false)), .d (.v (.int .i64 0)), .d (.v (.int .i64 0)), .d (.v (.int .i64 0)), .d (.v (.int .i64 0)), .sl 1 [] 0, .sl 3 [] 0, .d (.v (.int .i64 0))]]) [] out ?_ ?_
  · rcases bsplit H with ⟨hp2, H⟩ | ⟨hp2, H⟩
    · obtain ⟨F, G, hq2⟩ := xH Y G hp2
      refine xR ?_
      exact cut_at H (xK ⟨[1,2,3], []⟩)
    · obtain ⟨F, G, hq2⟩ := xH Y G hp2
      rcases bsplit H with ⟨hp3, H⟩ | ⟨hp3, H⟩
      · obtain ⟨F, G, hq3⟩ := xH F G hp3
        refine xR ?_
        exact cut_at H (xK ⟨[1,2,3], []⟩)
      · obtain ⟨F, G, hq3⟩ := xH F G hp3
        obtain ⟨hg4, H⟩ := gsplit H
        have F := xZ F (map_getD d_Token r1.1 0 default default (by omega))
        obtain ⟨hg5, H⟩ := gsplit H
        refine xR ?_
        exact cut_at H (xK ⟨[1,2,3], []⟩)
  · rintro ⟨x1, x2⟩ H
    rw [macro_Paste_j1] at H
    rcases bsplit H with ⟨hp1, H⟩ | ⟨hp1, H⟩
    · obtain ⟨F, G, hq1⟩ := xH Y G hp1
      refine xT ?_
      replace H := Option.some.inj H
      refine xr ?_
      subst H
      exact xN
    · obtain ⟨F, G, hq1⟩ := xH Y G hp1
      refine xE ?_
      obtain ⟨hg2, H⟩ := gsplit H
      have F := xZ Y (map_getD d_Token r1.1 0 default default (by omega))
      obtain ⟨hg3, H⟩ := gsplit H
      have F := xZ F (map_getD d_Token r1.1 0 default default (by omega))
      refine xX 14 0 [45] trivial ?_
      refine xsX 7 ?_
      refine xaX ?_
      refine xsX 1 ?_
      refine xbX ?_
      refine xsX 1 ?_
      refine xbX ?_
      refine xsX 1 ?_
      refine xbX ?_
      refine xlX ?_
      refine xS ?_
      obtain ⟨r2, hr2, H⟩ := osplit H
      have F := xC Y (macro_both_c a0.Hide a1.Hide r2 hr2)
      refine xR ?_
      replace H := Option.some.inj H
      refine xr ?_
      subst H
      exact xN
theorem macro_Paste_c (a0 : Token) (a1 : Token) (r : Token × Bool) (H : macro_Paste a0 a1 = some r) : PC pf_macro_Paste [d_Token a0, d_Token a1] (T2 d_Token dB r) := PF.c (a := (a0, a1)) H
noncomputable def preref4_Paste_j3 (x4 : Int) (x5 : Int) : (List (List UInt8)) → Option (((List (List UInt8)) × Int × Int) ⊕ (Token × Bool))
  | x6 => some (.inl (x6, x4, IntKind.i64.wrap (x5 + 1)))
noncomputable def preref4_Paste_b2 (a0 : Token) (a1 : Token) (r1 : (List Token) × Fault) : ((List (List UInt8)) × Int × Int) → Option (((List (List UInt8)) × Int × Int) ⊕ (Token × Bool))
  | (x3, x4, x5) => if (ltI x5 x4) = true then if (0 : Int) ≤ x5 ∧ x5.toNat < a0.Hide.length then (preref4_Has a1.Hide (a0.Hide.getD x5.toNat default)).bind fun r2 => if r2 = true then if (x3.length + [(a0.Hide.getD x5.toNat default)].length) * 16 ≤ 140737488355328 then preref4_Paste_j3 x4 x5 (x3 ++ [(a0.Hide.getD x5.toNat default)]) else none else preref4_Paste_j3 x4 x5 x3 else none else inrO (if 0 < r1.1.length then if a0.Text.length + a1.Text.length ≤ 9223372036854775807 then some ((⟨(r1.1.getD 0 default).Kind, a0.Text ++ a1.Text, a0.Space, a0.First, a0.File, a0.At, a0.End, a0.Line, x3, a0.Calls, 1⟩ : Token), true) else none else none)
noncomputable def preref4_Paste_j1 (a0 : Token) (a1 : Token) (r1 : (List Token) × Fault) : (Bool × (List UInt8)) → Option (Token × Bool)
  | (x1, x2) => if x1 = true then some ((⟨0, [], false, false, 0, 0, 0, 0, ([] : List (List UInt8)), ([] : List Call), 0⟩ : Token), false) else loopO (preref4_Paste_b2 a0 a1 r1) (([] : List (List UInt8)), (a0.Hide.length : Int), 0)
noncomputable def preref4_Paste (a0 : Token) (a1 : Token) : Option (Token × Bool) :=
  if a0.Text.length + a1.Text.length ≤ 9223372036854775807 then (preref1_Tokens 0 (a0.Text ++ a1.Text)).bind fun r1 => if (!eqI r1.2.Err 0) = true then preref4_Paste_j1 a0 a1 r1 (true, []) else if (!eqI (r1.1.length : Int) 1) = true then preref4_Paste_j1 a0 a1 r1 (true, []) else if 0 < r1.1.length then if a0.Text.length + a1.Text.length ≤ 9223372036854775807 then preref4_Paste_j1 a0 a1 r1 (!eqS ((r1.1.getD 0 default).Text) (a0.Text ++ a1.Text), []) else none else none else none
noncomputable def pf_preref4_Paste : PF := PF.of (E2 d_Token d_Token) (fun a => preref4_Paste a.1 a.2) (T2 d_Token dB)
set_option maxRecDepth 100000 in
set_option maxHeartbeats 4000000 in
theorem preref4_Paste_ok : PureOk Try.prog 29 pf_preref4_Paste := by
  refine xFl mixed [11] [(31, pf_preref1_Tokens), (24, pf_preref4_Has)] [] ⟨⟨call_31, preref1_Tokens_ok⟩, ⟨call_24, preref4_Has_ok⟩, trivial⟩ trivial Try.func29 ?_
  rintro ⟨a0, a1⟩ out H
  have G := True.intro
  have Y := xZ y_3 <| xZ y_4 <| xZ y_9 <| xZ y_22 <| xZ y_24 <| xZ y_28 <| xZ y_30 <| xZ y_43 <| xZ y_45 <| xZ Try.results29 <| xZ d_Call.eq_1 <| xZ d_Token.eq_1 <| d_Fault.eq_1
  simp only [preref4_Paste] at H
  refine xS ?_
  refine xr ?_
  obtain ⟨hg1, H⟩ := gsplit H
  obtain ⟨r1, hr1, H⟩ := osplit H
  have F := xC Y (preref1_Tokens_c 0 (a0.Text ++ a1.Text) r1 hr1)
  refine xR0 ?_
  refine then_normal ?_
  refine w_seq ?_
  refine w_cut (preref4_Paste_j1 a0 a1 r1) (fun s => [(2, .c (.pt 1 0)), (3, .c (.pt 2 0)), (4, .c (.pt 3 0)), (6, .c (.d (.sl 11 (List.map d_Token r1.1)))), (39, .c (.d (.v (.bool s.1))))]) (fun s => [[.d (.v (.int .i64 a0.Kind)), .d (.v (str a0.Text)), .d (.v (.bool a0.Space)), .d (.v (.bool a0.First)), .d (.v (.int .i64 a0.File)), .d (.v (.int .i64 a0.At)), .d (.v (.int .i64 a0.End)), .d (.v (.int .i64 a0.Line)), .d (.sl 1 (List.map dS a0.Hide)), .d (.sl 3 (List.map d_Call a0.Calls)), .d (.v (.int .i64 a0.Made))], [.d (.v (.int .i64 a1.Kind)), .d (.v (str a1.Text)), .d (.v (.bool a1.Space)), .d (.v (.bool a1.First)), .d (.v (.int .i64 a1.File)), .d (.v (.int .i64 a1.At)), .d (.v (.int .i64 a1.End)), .d (.v (.int .i64 a1.Line)), .d (.sl 1 (List.map dS a1.Hide)), .d (.sl 3 (List.map d_Call a1.Calls)), .d (.v (.int .i64 a1.Made))], [.d (.v (.int .i64 0)), .d (.v (str s.2)), .d (.v (.bool false)), .d (.v (.bool false)), .d (.v (.int .i64 0)), .d (.v (.int .i64 0)), .d (.v (.int .i64 0)), .d (.v (.int .i64 0)), .sl 1 [] 0, .sl 3 [] 0, .d (.v (.int .i64 0))]]) [] out ?_ ?_
  · rcases bsplit H with ⟨hp4, H⟩ | ⟨hp4, H⟩
    · obtain ⟨F, G, hq4⟩ := xH Y G hp4
      refine xR ?_
      exact cut_at H (xK ⟨[1,2,3], []⟩)
    · obtain ⟨F, G, hq4⟩ := xH Y G hp4
      rcases bsplit H with ⟨hp5, H⟩ | ⟨hp5, H⟩
      · obtain ⟨F, G, hq5⟩ := xH F G hp5
        refine xR ?_
        exact cut_at H (xK ⟨[1,2,3], []⟩)
      · obtain ⟨F, G, hq5⟩ := xH F G hp5
        obtain ⟨hg6, H⟩ := gsplit H
        have F := xZ F (map_getD d_Token r1.1 0 default default (by omega))
        obtain ⟨hg7, H⟩ := gsplit H
        refine xR ?_
        exact cut_at H (xK ⟨[1,2,3], []⟩)
  · rintro ⟨x1, x2⟩ H
    rw [preref4_Paste_j1] at H
    rcases bsplit H with ⟨hp1, H⟩ | ⟨hp1, H⟩
    · obtain ⟨F, G, hq1⟩ := xH Y G hp1
      refine xT ?_
      replace H := Option.some.inj H
      refine xr ?_
      subst H
      exact xN
    · obtain ⟨F, G, hq1⟩ := xH Y G hp1
      refine xE ?_
      refine xr ?_
      refine xr ?_
      refine w_loop (preref4_Paste_b2 a0 a1 r1) (fun s => [(2, .c (.pt 1 0)), (3, .c (.pt 2 0)), (4, .c (.pt 3 0)), (6, .c (.d (.sl 11 (List.map d_Token r1.1)))), (8, .c (.sl 1 (List.map dS s.1) 4)), (42, .c (.d (.sl 1 (List.map dS a0.Hide)))), (43, .c (.d (.v (.int .i64 s.2.1)))), (44, .c (.d (.v (.int .i64 s.2.2))))]) (fun s => [[.d (.v (.int .i64 a0.Kind)), .d (.v (str a0.Text)), .d (.v (.bool a0.Space)), .d (.v (.bool a0.First)), .d (.v (.int .i64 a0.File)), .d (.v (.int .i64 a0.At)), .d (.v (.int .i64 a0.End)), .d (.v (.int .i64 a0.Line)), .d (.sl 1 (List.map dS a0.Hide)), .d (.sl 3 (List.map d_Call a0.Calls)), .d (.v (.int .i64 a0.Made))], [.d (.v (.int .i64 a1.Kind)), .d (.v (str a1.Text)), .d (.v (.bool a1.Space)), .d (.v (.bool a1.First)), .d (.v (.int .i64 a1.File)), .d (.v (.int .i64 a1.At)), .d (.v (.int .i64 a1.End)), .d (.v (.int .i64 a1.Line)), .d (.sl 1 (List.map dS a1.Hide)), .d (.sl 3 (List.map d_Call a1.Calls)), .d (.v (.int .i64 a1.Made))], [.d (.v (.int .i64 0)), .d (.v (str x2)), .d (.v (.bool false)), .d (.v (.bool false)), .d (.v (.int .i64 0)), .d (.v (.int .i64 0)), .d (.v (.int .i64 0)), .d (.v (.int .i64 0)), .sl 1 [] 0, .sl 3 [] 0, .d (.v (.int .i64 0))]]) [9] H (xK ⟨[1,2,3], [0]⟩) ?_
      rintro n1 ⟨x3, x4, x5⟩ o1 H hF1
      rw [preref4_Paste_b2] at H
      refine xS ?_
      refine xr ?_
      rcases bsplit H with ⟨hp2, H⟩ | ⟨hp2, H⟩
      · obtain ⟨F, G, hq2⟩ := xH Y G hp2
        refine xT0 ?_
        refine w_skip ?_
        refine then_normal ?_
        refine w_cut (preref4_Paste_j3 x4 x5) (fun s => [(2, .c (.pt 1 0)), (3, .c (.pt 2 0)), (4, .c (.pt 3 0)), (6, .c (.d (.sl 11 (List.map d_Token r1.1)))), (8, .c (.sl 1 (List.map dS s) 4)), (42, .c (.d (.sl 1 (List.map dS a0.Hide)))), (43, .c (.d (.v (.int .i64 x4)))), (44, .c (.d (.v (.int .i64 x5))))]) (fun s => [[.d (.v (.int .i64 a0.Kind)), .d (.v (str a0.Text)), .d (.v (.bool a0.Space)), .d (.v (.bool a0.First)), .d (.v (.int .i64 a0.File)), .d (.v (.int .i64 a0.At)), .d (.v (.int .i64 a0.End)), .d (.v (.int .i64 a0.Line)), .d (.sl 1 (List.map dS a0.Hide)), .d (.sl 3 (List.map d_Call a0.Calls)), .d (.v (.int .i64 a0.Made))], [.d (.v (.int .i64 a1.Kind)), .d (.v (str a1.Text)), .d (.v (.bool a1.Space)), .d (.v (.bool a1.First)), .d (.v (.int .i64 a1.File)), .d (.v (.int .i64 a1.At)), .d (.v (.int .i64 a1.End)), .d (.v (.int .i64 a1.Line)), .d (.sl 1 (List.map dS a1.Hide)), .d (.sl 3 (List.map d_Call a1.Calls)), .d (.v (.int .i64 a1.Made))], [.d (.v (.int .i64 0)), .d (.v (str x2)), .d (.v (.bool false)), .d (.v (.bool false)), .d (.v (.int .i64 0)), .d (.v (.int .i64 0)), .d (.v (.int .i64 0)), .d (.v (.int .i64 0)), .sl 1 [] 0, .sl 3 [] 0, .d (.v (.int .i64 0))]]) [9] o1 ?_ ?_
        · refine xS ?_
          obtain ⟨hg2, H⟩ := gsplit H
          have F := xZ Y (map_getD dS a0.Hide x5.toNat default default (by omega))
          refine xR ?_
          obtain ⟨r2, hr2, H⟩ := osplit H
          have F := xC Y (preref4_Has_c a1.Hide (a0.Hide.getD x5.toNat default) r2 hr2)
          refine xR ?_
          rcases bsplit H with ⟨hp3, H⟩ | ⟨hp3, H⟩
          · obtain ⟨F, G, hq3⟩ := xH Y G hp3
            refine xT ?_
            obtain ⟨hg3, H⟩ := gsplit H
            have F := xZ Y (all_map one_dS [(a0.Hide.getD x5.toNat default)])
            refine xR ?_
            exact cut_at H (xK ⟨[1,2,3], [5]⟩)
          · obtain ⟨F, G, hq3⟩ := xH Y G hp3
            refine xE ?_
            exact cut_at H (xK ⟨[1,2,3], [4]⟩)
        · rintro x6 H
          rw [preref4_Paste_j3] at H
          refine xr ?_
          exact round_at (inl_fin H hF1) (xK ⟨[1,2,3], [4]⟩)
      · obtain ⟨F, G, hq2⟩ := xH Y G hp2
        replace H := inrO_fin H hF1
        refine xE ?_
        obtain ⟨hg4, H⟩ := gsplit H
        have F := xZ Y (map_getD d_Token r1.1 0 default default (by omega))
        obtain ⟨hg5, H⟩ := gsplit H
        refine xX 18 0 [64] trivial ?_
        refine xsX 7 ?_
        refine xaX ?_
        refine xsX 3 ?_
        refine xbX ?_
        refine xsX 1 ?_
        refine xbX ?_
        refine xsX 1 ?_
        refine xbX ?_
        refine xsX 1 ?_
        refine xbX ?_
        refine xlX ?_
        refine xS ?_
        replace H := Option.some.inj H
        refine xr ?_
        subst H
        exact xN
theorem preref4_Paste_c (a0 : Token) (a1 : Token) (r : Token × Bool) (H : preref4_Paste a0 a1 = some r) : PC pf_preref4_Paste [d_Token a0, d_Token a1] (T2 d_Token dB r) := PF.c (a := (a0, a1)) H
end Go.Proofs.Ytkhcecpbbmfcaaa
