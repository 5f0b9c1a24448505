/- Functions of data for functions of the program: origin_Span, preref7_Span, origin_Right, preref7_Right, origin_Outer, origin_At, origin_Here, origin_end, preref7_Begins. Written by dec.py. -/
import Derived.Test.YtgkacglpjmndbaaQb
import Derived.Test.YtgkacglpjmndbaaQf
namespace Go.Proofs.Ytgkacglpjmndbaa
open Go.RowKit
set_option linter.unusedVariables false
set_option linter.unusedSimpArgs false

noncomputable def origin_Span_j1 (a0 : List Source) (a1 : Token) : Bool → Option ((List UInt8) × Bool)
  | x1 => if x1 = true then some ([], false) else if (0 : Int) ≤ a1.File ∧ a1.File.toNat < a0.length then if (0 : Int) ≤ a1.At ∧ a1.At ≤ a1.End ∧ a1.End ≤ (((a0.getD a1.File.toNat default).Text).length : Int) then (splice_Text (List.take (a1.End.toNat - a1.At.toNat) (List.drop a1.At.toNat ((a0.getD a1.File.toNat default).Text)))).bind fun r1 => some (r1.Text, true) else none else none
noncomputable def origin_Span (a0 : List Source) (a1 : Token) : Option ((List UInt8) × Bool) :=
  if (!eqI a1.Made 0) = true then origin_Span_j1 a0 a1 true else if (ltI a1.File 0) = true then origin_Span_j1 a0 a1 true else if (leI (a0.length : Int) a1.File) = true then origin_Span_j1 a0 a1 true else if (ltI a1.At 0) = true then origin_Span_j1 a0 a1 true else if (ltI a1.End a1.At) = true then origin_Span_j1 a0 a1 true else if (0 : Int) ≤ a1.File ∧ a1.File.toNat < a0.length then origin_Span_j1 a0 a1 (ltI (((a0.getD a1.File.toNat default).Text).length : Int) a1.End) else none
noncomputable def pf_origin_Span : PF := PF.of (E2 (dL 2 d_Source) d_Token) (fun a => origin_Span a.1 a.2) (T2 dS dB)
set_option maxRecDepth 100000 in
set_option maxHeartbeats 4000000 in
theorem origin_Span_ok : PureOk Try.prog 22 pf_origin_Span := by
  refine xF mixed [(15, pf_splice_Text)] [] ⟨⟨call_15, splice_Text_ok⟩, trivial⟩ trivial Try.func22 ?_
  rintro ⟨a0, a1⟩ out H
  have G := True.intro
  have Y := xZ y_3 <| xZ y_9 <| xZ y_24 <| xZ y_32 <| xZ y_37 <| xZ y_79 <| xZ Try.results22 <| xZ d_Spliced.eq_1 <| xZ d_Call.eq_1 <| xZ d_Token.eq_1 <| d_Source.eq_1
  simp only [origin_Span] at H
  refine xS ?_
  refine xr0 ?_
  refine then_normal ?_
  refine w_seq ?_
  refine w_cut (origin_Span_j1 a0 a1) (fun s => [(0, .c (.d (.sl 2 (List.map d_Source a0)))), (3, .c (.pt 1 0)), (44, .c (.d (.v (.bool s))))]) (fun s => [[.d (.v (.int .i64 a1.Kind)), .d (.v (str a1.Text)), .d (.v (.bool a1.Space)), .d (.v (.bool a1.First)), .d (.v (.int .i64 a1.File)), .d (.v (.int .i64 a1.At)), .d (.v (.int .i64 a1.End)), .d (.v (.int .i64 a1.Line)), .d (.sl 1 (List.map dS a1.Hide)), .d (.sl 3 (List.map d_Call a1.Calls)), .d (.v (.int .i64 a1.Made))]]) [] out ?_ ?_
  · rcases bsplit H with ⟨hp2, H⟩ | ⟨hp2, H⟩
    · obtain ⟨F, G, hq2⟩ := xH Y G hp2
      refine xR ?_
      exact cut_at H (xK ⟨[1], []⟩)
    · obtain ⟨F, G, hq2⟩ := xH Y G hp2
      rcases bsplit H with ⟨hp3, H⟩ | ⟨hp3, H⟩
      · obtain ⟨F, G, hq3⟩ := xH F G hp3
        refine xR ?_
        exact cut_at H (xK ⟨[1], []⟩)
      · obtain ⟨F, G, hq3⟩ := xH F G hp3
        rcases bsplit H with ⟨hp4, H⟩ | ⟨hp4, H⟩
        · obtain ⟨F, G, hq4⟩ := xH F G hp4
          refine xR ?_
          exact cut_at H (xK ⟨[1], []⟩)
        · obtain ⟨F, G, hq4⟩ := xH F G hp4
          rcases bsplit H with ⟨hp5, H⟩ | ⟨hp5, H⟩
          · obtain ⟨F, G, hq5⟩ := xH F G hp5
            refine xR ?_
            exact cut_at H (xK ⟨[1], []⟩)
          · obtain ⟨F, G, hq5⟩ := xH F G hp5
            rcases bsplit H with ⟨hp6, H⟩ | ⟨hp6, H⟩
            · obtain ⟨F, G, hq6⟩ := xH F G hp6
              refine xR ?_
              exact cut_at H (xK ⟨[1], []⟩)
            · obtain ⟨F, G, hq6⟩ := xH F G hp6
              obtain ⟨hg3, H⟩ := gsplit H
              have F := xZ F (map_getD d_Source a0 a1.File.toNat default default (by omega))
              refine xR ?_
              exact cut_at H (xK ⟨[1], []⟩)
  · rintro x1 H
    rw [origin_Span_j1] at H
    rcases bsplit H with ⟨hp1, H⟩ | ⟨hp1, H⟩
    · obtain ⟨F, G, hq1⟩ := xH Y G hp1
      refine xT ?_
      refine xr ?_
      cases H
      exact xN
    · obtain ⟨F, G, hq1⟩ := xH Y G hp1
      refine xE ?_
      obtain ⟨hg1, H⟩ := gsplit H
      have F := xZ Y (map_getD d_Source a0 a1.File.toNat default default (by omega))
      obtain ⟨hg2, H⟩ := gsplit H
      obtain ⟨r1, hr1, H⟩ := osplit H
      have F := xC F (splice_Text_c (List.take (a1.End.toNat - a1.At.toNat) (List.drop a1.At.toNat ((a0.getD a1.File.toNat default).Text))) r1 hr1)
      refine xR ?_
      cases H
      exact xN
theorem origin_Span_c (a0 : List Source) (a1 : Token) (r : (List UInt8) × Bool) (H : origin_Span a0 a1 = some r) : PC pf_origin_Span [(dL 2 d_Source) a0, d_Token a1] (T2 dS dB r) := PF.c (a := (a0, a1)) H
noncomputable def preref7_Span_j1 (a0 : List Source) (a1 : Token) : Bool → Option ((List UInt8) × Bool)
  | x1 => if x1 = true then some ([], false) else if (0 : Int) ≤ a1.File ∧ a1.File.toNat < a0.length then if (0 : Int) ≤ a1.At ∧ a1.At ≤ a1.End ∧ a1.End ≤ (((a0.getD a1.File.toNat default).Text).length : Int) then (preref1_Splice (List.take (a1.End.toNat - a1.At.toNat) (List.drop a1.At.toNat ((a0.getD a1.File.toNat default).Text)))).bind fun r1 => some (r1.Text, true) else none else none
noncomputable def preref7_Span (a0 : List Source) (a1 : Token) : Option ((List UInt8) × Bool) :=
  if (!eqI a1.Made 0) = true then preref7_Span_j1 a0 a1 true else if (ltI a1.File 0) = true then preref7_Span_j1 a0 a1 true else if (leI (a0.length : Int) a1.File) = true then preref7_Span_j1 a0 a1 true else if (ltI a1.At 0) = true then preref7_Span_j1 a0 a1 true else if (ltI a1.End a1.At) = true then preref7_Span_j1 a0 a1 true else if (0 : Int) ≤ a1.File ∧ a1.File.toNat < a0.length then preref7_Span_j1 a0 a1 (ltI (((a0.getD a1.File.toNat default).Text).length : Int) a1.End) else none
noncomputable def pf_preref7_Span : PF := PF.of (E2 (dL 2 d_Source) d_Token) (fun a => preref7_Span a.1 a.2) (T2 dS dB)
set_option maxRecDepth 100000 in
set_option maxHeartbeats 4000000 in
theorem preref7_Span_ok : PureOk Try.prog 23 pf_preref7_Span := by
  refine xF mixed [(16, pf_preref1_Splice)] [] ⟨⟨call_16, preref1_Splice_ok⟩, trivial⟩ trivial Try.func23 ?_
  rintro ⟨a0, a1⟩ out H
  have G := True.intro
  have Y := xZ y_3 <| xZ y_9 <| xZ y_24 <| xZ y_32 <| xZ y_37 <| xZ y_79 <| xZ Try.results23 <| xZ d_Spliced.eq_1 <| xZ d_Call.eq_1 <| xZ d_Token.eq_1 <| d_Source.eq_1
  simp only [preref7_Span] at H
  refine xS ?_
  refine xr0 ?_
  refine then_normal ?_
  refine w_seq ?_
  refine w_cut (preref7_Span_j1 a0 a1) (fun s => [(0, .c (.d (.sl 2 (List.map d_Source a0)))), (3, .c (.pt 1 0)), (44, .c (.d (.v (.bool s))))]) (fun s => [[.d (.v (.int .i64 a1.Kind)), .d (.v (str a1.Text)), .d (.v (.bool a1.Space)), .d (.v (.bool a1.First)), .d (.v (.int .i64 a1.File)), .d (.v (.int .i64 a1.At)), .d (.v (.int .i64 a1.End)), .d (.v (.int .i64 a1.Line)), .d (.sl 1 (List.map dS a1.Hide)), .d (.sl 3 (List.map d_Call a1.Calls)), .d (.v (.int .i64 a1.Made))]]) [] out ?_ ?_
  · rcases bsplit H with ⟨hp2, H⟩ | ⟨hp2, H⟩
    · obtain ⟨F, G, hq2⟩ := xH Y G hp2
      refine xR ?_
      exact cut_at H (xK ⟨[1], []⟩)
    · obtain ⟨F, G, hq2⟩ := xH Y G hp2
      rcases bsplit H with ⟨hp3, H⟩ | ⟨hp3, H⟩
      · obtain ⟨F, G, hq3⟩ := xH F G hp3
        refine xR ?_
        exact cut_at H (xK ⟨[1], []⟩)
      · obtain ⟨F, G, hq3⟩ := xH F G hp3
        rcases bsplit H with ⟨hp4, H⟩ | ⟨hp4, H⟩
        · obtain ⟨F, G, hq4⟩ := xH F G hp4
          refine xR ?_
          exact cut_at H (xK ⟨[1], []⟩)
        · obtain ⟨F, G, hq4⟩ := xH F G hp4
          rcases bsplit H with ⟨hp5, H⟩ | ⟨hp5, H⟩
          · obtain ⟨F, G, hq5⟩ := xH F G hp5
            refine xR ?_
            exact cut_at H (xK ⟨[1], []⟩)
          · obtain ⟨F, G, hq5⟩ := xH F G hp5
            rcases bsplit H with ⟨hp6, H⟩ | ⟨hp6, H⟩
            · obtain ⟨F, G, hq6⟩ := xH F G hp6
              refine xR ?_
              exact cut_at H (xK ⟨[1], []⟩)
            · obtain ⟨F, G, hq6⟩ := xH F G hp6
              obtain ⟨hg3, H⟩ := gsplit H
              have F := xZ F (map_getD d_Source a0 a1.File.toNat default default (by omega))
              refine xR ?_
              exact cut_at H (xK ⟨[1], []⟩)
  · rintro x1 H
    rw [preref7_Span_j1] at H
    rcases bsplit H with ⟨hp1, H⟩ | ⟨hp1, H⟩
    · obtain ⟨F, G, hq1⟩ := xH Y G hp1
      refine xT ?_
      refine xr ?_
      cases H
      exact xN
    · obtain ⟨F, G, hq1⟩ := xH Y G hp1
      refine xE ?_
      obtain ⟨hg1, H⟩ := gsplit H
      have F := xZ Y (map_getD d_Source a0 a1.File.toNat default default (by omega))
      obtain ⟨hg2, H⟩ := gsplit H
      obtain ⟨r1, hr1, H⟩ := osplit H
      have F := xC F (preref1_Splice_c (List.take (a1.End.toNat - a1.At.toNat) (List.drop a1.At.toNat ((a0.getD a1.File.toNat default).Text))) r1 hr1)
      refine xR ?_
      cases H
      exact xN
theorem preref7_Span_c (a0 : List Source) (a1 : Token) (r : (List UInt8) × Bool) (H : preref7_Span a0 a1 = some r) : PC pf_preref7_Span [(dL 2 d_Source) a0, d_Token a1] (T2 dS dB r) := PF.c (a := (a0, a1)) H
noncomputable def origin_end_j2 (a1 : Call) (r1 : Spliced) : Bool → Option Int
  | x2 => if x2 = true then some (-1) else (splice_Where r1 (IntKind.i64.wrap ((a1.Name.length : Int) - 1))).bind fun r2 => some (IntKind.i64.wrap ((IntKind.i64.wrap (a1.At + r2)) + 1))
noncomputable def origin_end_j1 (a0 : List Source) (a1 : Call) : Bool → Option Int
  | x1 => if x1 = true then some (-1) else if (0 : Int) ≤ a1.File ∧ a1.File.toNat < a0.length then if (0 : Int) ≤ a1.At ∧ a1.At ≤ (((a0.getD a1.File.toNat default).Text).length : Int) ∧ (((a0.getD a1.File.toNat default).Text).length : Int) ≤ (((a0.getD a1.File.toNat default).Text).length : Int) then (splice_Text (List.drop a1.At.toNat ((a0.getD a1.File.toNat default).Text))).bind fun r1 => if (eqI (a1.Name.length : Int) 0) = true then origin_end_j2 a1 r1 true else origin_end_j2 a1 r1 (ltI (r1.Text.length : Int) (a1.Name.length : Int)) else none else none
noncomputable def origin_end (a0 : List Source) (a1 : Call) : Option Int :=
  if (ltI a1.File 0) = true then origin_end_j1 a0 a1 true else if (leI (a0.length : Int) a1.File) = true then origin_end_j1 a0 a1 true else if (ltI a1.At 0) = true then origin_end_j1 a0 a1 true else if (0 : Int) ≤ a1.File ∧ a1.File.toNat < a0.length then origin_end_j1 a0 a1 (ltI (((a0.getD a1.File.toNat default).Text).length : Int) a1.At) else none
noncomputable def pf_origin_end : PF := PF.of (E2 (dL 2 d_Source) d_Call) (fun a => origin_end a.1 a.2) dI
set_option maxRecDepth 100000 in
set_option maxHeartbeats 4000000 in
theorem origin_end_ok : PureOk Try.prog 60 pf_origin_end := by
  refine xF mixed [(15, pf_splice_Text), (19, pf_splice_Where)] [] ⟨⟨call_15, splice_Text_ok⟩, ⟨call_19, splice_Where_ok⟩, trivial⟩ trivial Try.func60 ?_
  rintro ⟨a0, a1⟩ out H
  have G := True.intro
  have Y := xZ y_3 <| xZ y_9 <| xZ y_24 <| xZ y_32 <| xZ y_44 <| xZ y_79 <| xZ Try.results60 <| xZ d_Spliced.eq_1 <| xZ d_Call.eq_1 <| d_Source.eq_1
  simp only [origin_end] at H
  refine xS ?_
  refine xr0 ?_
  refine then_normal ?_
  refine w_seq ?_
  refine w_cut (origin_end_j1 a0 a1) (fun s => [(0, .c (.d (.sl 2 (List.map d_Source a0)))), (3, .c (.pt 1 0)), (32, .c (.d (.v (.bool s))))]) (fun s => [[.d (.v (str a1.Name)), .d (.v (.int .i64 a1.File)), .d (.v (.int .i64 a1.At))]]) [] out ?_ ?_
  · rcases bsplit H with ⟨hp4, H⟩ | ⟨hp4, H⟩
    · obtain ⟨F, G, hq4⟩ := xH Y G hp4
      refine xR ?_
      exact cut_at H (xK ⟨[1], []⟩)
    · obtain ⟨F, G, hq4⟩ := xH Y G hp4
      rcases bsplit H with ⟨hp5, H⟩ | ⟨hp5, H⟩
      · obtain ⟨F, G, hq5⟩ := xH F G hp5
        refine xR ?_
        exact cut_at H (xK ⟨[1], []⟩)
      · obtain ⟨F, G, hq5⟩ := xH F G hp5
        rcases bsplit H with ⟨hp6, H⟩ | ⟨hp6, H⟩
        · obtain ⟨F, G, hq6⟩ := xH F G hp6
          refine xR ?_
          exact cut_at H (xK ⟨[1], []⟩)
        · obtain ⟨F, G, hq6⟩ := xH F G hp6
          obtain ⟨hg3, H⟩ := gsplit H
          have F := xZ F (map_getD d_Source a0 a1.File.toNat default default (by omega))
          refine xR ?_
          exact cut_at H (xK ⟨[1], []⟩)
  · rintro x1 H
    rw [origin_end_j1] at H
    rcases bsplit H with ⟨hp1, H⟩ | ⟨hp1, H⟩
    · obtain ⟨F, G, hq1⟩ := xH Y G hp1
      refine xT ?_
      refine xr ?_
      cases H
      exact xN
    · obtain ⟨F, G, hq1⟩ := xH Y G hp1
      refine xE ?_
      obtain ⟨hg1, H⟩ := gsplit H
      have F := xZ Y (map_getD d_Source a0 a1.File.toNat default default (by omega))
      obtain ⟨hg2, H⟩ := gsplit H
      obtain ⟨r1, hr1, H⟩ := osplit H
      have F := xC F (splice_Text_c (List.drop a1.At.toNat ((a0.getD a1.File.toNat default).Text)) r1 hr1)
      refine xR0 ?_
      refine then_normal ?_
      refine w_seq ?_
      refine w_cut (origin_end_j2 a1 r1) (fun s => [(3, .c (.pt 1 0)), (5, .c (.pt 2 0)), (55, .c (.d (.v (.bool s))))]) (fun s => [[.d (.v (str a1.Name)), .d (.v (.int .i64 a1.File)), .d (.v (.int .i64 a1.At))], [.d (.v (str r1.Text)), .d (.sl 1 (List.map dI r1.At))]]) [] out ?_ ?_
      · rcases bsplit H with ⟨hp3, H⟩ | ⟨hp3, H⟩
        · obtain ⟨F, G, hq3⟩ := xH Y G hp3
          refine xR ?_
          exact cut_at H (xK ⟨[1,2], []⟩)
        · obtain ⟨F, G, hq3⟩ := xH Y G hp3
          refine xR ?_
          exact cut_at H (xK ⟨[1,2], []⟩)
      · rintro x2 H
        rw [origin_end_j2] at H
        rcases bsplit H with ⟨hp2, H⟩ | ⟨hp2, H⟩
        · obtain ⟨F, G, hq2⟩ := xH Y G hp2
          refine xT ?_
          refine xr ?_
          cases H
          exact xN
        · obtain ⟨F, G, hq2⟩ := xH Y G hp2
          refine xE ?_
          obtain ⟨r2, hr2, H⟩ := osplit H
          have F := xC Y (splice_Where_c r1 (IntKind.i64.wrap ((a1.Name.length : Int) - 1)) r2 hr2)
          refine xR ?_
          cases H
          exact xN
theorem origin_end_c (a0 : List Source) (a1 : Call) (r : Int) (H : origin_end a0 a1 = some r) : PC pf_origin_end [(dL 2 d_Source) a0, d_Call a1] (dI r) := PF.c (a := (a0, a1)) H
noncomputable def origin_Right_j2 (x1 : Int) (x2 : Int) : Unit → Option ((Int × Int) ⊕ Bool)
  | () => some (.inl (x1, IntKind.i64.wrap (x2 + 1)))
noncomputable def origin_Right_j3 (x1 : Int) (x2 : Int) : Bool → Option ((Int × Int) ⊕ Bool)
  | x3 => if x3 = true then inrO (some false) else origin_Right_j2 x1 x2 ()
noncomputable def origin_Right_j4 : Bool → Option Bool
  | x4 => some x4
noncomputable def origin_Right_b1 (a0 : List Source) (a1 : Token) : (Int × Int) → Option ((Int × Int) ⊕ Bool)
  | (x1, x2) => if (ltI x2 x1) = true then if (0 : Int) ≤ x2 ∧ x2.toNat < a1.Calls.length then if (eqI ((a1.Calls.getD x2.toNat default).File) (-1)) = true then origin_Right_j2 x1 x2 () else (origin_end a0 (a1.Calls.getD x2.toNat default)).bind fun r1 => (origin_Span a0 (⟨0, [], false, false, (a1.Calls.getD x2.toNat default).File, (a1.Calls.getD x2.toNat default).At, r1, 0, ([] : List (List UInt8)), ([] : List Call), 0⟩ : Token)).bind fun r2 => if (!r2.2) = true then origin_Right_j3 x1 x2 true else origin_Right_j3 x1 x2 (!eqS r2.1 ((a1.Calls.getD x2.toNat default).Name)) else none else inrO ((origin_Span a0 a1).bind fun r3 => if (!eqI a1.Made 0) = true then origin_Right_j4 true else if r3.2 = true then origin_Right_j4 (eqS r3.1 a1.Text) else origin_Right_j4 false)
noncomputable def origin_Right (a0 : List Source) (a1 : Token) : Option Bool :=
  loopO (origin_Right_b1 a0 a1) ((a1.Calls.length : Int), 0)
noncomputable def pf_origin_Right : PF := PF.of (E2 (dL 2 d_Source) d_Token) (fun a => origin_Right a.1 a.2) dB
set_option maxRecDepth 100000 in
set_option maxHeartbeats 4000000 in
theorem origin_Right_ok : PureOk Try.prog 24 pf_origin_Right := by
  refine xF mixed [(60, pf_origin_end), (22, pf_origin_Span)] [] ⟨⟨call_60, origin_end_ok⟩, ⟨call_22, origin_Span_ok⟩, trivial⟩ trivial Try.func24 ?_
  rintro ⟨a0, a1⟩ out H
  have G := True.intro
  have Y := xZ y_3 <| xZ y_4 <| xZ y_9 <| xZ y_34 <| xZ y_35 <| xZ y_37 <| xZ y_44 <| xZ Try.results24 <| xZ d_Call.eq_1 <| xZ d_Token.eq_1 <| d_Source.eq_1
  simp only [origin_Right] at H
  refine xS ?_
  refine xr ?_
  refine xr ?_
  refine w_loop (origin_Right_b1 a0 a1) (fun s => [(0, .c (.d (.sl 2 (List.map d_Source a0)))), (3, .c (.pt 1 0)), (12, .c (.d (.sl 3 (List.map d_Call a1.Calls)))), (13, .c (.d (.v (.int .i64 s.1)))), (14, .c (.d (.v (.int .i64 s.2))))]) (fun s => [[.d (.v (.int .i64 a1.Kind)), .d (.v (str a1.Text)), .d (.v (.bool a1.Space)), .d (.v (.bool a1.First)), .d (.v (.int .i64 a1.File)), .d (.v (.int .i64 a1.At)), .d (.v (.int .i64 a1.End)), .d (.v (.int .i64 a1.Line)), .d (.sl 1 (List.map dS a1.Hide)), .d (.sl 3 (List.map d_Call a1.Calls)), .d (.v (.int .i64 a1.Made))]]) [] H (xK ⟨[1], []⟩) ?_
  rintro n1 ⟨x1, x2⟩ o1 H hF1
  rw [origin_Right_b1] at H
  refine xS ?_
  refine xr ?_
  rcases bsplit H with ⟨hp1, H⟩ | ⟨hp1, H⟩
  · obtain ⟨F, G, hq1⟩ := xH Y G hp1
    refine xT0 ?_
    refine w_skip ?_
    refine then_normal ?_
    refine w_cut (origin_Right_j2 x1 x2) (fun s => [(0, .c (.d (.sl 2 (List.map d_Source a0)))), (3, .c (.pt 1 0)), (12, .c (.d (.sl 3 (List.map d_Call a1.Calls)))), (13, .c (.d (.v (.int .i64 x1)))), (14, .c (.d (.v (.int .i64 x2))))]) (fun s => [[.d (.v (.int .i64 a1.Kind)), .d (.v (str a1.Text)), .d (.v (.bool a1.Space)), .d (.v (.bool a1.First)), .d (.v (.int .i64 a1.File)), .d (.v (.int .i64 a1.At)), .d (.v (.int .i64 a1.End)), .d (.v (.int .i64 a1.Line)), .d (.sl 1 (List.map dS a1.Hide)), .d (.sl 3 (List.map d_Call a1.Calls)), .d (.v (.int .i64 a1.Made))]]) [] o1 ?_ ?_
    · refine xS ?_
      obtain ⟨hg1, H⟩ := gsplit H
      have F := xZ Y (map_getD d_Call a1.Calls x2.toNat default default (by omega))
      refine xR ?_
      refine xr ?_
      rcases bsplit H with ⟨hp2, H⟩ | ⟨hp2, H⟩
      · obtain ⟨F, G, hq2⟩ := xH Y G hp2
        refine xT ?_
        exact cut_at H (xK ⟨[1], []⟩)
      · obtain ⟨F, G, hq2⟩ := xH Y G hp2
        refine xE ?_
        obtain ⟨r1, hr1, H⟩ := osplit H
        have F := xC Y (origin_end_c a0 (a1.Calls.getD x2.toNat default) r1 hr1)
        obtain ⟨r2, hr2, H⟩ := osplit H
        have F := xC F (origin_Span_c a0 (⟨0, [], false, false, (a1.Calls.getD x2.toNat default).File, (a1.Calls.getD x2.toNat default).At, r1, 0, ([] : List (List UInt8)), ([] : List Call), 0⟩ : Token) r2 hr2)
        refine xR0 ?_
        refine then_normal ?_
        refine w_cut (origin_Right_j3 x1 x2) (fun s => [(0, .c (.d (.sl 2 (List.map d_Source a0)))), (3, .c (.pt 1 0)), (12, .c (.d (.sl 3 (List.map d_Call a1.Calls)))), (13, .c (.d (.v (.int .i64 x1)))), (14, .c (.d (.v (.int .i64 x2)))), (41, .c (.d (.v (.bool s))))]) (fun s => [[.d (.v (.int .i64 a1.Kind)), .d (.v (str a1.Text)), .d (.v (.bool a1.Space)), .d (.v (.bool a1.First)), .d (.v (.int .i64 a1.File)), .d (.v (.int .i64 a1.At)), .d (.v (.int .i64 a1.End)), .d (.v (.int .i64 a1.Line)), .d (.sl 1 (List.map dS a1.Hide)), .d (.sl 3 (List.map d_Call a1.Calls)), .d (.v (.int .i64 a1.Made))]]) [] o1 ?_ ?_
        · rcases bsplit H with ⟨hp4, H⟩ | ⟨hp4, H⟩
          · obtain ⟨F, G, hq4⟩ := xH Y G hp4
            refine xR ?_
            exact cut_at H (xK ⟨[1], []⟩)
          · obtain ⟨F, G, hq4⟩ := xH Y G hp4
            refine xR ?_
            exact cut_at H (xK ⟨[1], []⟩)
        · rintro x3 H
          rw [origin_Right_j3] at H
          rcases bsplit H with ⟨hp3, H⟩ | ⟨hp3, H⟩
          · obtain ⟨F, G, hq3⟩ := xH Y G hp3
            refine xT ?_
            replace H := inrO_fin H hF1
            refine xr ?_
            cases H
            exact xN
          · obtain ⟨F, G, hq3⟩ := xH Y G hp3
            refine xE ?_
            exact cut_at H (xK ⟨[1], []⟩)
    · rintro ⟨⟩ H
      rw [origin_Right_j2] at H
      refine xr ?_
      exact round_at (inl_fin H hF1) (xK ⟨[1], []⟩)
  · obtain ⟨F, G, hq1⟩ := xH Y G hp1
    replace H := inrO_fin H hF1
    refine xE ?_
    obtain ⟨r3, hr3, H⟩ := osplit H
    have F := xC Y (origin_Span_c a0 a1 r3 hr3)
    refine xR0 ?_
    refine then_normal ?_
    refine w_cut origin_Right_j4 (fun s => [(4, .c (.d (.v (.bool s))))]) (fun s => []) [] out ?_ ?_
    · rcases bsplit H with ⟨hp5, H⟩ | ⟨hp5, H⟩
      · obtain ⟨F, G, hq5⟩ := xH Y G hp5
        refine xR ?_
        exact cut_at H (xK ⟨[], []⟩)
      · obtain ⟨F, G, hq5⟩ := xH Y G hp5
        rcases bsplit H with ⟨hp6, H⟩ | ⟨hp6, H⟩
        · obtain ⟨F, G, hq6⟩ := xH F G hp6
          refine xR ?_
          exact cut_at H (xK ⟨[], []⟩)
        · obtain ⟨F, G, hq6⟩ := xH F G hp6
          refine xR ?_
          exact cut_at H (xK ⟨[], []⟩)
    · rintro x4 H
      rw [origin_Right_j4] at H
      refine xS ?_
      cases H
      exact xN
theorem origin_Right_c (a0 : List Source) (a1 : Token) (r : Bool) (H : origin_Right a0 a1 = some r) : PC pf_origin_Right [(dL 2 d_Source) a0, d_Token a1] (dB r) := PF.c (a := (a0, a1)) H
noncomputable def preref7_Begins_j2 : Bool → Option Bool
  | x2 => some x2
noncomputable def preref7_Begins_j1 (a0 : List Source) (a1 : Call) : Bool → Option Bool
  | x1 => if x1 = true then some false else if (0 : Int) ≤ a1.File ∧ a1.File.toNat < a0.length then if (0 : Int) ≤ a1.At ∧ a1.At ≤ (((a0.getD a1.File.toNat default).Text).length : Int) ∧ (((a0.getD a1.File.toNat default).Text).length : Int) ≤ (((a0.getD a1.File.toNat default).Text).length : Int) then (preref1_Splice (List.drop a1.At.toNat ((a0.getD a1.File.toNat default).Text))).bind fun r1 => if (leI (a1.Name.length : Int) (r1.Text.length : Int)) = true then if (0 : Int) ≤ 0 ∧ 0 ≤ (a1.Name.length : Int) ∧ (a1.Name.length : Int) ≤ (r1.Text.length : Int) then preref7_Begins_j2 (eqS (List.take a1.Name.length r1.Text) a1.Name) else none else preref7_Begins_j2 false else none else none
noncomputable def preref7_Begins (a0 : List Source) (a1 : Call) : Option Bool :=
  if (ltI a1.File 0) = true then preref7_Begins_j1 a0 a1 true else if (leI (a0.length : Int) a1.File) = true then preref7_Begins_j1 a0 a1 true else if (ltI a1.At 0) = true then preref7_Begins_j1 a0 a1 true else if (0 : Int) ≤ a1.File ∧ a1.File.toNat < a0.length then if (ltI (((a0.getD a1.File.toNat default).Text).length : Int) a1.At) = true then preref7_Begins_j1 a0 a1 true else preref7_Begins_j1 a0 a1 (eqS a1.Name []) else none
noncomputable def pf_preref7_Begins : PF := PF.of (E2 (dL 2 d_Source) d_Call) (fun a => preref7_Begins a.1 a.2) dB
set_option maxRecDepth 100000 in
set_option maxHeartbeats 4000000 in
theorem preref7_Begins_ok : PureOk Try.prog 61 pf_preref7_Begins := by
  refine xF mixed [(16, pf_preref1_Splice)] [] ⟨⟨call_16, preref1_Splice_ok⟩, trivial⟩ trivial Try.func61 ?_
  rintro ⟨a0, a1⟩ out H
  have G := True.intro
  have Y := xZ y_3 <| xZ y_9 <| xZ y_24 <| xZ y_32 <| xZ y_44 <| xZ y_79 <| xZ Try.results61 <| xZ d_Spliced.eq_1 <| xZ d_Call.eq_1 <| d_Source.eq_1
  simp only [preref7_Begins] at H
  refine xS ?_
  refine xr0 ?_
  refine then_normal ?_
  refine w_seq ?_
  refine w_cut (preref7_Begins_j1 a0 a1) (fun s => [(0, .c (.d (.sl 2 (List.map d_Source a0)))), (3, .c (.pt 1 0)), (37, .c (.d (.v (.bool s))))]) (fun s => [[.d (.v (str a1.Name)), .d (.v (.int .i64 a1.File)), .d (.v (.int .i64 a1.At))]]) [] out ?_ ?_
  · rcases bsplit H with ⟨hp3, H⟩ | ⟨hp3, H⟩
    · obtain ⟨F, G, hq3⟩ := xH Y G hp3
      refine xR ?_
      exact cut_at H (xK ⟨[1], []⟩)
    · obtain ⟨F, G, hq3⟩ := xH Y G hp3
      rcases bsplit H with ⟨hp4, H⟩ | ⟨hp4, H⟩
      · obtain ⟨F, G, hq4⟩ := xH F G hp4
        refine xR ?_
        exact cut_at H (xK ⟨[1], []⟩)
      · obtain ⟨F, G, hq4⟩ := xH F G hp4
        rcases bsplit H with ⟨hp5, H⟩ | ⟨hp5, H⟩
        · obtain ⟨F, G, hq5⟩ := xH F G hp5
          refine xR ?_
          exact cut_at H (xK ⟨[1], []⟩)
        · obtain ⟨F, G, hq5⟩ := xH F G hp5
          obtain ⟨hg4, H⟩ := gsplit H
          have F := xZ F (map_getD d_Source a0 a1.File.toNat default default (by omega))
          rcases bsplit H with ⟨hp6, H⟩ | ⟨hp6, H⟩
          · obtain ⟨F, G, hq6⟩ := xH F G hp6
            refine xR ?_
            exact cut_at H (xK ⟨[1], []⟩)
          · obtain ⟨F, G, hq6⟩ := xH F G hp6
            refine xR ?_
            exact cut_at H (xK ⟨[1], []⟩)
  · rintro x1 H
    rw [preref7_Begins_j1] at H
    rcases bsplit H with ⟨hp1, H⟩ | ⟨hp1, H⟩
    · obtain ⟨F, G, hq1⟩ := xH Y G hp1
      refine xT ?_
      refine xr ?_
      cases H
      exact xN
    · obtain ⟨F, G, hq1⟩ := xH Y G hp1
      refine xE ?_
      obtain ⟨hg1, H⟩ := gsplit H
      have F := xZ Y (map_getD d_Source a0 a1.File.toNat default default (by omega))
      obtain ⟨hg2, H⟩ := gsplit H
      obtain ⟨r1, hr1, H⟩ := osplit H
      have F := xC F (preref1_Splice_c (List.drop a1.At.toNat ((a0.getD a1.File.toNat default).Text)) r1 hr1)
      refine xR0 ?_
      refine then_normal ?_
      refine w_cut preref7_Begins_j2 (fun s => [(4, .c (.d (.v (.bool s))))]) (fun s => []) [] out ?_ ?_
      · rcases bsplit H with ⟨hp2, H⟩ | ⟨hp2, H⟩
        · obtain ⟨F, G, hq2⟩ := xH Y G hp2
          obtain ⟨hg3, H⟩ := gsplit H
          refine xR ?_
          exact cut_at H (xK ⟨[], []⟩)
        · obtain ⟨F, G, hq2⟩ := xH Y G hp2
          refine xR ?_
          exact cut_at H (xK ⟨[], []⟩)
      · rintro x2 H
        rw [preref7_Begins_j2] at H
        refine xS ?_
        cases H
        exact xN
theorem preref7_Begins_c (a0 : List Source) (a1 : Call) (r : Bool) (H : preref7_Begins a0 a1 = some r) : PC pf_preref7_Begins [(dL 2 d_Source) a0, d_Call a1] (dB r) := PF.c (a := (a0, a1)) H
noncomputable def preref7_Right_j2 (x1 : Int) (x2 : Int) : Bool → Option ((Int × Int) ⊕ Bool)
  | x3 => if x3 = true then inrO (some false) else some (.inl (x1, IntKind.i64.wrap (x2 + 1)))
noncomputable def preref7_Right_j3 : Bool → Option Bool
  | x4 => some x4
noncomputable def preref7_Right_b1 (a0 : List Source) (a1 : Token) : (Int × Int) → Option ((Int × Int) ⊕ Bool)
  | (x1, x2) => if (ltI x2 x1) = true then if (0 : Int) ≤ x2 ∧ x2.toNat < a1.Calls.length then if (!eqI ((a1.Calls.getD x2.toNat default).File) (-1)) = true then (preref7_Begins a0 (a1.Calls.getD x2.toNat default)).bind fun r1 => preref7_Right_j2 x1 x2 (!r1) else preref7_Right_j2 x1 x2 false else none else inrO ((preref7_Span a0 a1).bind fun r2 => if (!eqI a1.Made 0) = true then preref7_Right_j3 true else if r2.2 = true then preref7_Right_j3 (eqS r2.1 a1.Text) else preref7_Right_j3 false)
noncomputable def preref7_Right (a0 : List Source) (a1 : Token) : Option Bool :=
  loopO (preref7_Right_b1 a0 a1) ((a1.Calls.length : Int), 0)
noncomputable def pf_preref7_Right : PF := PF.of (E2 (dL 2 d_Source) d_Token) (fun a => preref7_Right a.1 a.2) dB
set_option maxRecDepth 100000 in
set_option maxHeartbeats 4000000 in
theorem preref7_Right_ok : PureOk Try.prog 25 pf_preref7_Right := by
  refine xF mixed [(61, pf_preref7_Begins), (23, pf_preref7_Span)] [] ⟨⟨call_61, preref7_Begins_ok⟩, ⟨call_23, preref7_Span_ok⟩, trivial⟩ trivial Try.func25 ?_
  rintro ⟨a0, a1⟩ out H
  have G := True.intro
  have Y := xZ y_3 <| xZ y_9 <| xZ y_35 <| xZ y_37 <| xZ y_44 <| xZ Try.results25 <| xZ d_Call.eq_1 <| xZ d_Token.eq_1 <| d_Source.eq_1
  simp only [preref7_Right] at H
  refine xS ?_
  refine xr ?_
  refine xr ?_
  refine w_loop (preref7_Right_b1 a0 a1) (fun s => [(0, .c (.d (.sl 2 (List.map d_Source a0)))), (3, .c (.pt 1 0)), (10, .c (.d (.sl 3 (List.map d_Call a1.Calls)))), (11, .c (.d (.v (.int .i64 s.1)))), (12, .c (.d (.v (.int .i64 s.2))))]) (fun s => [[.d (.v (.int .i64 a1.Kind)), .d (.v (str a1.Text)), .d (.v (.bool a1.Space)), .d (.v (.bool a1.First)), .d (.v (.int .i64 a1.File)), .d (.v (.int .i64 a1.At)), .d (.v (.int .i64 a1.End)), .d (.v (.int .i64 a1.Line)), .d (.sl 1 (List.map dS a1.Hide)), .d (.sl 3 (List.map d_Call a1.Calls)), .d (.v (.int .i64 a1.Made))]]) [] H (xK ⟨[1], []⟩) ?_
  rintro n1 ⟨x1, x2⟩ o1 H hF1
  rw [preref7_Right_b1] at H
  refine xS ?_
  refine xr ?_
  rcases bsplit H with ⟨hp1, H⟩ | ⟨hp1, H⟩
  · obtain ⟨F, G, hq1⟩ := xH Y G hp1
    refine xT ?_
    obtain ⟨hg1, H⟩ := gsplit H
    have F := xZ Y (map_getD d_Call a1.Calls x2.toNat default default (by omega))
    refine xR0 ?_
    refine then_normal ?_
    refine w_cut (preref7_Right_j2 x1 x2) (fun s => [(0, .c (.d (.sl 2 (List.map d_Source a0)))), (3, .c (.pt 1 0)), (10, .c (.d (.sl 3 (List.map d_Call a1.Calls)))), (11, .c (.d (.v (.int .i64 x1)))), (12, .c (.d (.v (.int .i64 x2)))), (24, .c (.d (.v (.bool s))))]) (fun s => [[.d (.v (.int .i64 a1.Kind)), .d (.v (str a1.Text)), .d (.v (.bool a1.Space)), .d (.v (.bool a1.First)), .d (.v (.int .i64 a1.File)), .d (.v (.int .i64 a1.At)), .d (.v (.int .i64 a1.End)), .d (.v (.int .i64 a1.Line)), .d (.sl 1 (List.map dS a1.Hide)), .d (.sl 3 (List.map d_Call a1.Calls)), .d (.v (.int .i64 a1.Made))]]) [] o1 ?_ ?_
    · rcases bsplit H with ⟨hp3, H⟩ | ⟨hp3, H⟩
      · obtain ⟨F, G, hq3⟩ := xH Y G hp3
        obtain ⟨r1, hr1, H⟩ := osplit H
        have F := xC F (preref7_Begins_c a0 (a1.Calls.getD x2.toNat default) r1 hr1)
        refine xR ?_
        exact cut_at H (xK ⟨[1], []⟩)
      · obtain ⟨F, G, hq3⟩ := xH Y G hp3
        refine xR ?_
        exact cut_at H (xK ⟨[1], []⟩)
    · rintro x3 H
      rw [preref7_Right_j2] at H
      rcases bsplit H with ⟨hp2, H⟩ | ⟨hp2, H⟩
      · obtain ⟨F, G, hq2⟩ := xH Y G hp2
        refine xT ?_
        replace H := inrO_fin H hF1
        refine xr ?_
        cases H
        exact xN
      · obtain ⟨F, G, hq2⟩ := xH Y G hp2
        refine xE ?_
        refine xr ?_
        exact round_at (inl_fin H hF1) (xK ⟨[1], []⟩)
  · obtain ⟨F, G, hq1⟩ := xH Y G hp1
    replace H := inrO_fin H hF1
    refine xE ?_
    obtain ⟨r2, hr2, H⟩ := osplit H
    have F := xC Y (preref7_Span_c a0 a1 r2 hr2)
    refine xR0 ?_
    refine then_normal ?_
    refine w_cut preref7_Right_j3 (fun s => [(4, .c (.d (.v (.bool s))))]) (fun s => []) [] out ?_ ?_
    · rcases bsplit H with ⟨hp4, H⟩ | ⟨hp4, H⟩
      · obtain ⟨F, G, hq4⟩ := xH Y G hp4
        refine xR ?_
        exact cut_at H (xK ⟨[], []⟩)
      · obtain ⟨F, G, hq4⟩ := xH Y G hp4
        rcases bsplit H with ⟨hp5, H⟩ | ⟨hp5, H⟩
        · obtain ⟨F, G, hq5⟩ := xH F G hp5
          refine xR ?_
          exact cut_at H (xK ⟨[], []⟩)
        · obtain ⟨F, G, hq5⟩ := xH F G hp5
          refine xR ?_
          exact cut_at H (xK ⟨[], []⟩)
    · rintro x4 H
      rw [preref7_Right_j3] at H
      refine xS ?_
      cases H
      exact xN
theorem preref7_Right_c (a0 : List Source) (a1 : Token) (r : Bool) (H : preref7_Right a0 a1 = some r) : PC pf_preref7_Right [(dL 2 d_Source) a0, d_Token a1] (dB r) := PF.c (a := (a0, a1)) H
noncomputable def origin_Outer (a0 : Token) : Option (Int × Int) :=
  if (ltI 0 (a0.Calls.length : Int)) = true then if 0 < a0.Calls.length then if 0 < a0.Calls.length then some ((a0.Calls.getD 0 default).File, (a0.Calls.getD 0 default).At) else none else none else some (a0.File, a0.At)
noncomputable def pf_origin_Outer : PF := PF.of (E1 d_Token) (fun a => origin_Outer a) (T2 dI dI)
set_option maxRecDepth 100000 in
set_option maxHeartbeats 4000000 in
theorem origin_Outer_ok : PureOk Try.prog 26 pf_origin_Outer := by
  refine xF mixed [] [] trivial trivial Try.func26 ?_
  rintro a0 out H
  have G := True.intro
  have Y := xZ y_3 <| xZ y_35 <| xZ y_37 <| xZ y_44 <| xZ Try.results26 <| xZ d_Call.eq_1 <| d_Token.eq_1
  simp only [origin_Outer] at H
  refine xS ?_
  refine xr ?_
  refine xr ?_
  rcases bsplit H with ⟨hp1, H⟩ | ⟨hp1, H⟩
  · obtain ⟨F, G, hq1⟩ := xH Y G hp1
    refine xT ?_
    obtain ⟨hg1, H⟩ := gsplit H
    have F := xZ Y (map_getD d_Call a0.Calls 0 default default (by omega))
    obtain ⟨hg2, H⟩ := gsplit H
    have F := xZ F (map_getD d_Call a0.Calls 0 default default (by omega))
    refine xR ?_
    cases H
    exact xN
  · obtain ⟨F, G, hq1⟩ := xH Y G hp1
    refine xE ?_
    refine xr ?_
    cases H
    exact xN
theorem origin_Outer_c (a0 : Token) (r : Int × Int) (H : origin_Outer a0 = some r) : PC pf_origin_Outer [d_Token a0] (T2 dI dI r) := PF.c (a := a0) H
noncomputable def origin_At_j2 (x2 : Int) (x3 : Int) : (List Int) → Option (((List Int) × Int × Int) ⊕ (List Int))
  | x4 => some (.inl (x4, x2, IntKind.i64.wrap (x3 + 1)))
noncomputable def origin_At_j3 (x1 : List Int) (x2 : Int) (x3 : Int) : Bool → Option (((List Int) × Int × Int) ⊕ (List Int))
  | x5 => if x5 = true then if (x1.length + [x3].length) * 8 ≤ 140737488355328 then origin_At_j2 x2 x3 (x1 ++ [x3]) else none else origin_At_j2 x2 x3 x1
noncomputable def origin_At_b1 (a0 : List Token) (a1 : Int) (a2 : Int) : ((List Int) × Int × Int) → Option (((List Int) × Int × Int) ⊕ (List Int))
  | (x1, x2, x3) => if (ltI x3 x2) = true then if (0 : Int) ≤ x3 ∧ x3.toNat < a0.length then if (eqI ((a0.getD x3.toNat default).Made) 0) = true then if (eqI ((a0.getD x3.toNat default).File) a1) = true then if (leI ((a0.getD x3.toNat default).At) a2) = true then origin_At_j3 x1 x2 x3 (ltI a2 ((a0.getD x3.toNat default).End)) else origin_At_j3 x1 x2 x3 false else origin_At_j3 x1 x2 x3 false else origin_At_j3 x1 x2 x3 false else none else inrO (some x1)
noncomputable def origin_At (a0 : List Token) (a1 : Int) (a2 : Int) : Option (List Int) :=
  loopO (origin_At_b1 a0 a1 a2) (([] : List Int), (a0.length : Int), 0)
noncomputable def pf_origin_At : PF := PF.of (E3 (dL 11 d_Token) dI dI) (fun a => origin_At a.1 a.2.1 a.2.2) (dL 1 dI)
set_option maxRecDepth 100000 in
set_option maxHeartbeats 4000000 in
theorem origin_At_ok : PureOk Try.prog 28 pf_origin_At := by
  refine xF mixed [] [] trivial trivial Try.func28 ?_
  rintro ⟨a0, a1, a2⟩ out H
  have G := True.intro
  have Y := xZ y_3 <| xZ y_22 <| xZ y_33 <| xZ y_37 <| xZ Try.results28 <| xZ d_Call.eq_1 <| d_Token.eq_1
  simp only [origin_At] at H
  refine xS ?_
  refine xr ?_
  refine xr ?_
  refine xr ?_
  refine w_loop (origin_At_b1 a0 a1 a2) (fun s => [(1, .c (.d (.v (.int .i64 a1)))), (2, .c (.d (.v (.int .i64 a2)))), (7, .c (.sl 1 (List.map dI s.1) 1)), (10, .c (.d (.sl 11 (List.map d_Token a0)))), (11, .c (.d (.v (.int .i64 s.2.1)))), (12, .c (.d (.v (.int .i64 s.2.2))))]) (fun s => []) [3] H (xK ⟨[], [0]⟩) ?_
  rintro n1 ⟨x1, x2, x3⟩ o1 H hF1
  rw [origin_At_b1] at H
  refine xS ?_
  refine xr ?_
  rcases bsplit H with ⟨hp1, H⟩ | ⟨hp1, H⟩
  · obtain ⟨F, G, hq1⟩ := xH Y G hp1
    refine xT0 ?_
    refine w_skip ?_
    refine then_normal ?_
    refine w_cut (origin_At_j2 x2 x3) (fun s => [(1, .c (.d (.v (.int .i64 a1)))), (2, .c (.d (.v (.int .i64 a2)))), (7, .c (.sl 1 (List.map dI s) 1)), (10, .c (.d (.sl 11 (List.map d_Token a0)))), (11, .c (.d (.v (.int .i64 x2)))), (12, .c (.d (.v (.int .i64 x3))))]) (fun s => []) [3] o1 ?_ ?_
    · refine xS ?_
      obtain ⟨hg1, H⟩ := gsplit H
      have F := xZ Y (map_getD d_Token a0 x3.toNat default default (by omega))
      refine xR0 ?_
      refine then_normal ?_
      refine w_cut (origin_At_j3 x1 x2 x3) (fun s => [(1, .c (.d (.v (.int .i64 a1)))), (2, .c (.d (.v (.int .i64 a2)))), (7, .c (.sl 1 (List.map dI x1) 1)), (8, .c (.d (.v (.int .i64 x3)))), (10, .c (.d (.sl 11 (List.map d_Token a0)))), (11, .c (.d (.v (.int .i64 x2)))), (12, .c (.d (.v (.int .i64 x3)))), (37, .c (.d (.v (.bool s))))]) (fun s => []) [3] o1 ?_ ?_
      · rcases bsplit H with ⟨hp3, H⟩ | ⟨hp3, H⟩
        · obtain ⟨F, G, hq3⟩ := xH Y G hp3
          rcases bsplit H with ⟨hp4, H⟩ | ⟨hp4, H⟩
          · obtain ⟨F, G, hq4⟩ := xH F G hp4
            rcases bsplit H with ⟨hp5, H⟩ | ⟨hp5, H⟩
            · obtain ⟨F, G, hq5⟩ := xH F G hp5
              refine xR ?_
              exact cut_at H (xK ⟨[], [1]⟩)
            · obtain ⟨F, G, hq5⟩ := xH F G hp5
              refine xR ?_
              exact cut_at H (xK ⟨[], [1]⟩)
          · obtain ⟨F, G, hq4⟩ := xH F G hp4
            refine xR ?_
            exact cut_at H (xK ⟨[], [1]⟩)
        · obtain ⟨F, G, hq3⟩ := xH Y G hp3
          refine xR ?_
          exact cut_at H (xK ⟨[], [1]⟩)
      · rintro x5 H
        rw [origin_At_j3] at H
        rcases bsplit H with ⟨hp2, H⟩ | ⟨hp2, H⟩
        · obtain ⟨F, G, hq2⟩ := xH Y G hp2
          refine xT ?_
          obtain ⟨hg2, H⟩ := gsplit H
          have F := xZ Y (all_map one_dI [x3])
          refine xR ?_
          exact cut_at H (xK ⟨[], [2]⟩)
        · obtain ⟨F, G, hq2⟩ := xH Y G hp2
          refine xE ?_
          exact cut_at H (xK ⟨[], [1]⟩)
    · rintro x4 H
      rw [origin_At_j2] at H
      refine xr ?_
      exact round_at (inl_fin H hF1) (xK ⟨[], [1]⟩)
  · obtain ⟨F, G, hq1⟩ := xH Y G hp1
    replace H := inrO_fin H hF1
    refine xE ?_
    refine xr ?_
    cases H
    exact xN
theorem origin_At_c (a0 : List Token) (a1 : Int) (a2 : Int) (r : (List Int)) (H : origin_At a0 a1 a2 = some r) : PC pf_origin_At [(dL 11 d_Token) a0, dI a1, dI a2] ((dL 1 dI) r) := PF.c (a := (a0, a1, a2)) H
noncomputable def origin_Here_j2 (x2 : Int) (x3 : Int) : (List Int) → Option (((List Int) × Int × Int) ⊕ (List Int))
  | x4 => some (.inl (x4, x2, IntKind.i64.wrap (x3 + 1)))
noncomputable def origin_Here_b1 (a0 : List Token) : ((List Int) × Int × Int) → Option (((List Int) × Int × Int) ⊕ (List Int))
  | (x1, x2, x3) => if (ltI x3 x2) = true then if (0 : Int) ≤ x3 ∧ x3.toNat < a0.length then if (eqI (((a0.getD x3.toNat default).Calls).length : Int) 0) = true then if (x1.length + [x3].length) * 8 ≤ 140737488355328 then origin_Here_j2 x2 x3 (x1 ++ [x3]) else none else origin_Here_j2 x2 x3 x1 else none else inrO (some x1)
noncomputable def origin_Here (a0 : List Token) : Option (List Int) :=
  loopO (origin_Here_b1 a0) (([] : List Int), (a0.length : Int), 0)
noncomputable def pf_origin_Here : PF := PF.of (E1 (dL 11 d_Token)) (fun a => origin_Here a) (dL 1 dI)
set_option maxRecDepth 100000 in
set_option maxHeartbeats 4000000 in
theorem origin_Here_ok : PureOk Try.prog 29 pf_origin_Here := by
  refine xF mixed [] [] trivial trivial Try.func29 ?_
  rintro a0 out H
  have G := True.intro
  have Y := xZ y_3 <| xZ y_22 <| xZ y_33 <| xZ y_35 <| xZ y_37 <| xZ y_44 <| xZ Try.results29 <| xZ d_Call.eq_1 <| d_Token.eq_1
  simp only [origin_Here] at H
  refine xS ?_
  refine xr ?_
  refine xr ?_
  refine xr ?_
  refine w_loop (origin_Here_b1 a0) (fun s => [(3, .c (.sl 1 (List.map dI s.1) 1)), (6, .c (.d (.sl 11 (List.map d_Token a0)))), (7, .c (.d (.v (.int .i64 s.2.1)))), (8, .c (.d (.v (.int .i64 s.2.2))))]) (fun s => []) [3] H (xK ⟨[], [0]⟩) ?_
  rintro n1 ⟨x1, x2, x3⟩ o1 H hF1
  rw [origin_Here_b1] at H
  refine xS ?_
  refine xr ?_
  rcases bsplit H with ⟨hp1, H⟩ | ⟨hp1, H⟩
  · obtain ⟨F, G, hq1⟩ := xH Y G hp1
    refine xT0 ?_
    refine w_skip ?_
    refine then_normal ?_
    refine w_cut (origin_Here_j2 x2 x3) (fun s => [(3, .c (.sl 1 (List.map dI s) 1)), (6, .c (.d (.sl 11 (List.map d_Token a0)))), (7, .c (.d (.v (.int .i64 x2)))), (8, .c (.d (.v (.int .i64 x3))))]) (fun s => []) [3] o1 ?_ ?_
    · refine xS ?_
      obtain ⟨hg1, H⟩ := gsplit H
      have F := xZ Y (map_getD d_Token a0 x3.toNat default default (by omega))
      refine xR ?_
      refine xr ?_
      rcases bsplit H with ⟨hp2, H⟩ | ⟨hp2, H⟩
      · obtain ⟨F, G, hq2⟩ := xH Y G hp2
        refine xT ?_
        obtain ⟨hg2, H⟩ := gsplit H
        have F := xZ Y (all_map one_dI [x3])
        refine xR ?_
        exact cut_at H (xK ⟨[], [3]⟩)
      · obtain ⟨F, G, hq2⟩ := xH Y G hp2
        refine xE ?_
        exact cut_at H (xK ⟨[], [1]⟩)
    · rintro x4 H
      rw [origin_Here_j2] at H
      refine xr ?_
      exact round_at (inl_fin H hF1) (xK ⟨[], [1]⟩)
  · obtain ⟨F, G, hq1⟩ := xH Y G hp1
    replace H := inrO_fin H hF1
    refine xE ?_
    refine xr ?_
    cases H
    exact xN
theorem origin_Here_c (a0 : List Token) (r : (List Int)) (H : origin_Here a0 = some r) : PC pf_origin_Here [(dL 11 d_Token) a0] ((dL 1 dI) r) := PF.c (a := a0) H
end Go.Proofs.Ytgkacglpjmndbaa
