/- Functions of data for functions of the program. Written by dec3.py. -/
import Derived.Test.YtppomhjhokbacaaZbap
import Derived.Test.YtppomhjhokbacaaZbaq
import Derived.Test.YtppomhjhokbacaaZbar
import Derived.Test.YtppomhjhokbacaaZbat
set_option linter.unusedVariables false
set_option linter.unusedSimpArgs false
namespace Go.Proofs.Ytppomhjhokbacaa
open Go.RowKit
def g_prelaw9_count (a0 : Int) (a1 : Int) (a2 : List Node) (a3 : MI) (r : MI) : GI :=
  ⟨[.ag [.d (.v (.int .i64 a0)), .d (.v (.int .i64 a1)), .os 1 3 0 a2.length], .c (.mo 2)], [[.arr 3 (List.map d_Node a2)], [.ob (KMI a3)]], [], .ret (.tu []) [[.arr 3 (List.map d_Node a2)], [.ob (KMI r)]] []⟩
def SF_prelaw9_count (q : Int → Int → (List Node) → MI → Option MI) : GI → Prop := fun g => ∃ (a0 : Int) (a1 : Int) (a2 : List Node) (a3 : MI) (r : MI), q a0 a1 a2 a3 = some r ∧ g = g_prelaw9_count a0 a1 a2 a3 r
theorem prelaw9_count_sc (q : Int → Int → (List Node) → MI → Option MI) (a0 : Int) (a1 : Int) (a2 : List Node) (a3 : MI) (r : MI) (H : q a0 a1 a2 a3 = some r) : SF_prelaw9_count q (g_prelaw9_count a0 a1 a2 a3 r) := ⟨a0, a1, a2, a3, r, H, rfl⟩
def g_prelaw9_count_v2 (a0 : Node) (a1 : MI) (r : MI) : GI :=
  ⟨[.ag [.d (.v (.int .i64 a0.Kind)), .d (.v (.int .i64 a0.Tok)), .d (.sl 3 (List.map d_Node a0.Kids))], .c (.mo 1)], [[.ob (KMI a1)]], [], .ret (.tu []) [[.ob (KMI r)]] []⟩
def SF_prelaw9_count_v2 (q : Node → MI → Option MI) : GI → Prop := fun g => ∃ (a0 : Node) (a1 : MI) (r : MI), q a0 a1 = some r ∧ g = g_prelaw9_count_v2 a0 a1 r
theorem prelaw9_count_v2_sc (q : Node → MI → Option MI) (a0 : Node) (a1 : MI) (r : MI) (H : q a0 a1 = some r) : SF_prelaw9_count_v2 q (g_prelaw9_count_v2 a0 a1 r) := ⟨a0, a1, r, H, rfl⟩
noncomputable def prelaw9_count_b2 (q2 : Node → MI → Option MI) (a2 : List Node) : (Int × Int × MI) → Option ((Int × Int × MI) ⊕ MI)
  | (x2, x3, x4) => if (ltI x3 x2) = true then if (0 : Int) ≤ x3 ∧ x3.toNat < a2.length then if x3.toNat < a2.length then (q2 (a2.getD x3.toNat default) x4).bind fun r1 => some (.inl (x2, IntKind.i64.wrap (x3 + 1), r1)) else none else none else inrO (some x4)
noncomputable def prelaw9_count_j1 (q2 : Node → MI → Option MI) (a2 : List Node) : MI → Option MI
  | x1 => loopO (prelaw9_count_b2 q2 a2) (((a2.length : Nat) : Int), 0, x1)
noncomputable def prelaw9_count_s (q1 : Int → Int → (List Node) → MI → Option MI) (q2 : Node → MI → Option MI) (a0 : Int) (a1 : Int) (a2 : List Node) (a3 : MI) : Option MI :=
  if (leI 0 a1) = true then if 0 ≤ a1 ∧ a1 ≤ 9223372036854775807 ∧ (a3).length < 9223372036854775807 then prelaw9_count_j1 q2 a2 ((a1, IntKind.i64.wrap (iGetD a3 a1 + 1)) :: a3) else none else prelaw9_count_j1 q2 a2 a3
set_option maxRecDepth 100000 in
set_option maxHeartbeats 4000000 in
theorem prelaw9_count_sok (q1 : Int → Int → (List Node) → MI → Option MI) (q2 : Node → MI → Option MI) (kq1 : Kok Try.prog 8 true (SF_prelaw9_count q1)) (kq2 : Kok Try.prog 8 true (SF_prelaw9_count_v2 q2)) : ∀ g, SF_prelaw9_count (prelaw9_count_s q1 q2) g → GenOk Try.prog 8 g := by
  rintro _ ⟨a0, a1, a2, a3, r, H, rfl⟩
  refine xGnl mixed [1000025] [] [(8, true, (SF_prelaw9_count_v2 q2))] [] trivial ⟨kq2, trivial⟩ trivial Try.func8 _ ?_
  have G := True.intro
  have Y := xZ y_3 <| xZ y_25 <| xZ y_27 <| xZ Try.results8 <| xZ dq_Node <| xZ g_prelaw9_count_v2.eq_1 <| g_prelaw9_count.eq_1
  dsimp only [g_prelaw9_count]
  simp only [prelaw9_count_s] at H
  refine xS ?_
  refine xr0 ?_
  refine then_normal ?_
  refine w_cut (prelaw9_count_j1 q2 a2) (fun s => [(1, .c (.mo 2)), (2, .c (.pt 3 0))]) (fun s => [[.arr 3 (List.map d_Node a2)], [.ob (KMI s)], [.d (.v (.int .i64 a0)), .d (.v (.int .i64 a1)), .os 1 3 0 a2.length]]) [] r ?_ ?_
  · refine xS ?_
    refine xr ?_
    rcases bsplit H with ⟨hp2, H⟩ | ⟨hp2, H⟩
    · obtain ⟨F, G, hq2⟩ := xH Y G hp2
      refine xT ?_
      obtain ⟨hgh, H⟩ := gsplit H
      refine hM_count a3 a1 hgh ?_
      exact cut_at H (xK ⟨[1,2,3], []⟩)
    · obtain ⟨F, G, hq2⟩ := xH Y G hp2
      refine xE ?_
      exact cut_at H (xK ⟨[1,2,3], []⟩)
  · rintro x1 H
    rw [prelaw9_count_j1] at H
    refine xS ?_
    refine xr ?_
    refine w_loop (prelaw9_count_b2 q2 a2) (fun s => [(1, .c (.mo 2)), (15, .c (.os 1 3 0 a2.length)), (16, .c (.d (.v (.int .i64 s.1)))), (17, .c (.d (.v (.int .i64 s.2.1))))]) (fun s => [[.arr 3 (List.map d_Node a2)], [.ob (KMI s.2.2)]]) [] H (xK ⟨[1,2], []⟩) ?_
    rintro n1 ⟨x2, x3, x4⟩ o1 H hF1
    rw [prelaw9_count_b2] at H
    refine xS ?_
    refine xr ?_
    rcases bsplit H with ⟨hp1, H⟩ | ⟨hp1, H⟩
    · obtain ⟨F, G, hq1⟩ := xH Y G hp1
      refine xT ?_
      obtain ⟨hg1, H⟩ := gsplit H
      obtain ⟨hg, H⟩ := gsplit H
      have F := xZ Y (map_getD d_Node a2 x3.toNat default default (by omega))
      refine xR ?_
      obtain ⟨r1, hr1, H⟩ := osplit H
      have F := Y
      refine xQ ?_
      refine xs 2 ?_
      refine xc ⟨[2], []⟩ (tabG 0 (prelaw9_count_v2_sc q2 (a2.getD x3.toNat default) x4 r1 hr1)) ?_
      refine xl ?_
      refine xS ?_
      refine xr ?_
      exact round_at (inl_fin H hF1) (xK ⟨[1,2], []⟩)
    · obtain ⟨F, G, hq1⟩ := xH Y G hp1
      replace H := inrO_fin H hF1
      replace H := Option.some.inj H
      refine xE ?_
      subst H
      refine xnD [] ?_
      exact xO ⟨[1, 2], []⟩
noncomputable def prelaw9_count_v2_b2 (q2 : Node → MI → Option MI) (a0 : Node) : (Int × Int × MI) → Option ((Int × Int × MI) ⊕ MI)
  | (x2, x3, x4) => if (ltI x3 x2) = true then if (0 : Int) ≤ x3 ∧ x3.toNat < a0.Kids.length then (q2 (a0.Kids.getD x3.toNat default) x4).bind fun r1 => some (.inl (x2, IntKind.i64.wrap (x3 + 1), r1)) else none else inrO (some x4)
noncomputable def prelaw9_count_v2_j1 (q2 : Node → MI → Option MI) (a0 : Node) : MI → Option MI
  | x1 => loopO (prelaw9_count_v2_b2 q2 a0) ((a0.Kids.length : Int), 0, x1)
noncomputable def prelaw9_count_v2_s (q1 : Int → Int → (List Node) → MI → Option MI) (q2 : Node → MI → Option MI) (a0 : Node) (a1 : MI) : Option MI :=
  if (leI 0 a0.Tok) = true then if 0 ≤ a0.Tok ∧ a0.Tok ≤ 9223372036854775807 ∧ (a1).length < 9223372036854775807 then prelaw9_count_v2_j1 q2 a0 ((a0.Tok, IntKind.i64.wrap (iGetD a1 a0.Tok + 1)) :: a1) else none else prelaw9_count_v2_j1 q2 a0 a1
set_option maxRecDepth 100000 in
set_option maxHeartbeats 4000000 in
theorem prelaw9_count_v2_sok (q1 : Int → Int → (List Node) → MI → Option MI) (q2 : Node → MI → Option MI) (kq1 : Kok Try.prog 8 true (SF_prelaw9_count q1)) (kq2 : Kok Try.prog 8 true (SF_prelaw9_count_v2 q2)) : ∀ g, SF_prelaw9_count_v2 (prelaw9_count_v2_s q1 q2) g → GenOk Try.prog 8 g := by
  rintro _ ⟨a0, a1, r, H, rfl⟩
  refine xGnl mixed [1000025] [] [(8, true, (SF_prelaw9_count_v2 q2))] [] trivial ⟨kq2, trivial⟩ trivial Try.func8 _ ?_
  have G := True.intro
  have Y := xZ y_3 <| xZ y_25 <| xZ y_27 <| xZ Try.results8 <| xZ dq_Node <| xZ g_prelaw9_count_v2.eq_1 <| g_prelaw9_count_v2.eq_1
  dsimp only [g_prelaw9_count_v2]
  simp only [prelaw9_count_v2_s] at H
  refine xS ?_
  refine xr0 ?_
  refine then_normal ?_
  refine w_cut (prelaw9_count_v2_j1 q2 a0) (fun s => [(1, .c (.mo 1)), (2, .c (.pt 2 0))]) (fun s => [[.ob (KMI s)], [.d (.v (.int .i64 a0.Kind)), .d (.v (.int .i64 a0.Tok)), .d (.sl 3 (List.map d_Node a0.Kids))]]) [] r ?_ ?_
  · refine xS ?_
    refine xr ?_
    rcases bsplit H with ⟨hp2, H⟩ | ⟨hp2, H⟩
    · obtain ⟨F, G, hq2⟩ := xH Y G hp2
      refine xT ?_
      obtain ⟨hgh, H⟩ := gsplit H
      refine hM_count a1 a0.Tok hgh ?_
      exact cut_at H (xK ⟨[1,2], []⟩)
    · obtain ⟨F, G, hq2⟩ := xH Y G hp2
      refine xE ?_
      exact cut_at H (xK ⟨[1,2], []⟩)
  · rintro x1 H
    rw [prelaw9_count_v2_j1] at H
    refine xS ?_
    refine xr ?_
    refine w_loop (prelaw9_count_v2_b2 q2 a0) (fun s => [(1, .c (.mo 1)), (15, .c (.d (.sl 3 (List.map d_Node a0.Kids)))), (16, .c (.d (.v (.int .i64 s.1)))), (17, .c (.d (.v (.int .i64 s.2.1))))]) (fun s => [[.ob (KMI s.2.2)]]) [] H (xK ⟨[1], []⟩) ?_
    rintro n1 ⟨x2, x3, x4⟩ o1 H hF1
    rw [prelaw9_count_v2_b2] at H
    refine xS ?_
    refine xr ?_
    rcases bsplit H with ⟨hp1, H⟩ | ⟨hp1, H⟩
    · obtain ⟨F, G, hq1⟩ := xH Y G hp1
      refine xT ?_
      obtain ⟨hg1, H⟩ := gsplit H
      have F := xZ Y (map_getD d_Node a0.Kids x3.toNat default default (by omega))
      refine xR ?_
      obtain ⟨r1, hr1, H⟩ := osplit H
      have F := Y
      refine xQ ?_
      refine xs 2 ?_
      refine xc ⟨[1], []⟩ (tabG 0 (prelaw9_count_v2_sc q2 (a0.Kids.getD x3.toNat default) x4 r1 hr1)) ?_
      refine xl ?_
      refine xS ?_
      refine xr ?_
      exact round_at (inl_fin H hF1) (xK ⟨[1], []⟩)
    · obtain ⟨F, G, hq1⟩ := xH Y G hp1
      replace H := inrO_fin H hF1
      replace H := Option.some.inj H
      refine xE ?_
      subst H
      refine xnD [] ?_
      exact xO ⟨[1], []⟩
noncomputable def rec_prelaw9_count : Nat → (Int → Int → (List Node) → MI → Option MI) × (Node → MI → Option MI)
  | 0 => (fun _ _ _ _ => none, fun _ _ => none)
  | n + 1 => (prelaw9_count_s ((rec_prelaw9_count n).1) ((rec_prelaw9_count n).2), prelaw9_count_v2_s ((rec_prelaw9_count n).1) ((rec_prelaw9_count n).2))
theorem rec_prelaw9_count_k : ∀ n, Kok Try.prog 8 true (SF_prelaw9_count (rec_prelaw9_count n).1) ∧ Kok Try.prog 8 true (SF_prelaw9_count_v2 (rec_prelaw9_count n).2)
  | 0 => ⟨⟨call_8, (by rintro _ ⟨_, _, _, _, _, H, _⟩; cases H), fun _ => by rintro _ ⟨_, _, _, _, _, _, rfl⟩; exact ⟨_, _, _, rfl⟩⟩, ⟨call_8, (by rintro _ ⟨_, _, _, H, _⟩; cases H), fun _ => by rintro _ ⟨_, _, _, _, rfl⟩; exact ⟨_, _, _, rfl⟩⟩⟩
  | n + 1 => have h := rec_prelaw9_count_k n; ⟨⟨call_8, prelaw9_count_sok _ _ h.1 h.2, fun _ => by rintro _ ⟨_, _, _, _, _, _, rfl⟩; exact ⟨_, _, _, rfl⟩⟩, ⟨call_8, prelaw9_count_v2_sok _ _ h.1 h.2, fun _ => by rintro _ ⟨_, _, _, _, rfl⟩; exact ⟨_, _, _, rfl⟩⟩⟩
noncomputable def prelaw9_count : Int → Int → (List Node) → MI → Option MI := (rec_prelaw9_count bigF).1
def S_prelaw9_count : GI → Prop := SF_prelaw9_count prelaw9_count
theorem prelaw9_count_c (a0 : Int) (a1 : Int) (a2 : List Node) (a3 : MI) (r : MI) (H : prelaw9_count a0 a1 a2 a3 = some r) : S_prelaw9_count (g_prelaw9_count a0 a1 a2 a3 r) := prelaw9_count_sc prelaw9_count a0 a1 a2 a3 r H
theorem prelaw9_count_k : Kok Try.prog 8 true S_prelaw9_count := (rec_prelaw9_count_k bigF).1
noncomputable def prelaw9_TreeWhole_j2 (r4 : MI) (x1 : Int) (x2 : Int) : Bool → Option ((Int × Int) ⊕ Bool)
  | x3 => if 0 ≤ x2 ∧ x2 ≤ 9223372036854775807 then if (mBad r4 x2 x3) = true then inrO (some false) else some (.inl (x1, IntKind.i64.wrap (x2 + 1))) else none
noncomputable def prelaw9_TreeWhole_b1 (r2 : (List Token)) (r4 : MI) : (Int × Int) → Option ((Int × Int) ⊕ Bool)
  | (x1, x2) => if (ltI x2 x1) = true then if (0 : Int) ≤ x2 ∧ x2.toNat < r2.length then if (eqI ((r2.getD x2.toNat default).Kind) 2) = true then prelaw9_TreeWhole_j2 r4 x1 x2 true else if (eqI ((r2.getD x2.toNat default).Kind) 3) = true then prelaw9_TreeWhole_j2 r4 x1 x2 true else if (eqI ((r2.getD x2.toNat default).Kind) 4) = true then prelaw9_TreeWhole_j2 r4 x1 x2 true else if (eqI ((r2.getD x2.toNat default).Kind) 1) = true then (tree_Key ((r2.getD x2.toNat default).Text)).bind fun r5 => prelaw9_TreeWhole_j2 r4 x1 x2 (!r5) else prelaw9_TreeWhole_j2 r4 x1 x2 false else none else inrO (if (keysLt r4 r2.length) = true then some true else some false)
noncomputable def prelaw9_TreeWhole (a0 : List UInt8) : Option Bool :=
  (prelaw9_alive).bind fun r1 => if (!r1) = true then some false else (prelaw9_toks a0).bind fun r2 => (tree_Parse r2).bind fun r3 => if (!eqI r3.2.2.1 0) = true then some (eqI ((r3.2.2.2.2.2.length : Nat) : Int) 0) else (prelaw9_count r3.1 r3.2.1 r3.2.2.2.2.2 []).bind fun r4 => loopO (prelaw9_TreeWhole_b1 r2 r4) ((r2.length : Int), 0)
noncomputable def pf_prelaw9_TreeWhole : PF := PF.of (E1 dS) (fun a => prelaw9_TreeWhole a) dB
set_option maxRecDepth 100000 in
set_option maxHeartbeats 4000000 in
theorem prelaw9_TreeWhole_ok : PureOk Try.prog 3 pf_prelaw9_TreeWhole := by
  refine xFl mixed [1000086] [(5, pf_prelaw9_alive), (6, pf_prelaw9_toks), (9, pf_tree_Key)] [(7, true, S_tree_Parse), (8, true, S_prelaw9_count)] ⟨⟨call_5, prelaw9_alive_ok⟩, ⟨call_6, prelaw9_toks_ok⟩, ⟨call_9, tree_Key_ok⟩, trivial⟩ ⟨tree_Parse_k, prelaw9_count_k, trivial⟩ Try.func3 ?_
  rintro a0 out H
  have G := True.intro
  have Y := xZ y_3 <| xZ y_9 <| xZ y_23 <| xZ y_25 <| xZ y_27 <| xZ y_28 <| xZ y_30 <| xZ y_38 <| xZ Try.results3 <| xZ d_Call.eq_1 <| xZ d_Token.eq_1 <| xZ d_Fault.eq_1 <| xZ dq_Node <| xZ g_tree_Parse.eq_1 <| g_prelaw9_count.eq_1
  simp only [prelaw9_TreeWhole] at H
  refine xS ?_
  refine xr ?_
  obtain ⟨r1, hr1, H⟩ := osplit H
  have F := xC Y (prelaw9_alive_c  r1 hr1)
  refine xR ?_
  rcases bsplit H with ⟨hp1, H⟩ | ⟨hp1, H⟩
  · obtain ⟨F, G, hq1⟩ := xH Y G hp1
    refine xT ?_
    replace H := Option.some.inj H
    refine xr ?_
    subst H
    exact xN
  · obtain ⟨F, G, hq1⟩ := xH Y G hp1
    refine xE ?_
    obtain ⟨r2, hr2, H⟩ := osplit H
    have F := xC Y (prelaw9_toks_c a0 r2 hr2)
    refine xR ?_
    obtain ⟨r3, hr3, H⟩ := osplit H
    have F := Y
    refine xQ ?_
    refine xs 1 ?_
    refine xc ⟨[], []⟩ (tabG 0 (tree_Parse_c r2 r3 hr3)) ?_
    refine xs 7 ?_
    refine xl ?_
    refine xS ?_
    refine xr ?_
    rcases bsplit H with ⟨hp2, H⟩ | ⟨hp2, H⟩
    · obtain ⟨F, G, hq2⟩ := xH Y G hp2
      refine xT ?_
      replace H := Option.some.inj H
      refine xr ?_
      subst H
      exact xN
    · obtain ⟨F, G, hq2⟩ := xH Y G hp2
      refine xE ?_
      refine hM_make ?_
      refine xS ?_
      obtain ⟨r4, hr4, H⟩ := osplit H
      have F := Y
      refine xQ ?_
      refine xs 2 ?_
      refine xc ⟨[1, 4], []⟩ (tabG 1 (prelaw9_count_c r3.1 r3.2.1 r3.2.2.2.2.2 [] r4 hr4)) ?_
      refine xl ?_
      refine xS ?_
      refine xr ?_
      refine w_loop (prelaw9_TreeWhole_b1 r2 r4) (fun s => [(3, .c (.d (.sl 11 (List.map d_Token r2)))), (6, .c (.mo 1)), (31, .c (.d (.sl 11 (List.map d_Token r2)))), (32, .c (.d (.v (.int .i64 s.1)))), (33, .c (.d (.v (.int .i64 s.2))))]) (fun s => [[.ob (KMI r4)]]) [] H (xK ⟨[4], []⟩) ?_
      rintro n1 ⟨x1, x2⟩ o1 H hF1
      rw [prelaw9_TreeWhole_b1] at H
      refine xS ?_
      refine xr ?_
      rcases bsplit H with ⟨hp3, H⟩ | ⟨hp3, H⟩
      · obtain ⟨F, G, hq3⟩ := xH Y G hp3
        refine xT ?_
        obtain ⟨hg1, H⟩ := gsplit H
        have F := xZ Y (map_getD d_Token r2 x2.toNat default default (by omega))
        refine xR0 ?_
        refine then_normal ?_
        refine w_cut (prelaw9_TreeWhole_j2 r4 x1 x2) (fun s => [(3, .c (.d (.sl 11 (List.map d_Token r2)))), (6, .c (.mo 1)), (7, .c (.d (.v (.int .i64 x2)))), (9, .c (.d (.v (.bool s)))), (31, .c (.d (.sl 11 (List.map d_Token r2)))), (32, .c (.d (.v (.int .i64 x1)))), (33, .c (.d (.v (.int .i64 x2))))]) (fun s => [[.ob (KMI r4)]]) [] o1 ?_ ?_
        · rcases bsplit H with ⟨hp5, H⟩ | ⟨hp5, H⟩
          · obtain ⟨F, G, hq5⟩ := xH Y G hp5
            refine xR ?_
            exact cut_at H (xK ⟨[1], []⟩)
          · obtain ⟨F, G, hq5⟩ := xH Y G hp5
            rcases bsplit H with ⟨hp6, H⟩ | ⟨hp6, H⟩
            · obtain ⟨F, G, hq6⟩ := xH F G hp6
              refine xR ?_
              exact cut_at H (xK ⟨[1], []⟩)
            · obtain ⟨F, G, hq6⟩ := xH F G hp6
              rcases bsplit H with ⟨hp7, H⟩ | ⟨hp7, H⟩
              · obtain ⟨F, G, hq7⟩ := xH F G hp7
                refine xR ?_
                exact cut_at H (xK ⟨[1], []⟩)
              · obtain ⟨F, G, hq7⟩ := xH F G hp7
                rcases bsplit H with ⟨hp8, H⟩ | ⟨hp8, H⟩
                · obtain ⟨F, G, hq8⟩ := xH F G hp8
                  obtain ⟨r5, hr5, H⟩ := osplit H
                  have F := xCf F (tree_Key_c ((r2.getD x2.toNat default).Text) r5 hr5)
                  refine xR ?_
                  exact cut_at H (xK ⟨[1], []⟩)
                · obtain ⟨F, G, hq8⟩ := xH F G hp8
                  refine xR ?_
                  exact cut_at H (xK ⟨[1], []⟩)
        · rintro x3 H
          rw [prelaw9_TreeWhole_j2] at H
          refine xS ?_
          obtain ⟨hgh, H⟩ := gsplit H
          refine hM_bad r4 x2 x3 hgh ?_
          refine xS ?_
          rcases bsplit H with ⟨hp4, H⟩ | ⟨hp4, H⟩
          · obtain ⟨F, G, hq4⟩ := xH Y G hp4
            refine xT ?_
            replace H := inrO_fin H hF1
            replace H := Option.some.inj H
            refine xr ?_
            subst H
            exact xN
          · obtain ⟨F, G, hq4⟩ := xH Y G hp4
            refine xE ?_
            refine xr ?_
            exact round_at (inl_fin H hF1) (xK ⟨[1], []⟩)
      · obtain ⟨F, G, hq3⟩ := xH Y G hp3
        replace H := inrO_fin H hF1
        refine xE0 ?_
        refine w_exit ?_
        refine then_exit ?_
        refine round_exit ?_
        refine block_exit ?_
        refine then_normal ?_
        refine w_seq ?_
        rcases bsplit H with ⟨hp9, H⟩ | ⟨hp9, H⟩
        · obtain ⟨F, G, hq9⟩ := xH Y G hp9
          refine hS_T r4 r2 hp9 ?_
          refine xS ?_
          replace H := Option.some.inj H
          refine xr ?_
          subst H
          exact xN
        · obtain ⟨F, G, hq9⟩ := xH Y G hp9
          refine hS_F r4 r2 hp9 ?_
          replace H := Option.some.inj H
          refine xS ?_
          subst H
          exact xN
end Go.Proofs.Ytppomhjhokbacaa
