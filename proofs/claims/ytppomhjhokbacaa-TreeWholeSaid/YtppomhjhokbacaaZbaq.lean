/- Functions of data for functions of the program. Written by dec3.py. -/
import Derived.Test.YtppomhjhokbacaaZbak
import Derived.Test.YtppomhjhokbacaaZbao
set_option linter.unusedVariables false
set_option linter.unusedSimpArgs false
namespace Go.Proofs.Ytppomhjhokbacaa
open Go.RowKit
noncomputable def tree_parser_peek_j1 (a0 : List Token) (a1 : Int) : Bool → Option (List UInt8)
  | x1 => if x1 = true then if (0 : Int) ≤ a1 ∧ a1.toNat < a0.length then some ((a0.getD a1.toNat default).Text) else none else some []
noncomputable def tree_parser_peek (a0 : List Token) (a1 : Int) (a2 : Int) (a3 : List KD) : Option (List UInt8) :=
  if (ltI a1 (a0.length : Int)) = true then if (0 : Int) ≤ a1 ∧ a1.toNat < a0.length then if (eqI ((a0.getD a1.toNat default).Kind) 5) = true then tree_parser_peek_j1 a0 a1 true else if (0 : Int) ≤ a1 ∧ a1.toNat < a0.length then tree_parser_peek_j1 a0 a1 (eqI ((a0.getD a1.toNat default).Kind) 1) else none else none else tree_parser_peek_j1 a0 a1 false
def g_tree_parser_peek (a0 : List Token) (a1 : Int) (a2 : Int) (a3 : List KD) (r : (List UInt8)) : GI :=
  ⟨[.c (.pt 1 0)], [[.d (.sl 11 (List.map d_Token a0)), .d (.v (.int .i64 a1)), .d (.v (.int .i64 a2)), .kc (KSK a3)]], [], .ret (.c (.d (.v (str r)))) [[.d (.sl 11 (List.map d_Token a0)), .d (.v (.int .i64 a1)), .d (.v (.int .i64 a2)), .kc (KSK a3)]] []⟩
def S_tree_parser_peek : GI → Prop := fun g => ∃ (a0 : List Token) (a1 : Int) (a2 : Int) (a3 : List KD) (r : (List UInt8)), tree_parser_peek a0 a1 a2 a3 = some r ∧ g = g_tree_parser_peek a0 a1 a2 a3 r
theorem tree_parser_peek_c (a0 : List Token) (a1 : Int) (a2 : Int) (a3 : List KD) (r : (List UInt8)) (H : tree_parser_peek a0 a1 a2 a3 = some r) : S_tree_parser_peek (g_tree_parser_peek a0 a1 a2 a3 r) := ⟨a0, a1, a2, a3, r, H, rfl⟩
set_option maxRecDepth 100000 in
set_option maxHeartbeats 4000000 in
theorem tree_parser_peek_ok : ∀ g, S_tree_parser_peek g → GenOk Try.prog 19 g := by
  rintro _ ⟨a0, a1, a2, a3, r, H, rfl⟩
  refine xGn mixed [] [] [] trivial trivial trivial Try.func19 _ ?_
  have G := True.intro
  have Y := xZ y_3 <| xZ y_9 <| xZ y_23 <| xZ y_38 <| xZ y_51 <| xZ Try.results19 <| xZ d_Call.eq_1 <| xZ d_Token.eq_1 <| g_tree_parser_peek.eq_1
  dsimp only [g_tree_parser_peek]
  simp only [tree_parser_peek] at H
  refine xS ?_
  refine xr0 ?_
  refine then_normal ?_
  refine w_seq ?_
  refine w_cut (tree_parser_peek_j1 a0 a1) (fun s => [(0, .c (.pt 1 0)), (40, .c (.d (.v (.bool s))))]) (fun s => [[.d (.sl 11 (List.map d_Token a0)), .d (.v (.int .i64 a1)), .d (.v (.int .i64 a2)), .kc (KSK a3)]]) [] r ?_ ?_
  · rcases bsplit H with ⟨hp2, H⟩ | ⟨hp2, H⟩
    · obtain ⟨F, G, hq2⟩ := xH Y G hp2
      obtain ⟨hg2, H⟩ := gsplit H
      have F := xZ F (map_getD d_Token a0 a1.toNat default default (by omega))
      rcases bsplit H with ⟨hp3, H⟩ | ⟨hp3, H⟩
      · obtain ⟨F, G, hq3⟩ := xH F G hp3
        refine xR ?_
        exact cut_at H (xK ⟨[1], []⟩)
      · obtain ⟨F, G, hq3⟩ := xH F G hp3
        obtain ⟨hg3, H⟩ := gsplit H
        have F := xZ F (map_getD d_Token a0 a1.toNat default default (by omega))
        refine xR ?_
        exact cut_at H (xK ⟨[1], []⟩)
    · obtain ⟨F, G, hq2⟩ := xH Y G hp2
      refine xR ?_
      exact cut_at H (xK ⟨[1], []⟩)
  · rintro x1 H
    rw [tree_parser_peek_j1] at H
    rcases bsplit H with ⟨hp1, H⟩ | ⟨hp1, H⟩
    · obtain ⟨F, G, hq1⟩ := xH Y G hp1
      refine xT ?_
      obtain ⟨hg1, H⟩ := gsplit H
      have F := xZ Y (map_getD d_Token a0 a1.toNat default default (by omega))
      replace H := Option.some.inj H
      refine xR ?_
      subst H
      refine xrD [] ?_
      exact xO ⟨[1], []⟩
    · obtain ⟨F, G, hq1⟩ := xH Y G hp1
      refine xE ?_
      replace H := Option.some.inj H
      refine xr ?_
      subst H
      refine xrD [] ?_
      exact xO ⟨[1], []⟩
theorem tree_parser_peek_k : Callable Try.prog 19 ∧ (∀ g, S_tree_parser_peek g → GenOk Try.prog 19 g) ∧ (true = true → ∀ g, S_tree_parser_peek g → ∃ val bs ts, g.out = .ret val bs ts) :=
  ⟨call_19, tree_parser_peek_ok, fun _ => by rintro _ ⟨_, _, _, _, _, _, rfl⟩; exact ⟨_, _, _, rfl⟩⟩
noncomputable def tree_parser_eat (a0 : List UInt8) (a1 : List Token) (a2 : Int) (a3 : Int) (a4 : List KD) : Option (Bool × Int) :=
  (tree_parser_peek a1 a2 a3 a4).bind fun r1 => if (!eqS r1 a0) = true then some (false, a2) else some (true, IntKind.i64.wrap (a2 + 1))
def g_tree_parser_eat (a0 : List UInt8) (a1 : List Token) (a2 : Int) (a3 : Int) (a4 : List KD) (r : (Bool × Int)) : GI :=
  ⟨[.c (.pt 1 0), .c (.d (.v (str a0)))], [[.d (.sl 11 (List.map d_Token a1)), .d (.v (.int .i64 a2)), .d (.v (.int .i64 a3)), .kc (KSK a4)]], [], .ret (.c (.d (.v (.bool r.1)))) [[.d (.sl 11 (List.map d_Token a1)), .d (.v (.int .i64 r.2)), .d (.v (.int .i64 a3)), .kc (KSK a4)]] []⟩
def S_tree_parser_eat : GI → Prop := fun g => ∃ (a0 : List UInt8) (a1 : List Token) (a2 : Int) (a3 : Int) (a4 : List KD) (r : (Bool × Int)), tree_parser_eat a0 a1 a2 a3 a4 = some r ∧ g = g_tree_parser_eat a0 a1 a2 a3 a4 r
theorem tree_parser_eat_c (a0 : List UInt8) (a1 : List Token) (a2 : Int) (a3 : Int) (a4 : List KD) (r : (Bool × Int)) (H : tree_parser_eat a0 a1 a2 a3 a4 = some r) : S_tree_parser_eat (g_tree_parser_eat a0 a1 a2 a3 a4 r) := ⟨a0, a1, a2, a3, a4, r, H, rfl⟩
set_option maxRecDepth 100000 in
set_option maxHeartbeats 4000000 in
theorem tree_parser_eat_ok : ∀ g, S_tree_parser_eat g → GenOk Try.prog 23 g := by
  rintro _ ⟨a0, a1, a2, a3, a4, r, H, rfl⟩
  refine xGn mixed [] [(19, true, S_tree_parser_peek)] [] trivial ⟨tree_parser_peek_k, trivial⟩ trivial Try.func23 _ ?_
  have G := True.intro
  have Y := xZ y_3 <| xZ y_51 <| xZ Try.results23 <| xZ d_Call.eq_1 <| xZ d_Token.eq_1 <| xZ g_tree_parser_peek.eq_1 <| g_tree_parser_eat.eq_1
  dsimp only [g_tree_parser_eat]
  simp only [tree_parser_eat] at H
  refine xS ?_
  refine xr ?_
  obtain ⟨r1, hr1, H⟩ := osplit H
  have F := Y
  refine xQ ?_
  refine xs 1 ?_
  refine xc ⟨[1], []⟩ (tabG 0 (tree_parser_peek_c a1 a2 a3 a4 r1 hr1)) ?_
  refine xs 2 ?_
  refine xl ?_
  refine xS ?_
  rcases bsplit H with ⟨hp1, H⟩ | ⟨hp1, H⟩
  · obtain ⟨F, G, hq1⟩ := xH Y G hp1
    refine xT ?_
    replace H := Option.some.inj H
    refine xr ?_
    subst H
    refine xrD [] ?_
    exact xO ⟨[1], []⟩
  · obtain ⟨F, G, hq1⟩ := xH Y G hp1
    refine xE ?_
    refine xr ?_
    replace H := Option.some.inj H
    refine xr ?_
    subst H
    refine xrD [] ?_
    exact xO ⟨[1], []⟩
theorem tree_parser_eat_k : Callable Try.prog 23 ∧ (∀ g, S_tree_parser_eat g → GenOk Try.prog 23 g) ∧ (true = true → ∀ g, S_tree_parser_eat g → ∃ val bs ts, g.out = .ret val bs ts) :=
  ⟨call_23, tree_parser_eat_ok, fun _ => by rintro _ ⟨_, _, _, _, _, _, _, rfl⟩; exact ⟨_, _, _, rfl⟩⟩
noncomputable def tree_parser_isType_b2 (a3 : List KD) (r1 : (List UInt8)) : Int → Option (Int ⊕ Bool)
  | x2 => if (leI 0 x2) = true then if 0 ≤ x2 ∧ x2.toNat < a3.length ∧ r1.length ≤ 9223372036854775807 then if (kHas a3 x2 r1) = true then inrO (some (kVal a3 x2 r1)) else some (.inl (IntKind.i64.wrap (x2 - 1))) else none else inrO (some false)
noncomputable def tree_parser_isType_j1 (a3 : List KD) (r1 : (List UInt8)) : Bool → Option Bool
  | x1 => if x1 = true then some true else loopO (tree_parser_isType_b2 a3 r1) ((a3.length : Int) - 1)
noncomputable def tree_parser_isType (a0 : List Token) (a1 : Int) (a2 : Int) (a3 : List KD) : Option Bool :=
  (tree_parser_peek a0 a1 a2 a3).bind fun r1 => if (eqS r1 [105, 110, 116]) = true then tree_parser_isType_j1 a3 r1 true else if (eqS r1 [99, 104, 97, 114]) = true then tree_parser_isType_j1 a3 r1 true else if (eqS r1 [108, 111, 110, 103]) = true then tree_parser_isType_j1 a3 r1 true else tree_parser_isType_j1 a3 r1 (eqS r1 [118, 111, 105, 100])
def g_tree_parser_isType (a0 : List Token) (a1 : Int) (a2 : Int) (a3 : List KD) (r : Bool) : GI :=
  ⟨[.c (.pt 1 0)], [[.d (.sl 11 (List.map d_Token a0)), .d (.v (.int .i64 a1)), .d (.v (.int .i64 a2)), .kc (KSK a3)]], [], .ret (.c (.d (.v (.bool r)))) [[.d (.sl 11 (List.map d_Token a0)), .d (.v (.int .i64 a1)), .d (.v (.int .i64 a2)), .kc (KSK a3)]] []⟩
def S_tree_parser_isType : GI → Prop := fun g => ∃ (a0 : List Token) (a1 : Int) (a2 : Int) (a3 : List KD) (r : Bool), tree_parser_isType a0 a1 a2 a3 = some r ∧ g = g_tree_parser_isType a0 a1 a2 a3 r
theorem tree_parser_isType_c (a0 : List Token) (a1 : Int) (a2 : Int) (a3 : List KD) (r : Bool) (H : tree_parser_isType a0 a1 a2 a3 = some r) : S_tree_parser_isType (g_tree_parser_isType a0 a1 a2 a3 r) := ⟨a0, a1, a2, a3, r, H, rfl⟩
set_option maxRecDepth 100000 in
set_option maxHeartbeats 4000000 in
theorem tree_parser_isType_ok : ∀ g, S_tree_parser_isType g → GenOk Try.prog 32 g := by
  rintro _ ⟨a0, a1, a2, a3, r, H, rfl⟩
  refine xGnl mixed [1000039] [] [(19, true, S_tree_parser_peek)] [] trivial ⟨tree_parser_peek_k, trivial⟩ trivial Try.func32 _ ?_
  have G := True.intro
  have Y := xZ y_48 <| xZ y_49 <| xZ y_51 <| xZ Try.results32 <| xZ d_Call.eq_1 <| xZ d_Token.eq_1 <| xZ g_tree_parser_peek.eq_1 <| g_tree_parser_isType.eq_1
  dsimp only [g_tree_parser_isType]
  simp only [tree_parser_isType] at H
  refine xS ?_
  refine xr ?_
  obtain ⟨r1, hr1, H⟩ := osplit H
  have F := Y
  refine xQ ?_
  refine xs 1 ?_
  refine xc ⟨[1], []⟩ (tabG 0 (tree_parser_peek_c a0 a1 a2 a3 r1 hr1)) ?_
  refine xs 1 ?_
  refine xl ?_
  refine xS ?_
  refine xr0 ?_
  refine then_normal ?_
  refine w_block ?_
  refine w_cut (tree_parser_isType_j1 a3 r1) (fun s => [(0, .c (.pt 1 0)), (3, .c (.d (.v (str r1)))), (10, .c (.d (.v (.bool s))))]) (fun s => [[.d (.sl 11 (List.map d_Token a0)), .d (.v (.int .i64 a1)), .d (.v (.int .i64 a2)), .kc (KSK a3)]]) [] r ?_ ?_
  · refine xS ?_
    refine xr ?_
    rcases bsplit H with ⟨hp4, H⟩ | ⟨hp4, H⟩
    · obtain ⟨F, G, hq4⟩ := xH Y G hp4
      refine xT ?_
      exact cut_at H (xK ⟨[1], []⟩)
    · obtain ⟨F, G, hq4⟩ := xH Y G hp4
      refine xE ?_
      refine xr ?_
      rcases bsplit H with ⟨hp5, H⟩ | ⟨hp5, H⟩
      · obtain ⟨F, G, hq5⟩ := xH Y G hp5
        refine xT ?_
        exact cut_at H (xK ⟨[1], []⟩)
      · obtain ⟨F, G, hq5⟩ := xH Y G hp5
        refine xE ?_
        refine xr ?_
        rcases bsplit H with ⟨hp6, H⟩ | ⟨hp6, H⟩
        · obtain ⟨F, G, hq6⟩ := xH Y G hp6
          refine xT ?_
          exact cut_at H (xK ⟨[1], []⟩)
        · obtain ⟨F, G, hq6⟩ := xH Y G hp6
          refine xE ?_
          refine xr ?_
          exact cut_at H (xK ⟨[1], []⟩)
  · rintro x1 H
    rw [tree_parser_isType_j1] at H
    rcases bsplit H with ⟨hp1, H⟩ | ⟨hp1, H⟩
    · obtain ⟨F, G, hq1⟩ := xH Y G hp1
      refine xT ?_
      replace H := Option.some.inj H
      refine xr ?_
      subst H
      refine xrD [] ?_
      exact xO ⟨[1], []⟩
    · obtain ⟨F, G, hq1⟩ := xH Y G hp1
      refine xE ?_
      refine hK_len a3 ?_
      refine xS ?_
      refine w_loop (tree_parser_isType_b2 a3 r1) (fun s => [(0, .c (.pt 1 0)), (3, .c (.d (.v (str r1)))), (4, .c (.d (.v (.int .i64 s))))]) (fun s => [[.d (.sl 11 (List.map d_Token a0)), .d (.v (.int .i64 a1)), .d (.v (.int .i64 a2)), .kc (KSK a3)]]) [] H (xK ⟨[1], []⟩) ?_
      rintro n1 x2 o1 H hF1
      rw [tree_parser_isType_b2] at H
      refine xS ?_
      refine xr ?_
      rcases bsplit H with ⟨hp2, H⟩ | ⟨hp2, H⟩
      · obtain ⟨F, G, hq2⟩ := xH Y G hp2
        refine xT ?_
        obtain ⟨hgh, H⟩ := gsplit H
        refine hK_look a3 r1 x2 hgh ?_
        refine xS ?_
        refine xr ?_
        rcases bsplit H with ⟨hp3, H⟩ | ⟨hp3, H⟩
        · obtain ⟨F, G, hq3⟩ := xH Y G hp3
          refine xT ?_
          replace H := inrO_fin H hF1
          replace H := Option.some.inj H
          refine xr ?_
          subst H
          refine xrD [] ?_
          exact xO ⟨[1], []⟩
        · obtain ⟨F, G, hq3⟩ := xH Y G hp3
          refine xE ?_
          refine xr ?_
          exact round_at (inl_fin H hF1) (xK ⟨[1], []⟩)
      · obtain ⟨F, G, hq2⟩ := xH Y G hp2
        replace H := inrO_fin H hF1
        refine xE ?_
        replace H := Option.some.inj H
        refine xr ?_
        subst H
        refine xrD [] ?_
        exact xO ⟨[1], []⟩
theorem tree_parser_isType_k : Callable Try.prog 32 ∧ (∀ g, S_tree_parser_isType g → GenOk Try.prog 32 g) ∧ (true = true → ∀ g, S_tree_parser_isType g → ∃ val bs ts, g.out = .ret val bs ts) :=
  ⟨call_32, tree_parser_isType_ok, fun _ => by rintro _ ⟨_, _, _, _, _, _, rfl⟩; exact ⟨_, _, _, rfl⟩⟩
noncomputable def tree_parser_fail_j1 : (Int × Int) → Option (Int × Int)
  | (x1, x2) => some (x1, x2)
noncomputable def tree_parser_fail (a0 : Int) (a1 : List Token) (a2 : Int) (a3 : Int) (a4 : List KD) : Option (Int × Int) :=
  if (ltI a2 (a1.length : Int)) = true then if (0 : Int) ≤ a2 ∧ a2.toNat < a1.length then if (0 : Int) ≤ a2 ∧ a2.toNat < a1.length then tree_parser_fail_j1 ((a1.getD a2.toNat default).File, (a1.getD a2.toNat default).At) else none else none else if (ltI 0 (a1.length : Int)) = true then if (0 : Int) ≤ (IntKind.i64.wrap ((a1.length : Int) - 1)) ∧ (IntKind.i64.wrap ((a1.length : Int) - 1)).toNat < a1.length then if (0 : Int) ≤ (IntKind.i64.wrap ((a1.length : Int) - 1)) ∧ (IntKind.i64.wrap ((a1.length : Int) - 1)).toNat < a1.length then tree_parser_fail_j1 ((a1.getD ((IntKind.i64.wrap ((a1.length : Int) - 1)).toNat) default).File, (a1.getD ((IntKind.i64.wrap ((a1.length : Int) - 1)).toNat) default).End) else none else none else tree_parser_fail_j1 ((-1), 0)
def g_tree_parser_fail (a0 : Int) (a1 : List Token) (a2 : Int) (a3 : Int) (a4 : List KD) (r : (Int × Int)) : GI :=
  ⟨[.c (.pt 1 0), .c (.d (.v (.int .i64 a0)))], [[.d (.sl 11 (List.map d_Token a1)), .d (.v (.int .i64 a2)), .d (.v (.int .i64 a3)), .kc (KSK a4)]], [], .pan (.iface 46 (.agg ⟨[.int .i64 a0, .int .i64 r.1, .int .i64 r.2]⟩)) [[.d (.sl 11 (List.map d_Token a1)), .d (.v (.int .i64 a2)), .d (.v (.int .i64 a3)), .kc (KSK a4)]] []⟩
def S_tree_parser_fail : GI → Prop := fun g => ∃ (a0 : Int) (a1 : List Token) (a2 : Int) (a3 : Int) (a4 : List KD) (r : (Int × Int)), tree_parser_fail a0 a1 a2 a3 a4 = some r ∧ g = g_tree_parser_fail a0 a1 a2 a3 a4 r
theorem tree_parser_fail_c (a0 : Int) (a1 : List Token) (a2 : Int) (a3 : Int) (a4 : List KD) (r : (Int × Int)) (H : tree_parser_fail a0 a1 a2 a3 a4 = some r) : S_tree_parser_fail (g_tree_parser_fail a0 a1 a2 a3 a4 r) := ⟨a0, a1, a2, a3, a4, r, H, rfl⟩
set_option maxRecDepth 100000 in
set_option maxHeartbeats 4000000 in
theorem tree_parser_fail_ok : ∀ g, S_tree_parser_fail g → GenOk Try.prog 33 g := by
  rintro _ ⟨a0, a1, a2, a3, a4, r, H, rfl⟩
  refine xGnl mixed [2, 4] [] [] [] trivial trivial trivial Try.func33 _ ?_
  have G := True.intro
  have Y := xZ y_3 <| xZ y_23 <| xZ y_28 <| xZ y_30 <| xZ y_38 <| xZ y_46 <| xZ y_51 <| xZ Try.results33 <| xZ d_Call.eq_1 <| xZ d_Token.eq_1 <| g_tree_parser_fail.eq_1
  dsimp only [g_tree_parser_fail]
  simp only [tree_parser_fail] at H
  refine xS ?_
  refine xr0 ?_
  refine then_normal ?_
  refine w_cut tree_parser_fail_j1 (fun s => [(4, .c (.pt 2 0))]) (fun s => [[.d (.sl 11 (List.map d_Token a1)), .d (.v (.int .i64 a2)), .d (.v (.int .i64 a3)), .kc (KSK a4)], [.d (.v (.int .i64 a0)), .d (.v (.int .i64 s.1)), .d (.v (.int .i64 s.2))]]) [] r ?_ ?_
  · refine xS ?_
    refine xr ?_
    rcases bsplit H with ⟨hp1, H⟩ | ⟨hp1, H⟩
    · obtain ⟨F, G, hq1⟩ := xH Y G hp1
      refine xT ?_
      obtain ⟨hg1, H⟩ := gsplit H
      have F := xZ Y (map_getD d_Token a1 a2.toNat default default (by omega))
      obtain ⟨hg2, H⟩ := gsplit H
      have F := xZ F (map_getD d_Token a1 a2.toNat default default (by omega))
      refine xP [0, 1, 2, 3, 4, 5, 6, 7, 8, 9, 10, 11, 12, 13, 14, 15, 16, 17, 18, 19, 20, 21, 22, 23, 24, 25] [32, 36, 39] trivial ?_
      refine xsX 14 ?_
      refine xaX ?_
      refine xsX 3 ?_
      refine xaX ?_
      refine xsX 2 ?_
      refine xaX ?_
      refine xsX 1 ?_
      refine xbX ?_
      refine xsX 1 ?_
      refine xbX ?_
      refine xlX ?_
      refine xS ?_
      exact cut_at H (xK ⟨[1,2], []⟩)
    · obtain ⟨F, G, hq1⟩ := xH Y G hp1
      refine xE ?_
      refine xr ?_
      rcases bsplit H with ⟨hp2, H⟩ | ⟨hp2, H⟩
      · obtain ⟨F, G, hq2⟩ := xH Y G hp2
        refine xT ?_
        obtain ⟨hg3, H⟩ := gsplit H
        have F := xZ Y (map_getD d_Token a1 ((IntKind.i64.wrap ((a1.length : Int) - 1)).toNat) default default (by omega))
        obtain ⟨hg4, H⟩ := gsplit H
        have F := xZ F (map_getD d_Token a1 ((IntKind.i64.wrap ((a1.length : Int) - 1)).toNat) default default (by omega))
        refine xP [0, 1, 2, 3, 4, 5, 6, 7, 8, 9, 10, 11, 12, 13, 14, 15, 16, 17, 18, 19, 20, 21, 22, 23, 24, 25, 26, 27, 28, 29] [65, 69, 74] trivial ?_
        refine xsX 16 ?_
        refine xaX ?_
        refine xsX 3 ?_
        refine xaX ?_
        refine xsX 4 ?_
        refine xaX ?_
        refine xsX 1 ?_
        refine xbX ?_
        refine xsX 1 ?_
        refine xbX ?_
        refine xlX ?_
        refine xS ?_
        exact cut_at H (xK ⟨[1,2], []⟩)
      · obtain ⟨F, G, hq2⟩ := xH Y G hp2
        refine xE ?_
        exact cut_at H (xK ⟨[1,2], []⟩)
  · rintro ⟨x1, x2⟩ H
    rw [tree_parser_fail_j1] at H
    have F := Y
    refine xQp [77, 78, 79] ?_
    refine xs 3 ?_
    refine xv ?_
    replace H := Option.some.inj H
    refine xS ?_
    subst H
    refine xpD [] ?_
    exact xOv ⟨[1], []⟩
theorem tree_parser_fail_k : Callable Try.prog 33 ∧ (∀ g, S_tree_parser_fail g → GenOk Try.prog 33 g) ∧ (false = true → ∀ g, S_tree_parser_fail g → ∃ val bs ts, g.out = .ret val bs ts) :=
  ⟨call_33, tree_parser_fail_ok, nofun⟩
noncomputable def tree_parser_typ (a0 : List Token) (a1 : Int) (a2 : Int) (a3 : List KD) : Option (GR (Int × Int) (Int × Int)) :=
  (tree_parser_isType a0 a1 a2 a3).bind fun r1 => if (!r1) = true then (tree_parser_fail 2 a0 a1 a2 a3).bind fun e1 => some (.er (e1.1, e1.2)) else some (.ok (IntKind.i64.wrap ((IntKind.i64.wrap (a1 + 1)) - 1), IntKind.i64.wrap (a1 + 1)))
def u_tree_parser_typ (a0 : List Token) (a1 : Int) (a2 : Int) (a3 : List KD) : GR (Int × Int) (Int × Int) → GOut
  | .ok r => .ret (.ag [.d (.v (.int .i64 16)), .d (.v (.int .i64 r.1)), .sl 3 [] 0]) [[.d (.sl 11 (List.map d_Token a0)), .d (.v (.int .i64 r.2)), .d (.v (.int .i64 a2)), .kc (KSK a3)]] []
  | .er r => .pan (.iface 46 (.agg ⟨[.int .i64 2, .int .i64 r.1, .int .i64 r.2]⟩)) [[.d (.sl 11 (List.map d_Token a0)), .d (.v (.int .i64 a1)), .d (.v (.int .i64 a2)), .kc (KSK a3)]] []
def g_tree_parser_typ (a0 : List Token) (a1 : Int) (a2 : Int) (a3 : List KD) (r : GR (Int × Int) (Int × Int)) : GI :=
  ⟨[.c (.pt 1 0)], [[.d (.sl 11 (List.map d_Token a0)), .d (.v (.int .i64 a1)), .d (.v (.int .i64 a2)), .kc (KSK a3)]], [], u_tree_parser_typ a0 a1 a2 a3 r⟩
def S_tree_parser_typ : GI → Prop := fun g => ∃ (a0 : List Token) (a1 : Int) (a2 : Int) (a3 : List KD) (r : GR (Int × Int) (Int × Int)), tree_parser_typ a0 a1 a2 a3 = some r ∧ g = g_tree_parser_typ a0 a1 a2 a3 r
theorem tree_parser_typ_c (a0 : List Token) (a1 : Int) (a2 : Int) (a3 : List KD) (r : GR (Int × Int) (Int × Int)) (H : tree_parser_typ a0 a1 a2 a3 = some r) : S_tree_parser_typ (g_tree_parser_typ a0 a1 a2 a3 r) := ⟨a0, a1, a2, a3, r, H, rfl⟩
set_option maxRecDepth 100000 in
set_option maxHeartbeats 4000000 in
theorem tree_parser_typ_ok : ∀ g, S_tree_parser_typ g → GenOk Try.prog 21 g := by
  rintro _ ⟨a0, a1, a2, a3, r, H, rfl⟩
  refine xGn mixed [] [(32, true, S_tree_parser_isType), (33, false, S_tree_parser_fail)] [] trivial ⟨tree_parser_isType_k, tree_parser_fail_k, trivial⟩ trivial Try.func21 _ ?_
  have G := True.intro
  have Y := xZ y_3 <| xZ y_25 <| xZ y_27 <| xZ y_51 <| xZ Try.results21 <| xZ d_Call.eq_1 <| xZ d_Token.eq_1 <| xZ dq_Node <| xZ g_tree_parser_isType.eq_1 <| xZ g_tree_parser_fail.eq_1 <| g_tree_parser_typ.eq_1
  dsimp only [g_tree_parser_typ]
  simp only [tree_parser_typ] at H
  refine xS ?_
  refine xr ?_
  obtain ⟨r1, hr1, H⟩ := osplit H
  have F := Y
  refine xQ ?_
  refine xs 1 ?_
  refine xc ⟨[1], []⟩ (tabG 0 (tree_parser_isType_c a0 a1 a2 a3 r1 hr1)) ?_
  refine xs 1 ?_
  refine xl ?_
  refine xS ?_
  rcases bsplit H with ⟨hp1, H⟩ | ⟨hp1, H⟩
  · obtain ⟨F, G, hq1⟩ := xH Y G hp1
    refine xT ?_
    obtain ⟨e1, hr3, H⟩ := osplit H
    have F := Y
    refine xQp [6, 7] ?_
    refine xs 1 ?_
    refine xp ⟨[1], []⟩ (tabG 1 (tree_parser_fail_c 2 a0 a1 a2 a3 e1 hr3)) ?_
    replace H := Option.some.inj H
    refine xS ?_
    subst H
    refine xpD [] ?_
    exact xOv ⟨[1], []⟩
  · obtain ⟨F, G, hq1⟩ := xH Y G hp1
    refine xE ?_
    refine xr ?_
    replace H := Option.some.inj H
    refine xr ?_
    subst H
    refine xrD [] ?_
    exact xO ⟨[1], []⟩
theorem tree_parser_typ_k : Callable Try.prog 21 ∧ (∀ g, S_tree_parser_typ g → GenOk Try.prog 21 g) ∧ (false = true → ∀ g, S_tree_parser_typ g → ∃ val bs ts, g.out = .ret val bs ts) :=
  ⟨call_21, tree_parser_typ_ok, nofun⟩
noncomputable def tree_Key_j1 : Bool → Option Bool
  | x1 => if x1 = true then some true else some false
noncomputable def tree_Key (a0 : List UInt8) : Option Bool :=
  if (eqS a0 [105, 110, 116]) = true then tree_Key_j1 true else if (eqS a0 [99, 104, 97, 114]) = true then tree_Key_j1 true else if (eqS a0 [108, 111, 110, 103]) = true then tree_Key_j1 true else if (eqS a0 [118, 111, 105, 100]) = true then tree_Key_j1 true else if (eqS a0 [116, 121, 112, 101, 100, 101, 102]) = true then tree_Key_j1 true else if (eqS a0 [105, 102]) = true then tree_Key_j1 true else if (eqS a0 [101, 108, 115, 101]) = true then tree_Key_j1 true else if (eqS a0 [119, 104, 105, 108, 101]) = true then tree_Key_j1 true else tree_Key_j1 (eqS a0 [114, 101, 116, 117, 114, 110])
noncomputable def pf_tree_Key : PF := PF.of (E1 dS) (fun a => tree_Key a) dB
set_option maxRecDepth 100000 in
set_option maxHeartbeats 4000000 in
theorem tree_Key_ok : PureOk Try.prog 9 pf_tree_Key := by
  refine xF mixed [] [] trivial trivial Try.func9 ?_
  rintro a0 out H
  have G := True.intro
  have Y := Try.results9
  simp only [tree_Key] at H
  refine xS ?_
  refine xr ?_
  refine xr0 ?_
  refine then_normal ?_
  refine w_block ?_
  refine w_cut tree_Key_j1 (fun s => [(4, .c (.d (.v (.bool s))))]) (fun s => []) [] out ?_ ?_
  · refine xS ?_
    refine xr ?_
    rcases bsplit H with ⟨hp2, H⟩ | ⟨hp2, H⟩
    · obtain ⟨F, G, hq2⟩ := xH Y G hp2
      refine xT ?_
      exact cut_at H (xK ⟨[], []⟩)
    · obtain ⟨F, G, hq2⟩ := xH Y G hp2
      refine xE ?_
      refine xr ?_
      rcases bsplit H with ⟨hp3, H⟩ | ⟨hp3, H⟩
      · obtain ⟨F, G, hq3⟩ := xH Y G hp3
        refine xT ?_
        exact cut_at H (xK ⟨[], []⟩)
      · obtain ⟨F, G, hq3⟩ := xH Y G hp3
        refine xE ?_
        refine xr ?_
        rcases bsplit H with ⟨hp4, H⟩ | ⟨hp4, H⟩
        · obtain ⟨F, G, hq4⟩ := xH Y G hp4
          refine xT ?_
          exact cut_at H (xK ⟨[], []⟩)
        · obtain ⟨F, G, hq4⟩ := xH Y G hp4
          refine xE ?_
          refine xr ?_
          rcases bsplit H with ⟨hp5, H⟩ | ⟨hp5, H⟩
          · obtain ⟨F, G, hq5⟩ := xH Y G hp5
            refine xT ?_
            exact cut_at H (xK ⟨[], []⟩)
          · obtain ⟨F, G, hq5⟩ := xH Y G hp5
            refine xE ?_
            refine xr ?_
            rcases bsplit H with ⟨hp6, H⟩ | ⟨hp6, H⟩
            · obtain ⟨F, G, hq6⟩ := xH Y G hp6
              refine xT ?_
              exact cut_at H (xK ⟨[], []⟩)
            · obtain ⟨F, G, hq6⟩ := xH Y G hp6
              refine xE ?_
              refine xr ?_
              rcases bsplit H with ⟨hp7, H⟩ | ⟨hp7, H⟩
              · obtain ⟨F, G, hq7⟩ := xH Y G hp7
                refine xT ?_
                exact cut_at H (xK ⟨[], []⟩)
              · obtain ⟨F, G, hq7⟩ := xH Y G hp7
                refine xE ?_
                refine xr ?_
                rcases bsplit H with ⟨hp8, H⟩ | ⟨hp8, H⟩
                · obtain ⟨F, G, hq8⟩ := xH Y G hp8
                  refine xT ?_
                  exact cut_at H (xK ⟨[], []⟩)
                · obtain ⟨F, G, hq8⟩ := xH Y G hp8
                  refine xE ?_
                  refine xr ?_
                  rcases bsplit H with ⟨hp9, H⟩ | ⟨hp9, H⟩
                  · obtain ⟨F, G, hq9⟩ := xH Y G hp9
                    refine xT ?_
                    exact cut_at H (xK ⟨[], []⟩)
                  · obtain ⟨F, G, hq9⟩ := xH Y G hp9
                    refine xE ?_
                    refine xr ?_
                    exact cut_at H (xK ⟨[], []⟩)
  · rintro x1 H
    rw [tree_Key_j1] at H
    rcases bsplit H with ⟨hp1, H⟩ | ⟨hp1, H⟩
    · obtain ⟨F, G, hq1⟩ := xH Y G hp1
      refine xT ?_
      replace H := Option.some.inj H
      refine xr ?_
      subst H
      exact xN
    · obtain ⟨F, G, hq1⟩ := xH Y G hp1
      refine xE ?_
      replace H := Option.some.inj H
      refine xr ?_
      subst H
      exact xN
theorem tree_Key_c (a0 : List UInt8) (r : Bool) (H : tree_Key a0 = some r) : PC pf_tree_Key [dS a0] (dB r) := PF.c (a := a0) H
noncomputable def tree_parser_name_j1 (a0 : List Token) (a1 : Int) (a2 : Int) (a3 : List KD) : Bool → Option (GR (Int × Int) (Int × Int))
  | x1 => if x1 = true then (tree_parser_fail 2 a0 a1 a2 a3).bind fun e1 => some (.er (e1.1, e1.2)) else some (.ok (IntKind.i64.wrap ((IntKind.i64.wrap (a1 + 1)) - 1), IntKind.i64.wrap (a1 + 1)))
noncomputable def tree_parser_name (a0 : List Token) (a1 : Int) (a2 : Int) (a3 : List KD) : Option (GR (Int × Int) (Int × Int)) :=
  if (eqI a1 (a0.length : Int)) = true then tree_parser_name_j1 a0 a1 a2 a3 true else if (0 : Int) ≤ a1 ∧ a1.toNat < a0.length then if (!eqI ((a0.getD a1.toNat default).Kind) 1) = true then tree_parser_name_j1 a0 a1 a2 a3 true else if (0 : Int) ≤ a1 ∧ a1.toNat < a0.length then (tree_Key ((a0.getD a1.toNat default).Text)).bind fun r2 => tree_parser_name_j1 a0 a1 a2 a3 r2 else none else none
def u_tree_parser_name (a0 : List Token) (a1 : Int) (a2 : Int) (a3 : List KD) : GR (Int × Int) (Int × Int) → GOut
  | .ok r => .ret (.c (.d (.v (.int .i64 r.1)))) [[.d (.sl 11 (List.map d_Token a0)), .d (.v (.int .i64 r.2)), .d (.v (.int .i64 a2)), .kc (KSK a3)]] []
  | .er r => .pan (.iface 46 (.agg ⟨[.int .i64 2, .int .i64 r.1, .int .i64 r.2]⟩)) [[.d (.sl 11 (List.map d_Token a0)), .d (.v (.int .i64 a1)), .d (.v (.int .i64 a2)), .kc (KSK a3)]] []
def g_tree_parser_name (a0 : List Token) (a1 : Int) (a2 : Int) (a3 : List KD) (r : GR (Int × Int) (Int × Int)) : GI :=
  ⟨[.c (.pt 1 0)], [[.d (.sl 11 (List.map d_Token a0)), .d (.v (.int .i64 a1)), .d (.v (.int .i64 a2)), .kc (KSK a3)]], [], u_tree_parser_name a0 a1 a2 a3 r⟩
def S_tree_parser_name : GI → Prop := fun g => ∃ (a0 : List Token) (a1 : Int) (a2 : Int) (a3 : List KD) (r : GR (Int × Int) (Int × Int)), tree_parser_name a0 a1 a2 a3 = some r ∧ g = g_tree_parser_name a0 a1 a2 a3 r
theorem tree_parser_name_c (a0 : List Token) (a1 : Int) (a2 : Int) (a3 : List KD) (r : GR (Int × Int) (Int × Int)) (H : tree_parser_name a0 a1 a2 a3 = some r) : S_tree_parser_name (g_tree_parser_name a0 a1 a2 a3 r) := ⟨a0, a1, a2, a3, r, H, rfl⟩
set_option maxRecDepth 100000 in
set_option maxHeartbeats 4000000 in
theorem tree_parser_name_ok : ∀ g, S_tree_parser_name g → GenOk Try.prog 34 g := by
  rintro _ ⟨a0, a1, a2, a3, r, H, rfl⟩
  refine xGn mixed [(9, pf_tree_Key)] [(33, false, S_tree_parser_fail)] [] ⟨⟨call_9, tree_Key_ok⟩, trivial⟩ ⟨tree_parser_fail_k, trivial⟩ trivial Try.func34 _ ?_
  have G := True.intro
  have Y := xZ y_3 <| xZ y_9 <| xZ y_23 <| xZ y_38 <| xZ y_51 <| xZ Try.results34 <| xZ d_Call.eq_1 <| xZ d_Token.eq_1 <| xZ g_tree_parser_fail.eq_1 <| g_tree_parser_name.eq_1
  dsimp only [g_tree_parser_name]
  simp only [tree_parser_name] at H
  refine xS ?_
  refine xr0 ?_
  refine then_normal ?_
  refine w_seq ?_
  refine w_cut (tree_parser_name_j1 a0 a1 a2 a3) (fun s => [(0, .c (.pt 1 0)), (40, .c (.d (.v (.bool s))))]) (fun s => [[.d (.sl 11 (List.map d_Token a0)), .d (.v (.int .i64 a1)), .d (.v (.int .i64 a2)), .kc (KSK a3)]]) [] r ?_ ?_
  · rcases bsplit H with ⟨hp2, H⟩ | ⟨hp2, H⟩
    · obtain ⟨F, G, hq2⟩ := xH Y G hp2
      refine xR ?_
      exact cut_at H (xK ⟨[1], []⟩)
    · obtain ⟨F, G, hq2⟩ := xH Y G hp2
      obtain ⟨hg1, H⟩ := gsplit H
      have F := xZ F (map_getD d_Token a0 a1.toNat default default (by omega))
      rcases bsplit H with ⟨hp3, H⟩ | ⟨hp3, H⟩
      · obtain ⟨F, G, hq3⟩ := xH F G hp3
        refine xR ?_
        exact cut_at H (xK ⟨[1], []⟩)
      · obtain ⟨F, G, hq3⟩ := xH F G hp3
        obtain ⟨hg2, H⟩ := gsplit H
        have F := xZ F (map_getD d_Token a0 a1.toNat default default (by omega))
        obtain ⟨r2, hr3, H⟩ := osplit H
        have F := xCf F (tree_Key_c ((a0.getD a1.toNat default).Text) r2 hr3)
        refine xR ?_
        exact cut_at H (xK ⟨[1], []⟩)
  · rintro x1 H
    rw [tree_parser_name_j1] at H
    rcases bsplit H with ⟨hp1, H⟩ | ⟨hp1, H⟩
    · obtain ⟨F, G, hq1⟩ := xH Y G hp1
      refine xT ?_
      obtain ⟨e1, hr2, H⟩ := osplit H
      have F := Y
      refine xQp [41, 42] ?_
      refine xs 1 ?_
      refine xp ⟨[1], []⟩ (tabG 0 (tree_parser_fail_c 2 a0 a1 a2 a3 e1 hr2)) ?_
      replace H := Option.some.inj H
      refine xS ?_
      subst H
      refine xpD [] ?_
      exact xOv ⟨[1], []⟩
    · obtain ⟨F, G, hq1⟩ := xH Y G hp1
      refine xE ?_
      refine xr ?_
      replace H := Option.some.inj H
      refine xr ?_
      subst H
      refine xrD [] ?_
      exact xO ⟨[1], []⟩
theorem tree_parser_name_k : Callable Try.prog 34 ∧ (∀ g, S_tree_parser_name g → GenOk Try.prog 34 g) ∧ (false = true → ∀ g, S_tree_parser_name g → ∃ val bs ts, g.out = .ret val bs ts) :=
  ⟨call_34, tree_parser_name_ok, nofun⟩
noncomputable def tree_parser_down (a0 : List Token) (a1 : Int) (a2 : Int) (a3 : List KD) : Option (GR (Int × Int) Int) :=
  if (eqI a2 30) = true then (tree_parser_fail 10 a0 a1 a2 a3).bind fun e1 => some (.er (e1.1, e1.2)) else some (.ok (IntKind.i64.wrap (a2 + 1)))
def u_tree_parser_down (a0 : List Token) (a1 : Int) (a2 : Int) (a3 : List KD) : GR (Int × Int) Int → GOut
  | .ok r => .ret (.c (.clo 42 [2])) [[.d (.sl 11 (List.map d_Token a0)), .d (.v (.int .i64 a1)), .d (.v (.int .i64 r)), .kc (KSK a3)], [.pt 1 0]] []
  | .er r => .pan (.iface 46 (.agg ⟨[.int .i64 10, .int .i64 r.1, .int .i64 r.2]⟩)) [[.d (.sl 11 (List.map d_Token a0)), .d (.v (.int .i64 a1)), .d (.v (.int .i64 a2)), .kc (KSK a3)]] []
def g_tree_parser_down (a0 : List Token) (a1 : Int) (a2 : Int) (a3 : List KD) (r : GR (Int × Int) Int) : GI :=
  ⟨[.c (.pt 1 0)], [[.d (.sl 11 (List.map d_Token a0)), .d (.v (.int .i64 a1)), .d (.v (.int .i64 a2)), .kc (KSK a3)]], [], u_tree_parser_down a0 a1 a2 a3 r⟩
def S_tree_parser_down : GI → Prop := fun g => ∃ (a0 : List Token) (a1 : Int) (a2 : Int) (a3 : List KD) (r : GR (Int × Int) Int), tree_parser_down a0 a1 a2 a3 = some r ∧ g = g_tree_parser_down a0 a1 a2 a3 r
theorem tree_parser_down_c (a0 : List Token) (a1 : Int) (a2 : Int) (a3 : List KD) (r : GR (Int × Int) Int) (H : tree_parser_down a0 a1 a2 a3 = some r) : S_tree_parser_down (g_tree_parser_down a0 a1 a2 a3 r) := ⟨a0, a1, a2, a3, r, H, rfl⟩
set_option maxRecDepth 100000 in
set_option maxHeartbeats 4000000 in
theorem tree_parser_down_ok : ∀ g, S_tree_parser_down g → GenOk Try.prog 38 g := by
  rintro _ ⟨a0, a1, a2, a3, r, H, rfl⟩
  refine xGn mixed [] [(33, false, S_tree_parser_fail)] [] trivial ⟨tree_parser_fail_k, trivial⟩ trivial Try.func38 _ ?_
  have G := True.intro
  have Y := xZ y_3 <| xZ y_47 <| xZ y_51 <| xZ Try.results38 <| xZ d_Call.eq_1 <| xZ d_Token.eq_1 <| xZ g_tree_parser_fail.eq_1 <| g_tree_parser_down.eq_1
  dsimp only [g_tree_parser_down]
  simp only [tree_parser_down] at H
  refine xS ?_
  refine xr ?_
  refine xr ?_
  rcases bsplit H with ⟨hp1, H⟩ | ⟨hp1, H⟩
  · obtain ⟨F, G, hq1⟩ := xH Y G hp1
    refine xT ?_
    obtain ⟨e1, hr2, H⟩ := osplit H
    have F := Y
    refine xQp [8, 9] ?_
    refine xs 1 ?_
    refine xp ⟨[1], []⟩ (tabG 0 (tree_parser_fail_c 10 a0 a1 a2 a3 e1 hr2)) ?_
    replace H := Option.some.inj H
    refine xS ?_
    subst H
    refine xpD [] ?_
    exact xOv ⟨[1], []⟩
  · obtain ⟨F, G, hq1⟩ := xH Y G hp1
    refine xE ?_
    refine xr ?_
    replace H := Option.some.inj H
    refine xr ?_
    subst H
    refine xrD [] ?_
    exact xO ⟨[1, 2], []⟩
theorem tree_parser_down_k : Callable Try.prog 38 ∧ (∀ g, S_tree_parser_down g → GenOk Try.prog 38 g) ∧ (false = true → ∀ g, S_tree_parser_down g → ∃ val bs ts, g.out = .ret val bs ts) :=
  ⟨call_38, tree_parser_down_ok, nofun⟩
noncomputable def tree_parser_down_1 (a0 : List Token) (a1 : Int) (a2 : Int) (a3 : List KD) : Option Int :=
  some (IntKind.i64.wrap (a2 - 1))
def di_tree_parser_down_1 (a0 : List Token) (a1 : Int) (a2 : Int) (a3 : List KD) (r : Int) (u : Option Value) : DI :=
  ⟨[.c (.pt 1 0)], [[.pt 2 0], [.d (.sl 11 (List.map d_Token a0)), .d (.v (.int .i64 a1)), .d (.v (.int .i64 a2)), .kc (KSK a3)]], [], u, [[.pt 2 0], [.d (.sl 11 (List.map d_Token a0)), .d (.v (.int .i64 a1)), .d (.v (.int .i64 r)), .kc (KSK a3)]], [], u⟩
def SD_tree_parser_down_1 : DI → Prop := fun d => ∃ (a0 : List Token) (a1 : Int) (a2 : Int) (a3 : List KD) (r : Int) (u : Option Value), tree_parser_down_1 a0 a1 a2 a3 = some r ∧ d = di_tree_parser_down_1 a0 a1 a2 a3 r u
theorem tree_parser_down_1_dc (a0 : List Token) (a1 : Int) (a2 : Int) (a3 : List KD) (r : Int) (u : Option Value) (H : tree_parser_down_1 a0 a1 a2 a3 = some r) : SD_tree_parser_down_1 (di_tree_parser_down_1 a0 a1 a2 a3 r u) := ⟨a0, a1, a2, a3, r, u, H, rfl⟩
set_option maxRecDepth 100000 in
set_option maxHeartbeats 4000000 in
theorem tree_parser_down_1_dok : ∀ d, SD_tree_parser_down_1 d → DOk Try.prog 42 d := by
  rintro _ ⟨a0, a1, a2, a3, r, u, H, rfl⟩
  refine xDf mixed [] [] trivial trivial Try.func42 _ ?_
  have G := True.intro
  have Y := xZ y_3 <| xZ y_47 <| xZ y_51 <| xZ Try.results42 <| xZ d_Call.eq_1 <| xZ d_Token.eq_1 <| di_tree_parser_down_1.eq_1
  dsimp only [di_tree_parser_down_1]
  simp only [tree_parser_down_1] at H
  replace H := Option.some.inj H
  refine xr ?_
  subst H
  exact xDn ⟨[1, 2], []⟩
noncomputable def tree_parser_must (a0 : List UInt8) (a1 : List Token) (a2 : Int) (a3 : Int) (a4 : List KD) : Option (GR (Int × Int × Int) Int) :=
  (tree_parser_eat a0 a1 a2 a3 a4).bind fun r1 => if (!r1.1) = true then (tree_parser_fail 2 a1 r1.2 a3 a4).bind fun e1 => some (.er (e1.1, e1.2, r1.2)) else some (.ok r1.2)
def u_tree_parser_must (a0 : List UInt8) (a1 : List Token) (a2 : Int) (a3 : Int) (a4 : List KD) : GR (Int × Int × Int) Int → GOut
  | .ok r => .ret (.tu []) [[.d (.sl 11 (List.map d_Token a1)), .d (.v (.int .i64 r)), .d (.v (.int .i64 a3)), .kc (KSK a4)]] []
  | .er r => .pan (.iface 46 (.agg ⟨[.int .i64 2, .int .i64 r.1, .int .i64 r.2.1]⟩)) [[.d (.sl 11 (List.map d_Token a1)), .d (.v (.int .i64 r.2.2)), .d (.v (.int .i64 a3)), .kc (KSK a4)]] []
def g_tree_parser_must (a0 : List UInt8) (a1 : List Token) (a2 : Int) (a3 : Int) (a4 : List KD) (r : GR (Int × Int × Int) Int) : GI :=
  ⟨[.c (.pt 1 0), .c (.d (.v (str a0)))], [[.d (.sl 11 (List.map d_Token a1)), .d (.v (.int .i64 a2)), .d (.v (.int .i64 a3)), .kc (KSK a4)]], [], u_tree_parser_must a0 a1 a2 a3 a4 r⟩
def S_tree_parser_must : GI → Prop := fun g => ∃ (a0 : List UInt8) (a1 : List Token) (a2 : Int) (a3 : Int) (a4 : List KD) (r : GR (Int × Int × Int) Int), tree_parser_must a0 a1 a2 a3 a4 = some r ∧ g = g_tree_parser_must a0 a1 a2 a3 a4 r
theorem tree_parser_must_c (a0 : List UInt8) (a1 : List Token) (a2 : Int) (a3 : Int) (a4 : List KD) (r : GR (Int × Int × Int) Int) (H : tree_parser_must a0 a1 a2 a3 a4 = some r) : S_tree_parser_must (g_tree_parser_must a0 a1 a2 a3 a4 r) := ⟨a0, a1, a2, a3, a4, r, H, rfl⟩
set_option maxRecDepth 100000 in
set_option maxHeartbeats 4000000 in
theorem tree_parser_must_ok : ∀ g, S_tree_parser_must g → GenOk Try.prog 25 g := by
  rintro _ ⟨a0, a1, a2, a3, a4, r, H, rfl⟩
  refine xGn mixed [] [(23, true, S_tree_parser_eat), (33, false, S_tree_parser_fail)] [] trivial ⟨tree_parser_eat_k, tree_parser_fail_k, trivial⟩ trivial Try.func25 _ ?_
  have G := True.intro
  have Y := xZ Try.results25 <| xZ d_Call.eq_1 <| xZ d_Token.eq_1 <| xZ g_tree_parser_eat.eq_1 <| xZ g_tree_parser_fail.eq_1 <| g_tree_parser_must.eq_1
  dsimp only [g_tree_parser_must]
  simp only [tree_parser_must] at H
  refine xS ?_
  obtain ⟨r1, hr1, H⟩ := osplit H
  have F := Y
  refine xQ ?_
  refine xs 2 ?_
  refine xc ⟨[1], []⟩ (tabG 0 (tree_parser_eat_c a0 a1 a2 a3 a4 r1 hr1)) ?_
  refine xs 1 ?_
  refine xl ?_
  refine xS ?_
  rcases bsplit H with ⟨hp1, H⟩ | ⟨hp1, H⟩
  · obtain ⟨F, G, hq1⟩ := xH Y G hp1
    refine xT ?_
    obtain ⟨e1, hr3, H⟩ := osplit H
    have F := Y
    refine xQp [8, 9] ?_
    refine xs 1 ?_
    refine xp ⟨[1], []⟩ (tabG 1 (tree_parser_fail_c 2 a1 r1.2 a3 a4 e1 hr3)) ?_
    replace H := Option.some.inj H
    refine xS ?_
    subst H
    refine xpD [] ?_
    exact xOv ⟨[1], []⟩
  · obtain ⟨F, G, hq1⟩ := xH Y G hp1
    replace H := Option.some.inj H
    refine xE ?_
    subst H
    refine xnD [] ?_
    exact xO ⟨[1], []⟩
theorem tree_parser_must_k : Callable Try.prog 25 ∧ (∀ g, S_tree_parser_must g → GenOk Try.prog 25 g) ∧ (false = true → ∀ g, S_tree_parser_must g → ∃ val bs ts, g.out = .ret val bs ts) :=
  ⟨call_25, tree_parser_must_ok, nofun⟩
noncomputable def tree_tight_j6 : Bool → Option Int
  | x6 => if x6 = true then some 2 else some 0
noncomputable def tree_tight_j5 (a0 : List UInt8) : Bool → Option Int
  | x5 => if x5 = true then some 12 else if (eqS a0 [61]) = true then tree_tight_j6 true else if (eqS a0 [43, 61]) = true then tree_tight_j6 true else if (eqS a0 [45, 61]) = true then tree_tight_j6 true else if (eqS a0 [42, 61]) = true then tree_tight_j6 true else if (eqS a0 [47, 61]) = true then tree_tight_j6 true else if (eqS a0 [37, 61]) = true then tree_tight_j6 true else if (eqS a0 [38, 61]) = true then tree_tight_j6 true else if (eqS a0 [124, 61]) = true then tree_tight_j6 true else if (eqS a0 [94, 61]) = true then tree_tight_j6 true else if (eqS a0 [60, 60, 61]) = true then tree_tight_j6 true else tree_tight_j6 (eqS a0 [62, 62, 61])
noncomputable def tree_tight_j4 (a0 : List UInt8) : Bool → Option Int
  | x4 => if x4 = true then some 11 else if (eqS a0 [42]) = true then tree_tight_j5 a0 true else if (eqS a0 [47]) = true then tree_tight_j5 a0 true else tree_tight_j5 a0 (eqS a0 [37])
noncomputable def tree_tight_j3 (a0 : List UInt8) : Bool → Option Int
  | x3 => if x3 = true then some 10 else if (eqS a0 [43]) = true then tree_tight_j4 a0 true else tree_tight_j4 a0 (eqS a0 [45])
noncomputable def tree_tight_j2 (a0 : List UInt8) : Bool → Option Int
  | x2 => if x2 = true then some 9 else if (eqS a0 [60, 60]) = true then tree_tight_j3 a0 true else tree_tight_j3 a0 (eqS a0 [62, 62])
noncomputable def tree_tight_j1 (a0 : List UInt8) : Bool → Option Int
  | x1 => if x1 = true then some 8 else if (eqS a0 [60]) = true then tree_tight_j2 a0 true else if (eqS a0 [62]) = true then tree_tight_j2 a0 true else if (eqS a0 [60, 61]) = true then tree_tight_j2 a0 true else tree_tight_j2 a0 (eqS a0 [62, 61])
noncomputable def tree_tight (a0 : List UInt8) : Option Int :=
  if (eqS a0 [44]) = true then some 1 else if (eqS a0 [124, 124]) = true then some 3 else if (eqS a0 [38, 38]) = true then some 4 else if (eqS a0 [124]) = true then some 5 else if (eqS a0 [94]) = true then some 6 else if (eqS a0 [38]) = true then some 7 else if (eqS a0 [61, 61]) = true then tree_tight_j1 a0 true else tree_tight_j1 a0 (eqS a0 [33, 61])
noncomputable def pf_tree_tight : PF := PF.of (E1 dS) (fun a => tree_tight a) dI
set_option maxRecDepth 100000 in
set_option maxHeartbeats 4000000 in
theorem tree_tight_ok : PureOk Try.prog 44 pf_tree_tight := by
  refine xF mixed [] [] trivial trivial Try.func44 ?_
  rintro a0 out H
  have G := True.intro
  have Y := Try.results44
  simp only [tree_tight] at H
  refine xS ?_
  refine xr ?_
  refine xr ?_
  refine xr ?_
  rcases bsplit H with ⟨hp1, H⟩ | ⟨hp1, H⟩
  · obtain ⟨F, G, hq1⟩ := xH Y G hp1
    refine xT ?_
    replace H := Option.some.inj H
    refine xr ?_
    subst H
    exact xN
  · obtain ⟨F, G, hq1⟩ := xH Y G hp1
    refine xE ?_
    refine xr ?_
    rcases bsplit H with ⟨hp2, H⟩ | ⟨hp2, H⟩
    · obtain ⟨F, G, hq2⟩ := xH Y G hp2
      refine xT ?_
      replace H := Option.some.inj H
      refine xr ?_
      subst H
      exact xN
    · obtain ⟨F, G, hq2⟩ := xH Y G hp2
      refine xE ?_
      refine xr ?_
      rcases bsplit H with ⟨hp3, H⟩ | ⟨hp3, H⟩
      · obtain ⟨F, G, hq3⟩ := xH Y G hp3
        refine xT ?_
        replace H := Option.some.inj H
        refine xr ?_
        subst H
        exact xN
      · obtain ⟨F, G, hq3⟩ := xH Y G hp3
        refine xE ?_
        refine xr ?_
        rcases bsplit H with ⟨hp4, H⟩ | ⟨hp4, H⟩
        · obtain ⟨F, G, hq4⟩ := xH Y G hp4
          refine xT ?_
          replace H := Option.some.inj H
          refine xr ?_
          subst H
          exact xN
        · obtain ⟨F, G, hq4⟩ := xH Y G hp4
          refine xE ?_
          refine xr ?_
          rcases bsplit H with ⟨hp5, H⟩ | ⟨hp5, H⟩
          · obtain ⟨F, G, hq5⟩ := xH Y G hp5
            refine xT ?_
            replace H := Option.some.inj H
            refine xr ?_
            subst H
            exact xN
          · obtain ⟨F, G, hq5⟩ := xH Y G hp5
            refine xE ?_
            refine xr ?_
            rcases bsplit H with ⟨hp6, H⟩ | ⟨hp6, H⟩
            · obtain ⟨F, G, hq6⟩ := xH Y G hp6
              refine xT ?_
              replace H := Option.some.inj H
              refine xr ?_
              subst H
              exact xN
            · obtain ⟨F, G, hq6⟩ := xH Y G hp6
              refine xE0 ?_
              refine w_cut (tree_tight_j1 a0) (fun s => [(3, .c (.d (.v (str a0)))), (16, .c (.d (.v (.bool s))))]) (fun s => []) [] out ?_ ?_
              · refine xS ?_
                refine xr ?_
                rcases bsplit H with ⟨hp30, H⟩ | ⟨hp30, H⟩
                · obtain ⟨F, G, hq30⟩ := xH Y G hp30
                  refine xT ?_
                  exact cut_at H (xK ⟨[], []⟩)
                · obtain ⟨F, G, hq30⟩ := xH Y G hp30
                  refine xE ?_
                  refine xr ?_
                  exact cut_at H (xK ⟨[], []⟩)
              · rintro x1 H
                rw [tree_tight_j1] at H
                rcases bsplit H with ⟨hp7, H⟩ | ⟨hp7, H⟩
                · obtain ⟨F, G, hq7⟩ := xH Y G hp7
                  refine xT ?_
                  replace H := Option.some.inj H
                  refine xr ?_
                  subst H
                  exact xN
                · obtain ⟨F, G, hq7⟩ := xH Y G hp7
                  refine xE0 ?_
                  refine w_cut (tree_tight_j2 a0) (fun s => [(3, .c (.d (.v (str a0)))), (19, .c (.d (.v (.bool s))))]) (fun s => []) [] out ?_ ?_
                  · refine xS ?_
                    refine xr ?_
                    rcases bsplit H with ⟨hp27, H⟩ | ⟨hp27, H⟩
                    · obtain ⟨F, G, hq27⟩ := xH Y G hp27
                      refine xT ?_
                      exact cut_at H (xK ⟨[], []⟩)
                    · obtain ⟨F, G, hq27⟩ := xH Y G hp27
                      refine xE ?_
                      refine xr ?_
                      rcases bsplit H with ⟨hp28, H⟩ | ⟨hp28, H⟩
                      · obtain ⟨F, G, hq28⟩ := xH Y G hp28
                        refine xT ?_
                        exact cut_at H (xK ⟨[], []⟩)
                      · obtain ⟨F, G, hq28⟩ := xH Y G hp28
                        refine xE ?_
                        refine xr ?_
                        rcases bsplit H with ⟨hp29, H⟩ | ⟨hp29, H⟩
                        · obtain ⟨F, G, hq29⟩ := xH Y G hp29
                          refine xT ?_
                          exact cut_at H (xK ⟨[], []⟩)
                        · obtain ⟨F, G, hq29⟩ := xH Y G hp29
                          refine xE ?_
                          refine xr ?_
                          exact cut_at H (xK ⟨[], []⟩)
                  · rintro x2 H
                    rw [tree_tight_j2] at H
                    rcases bsplit H with ⟨hp8, H⟩ | ⟨hp8, H⟩
                    · obtain ⟨F, G, hq8⟩ := xH Y G hp8
                      refine xT ?_
                      replace H := Option.some.inj H
                      refine xr ?_
                      subst H
                      exact xN
                    · obtain ⟨F, G, hq8⟩ := xH Y G hp8
                      refine xE0 ?_
                      refine w_cut (tree_tight_j3 a0) (fun s => [(3, .c (.d (.v (str a0)))), (24, .c (.d (.v (.bool s))))]) (fun s => []) [] out ?_ ?_
                      · refine xS ?_
                        refine xr ?_
                        rcases bsplit H with ⟨hp26, H⟩ | ⟨hp26, H⟩
                        · obtain ⟨F, G, hq26⟩ := xH Y G hp26
                          refine xT ?_
                          exact cut_at H (xK ⟨[], []⟩)
                        · obtain ⟨F, G, hq26⟩ := xH Y G hp26
                          refine xE ?_
                          refine xr ?_
                          exact cut_at H (xK ⟨[], []⟩)
                      · rintro x3 H
                        rw [tree_tight_j3] at H
                        rcases bsplit H with ⟨hp9, H⟩ | ⟨hp9, H⟩
                        · obtain ⟨F, G, hq9⟩ := xH Y G hp9
                          refine xT ?_
                          replace H := Option.some.inj H
                          refine xr ?_
                          subst H
                          exact xN
                        · obtain ⟨F, G, hq9⟩ := xH Y G hp9
                          refine xE0 ?_
                          refine w_cut (tree_tight_j4 a0) (fun s => [(3, .c (.d (.v (str a0)))), (27, .c (.d (.v (.bool s))))]) (fun s => []) [] out ?_ ?_
                          · refine xS ?_
                            refine xr ?_
                            rcases bsplit H with ⟨hp25, H⟩ | ⟨hp25, H⟩
                            · obtain ⟨F, G, hq25⟩ := xH Y G hp25
                              refine xT ?_
                              exact cut_at H (xK ⟨[], []⟩)
                            · obtain ⟨F, G, hq25⟩ := xH Y G hp25
                              refine xE ?_
                              refine xr ?_
                              exact cut_at H (xK ⟨[], []⟩)
                          · rintro x4 H
                            rw [tree_tight_j4] at H
                            rcases bsplit H with ⟨hp10, H⟩ | ⟨hp10, H⟩
                            · obtain ⟨F, G, hq10⟩ := xH Y G hp10
                              refine xT ?_
                              replace H := Option.some.inj H
                              refine xr ?_
                              subst H
                              exact xN
                            · obtain ⟨F, G, hq10⟩ := xH Y G hp10
                              refine xE0 ?_
                              refine w_cut (tree_tight_j5 a0) (fun s => [(3, .c (.d (.v (str a0)))), (30, .c (.d (.v (.bool s))))]) (fun s => []) [] out ?_ ?_
                              · refine xS ?_
                                refine xr ?_
                                rcases bsplit H with ⟨hp23, H⟩ | ⟨hp23, H⟩
                                · obtain ⟨F, G, hq23⟩ := xH Y G hp23
                                  refine xT ?_
                                  exact cut_at H (xK ⟨[], []⟩)
                                · obtain ⟨F, G, hq23⟩ := xH Y G hp23
                                  refine xE ?_
                                  refine xr ?_
                                  rcases bsplit H with ⟨hp24, H⟩ | ⟨hp24, H⟩
                                  · obtain ⟨F, G, hq24⟩ := xH Y G hp24
                                    refine xT ?_
                                    exact cut_at H (xK ⟨[], []⟩)
                                  · obtain ⟨F, G, hq24⟩ := xH Y G hp24
                                    refine xE ?_
                                    refine xr ?_
                                    exact cut_at H (xK ⟨[], []⟩)
                              · rintro x5 H
                                rw [tree_tight_j5] at H
                                rcases bsplit H with ⟨hp11, H⟩ | ⟨hp11, H⟩
                                · obtain ⟨F, G, hq11⟩ := xH Y G hp11
                                  refine xT ?_
                                  replace H := Option.some.inj H
                                  refine xr ?_
                                  subst H
                                  exact xN
                                · obtain ⟨F, G, hq11⟩ := xH Y G hp11
                                  refine xE0 ?_
                                  refine w_cut tree_tight_j6 (fun s => [(34, .c (.d (.v (.bool s))))]) (fun s => []) [] out ?_ ?_
                                  · refine xS ?_
                                    refine xr ?_
                                    rcases bsplit H with ⟨hp13, H⟩ | ⟨hp13, H⟩
                                    · obtain ⟨F, G, hq13⟩ := xH Y G hp13
                                      refine xT ?_
                                      exact cut_at H (xK ⟨[], []⟩)
                                    · obtain ⟨F, G, hq13⟩ := xH Y G hp13
                                      refine xE ?_
                                      refine xr ?_
                                      rcases bsplit H with ⟨hp14, H⟩ | ⟨hp14, H⟩
                                      · obtain ⟨F, G, hq14⟩ := xH Y G hp14
                                        refine xT ?_
                                        exact cut_at H (xK ⟨[], []⟩)
                                      · obtain ⟨F, G, hq14⟩ := xH Y G hp14
                                        refine xE ?_
                                        refine xr ?_
                                        rcases bsplit H with ⟨hp15, H⟩ | ⟨hp15, H⟩
                                        · obtain ⟨F, G, hq15⟩ := xH Y G hp15
                                          refine xT ?_
                                          exact cut_at H (xK ⟨[], []⟩)
                                        · obtain ⟨F, G, hq15⟩ := xH Y G hp15
                                          refine xE ?_
                                          refine xr ?_
                                          rcases bsplit H with ⟨hp16, H⟩ | ⟨hp16, H⟩
                                          · obtain ⟨F, G, hq16⟩ := xH Y G hp16
                                            refine xT ?_
                                            exact cut_at H (xK ⟨[], []⟩)
                                          · obtain ⟨F, G, hq16⟩ := xH Y G hp16
                                            refine xE ?_
                                            refine xr ?_
                                            rcases bsplit H with ⟨hp17, H⟩ | ⟨hp17, H⟩
                                            · obtain ⟨F, G, hq17⟩ := xH Y G hp17
                                              refine xT ?_
                                              exact cut_at H (xK ⟨[], []⟩)
                                            · obtain ⟨F, G, hq17⟩ := xH Y G hp17
                                              refine xE ?_
                                              refine xr ?_
                                              rcases bsplit H with ⟨hp18, H⟩ | ⟨hp18, H⟩
                                              · obtain ⟨F, G, hq18⟩ := xH Y G hp18
                                                refine xT ?_
                                                exact cut_at H (xK ⟨[], []⟩)
                                              · obtain ⟨F, G, hq18⟩ := xH Y G hp18
                                                refine xE ?_
                                                refine xr ?_
                                                rcases bsplit H with ⟨hp19, H⟩ | ⟨hp19, H⟩
                                                · obtain ⟨F, G, hq19⟩ := xH Y G hp19
                                                  refine xT ?_
                                                  exact cut_at H (xK ⟨[], []⟩)
                                                · obtain ⟨F, G, hq19⟩ := xH Y G hp19
                                                  refine xE ?_
                                                  refine xr ?_
                                                  rcases bsplit H with ⟨hp20, H⟩ | ⟨hp20, H⟩
                                                  · obtain ⟨F, G, hq20⟩ := xH Y G hp20
                                                    refine xT ?_
                                                    exact cut_at H (xK ⟨[], []⟩)
                                                  · obtain ⟨F, G, hq20⟩ := xH Y G hp20
                                                    refine xE ?_
                                                    refine xr ?_
                                                    rcases bsplit H with ⟨hp21, H⟩ | ⟨hp21, H⟩
                                                    · obtain ⟨F, G, hq21⟩ := xH Y G hp21
                                                      refine xT ?_
                                                      exact cut_at H (xK ⟨[], []⟩)
                                                    · obtain ⟨F, G, hq21⟩ := xH Y G hp21
                                                      refine xE ?_
                                                      refine xr ?_
                                                      rcases bsplit H with ⟨hp22, H⟩ | ⟨hp22, H⟩
                                                      · obtain ⟨F, G, hq22⟩ := xH Y G hp22
                                                        refine xT ?_
                                                        exact cut_at H (xK ⟨[], []⟩)
                                                      · obtain ⟨F, G, hq22⟩ := xH Y G hp22
                                                        refine xE ?_
                                                        refine xr ?_
                                                        exact cut_at H (xK ⟨[], []⟩)
                                  · rintro x6 H
                                    rw [tree_tight_j6] at H
                                    rcases bsplit H with ⟨hp12, H⟩ | ⟨hp12, H⟩
                                    · obtain ⟨F, G, hq12⟩ := xH Y G hp12
                                      refine xT ?_
                                      replace H := Option.some.inj H
                                      refine xr ?_
                                      subst H
                                      exact xN
                                    · obtain ⟨F, G, hq12⟩ := xH Y G hp12
                                      refine xE ?_
                                      replace H := Option.some.inj H
                                      refine xr ?_
                                      subst H
                                      exact xN
theorem tree_tight_c (a0 : List UInt8) (r : Int) (H : tree_tight a0 = some r) : PC pf_tree_tight [dS a0] (dI r) := PF.c (a := a0) H
def u_tree_parser_expr (a0 : List Token) (a1 : Int) (a2 : Int) (a3 : List KD) : GR (Int × Int × Int × Int × Int) (Int × Int × (List Node) × Int × Int) → GOut
  | .ok r => .ret (.ag [.d (.v (.int .i64 r.1)), .d (.v (.int .i64 r.2.1)), .sl 3 (List.map d_Node r.2.2.1) 2]) [[.d (.sl 11 (List.map d_Token a0)), .d (.v (.int .i64 r.2.2.2.1)), .d (.v (.int .i64 r.2.2.2.2)), .kc (KSK a3)]] [27]
  | .er r => .pan (.iface 46 (.agg ⟨[.int .i64 r.1, .int .i64 r.2.1, .int .i64 r.2.2.1]⟩)) [[.d (.sl 11 (List.map d_Token a0)), .d (.v (.int .i64 r.2.2.2.1)), .d (.v (.int .i64 r.2.2.2.2)), .kc (KSK a3)]] []
def g_tree_parser_expr (a0 : List Token) (a1 : Int) (a2 : Int) (a3 : List KD) (r : GR (Int × Int × Int × Int × Int) (Int × Int × (List Node) × Int × Int)) : GI :=
  ⟨[.c (.pt 1 0)], [[.d (.sl 11 (List.map d_Token a0)), .d (.v (.int .i64 a1)), .d (.v (.int .i64 a2)), .kc (KSK a3)]], [], u_tree_parser_expr a0 a1 a2 a3 r⟩
def SF_tree_parser_expr (q : (List Token) → Int → Int → (List KD) → Option (GR (Int × Int × Int × Int × Int) (Int × Int × (List Node) × Int × Int))) : GI → Prop := fun g => ∃ (a0 : List Token) (a1 : Int) (a2 : Int) (a3 : List KD) (r : GR (Int × Int × Int × Int × Int) (Int × Int × (List Node) × Int × Int)), q a0 a1 a2 a3 = some r ∧ g = g_tree_parser_expr a0 a1 a2 a3 r
theorem tree_parser_expr_sc (q : (List Token) → Int → Int → (List KD) → Option (GR (Int × Int × Int × Int × Int) (Int × Int × (List Node) × Int × Int))) (a0 : List Token) (a1 : Int) (a2 : Int) (a3 : List KD) (r : GR (Int × Int × Int × Int × Int) (Int × Int × (List Node) × Int × Int)) (H : q a0 a1 a2 a3 = some r) : SF_tree_parser_expr q (g_tree_parser_expr a0 a1 a2 a3 r) := ⟨a0, a1, a2, a3, r, H, rfl⟩
def u_tree_parser_binary (a0 : Int) (a1 : List Token) (a2 : Int) (a3 : Int) (a4 : List KD) : GR (Int × Int × Int × Int × Int) (Int × Int × (List Node) × Int × Int) → GOut
  | .ok r => .ret (.ag [.d (.v (.int .i64 r.1)), .d (.v (.int .i64 r.2.1)), .sl 3 (List.map d_Node r.2.2.1) 2]) [[.d (.sl 11 (List.map d_Token a1)), .d (.v (.int .i64 r.2.2.2.1)), .d (.v (.int .i64 r.2.2.2.2)), .kc (KSK a4)]] [27]
  | .er r => .pan (.iface 46 (.agg ⟨[.int .i64 r.1, .int .i64 r.2.1, .int .i64 r.2.2.1]⟩)) [[.d (.sl 11 (List.map d_Token a1)), .d (.v (.int .i64 r.2.2.2.1)), .d (.v (.int .i64 r.2.2.2.2)), .kc (KSK a4)]] []
def g_tree_parser_binary (a0 : Int) (a1 : List Token) (a2 : Int) (a3 : Int) (a4 : List KD) (r : GR (Int × Int × Int × Int × Int) (Int × Int × (List Node) × Int × Int)) : GI :=
  ⟨[.c (.pt 1 0), .c (.d (.v (.int .i64 a0)))], [[.d (.sl 11 (List.map d_Token a1)), .d (.v (.int .i64 a2)), .d (.v (.int .i64 a3)), .kc (KSK a4)]], [], u_tree_parser_binary a0 a1 a2 a3 a4 r⟩
def SF_tree_parser_binary (q : Int → (List Token) → Int → Int → (List KD) → Option (GR (Int × Int × Int × Int × Int) (Int × Int × (List Node) × Int × Int))) : GI → Prop := fun g => ∃ (a0 : Int) (a1 : List Token) (a2 : Int) (a3 : Int) (a4 : List KD) (r : GR (Int × Int × Int × Int × Int) (Int × Int × (List Node) × Int × Int)), q a0 a1 a2 a3 a4 = some r ∧ g = g_tree_parser_binary a0 a1 a2 a3 a4 r
theorem tree_parser_binary_sc (q : Int → (List Token) → Int → Int → (List KD) → Option (GR (Int × Int × Int × Int × Int) (Int × Int × (List Node) × Int × Int))) (a0 : Int) (a1 : List Token) (a2 : Int) (a3 : Int) (a4 : List KD) (r : GR (Int × Int × Int × Int × Int) (Int × Int × (List Node) × Int × Int)) (H : q a0 a1 a2 a3 a4 = some r) : SF_tree_parser_binary q (g_tree_parser_binary a0 a1 a2 a3 a4 r) := ⟨a0, a1, a2, a3, a4, r, H, rfl⟩
def u_tree_parser_unary (a0 : List Token) (a1 : Int) (a2 : Int) (a3 : List KD) : GR (Int × Int × Int × Int × Int) (Int × Int × (List Node) × Int × Int) → GOut
  | .ok r => .ret (.ag [.d (.v (.int .i64 r.1)), .d (.v (.int .i64 r.2.1)), .sl 3 (List.map d_Node r.2.2.1) 2]) [[.d (.sl 11 (List.map d_Token a0)), .d (.v (.int .i64 r.2.2.2.1)), .d (.v (.int .i64 r.2.2.2.2)), .kc (KSK a3)]] [27]
  | .er r => .pan (.iface 46 (.agg ⟨[.int .i64 r.1, .int .i64 r.2.1, .int .i64 r.2.2.1]⟩)) [[.d (.sl 11 (List.map d_Token a0)), .d (.v (.int .i64 r.2.2.2.1)), .d (.v (.int .i64 r.2.2.2.2)), .kc (KSK a3)]] []
def g_tree_parser_unary (a0 : List Token) (a1 : Int) (a2 : Int) (a3 : List KD) (r : GR (Int × Int × Int × Int × Int) (Int × Int × (List Node) × Int × Int)) : GI :=
  ⟨[.c (.pt 1 0)], [[.d (.sl 11 (List.map d_Token a0)), .d (.v (.int .i64 a1)), .d (.v (.int .i64 a2)), .kc (KSK a3)]], [], u_tree_parser_unary a0 a1 a2 a3 r⟩
def SF_tree_parser_unary (q : (List Token) → Int → Int → (List KD) → Option (GR (Int × Int × Int × Int × Int) (Int × Int × (List Node) × Int × Int))) : GI → Prop := fun g => ∃ (a0 : List Token) (a1 : Int) (a2 : Int) (a3 : List KD) (r : GR (Int × Int × Int × Int × Int) (Int × Int × (List Node) × Int × Int)), q a0 a1 a2 a3 = some r ∧ g = g_tree_parser_unary a0 a1 a2 a3 r
theorem tree_parser_unary_sc (q : (List Token) → Int → Int → (List KD) → Option (GR (Int × Int × Int × Int × Int) (Int × Int × (List Node) × Int × Int))) (a0 : List Token) (a1 : Int) (a2 : Int) (a3 : List KD) (r : GR (Int × Int × Int × Int × Int) (Int × Int × (List Node) × Int × Int)) (H : q a0 a1 a2 a3 = some r) : SF_tree_parser_unary q (g_tree_parser_unary a0 a1 a2 a3 r) := ⟨a0, a1, a2, a3, r, H, rfl⟩
def u_tree_parser_postfix (a0 : List Token) (a1 : Int) (a2 : Int) (a3 : List KD) : GR (Int × Int × Int × Int × Int) (Int × Int × (List Node) × Int × Int) → GOut
  | .ok r => .ret (.ag [.d (.v (.int .i64 r.1)), .d (.v (.int .i64 r.2.1)), .sl 3 (List.map d_Node r.2.2.1) 2]) [[.d (.sl 11 (List.map d_Token a0)), .d (.v (.int .i64 r.2.2.2.1)), .d (.v (.int .i64 r.2.2.2.2)), .kc (KSK a3)]] [27]
  | .er r => .pan (.iface 46 (.agg ⟨[.int .i64 r.1, .int .i64 r.2.1, .int .i64 r.2.2.1]⟩)) [[.d (.sl 11 (List.map d_Token a0)), .d (.v (.int .i64 r.2.2.2.1)), .d (.v (.int .i64 r.2.2.2.2)), .kc (KSK a3)]] []
def g_tree_parser_postfix (a0 : List Token) (a1 : Int) (a2 : Int) (a3 : List KD) (r : GR (Int × Int × Int × Int × Int) (Int × Int × (List Node) × Int × Int)) : GI :=
  ⟨[.c (.pt 1 0)], [[.d (.sl 11 (List.map d_Token a0)), .d (.v (.int .i64 a1)), .d (.v (.int .i64 a2)), .kc (KSK a3)]], [], u_tree_parser_postfix a0 a1 a2 a3 r⟩
def SF_tree_parser_postfix (q : (List Token) → Int → Int → (List KD) → Option (GR (Int × Int × Int × Int × Int) (Int × Int × (List Node) × Int × Int))) : GI → Prop := fun g => ∃ (a0 : List Token) (a1 : Int) (a2 : Int) (a3 : List KD) (r : GR (Int × Int × Int × Int × Int) (Int × Int × (List Node) × Int × Int)), q a0 a1 a2 a3 = some r ∧ g = g_tree_parser_postfix a0 a1 a2 a3 r
theorem tree_parser_postfix_sc (q : (List Token) → Int → Int → (List KD) → Option (GR (Int × Int × Int × Int × Int) (Int × Int × (List Node) × Int × Int))) (a0 : List Token) (a1 : Int) (a2 : Int) (a3 : List KD) (r : GR (Int × Int × Int × Int × Int) (Int × Int × (List Node) × Int × Int)) (H : q a0 a1 a2 a3 = some r) : SF_tree_parser_postfix q (g_tree_parser_postfix a0 a1 a2 a3 r) := ⟨a0, a1, a2, a3, r, H, rfl⟩
def u_tree_parser_assign (a0 : List Token) (a1 : Int) (a2 : Int) (a3 : List KD) : GR (Int × Int × Int × Int × Int) (Int × Int × (List Node) × Int × Int) → GOut
  | .ok r => .ret (.ag [.d (.v (.int .i64 r.1)), .d (.v (.int .i64 r.2.1)), .sl 3 (List.map d_Node r.2.2.1) 2]) [[.d (.sl 11 (List.map d_Token a0)), .d (.v (.int .i64 r.2.2.2.1)), .d (.v (.int .i64 r.2.2.2.2)), .kc (KSK a3)]] [27]
  | .er r => .pan (.iface 46 (.agg ⟨[.int .i64 r.1, .int .i64 r.2.1, .int .i64 r.2.2.1]⟩)) [[.d (.sl 11 (List.map d_Token a0)), .d (.v (.int .i64 r.2.2.2.1)), .d (.v (.int .i64 r.2.2.2.2)), .kc (KSK a3)]] []
def g_tree_parser_assign (a0 : List Token) (a1 : Int) (a2 : Int) (a3 : List KD) (r : GR (Int × Int × Int × Int × Int) (Int × Int × (List Node) × Int × Int)) : GI :=
  ⟨[.c (.pt 1 0)], [[.d (.sl 11 (List.map d_Token a0)), .d (.v (.int .i64 a1)), .d (.v (.int .i64 a2)), .kc (KSK a3)]], [], u_tree_parser_assign a0 a1 a2 a3 r⟩
def SF_tree_parser_assign (q : (List Token) → Int → Int → (List KD) → Option (GR (Int × Int × Int × Int × Int) (Int × Int × (List Node) × Int × Int))) : GI → Prop := fun g => ∃ (a0 : List Token) (a1 : Int) (a2 : Int) (a3 : List KD) (r : GR (Int × Int × Int × Int × Int) (Int × Int × (List Node) × Int × Int)), q a0 a1 a2 a3 = some r ∧ g = g_tree_parser_assign a0 a1 a2 a3 r
theorem tree_parser_assign_sc (q : (List Token) → Int → Int → (List KD) → Option (GR (Int × Int × Int × Int × Int) (Int × Int × (List Node) × Int × Int))) (a0 : List Token) (a1 : Int) (a2 : Int) (a3 : List KD) (r : GR (Int × Int × Int × Int × Int) (Int × Int × (List Node) × Int × Int)) (H : q a0 a1 a2 a3 = some r) : SF_tree_parser_assign q (g_tree_parser_assign a0 a1 a2 a3 r) := ⟨a0, a1, a2, a3, r, H, rfl⟩
noncomputable def tree_parser_expr_s (q1 : (List Token) → Int → Int → (List KD) → Option (GR (Int × Int × Int × Int × Int) (Int × Int × (List Node) × Int × Int))) (q2 : Int → (List Token) → Int → Int → (List KD) → Option (GR (Int × Int × Int × Int × Int) (Int × Int × (List Node) × Int × Int))) (q3 : (List Token) → Int → Int → (List KD) → Option (GR (Int × Int × Int × Int × Int) (Int × Int × (List Node) × Int × Int))) (q4 : (List Token) → Int → Int → (List KD) → Option (GR (Int × Int × Int × Int × Int) (Int × Int × (List Node) × Int × Int))) (q5 : (List Token) → Int → Int → (List KD) → Option (GR (Int × Int × Int × Int × Int) (Int × Int × (List Node) × Int × Int))) (a0 : List Token) (a1 : Int) (a2 : Int) (a3 : List KD) : Option (GR (Int × Int × Int × Int × Int) (Int × Int × (List Node) × Int × Int)) :=
  grB (q2 1 a0 a1 a2 a3) (fun r1 => some (.ok (r1.1, r1.2.1, r1.2.2.1, r1.2.2.2.1, r1.2.2.2.2))) (fun e1 => some (.er (e1.1, e1.2.1, e1.2.2.1, e1.2.2.2.1, e1.2.2.2.2)))
set_option maxRecDepth 100000 in
set_option maxHeartbeats 4000000 in
theorem tree_parser_expr_sok (q1 : (List Token) → Int → Int → (List KD) → Option (GR (Int × Int × Int × Int × Int) (Int × Int × (List Node) × Int × Int))) (q2 : Int → (List Token) → Int → Int → (List KD) → Option (GR (Int × Int × Int × Int × Int) (Int × Int × (List Node) × Int × Int))) (q3 : (List Token) → Int → Int → (List KD) → Option (GR (Int × Int × Int × Int × Int) (Int × Int × (List Node) × Int × Int))) (q4 : (List Token) → Int → Int → (List KD) → Option (GR (Int × Int × Int × Int × Int) (Int × Int × (List Node) × Int × Int))) (q5 : (List Token) → Int → Int → (List KD) → Option (GR (Int × Int × Int × Int × Int) (Int × Int × (List Node) × Int × Int))) (kq1 : Kok Try.prog 35 false (SF_tree_parser_expr q1)) (kq2 : Kok Try.prog 41 false (SF_tree_parser_binary q2)) (kq3 : Kok Try.prog 43 false (SF_tree_parser_unary q3)) (kq4 : Kok Try.prog 45 false (SF_tree_parser_postfix q4)) (kq5 : Kok Try.prog 37 false (SF_tree_parser_assign q5)) : ∀ g, SF_tree_parser_expr (tree_parser_expr_s q1 q2 q3 q4 q5) g → GenOk Try.prog 35 g := by
  rintro _ ⟨a0, a1, a2, a3, r, H, rfl⟩
  refine xGn mixed [] [(41, false, (SF_tree_parser_binary q2))] [] trivial ⟨kq2, trivial⟩ trivial Try.func35 _ ?_
  have G := True.intro
  have Y := xZ y_27 <| xZ Try.results35 <| xZ d_Call.eq_1 <| xZ d_Token.eq_1 <| xZ dq_Node <| xZ g_tree_parser_binary.eq_1 <| g_tree_parser_expr.eq_1
  dsimp only [g_tree_parser_expr]
  simp only [tree_parser_expr_s] at H
  refine xS ?_
  refine xr ?_
  rcases rsplit H with ⟨r1, hr1, H⟩ | ⟨e1, hr2, H⟩
  · have F := Y
    refine xQ ?_
    refine xs 1 ?_
    refine xc ⟨[1], []⟩ (tabG 0 (tree_parser_binary_sc q2 1 a0 a1 a2 a3 (.ok r1) hr1)) ?_
    refine xs 1 ?_
    refine xl ?_
    replace H := Option.some.inj H
    refine xS ?_
    subst H
    refine xrD [] ?_
    exact xO ⟨[1], [4]⟩
  · have F := Y
    refine xQp [3, 4] ?_
    refine xs 1 ?_
    refine xp ⟨[1], []⟩ (tabG 0 (tree_parser_binary_sc q2 1 a0 a1 a2 a3 (.er e1) hr2)) ?_
    replace H := Option.some.inj H
    refine xS ?_
    subst H
    refine xpD [] ?_
    exact xOv ⟨[1], []⟩
noncomputable def tree_parser_binary_j3 (q2 : Int → (List Token) → Int → Int → (List KD) → Option (GR (Int × Int × Int × Int × Int) (Int × Int × (List Node) × Int × Int))) (a1 : List Token) (a4 : List KD) (x1 : Int) (x2 : Int) : (Int × Int × (List Node)) → Option ((Int × Int × Int × Int × (List Node)) ⊕ (GR (Int × Int × Int × Int × Int) (Int × Int × (List Node) × Int × Int)))
  | (x7, x8, x9) => grB (q2 x7 a1 x8 x2 a4) (fun r6 => if (x9.length + [(⟨r6.1, r6.2.1, r6.2.2.1⟩ : Node)].length) * 40 ≤ 140737488355328 then some (.inl (r6.2.2.2.1, r6.2.2.2.2, 13, x1, x9 ++ [(⟨r6.1, r6.2.1, r6.2.2.1⟩ : Node)])) else none) (fun e3 => inrO ((tree_parser_down_1 a1 e3.2.2.2.1 e3.2.2.2.2 a4).bind fun r7 => some (.er (e3.1, e3.2.1, e3.2.2.1, e3.2.2.2.1, r7))))
noncomputable def tree_parser_binary_j2 (q2 : Int → (List Token) → Int → Int → (List KD) → Option (GR (Int × Int × Int × Int × Int) (Int × Int × (List Node) × Int × Int))) (a1 : List Token) (a4 : List KD) (x1 : Int) (x2 : Int) (x3 : Int) (x4 : Int) (x5 : List Node) (r4 : Int) : Bool → Option ((Int × Int × Int × Int × (List Node)) ⊕ (GR (Int × Int × Int × Int × Int) (Int × Int × (List Node) × Int × Int)))
  | x6 => if x6 = true then inrO ((tree_parser_down_1 a1 x1 x2 a4).bind fun r5 => some (.ok (x3, x4, x5, x1, r5))) else if (!eqI r4 2) = true then tree_parser_binary_j3 q2 a1 a4 x1 x2 (IntKind.i64.wrap (r4 + 1), IntKind.i64.wrap (x1 + 1), [(⟨x3, x4, x5⟩ : Node)]) else tree_parser_binary_j3 q2 a1 a4 x1 x2 (r4, IntKind.i64.wrap (x1 + 1), [(⟨x3, x4, x5⟩ : Node)])
noncomputable def tree_parser_binary_b1 (q2 : Int → (List Token) → Int → Int → (List KD) → Option (GR (Int × Int × Int × Int × Int) (Int × Int × (List Node) × Int × Int))) (a0 : Int) (a1 : List Token) (a4 : List KD) : (Int × Int × Int × Int × (List Node)) → Option ((Int × Int × Int × Int × (List Node)) ⊕ (GR (Int × Int × Int × Int × Int) (Int × Int × (List Node) × Int × Int)))
  | (x1, x2, x3, x4, x5) => (tree_parser_peek a1 x1 x2 a4).bind fun r3 => (tree_tight r3).bind fun r4 => if (eqI r4 0) = true then tree_parser_binary_j2 q2 a1 a4 x1 x2 x3 x4 x5 r4 true else tree_parser_binary_j2 q2 a1 a4 x1 x2 x3 x4 x5 r4 (ltI r4 a0)
noncomputable def tree_parser_binary_s (q1 : (List Token) → Int → Int → (List KD) → Option (GR (Int × Int × Int × Int × Int) (Int × Int × (List Node) × Int × Int))) (q2 : Int → (List Token) → Int → Int → (List KD) → Option (GR (Int × Int × Int × Int × Int) (Int × Int × (List Node) × Int × Int))) (q3 : (List Token) → Int → Int → (List KD) → Option (GR (Int × Int × Int × Int × Int) (Int × Int × (List Node) × Int × Int))) (q4 : (List Token) → Int → Int → (List KD) → Option (GR (Int × Int × Int × Int × Int) (Int × Int × (List Node) × Int × Int))) (q5 : (List Token) → Int → Int → (List KD) → Option (GR (Int × Int × Int × Int × Int) (Int × Int × (List Node) × Int × Int))) (a0 : Int) (a1 : List Token) (a2 : Int) (a3 : Int) (a4 : List KD) : Option (GR (Int × Int × Int × Int × Int) (Int × Int × (List Node) × Int × Int)) :=
  grB (tree_parser_down a1 a2 a3 a4) (fun r1 => grB (q3 a1 a2 r1 a4) (fun r2 => loopO (tree_parser_binary_b1 q2 a0 a1 a4) (r2.2.2.2.1, r2.2.2.2.2, r2.1, r2.2.1, r2.2.2.1)) (fun e2 => (tree_parser_down_1 a1 e2.2.2.2.1 e2.2.2.2.2 a4).bind fun r8 => some (.er (e2.1, e2.2.1, e2.2.2.1, e2.2.2.2.1, r8)))) (fun e1 => some (.er (10, e1.1, e1.2, a2, a3)))
set_option maxRecDepth 100000 in
set_option maxHeartbeats 4000000 in
theorem tree_parser_binary_sok (q1 : (List Token) → Int → Int → (List KD) → Option (GR (Int × Int × Int × Int × Int) (Int × Int × (List Node) × Int × Int))) (q2 : Int → (List Token) → Int → Int → (List KD) → Option (GR (Int × Int × Int × Int × Int) (Int × Int × (List Node) × Int × Int))) (q3 : (List Token) → Int → Int → (List KD) → Option (GR (Int × Int × Int × Int × Int) (Int × Int × (List Node) × Int × Int))) (q4 : (List Token) → Int → Int → (List KD) → Option (GR (Int × Int × Int × Int × Int) (Int × Int × (List Node) × Int × Int))) (q5 : (List Token) → Int → Int → (List KD) → Option (GR (Int × Int × Int × Int × Int) (Int × Int × (List Node) × Int × Int))) (kq1 : Kok Try.prog 35 false (SF_tree_parser_expr q1)) (kq2 : Kok Try.prog 41 false (SF_tree_parser_binary q2)) (kq3 : Kok Try.prog 43 false (SF_tree_parser_unary q3)) (kq4 : Kok Try.prog 45 false (SF_tree_parser_postfix q4)) (kq5 : Kok Try.prog 37 false (SF_tree_parser_assign q5)) : ∀ g, SF_tree_parser_binary (tree_parser_binary_s q1 q2 q3 q4 q5) g → GenOk Try.prog 41 g := by
  rintro _ ⟨a0, a1, a2, a3, a4, r, H, rfl⟩
  refine xGnl mixed [10] [(44, pf_tree_tight)] [(38, false, S_tree_parser_down), (43, false, (SF_tree_parser_unary q3)), (19, true, S_tree_parser_peek), (41, false, (SF_tree_parser_binary q2))] [(42, SD_tree_parser_down_1)] ⟨⟨call_44, tree_tight_ok⟩, trivial⟩ ⟨tree_parser_down_k, kq3, tree_parser_peek_k, kq2, trivial⟩ ⟨⟨call_42, tree_parser_down_1_dok⟩, trivial⟩ Try.func41 _ ?_
  have G := True.intro
  have Y := xZ y_3 <| xZ y_25 <| xZ y_27 <| xZ y_51 <| xZ Try.results41 <| xZ d_Call.eq_1 <| xZ d_Token.eq_1 <| xZ dq_Node <| xZ g_tree_parser_down.eq_1 <| xZ g_tree_parser_unary.eq_1 <| xZ g_tree_parser_peek.eq_1 <| xZ g_tree_parser_binary.eq_1 <| xZ di_tree_parser_down_1.eq_1 <| g_tree_parser_binary.eq_1
  dsimp only [g_tree_parser_binary]
  simp only [tree_parser_binary_s] at H
  refine xS ?_
  refine xr ?_
  rcases rsplit H with ⟨r1, hr1, H⟩ | ⟨e1, hr2, H⟩
  · have F := Y
    refine xQ ?_
    refine xs 1 ?_
    refine xc ⟨[1], []⟩ (tabG 0 (tree_parser_down_c a1 a2 a3 a4 (.ok r1) hr1)) ?_
    refine xw ?_
    refine xl ?_
    refine xS ?_
    rcases rsplit H with ⟨r2, hr3, H⟩ | ⟨e2, hr4, H⟩
    · have F := Y
      refine xQ ?_
      refine xs 1 ?_
      refine xc ⟨[1], []⟩ (tabG 1 (tree_parser_unary_sc q3 a1 a2 r1 a4 (.ok r2) hr3)) ?_
      refine xs 2 ?_
      refine xl ?_
      refine xS ?_
      refine w_loop (tree_parser_binary_b1 q2 a0 a1 a4) (fun s => [(0, .c (.pt 1 0)), (1, .c (.d (.v (.int .i64 a0)))), (4, .c (.pt 2 0)), (5, .c (.pt 3 0)), (1000000, .df [(42, [.pt 4 0])])]) (fun s => [[.d (.sl 11 (List.map d_Token a1)), .d (.v (.int .i64 s.1)), .d (.v (.int .i64 s.2.1)), .kc (KSK a4)], [.d (.v (.int .i64 0)), .d (.v (.int .i64 0)), .sl 3 [] 0], [.d (.v (.int .i64 s.2.2.1)), .d (.v (.int .i64 s.2.2.2.1)), .sl 3 (List.map d_Node s.2.2.2.2) 5], [.pt 1 0]]) [27] H (xK ⟨[1,2,7,4], [6]⟩) ?_
      rintro n1 ⟨x1, x2, x3, x4, x5⟩ o1 H hF1
      rw [tree_parser_binary_b1] at H
      refine xS ?_
      obtain ⟨r3, hr5, H⟩ := osplit H
      have F := Y
      obtain ⟨r4, hr6, H⟩ := osplit H
      have F := xCf F (tree_tight_c r3 r4 hr6)
      refine xQ ?_
      refine xs 1 ?_
      refine xc ⟨[1], []⟩ (tabG 2 (tree_parser_peek_c a1 x1 x2 a4 r3 hr5)) ?_
      refine xs 2 ?_
      refine xl ?_
      refine  ?_
      refine then_normal ?_
      refine w_seq ?_
      refine w_cut (tree_parser_binary_j2 q2 a1 a4 x1 x2 x3 x4 x5 r4) (fun s => [(0, .c (.pt 1 0)), (1, .c (.d (.v (.int .i64 a0)))), (4, .c (.pt 2 0)), (5, .c (.pt 3 0)), (6, .c (.d (.v (.int .i64 r4)))), (21, .c (.d (.v (.bool s)))), (1000000, .df [(42, [.pt 4 0])])]) (fun s => [[.d (.sl 11 (List.map d_Token a1)), .d (.v (.int .i64 x1)), .d (.v (.int .i64 x2)), .kc (KSK a4)], [.d (.v (.int .i64 0)), .d (.v (.int .i64 0)), .sl 3 [] 0], [.d (.v (.int .i64 x3)), .d (.v (.int .i64 x4)), .sl 3 (List.map d_Node x5) 5], [.pt 1 0]]) [27] o1 ?_ ?_
      · rcases bsplit H with ⟨hp3, H⟩ | ⟨hp3, H⟩
        · obtain ⟨F, G, hq3⟩ := xH Y G hp3
          refine xR ?_
          exact cut_at H (xK ⟨[1,2,3,4], [5]⟩)
        · obtain ⟨F, G, hq3⟩ := xH Y G hp3
          refine xR ?_
          exact cut_at H (xK ⟨[1,2,3,4], [5]⟩)
      · rintro x6 H
        rw [tree_parser_binary_j2] at H
        rcases bsplit H with ⟨hp1, H⟩ | ⟨hp1, H⟩
        · obtain ⟨F, G, hq1⟩ := xH Y G hp1
          refine xT ?_
          replace H := inrO_fin H hF1
          refine xr ?_
          refine xrD [(42, [.pt 4 0])] ?_
          obtain ⟨r5, hr7, H⟩ := osplit H
          refine xD ⟨[4, 1], []⟩ (tabD 0 (tree_parser_down_1_dc a1 x1 x2 a4 r5 none hr7)) ?_
          replace H := Option.some.inj H
          subst H
          exact xO ⟨[1], [5]⟩
        · obtain ⟨F, G, hq1⟩ := xH Y G hp1
          refine xE ?_
          refine xr ?_
          refine xr0 ?_
          refine then_normal ?_
          refine w_cut (tree_parser_binary_j3 q2 a1 a4 x1 x2) (fun s => [(0, .c (.pt 1 0)), (1, .c (.d (.v (.int .i64 a0)))), (4, .c (.pt 2 0)), (5, .c (.pt 3 0)), (6, .c (.d (.v (.int .i64 s.1)))), (7, .c (.pt 4 0)), (1000000, .df [(42, [.pt 5 0])])]) (fun s => [[.d (.sl 11 (List.map d_Token a1)), .d (.v (.int .i64 s.2.1)), .d (.v (.int .i64 x2)), .kc (KSK a4)], [.d (.v (.int .i64 0)), .d (.v (.int .i64 0)), .sl 3 [] 0], [.d (.v (.int .i64 x3)), .d (.v (.int .i64 x4)), .sl 3 (List.map d_Node x5) 6], [.d (.v (.int .i64 13)), .d (.v (.int .i64 x1)), .sl 3 (List.map d_Node s.2.2) 0], [.pt 1 0]]) [27] o1 ?_ ?_
          · refine xS ?_
            refine xr ?_
            rcases bsplit H with ⟨hp2, H⟩ | ⟨hp2, H⟩
            · obtain ⟨F, G, hq2⟩ := xH Y G hp2
              refine xT ?_
              refine xr ?_
              exact cut_at H (xK ⟨[1,2,3,6,4], [5]⟩)
            · obtain ⟨F, G, hq2⟩ := xH Y G hp2
              refine xE ?_
              exact cut_at H (xK ⟨[1,2,3,6,4], [5]⟩)
          · rintro ⟨x7, x8, x9⟩ H
            rw [tree_parser_binary_j3] at H
            refine xS ?_
            rcases rsplit H with ⟨r6, hr8, H⟩ | ⟨e3, hr9, H⟩
            · have F := Y
              obtain ⟨hg1, H⟩ := gsplit H
              have F := xZ F (all_map one_Node [(⟨r6.1, r6.2.1, r6.2.2.1⟩ : Node)])
              refine xP [0, 1, 2, 3, 4, 5, 6, 7, 8] [42, 888888] ⟨tree_parser_down_k, kq3, tree_parser_peek_k, kq2, trivial⟩ ?_
              refine xsX 1 ?_
              refine xaX ?_
              refine xsX 2 ?_
              refine xcX ⟨[1], []⟩ (tabG 3 (tree_parser_binary_sc q2 x7 a1 x8 x2 a4 (.ok r6) hr8)) ?_
              refine xsX 1 ?_
              refine xbX ?_
              refine xsX 2 ?_
              refine xlX ?_
              refine xS ?_
              refine xr ?_
              exact round_at (inl_fin H hF1) (xK ⟨[1,2,3,5], [9]⟩)
            · have F := Y
              refine xPp [41, 42, 43, 44, 45, 46, 47, 48] [0, 1, 2, 3, 4, 5, 6, 7, 8] [42, 888888] ⟨tree_parser_down_k, kq3, tree_parser_peek_k, kq2, trivial⟩ ?_
              refine xsX 1 ?_
              refine xaX ?_
              refine xsX 2 ?_
              refine xpX ⟨[1], []⟩ (tabG 3 (tree_parser_binary_sc q2 x7 a1 x8 x2 a4 (.er e3) hr9)) ?_
              replace H := inrO_fin H hF1
              refine xS ?_
              refine xpD [(42, [.pt 5 0])] ?_
              obtain ⟨r7, hr10, H⟩ := osplit H
              refine xD ⟨[5, 1], []⟩ (tabD 0 (tree_parser_down_1_dc a1 e3.2.2.2.1 e3.2.2.2.2 a4 r7 (some (.iface 46 (.agg ⟨[.int .i64 e3.1, .int .i64 e3.2.1, .int .i64 e3.2.2.1]⟩))) hr10)) ?_
              replace H := Option.some.inj H
              subst H
              exact xOv ⟨[1], []⟩
    · have F := Y
      refine xQp [10, 11, 5] ?_
      refine xs 1 ?_
      refine xp ⟨[1], []⟩ (tabG 1 (tree_parser_unary_sc q3 a1 a2 r1 a4 (.er e2) hr4)) ?_
      refine xS ?_
      refine xpD [(42, [.pt 4 0])] ?_
      obtain ⟨r8, hr11, H⟩ := osplit H
      refine xD ⟨[4, 1], []⟩ (tabD 0 (tree_parser_down_1_dc a1 e2.2.2.2.1 e2.2.2.2.2 a4 r8 (some (.iface 46 (.agg ⟨[.int .i64 e2.1, .int .i64 e2.2.1, .int .i64 e2.2.2.1]⟩))) hr11)) ?_
      replace H := Option.some.inj H
      subst H
      exact xOv ⟨[1], []⟩
  · have F := Y
    refine xQp [8, 9] ?_
    refine xs 1 ?_
    refine xp ⟨[1], []⟩ (tabG 0 (tree_parser_down_c a1 a2 a3 a4 (.er e1) hr2)) ?_
    replace H := Option.some.inj H
    refine xS ?_
    subst H
    refine xpD [] ?_
    exact xOv ⟨[1], []⟩
noncomputable def tree_parser_unary_j1 (q4 : (List Token) → Int → Int → (List KD) → Option (GR (Int × Int × Int × Int × Int) (Int × Int × (List Node) × Int × Int))) (q3 : (List Token) → Int → Int → (List KD) → Option (GR (Int × Int × Int × Int × Int) (Int × Int × (List Node) × Int × Int))) (a0 : List Token) (a1 : Int) (a3 : List KD) (r1 : Int) : Bool → Option (GR (Int × Int × Int × Int × Int) (Int × Int × (List Node) × Int × Int))
  | x1 => if x1 = true then grB (q3 a0 (IntKind.i64.wrap (a1 + 1)) r1 a3) (fun r3 => (tree_parser_down_1 a0 r3.2.2.2.1 r3.2.2.2.2 a3).bind fun r4 => some (.ok (12, a1, [(⟨r3.1, r3.2.1, r3.2.2.1⟩ : Node)], r3.2.2.2.1, r4))) (fun e2 => (tree_parser_down_1 a0 e2.2.2.2.1 e2.2.2.2.2 a3).bind fun r5 => some (.er (e2.1, e2.2.1, e2.2.2.1, e2.2.2.2.1, r5))) else grB (q4 a0 a1 r1 a3) (fun r6 => (tree_parser_down_1 a0 r6.2.2.2.1 r6.2.2.2.2 a3).bind fun r7 => some (.ok (r6.1, r6.2.1, r6.2.2.1, r6.2.2.2.1, r7))) (fun e3 => (tree_parser_down_1 a0 e3.2.2.2.1 e3.2.2.2.2 a3).bind fun r8 => some (.er (e3.1, e3.2.1, e3.2.2.1, e3.2.2.2.1, r8)))
noncomputable def tree_parser_unary_s (q1 : (List Token) → Int → Int → (List KD) → Option (GR (Int × Int × Int × Int × Int) (Int × Int × (List Node) × Int × Int))) (q2 : Int → (List Token) → Int → Int → (List KD) → Option (GR (Int × Int × Int × Int × Int) (Int × Int × (List Node) × Int × Int))) (q3 : (List Token) → Int → Int → (List KD) → Option (GR (Int × Int × Int × Int × Int) (Int × Int × (List Node) × Int × Int))) (q4 : (List Token) → Int → Int → (List KD) → Option (GR (Int × Int × Int × Int × Int) (Int × Int × (List Node) × Int × Int))) (q5 : (List Token) → Int → Int → (List KD) → Option (GR (Int × Int × Int × Int × Int) (Int × Int × (List Node) × Int × Int))) (a0 : List Token) (a1 : Int) (a2 : Int) (a3 : List KD) : Option (GR (Int × Int × Int × Int × Int) (Int × Int × (List Node) × Int × Int)) :=
  grB (tree_parser_down a0 a1 a2 a3) (fun r1 => (tree_parser_peek a0 a1 r1 a3).bind fun r2 => if (eqS r2 [45]) = true then tree_parser_unary_j1 q4 q3 a0 a1 a3 r1 true else if (eqS r2 [43]) = true then tree_parser_unary_j1 q4 q3 a0 a1 a3 r1 true else if (eqS r2 [33]) = true then tree_parser_unary_j1 q4 q3 a0 a1 a3 r1 true else if (eqS r2 [126]) = true then tree_parser_unary_j1 q4 q3 a0 a1 a3 r1 true else if (eqS r2 [42]) = true then tree_parser_unary_j1 q4 q3 a0 a1 a3 r1 true else if (eqS r2 [38]) = true then tree_parser_unary_j1 q4 q3 a0 a1 a3 r1 true else if (eqS r2 [43, 43]) = true then tree_parser_unary_j1 q4 q3 a0 a1 a3 r1 true else tree_parser_unary_j1 q4 q3 a0 a1 a3 r1 (eqS r2 [45, 45])) (fun e1 => some (.er (10, e1.1, e1.2, a1, a2)))
set_option maxRecDepth 100000 in
set_option maxHeartbeats 4000000 in
theorem tree_parser_unary_sok (q1 : (List Token) → Int → Int → (List KD) → Option (GR (Int × Int × Int × Int × Int) (Int × Int × (List Node) × Int × Int))) (q2 : Int → (List Token) → Int → Int → (List KD) → Option (GR (Int × Int × Int × Int × Int) (Int × Int × (List Node) × Int × Int))) (q3 : (List Token) → Int → Int → (List KD) → Option (GR (Int × Int × Int × Int × Int) (Int × Int × (List Node) × Int × Int))) (q4 : (List Token) → Int → Int → (List KD) → Option (GR (Int × Int × Int × Int × Int) (Int × Int × (List Node) × Int × Int))) (q5 : (List Token) → Int → Int → (List KD) → Option (GR (Int × Int × Int × Int × Int) (Int × Int × (List Node) × Int × Int))) (kq1 : Kok Try.prog 35 false (SF_tree_parser_expr q1)) (kq2 : Kok Try.prog 41 false (SF_tree_parser_binary q2)) (kq3 : Kok Try.prog 43 false (SF_tree_parser_unary q3)) (kq4 : Kok Try.prog 45 false (SF_tree_parser_postfix q4)) (kq5 : Kok Try.prog 37 false (SF_tree_parser_assign q5)) : ∀ g, SF_tree_parser_unary (tree_parser_unary_s q1 q2 q3 q4 q5) g → GenOk Try.prog 43 g := by
  rintro _ ⟨a0, a1, a2, a3, r, H, rfl⟩
  refine xGn mixed [] [(38, false, S_tree_parser_down), (19, true, S_tree_parser_peek), (43, false, (SF_tree_parser_unary q3)), (45, false, (SF_tree_parser_postfix q4))] [(42, SD_tree_parser_down_1)] trivial ⟨tree_parser_down_k, tree_parser_peek_k, kq3, kq4, trivial⟩ ⟨⟨call_42, tree_parser_down_1_dok⟩, trivial⟩ Try.func43 _ ?_
  have G := True.intro
  have Y := xZ y_3 <| xZ y_25 <| xZ y_27 <| xZ y_51 <| xZ Try.results43 <| xZ d_Call.eq_1 <| xZ d_Token.eq_1 <| xZ dq_Node <| xZ g_tree_parser_down.eq_1 <| xZ g_tree_parser_peek.eq_1 <| xZ g_tree_parser_unary.eq_1 <| xZ g_tree_parser_postfix.eq_1 <| xZ di_tree_parser_down_1.eq_1 <| g_tree_parser_unary.eq_1
  dsimp only [g_tree_parser_unary]
  simp only [tree_parser_unary_s] at H
  refine xS ?_
  refine xr ?_
  rcases rsplit H with ⟨r1, hr1, H⟩ | ⟨e1, hr2, H⟩
  · have F := Y
    refine xQ ?_
    refine xs 1 ?_
    refine xc ⟨[1], []⟩ (tabG 0 (tree_parser_down_c a0 a1 a2 a3 (.ok r1) hr1)) ?_
    refine xw ?_
    refine xl ?_
    refine xS ?_
    obtain ⟨r2, hr3, H⟩ := osplit H
    have F := Y
    refine xQ ?_
    refine xs 1 ?_
    refine xc ⟨[1], []⟩ (tabG 1 (tree_parser_peek_c a0 a1 r1 a3 r2 hr3)) ?_
    refine xl ?_
    refine  ?_
    refine then_normal ?_
    refine w_block ?_
    refine w_cut (tree_parser_unary_j1 q4 q3 a0 a1 a3 r1) (fun s => [(0, .c (.pt 1 0)), (2, .c (.pt 2 0)), (8, .c (.d (.v (.bool s)))), (1000000, .df [(42, [.pt 3 0])])]) (fun s => [[.d (.sl 11 (List.map d_Token a0)), .d (.v (.int .i64 a1)), .d (.v (.int .i64 r1)), .kc (KSK a3)], [.d (.v (.int .i64 0)), .d (.v (.int .i64 0)), .sl 3 [] 0], [.pt 1 0]]) [] r ?_ ?_
    · refine xS ?_
      refine xr ?_
      rcases bsplit H with ⟨hp2, H⟩ | ⟨hp2, H⟩
      · obtain ⟨F, G, hq2⟩ := xH Y G hp2
        refine xT ?_
        exact cut_at H (xK ⟨[1,2,4], []⟩)
      · obtain ⟨F, G, hq2⟩ := xH Y G hp2
        refine xE ?_
        refine xr ?_
        rcases bsplit H with ⟨hp3, H⟩ | ⟨hp3, H⟩
        · obtain ⟨F, G, hq3⟩ := xH Y G hp3
          refine xT ?_
          exact cut_at H (xK ⟨[1,2,4], []⟩)
        · obtain ⟨F, G, hq3⟩ := xH Y G hp3
          refine xE ?_
          refine xr ?_
          rcases bsplit H with ⟨hp4, H⟩ | ⟨hp4, H⟩
          · obtain ⟨F, G, hq4⟩ := xH Y G hp4
            refine xT ?_
            exact cut_at H (xK ⟨[1,2,4], []⟩)
          · obtain ⟨F, G, hq4⟩ := xH Y G hp4
            refine xE ?_
            refine xr ?_
            rcases bsplit H with ⟨hp5, H⟩ | ⟨hp5, H⟩
            · obtain ⟨F, G, hq5⟩ := xH Y G hp5
              refine xT ?_
              exact cut_at H (xK ⟨[1,2,4], []⟩)
            · obtain ⟨F, G, hq5⟩ := xH Y G hp5
              refine xE ?_
              refine xr ?_
              rcases bsplit H with ⟨hp6, H⟩ | ⟨hp6, H⟩
              · obtain ⟨F, G, hq6⟩ := xH Y G hp6
                refine xT ?_
                exact cut_at H (xK ⟨[1,2,4], []⟩)
              · obtain ⟨F, G, hq6⟩ := xH Y G hp6
                refine xE ?_
                refine xr ?_
                rcases bsplit H with ⟨hp7, H⟩ | ⟨hp7, H⟩
                · obtain ⟨F, G, hq7⟩ := xH Y G hp7
                  refine xT ?_
                  exact cut_at H (xK ⟨[1,2,4], []⟩)
                · obtain ⟨F, G, hq7⟩ := xH Y G hp7
                  refine xE ?_
                  refine xr ?_
                  rcases bsplit H with ⟨hp8, H⟩ | ⟨hp8, H⟩
                  · obtain ⟨F, G, hq8⟩ := xH Y G hp8
                    refine xT ?_
                    exact cut_at H (xK ⟨[1,2,4], []⟩)
                  · obtain ⟨F, G, hq8⟩ := xH Y G hp8
                    refine xE ?_
                    refine xr ?_
                    exact cut_at H (xK ⟨[1,2,4], []⟩)
    · rintro x1 H
      rw [tree_parser_unary_j1] at H
      rcases bsplit H with ⟨hp1, H⟩ | ⟨hp1, H⟩
      · obtain ⟨F, G, hq1⟩ := xH Y G hp1
        refine xT ?_
        refine xr ?_
        refine xr ?_
        rcases rsplit H with ⟨r3, hr4, H⟩ | ⟨e2, hr5, H⟩
        · have F := Y
          refine xQ ?_
          refine xs 1 ?_
          refine xc ⟨[1], []⟩ (tabG 2 (tree_parser_unary_sc q3 a0 (IntKind.i64.wrap (a1 + 1)) r1 a3 (.ok r3) hr4)) ?_
          refine xs 3 ?_
          refine xl ?_
          refine xS ?_
          refine xr ?_
          refine xrD [(42, [.pt 3 0])] ?_
          obtain ⟨r4, hr6, H⟩ := osplit H
          refine xD ⟨[3, 1], []⟩ (tabD 0 (tree_parser_down_1_dc a0 r3.2.2.2.1 r3.2.2.2.2 a3 r4 none hr6)) ?_
          replace H := Option.some.inj H
          subst H
          exact xO ⟨[1], [0]⟩
        · have F := Y
          refine xQp [29, 30, 31, 32] ?_
          refine xs 1 ?_
          refine xp ⟨[1], []⟩ (tabG 2 (tree_parser_unary_sc q3 a0 (IntKind.i64.wrap (a1 + 1)) r1 a3 (.er e2) hr5)) ?_
          refine xS ?_
          refine xpD [(42, [.pt 3 0])] ?_
          obtain ⟨r5, hr7, H⟩ := osplit H
          refine xD ⟨[3, 1], []⟩ (tabD 0 (tree_parser_down_1_dc a0 e2.2.2.2.1 e2.2.2.2.2 a3 r5 (some (.iface 46 (.agg ⟨[.int .i64 e2.1, .int .i64 e2.2.1, .int .i64 e2.2.2.1]⟩))) hr7)) ?_
          replace H := Option.some.inj H
          subst H
          exact xOv ⟨[1], []⟩
      · obtain ⟨F, G, hq1⟩ := xH Y G hp1
        refine xE ?_
        rcases rsplit H with ⟨r6, hr8, H⟩ | ⟨e3, hr9, H⟩
        · have F := Y
          refine xQ ?_
          refine xs 1 ?_
          refine xc ⟨[1], []⟩ (tabG 3 (tree_parser_postfix_sc q4 a0 a1 r1 a3 (.ok r6) hr8)) ?_
          refine xs 1 ?_
          refine xl ?_
          refine xS ?_
          refine xrD [(42, [.pt 3 0])] ?_
          obtain ⟨r7, hr10, H⟩ := osplit H
          refine xD ⟨[3, 1], []⟩ (tabD 0 (tree_parser_down_1_dc a0 r6.2.2.2.1 r6.2.2.2.2 a3 r7 none hr10)) ?_
          replace H := Option.some.inj H
          subst H
          exact xO ⟨[1], [5]⟩
        · have F := Y
          refine xQp [34, 35] ?_
          refine xs 1 ?_
          refine xp ⟨[1], []⟩ (tabG 3 (tree_parser_postfix_sc q4 a0 a1 r1 a3 (.er e3) hr9)) ?_
          refine xS ?_
          refine xpD [(42, [.pt 3 0])] ?_
          obtain ⟨r8, hr11, H⟩ := osplit H
          refine xD ⟨[3, 1], []⟩ (tabD 0 (tree_parser_down_1_dc a0 e3.2.2.2.1 e3.2.2.2.2 a3 r8 (some (.iface 46 (.agg ⟨[.int .i64 e3.1, .int .i64 e3.2.1, .int .i64 e3.2.2.1]⟩))) hr11)) ?_
          replace H := Option.some.inj H
          subst H
          exact xOv ⟨[1], []⟩
  · have F := Y
    refine xQp [4, 5] ?_
    refine xs 1 ?_
    refine xp ⟨[1], []⟩ (tabG 0 (tree_parser_down_c a0 a1 a2 a3 (.er e1) hr2)) ?_
    replace H := Option.some.inj H
    refine xS ?_
    subst H
    refine xpD [] ?_
    exact xOv ⟨[1], []⟩
noncomputable def tree_parser_postfix_j4 (q5 : (List Token) → Int → Int → (List KD) → Option (GR (Int × Int × Int × Int × Int) (Int × Int × (List Node) × Int × Int))) (a0 : List Token) (a3 : List KD) (x12 : Int) (x13 : List Node) : Int → Option ((Int × Int × (List Node)) ⊕ ((Int × Int × Int × Int × (List Node)) ⊕ (GR (Int × Int × Int × Int × Int) (Int × Int × (List Node) × Int × Int))))
  | x14 => grB (q5 a0 x14 x12 a3) (fun r3 => if (x13.length + [(⟨r3.1, r3.2.1, r3.2.2.1⟩ : Node)].length) * 40 ≤ 140737488355328 then some (.inl (r3.2.2.2.1, r3.2.2.2.2, x13 ++ [(⟨r3.1, r3.2.1, r3.2.2.1⟩ : Node)])) else none) (fun e1 => inrO (inrO (some (.er (e1.1, e1.2.1, e1.2.2.1, e1.2.2.2.1, e1.2.2.2.2)))))
noncomputable def tree_parser_postfix_b3 (q5 : (List Token) → Int → Int → (List KD) → Option (GR (Int × Int × Int × Int × Int) (Int × Int × (List Node) × Int × Int))) (a0 : List Token) (a3 : List KD) : (Int × Int × (List Node)) → Option ((Int × Int × (List Node)) ⊕ ((Int × Int × Int × Int × (List Node)) ⊕ (GR (Int × Int × Int × Int × Int) (Int × Int × (List Node) × Int × Int))))
  | (x11, x12, x13) => (tree_parser_eat [41] a0 x11 x12 a3).bind fun r2 => if (!r2.1) = true then if (ltI 1 (x13.length : Int)) = true then grB (tree_parser_must [44] a0 r2.2 x12 a3) (fun r4 => tree_parser_postfix_j4 q5 a0 a3 x12 x13 r4) (fun e2 => inrO (inrO (some (.er (2, e2.1, e2.2.1, e2.2.2, x12))))) else tree_parser_postfix_j4 q5 a0 a3 x12 x13 r2.2 else inrO (some (.inl (r2.2, x12, 14, (-1), x13)))
noncomputable def tree_parser_postfix_b2 (q5 : (List Token) → Int → Int → (List KD) → Option (GR (Int × Int × Int × Int × Int) (Int × Int × (List Node) × Int × Int))) (q1 : (List Token) → Int → Int → (List KD) → Option (GR (Int × Int × Int × Int × Int) (Int × Int × (List Node) × Int × Int))) (a0 : List Token) (a3 : List KD) : (Int × Int × Int × Int × (List Node)) → Option ((Int × Int × Int × Int × (List Node)) ⊕ (GR (Int × Int × Int × Int × Int) (Int × Int × (List Node) × Int × Int)))
  | (x6, x7, x8, x9, x10) => (tree_parser_eat [40] a0 x6 x7 a3).bind fun r1 => if r1.1 = true then loopO (tree_parser_postfix_b3 q5 a0 a3) (r1.2, x7, [(⟨x8, x9, x10⟩ : Node)]) else (tree_parser_eat [91] a0 r1.2 x7 a3).bind fun r5 => if r5.1 = true then grB (q1 a0 r5.2 x7 a3) (fun r6 => grB (tree_parser_must [93] a0 r6.2.2.2.1 r6.2.2.2.2 a3) (fun r7 => some (.inl (r7, r6.2.2.2.2, 15, (-1), [(⟨x8, x9, x10⟩ : Node), (⟨r6.1, r6.2.1, r6.2.2.1⟩ : Node)]))) (fun e4 => inrO (some (.er (2, e4.1, e4.2.1, e4.2.2, r6.2.2.2.2))))) (fun e3 => inrO (some (.er (e3.1, e3.2.1, e3.2.2.1, e3.2.2.2.1, e3.2.2.2.2)))) else inrO (some (.ok (x8, x9, x10, r5.2, x7)))
noncomputable def tree_parser_postfix_j1 (q5 : (List Token) → Int → Int → (List KD) → Option (GR (Int × Int × Int × Int × Int) (Int × Int × (List Node) × Int × Int))) (q1 : (List Token) → Int → Int → (List KD) → Option (GR (Int × Int × Int × Int × Int) (Int × Int × (List Node) × Int × Int))) (a0 : List Token) (a3 : List KD) : (Int × Int × Int × Int × (List Node)) → Option (GR (Int × Int × Int × Int × Int) (Int × Int × (List Node) × Int × Int))
  | (x1, x2, x3, x4, x5) => loopO (tree_parser_postfix_b2 q5 q1 a0 a3) (x1, x2, x3, x4, x5)
noncomputable def tree_parser_postfix_j5 (q5 : (List Token) → Int → Int → (List KD) → Option (GR (Int × Int × Int × Int × Int) (Int × Int × (List Node) × Int × Int))) (q1 : (List Token) → Int → Int → (List KD) → Option (GR (Int × Int × Int × Int × Int) (Int × Int × (List Node) × Int × Int))) (a0 : List Token) (a2 : Int) (a3 : List KD) (r9 : (Bool × Int)) : Bool → Option (GR (Int × Int × Int × Int × Int) (Int × Int × (List Node) × Int × Int))
  | x15 => if x15 = true then tree_parser_postfix_j1 q5 q1 a0 a3 (IntKind.i64.wrap (r9.2 + 1), a2, 11, r9.2, ([] : List Node)) else grB (tree_parser_name a0 r9.2 a2 a3) (fun r12 => tree_parser_postfix_j1 q5 q1 a0 a3 (r12.2, a2, 10, r12.1, ([] : List Node))) (fun e8 => some (.er (2, e8.1, e8.2, r9.2, a2)))
noncomputable def tree_parser_postfix_s (q1 : (List Token) → Int → Int → (List KD) → Option (GR (Int × Int × Int × Int × Int) (Int × Int × (List Node) × Int × Int))) (q2 : Int → (List Token) → Int → Int → (List KD) → Option (GR (Int × Int × Int × Int × Int) (Int × Int × (List Node) × Int × Int))) (q3 : (List Token) → Int → Int → (List KD) → Option (GR (Int × Int × Int × Int × Int) (Int × Int × (List Node) × Int × Int))) (q4 : (List Token) → Int → Int → (List KD) → Option (GR (Int × Int × Int × Int × Int) (Int × Int × (List Node) × Int × Int))) (q5 : (List Token) → Int → Int → (List KD) → Option (GR (Int × Int × Int × Int × Int) (Int × Int × (List Node) × Int × Int))) (a0 : List Token) (a1 : Int) (a2 : Int) (a3 : List KD) : Option (GR (Int × Int × Int × Int × Int) (Int × Int × (List Node) × Int × Int)) :=
  if (eqI a1 (a0.length : Int)) = true then (tree_parser_fail 9 a0 a1 a2 a3).bind fun e5 => some (.er (9, e5.1, e5.2, a1, a2)) else (tree_parser_eat [40] a0 a1 a2 a3).bind fun r9 => if r9.1 = true then grB (q1 a0 r9.2 a2 a3) (fun r10 => grB (tree_parser_must [41] a0 r10.2.2.2.1 r10.2.2.2.2 a3) (fun r11 => tree_parser_postfix_j1 q5 q1 a0 a3 (r11, r10.2.2.2.2, r10.1, r10.2.1, r10.2.2.1)) (fun e7 => some (.er (2, e7.1, e7.2.1, e7.2.2, r10.2.2.2.2)))) (fun e6 => some (.er (e6.1, e6.2.1, e6.2.2.1, e6.2.2.2.1, e6.2.2.2.2))) else if (0 : Int) ≤ r9.2 ∧ r9.2.toNat < a0.length then if (eqI ((a0.getD r9.2.toNat default).Kind) 2) = true then tree_parser_postfix_j5 q5 q1 a0 a2 a3 r9 true else if (0 : Int) ≤ r9.2 ∧ r9.2.toNat < a0.length then if (eqI ((a0.getD r9.2.toNat default).Kind) 3) = true then tree_parser_postfix_j5 q5 q1 a0 a2 a3 r9 true else if (0 : Int) ≤ r9.2 ∧ r9.2.toNat < a0.length then tree_parser_postfix_j5 q5 q1 a0 a2 a3 r9 (eqI ((a0.getD r9.2.toNat default).Kind) 4) else none else none else none
set_option maxRecDepth 100000 in
set_option maxHeartbeats 4000000 in
theorem tree_parser_postfix_sok (q1 : (List Token) → Int → Int → (List KD) → Option (GR (Int × Int × Int × Int × Int) (Int × Int × (List Node) × Int × Int))) (q2 : Int → (List Token) → Int → Int → (List KD) → Option (GR (Int × Int × Int × Int × Int) (Int × Int × (List Node) × Int × Int))) (q3 : (List Token) → Int → Int → (List KD) → Option (GR (Int × Int × Int × Int × Int) (Int × Int × (List Node) × Int × Int))) (q4 : (List Token) → Int → Int → (List KD) → Option (GR (Int × Int × Int × Int × Int) (Int × Int × (List Node) × Int × Int))) (q5 : (List Token) → Int → Int → (List KD) → Option (GR (Int × Int × Int × Int × Int) (Int × Int × (List Node) × Int × Int))) (kq1 : Kok Try.prog 35 false (SF_tree_parser_expr q1)) (kq2 : Kok Try.prog 41 false (SF_tree_parser_binary q2)) (kq3 : Kok Try.prog 43 false (SF_tree_parser_unary q3)) (kq4 : Kok Try.prog 45 false (SF_tree_parser_postfix q4)) (kq5 : Kok Try.prog 37 false (SF_tree_parser_assign q5)) : ∀ g, SF_tree_parser_postfix (tree_parser_postfix_s q1 q2 q3 q4 q5) g → GenOk Try.prog 45 g := by
  rintro _ ⟨a0, a1, a2, a3, r, H, rfl⟩
  refine xGnl mixed [17, 20] [] [(23, true, S_tree_parser_eat), (37, false, (SF_tree_parser_assign q5)), (25, false, S_tree_parser_must), (35, false, (SF_tree_parser_expr q1)), (33, false, S_tree_parser_fail), (34, false, S_tree_parser_name)] [] trivial ⟨tree_parser_eat_k, kq5, tree_parser_must_k, kq1, tree_parser_fail_k, tree_parser_name_k, trivial⟩ trivial Try.func45 _ ?_
  have G := True.intro
  have Y := xZ y_3 <| xZ y_23 <| xZ y_25 <| xZ y_27 <| xZ y_38 <| xZ y_51 <| xZ Try.results45 <| xZ d_Call.eq_1 <| xZ d_Token.eq_1 <| xZ dq_Node <| xZ g_tree_parser_eat.eq_1 <| xZ g_tree_parser_assign.eq_1 <| xZ g_tree_parser_must.eq_1 <| xZ g_tree_parser_expr.eq_1 <| xZ g_tree_parser_fail.eq_1 <| xZ g_tree_parser_name.eq_1 <| g_tree_parser_postfix.eq_1
  dsimp only [g_tree_parser_postfix]
  simp only [tree_parser_postfix_s] at H
  refine xS ?_
  refine xr ?_
  refine xr0 ?_
  refine then_normal ?_
  refine w_cut (tree_parser_postfix_j1 q5 q1 a0 a3) (fun s => [(0, .c (.pt 1 0)), (2, .c (.pt 2 0)), (3, .c (.pt 3 0))]) (fun s => [[.d (.sl 11 (List.map d_Token a0)), .d (.v (.int .i64 s.1)), .d (.v (.int .i64 s.2.1)), .kc (KSK a3)], [.d (.v (.int .i64 0)), .d (.v (.int .i64 0)), .sl 3 [] 0], [.d (.v (.int .i64 s.2.2.1)), .d (.v (.int .i64 s.2.2.2.1)), .sl 3 (List.map d_Node s.2.2.2.2) 4]]) [27] r ?_ ?_
  · refine xS ?_
    refine xr ?_
    rcases bsplit H with ⟨hp5, H⟩ | ⟨hp5, H⟩
    · obtain ⟨F, G, hq5⟩ := xH Y G hp5
      refine xT ?_
      obtain ⟨e5, hr13, H⟩ := osplit H
      have F := Y
      refine xQp [19, 20] ?_
      refine xs 1 ?_
      refine xp ⟨[1], []⟩ (tabG 4 (tree_parser_fail_c 9 a0 a1 a2 a3 e5 hr13)) ?_
      replace H := Option.some.inj H
      refine xS ?_
      subst H
      refine xpD [] ?_
      exact xOv ⟨[1], []⟩
    · obtain ⟨F, G, hq5⟩ := xH Y G hp5
      refine xE ?_
      obtain ⟨r9, hr14, H⟩ := osplit H
      have F := Y
      refine xQ ?_
      refine xs 1 ?_
      refine xc ⟨[1], []⟩ (tabG 0 (tree_parser_eat_c [40] a0 a1 a2 a3 r9 hr14)) ?_
      refine xs 1 ?_
      refine xl ?_
      refine xS ?_
      rcases bsplit H with ⟨hp6, H⟩ | ⟨hp6, H⟩
      · obtain ⟨F, G, hq6⟩ := xH Y G hp6
        refine xT ?_
        rcases rsplit H with ⟨r10, hr15, H⟩ | ⟨e6, hr16, H⟩
        · have F := Y
          refine xQ ?_
          refine xs 1 ?_
          refine xc ⟨[1], []⟩ (tabG 3 (tree_parser_expr_sc q1 a0 r9.2 a2 a3 (.ok r10) hr15)) ?_
          refine xs 1 ?_
          refine xl ?_
          refine xS ?_
          rcases rsplit H with ⟨r11, hr17, H⟩ | ⟨e7, hr18, H⟩
          · have F := Y
            refine xQ ?_
            refine xs 1 ?_
            refine xc ⟨[1], []⟩ (tabG 2 (tree_parser_must_c [41] a0 r10.2.2.2.1 r10.2.2.2.2 a3 (.ok r11) hr17)) ?_
            refine xl ?_
            refine xS ?_
            exact cut_at H (xK ⟨[1,2,3], [6]⟩)
          · have F := Y
            refine xQp [26, 27] ?_
            refine xs 1 ?_
            refine xp ⟨[1], []⟩ (tabG 2 (tree_parser_must_c [41] a0 r10.2.2.2.1 r10.2.2.2.2 a3 (.er e7) hr18)) ?_
            replace H := Option.some.inj H
            refine xS ?_
            subst H
            refine xpD [] ?_
            exact xOv ⟨[1], []⟩
        · have F := Y
          refine xQp [24, 25] ?_
          refine xs 1 ?_
          refine xp ⟨[1], []⟩ (tabG 3 (tree_parser_expr_sc q1 a0 r9.2 a2 a3 (.er e6) hr16)) ?_
          replace H := Option.some.inj H
          refine xS ?_
          subst H
          refine xpD [] ?_
          exact xOv ⟨[1], []⟩
      · obtain ⟨F, G, hq6⟩ := xH Y G hp6
        refine xE0 ?_
        refine w_cut (tree_parser_postfix_j5 q5 q1 a0 a2 a3 r9) (fun s => [(0, .c (.pt 1 0)), (2, .c (.pt 2 0)), (3, .c (.pt 3 0)), (28, .c (.d (.v (.bool s))))]) (fun s => [[.d (.sl 11 (List.map d_Token a0)), .d (.v (.int .i64 r9.2)), .d (.v (.int .i64 a2)), .kc (KSK a3)], [.d (.v (.int .i64 0)), .d (.v (.int .i64 0)), .sl 3 [] 0], [.d (.v (.int .i64 0)), .d (.v (.int .i64 0)), .sl 3 [] 0]]) [] r ?_ ?_
        · obtain ⟨hg2, H⟩ := gsplit H
          have F := xZ Y (map_getD d_Token a0 r9.2.toNat default default (by omega))
          rcases bsplit H with ⟨hp8, H⟩ | ⟨hp8, H⟩
          · obtain ⟨F, G, hq8⟩ := xH F G hp8
            refine xR ?_
            exact cut_at H (xK ⟨[1,2,3], []⟩)
          · obtain ⟨F, G, hq8⟩ := xH F G hp8
            obtain ⟨hg3, H⟩ := gsplit H
            have F := xZ F (map_getD d_Token a0 r9.2.toNat default default (by omega))
            rcases bsplit H with ⟨hp9, H⟩ | ⟨hp9, H⟩
            · obtain ⟨F, G, hq9⟩ := xH F G hp9
              refine xR ?_
              exact cut_at H (xK ⟨[1,2,3], []⟩)
            · obtain ⟨F, G, hq9⟩ := xH F G hp9
              obtain ⟨hg4, H⟩ := gsplit H
              have F := xZ F (map_getD d_Token a0 r9.2.toNat default default (by omega))
              refine xR ?_
              exact cut_at H (xK ⟨[1,2,3], []⟩)
        · rintro x15 H
          rw [tree_parser_postfix_j5] at H
          rcases bsplit H with ⟨hp7, H⟩ | ⟨hp7, H⟩
          · obtain ⟨F, G, hq7⟩ := xH Y G hp7
            refine xT ?_
            refine xr ?_
            refine xr ?_
            exact cut_at H (xK ⟨[1,2,3], [0]⟩)
          · obtain ⟨F, G, hq7⟩ := xH Y G hp7
            refine xE ?_
            rcases rsplit H with ⟨r12, hr19, H⟩ | ⟨e8, hr20, H⟩
            · have F := Y
              refine xQ ?_
              refine xs 1 ?_
              refine xc ⟨[1], []⟩ (tabG 5 (tree_parser_name_c a0 r9.2 a2 a3 (.ok r12) hr19)) ?_
              refine xs 2 ?_
              refine xl ?_
              refine xS ?_
              exact cut_at H (xK ⟨[1,2,3], [0]⟩)
            · have F := Y
              refine xQp [5, 6, 7] ?_
              refine xs 1 ?_
              refine xp ⟨[1], []⟩ (tabG 5 (tree_parser_name_c a0 r9.2 a2 a3 (.er e8) hr20)) ?_
              replace H := Option.some.inj H
              refine xS ?_
              subst H
              refine xpD [] ?_
              exact xOv ⟨[1], []⟩
  · rintro ⟨x1, x2, x3, x4, x5⟩ H
    rw [tree_parser_postfix_j1] at H
    refine xS ?_
    refine w_loop (tree_parser_postfix_b2 q5 q1 a0 a3) (fun s => [(0, .c (.pt 1 0)), (2, .c (.pt 2 0)), (3, .c (.pt 3 0))]) (fun s => [[.d (.sl 11 (List.map d_Token a0)), .d (.v (.int .i64 s.1)), .d (.v (.int .i64 s.2.1)), .kc (KSK a3)], [.d (.v (.int .i64 0)), .d (.v (.int .i64 0)), .sl 3 [] 0], [.d (.v (.int .i64 s.2.2.1)), .d (.v (.int .i64 s.2.2.2.1)), .sl 3 (List.map d_Node s.2.2.2.2) 4]]) [27] H (xK ⟨[1,2,3], [4]⟩) ?_
    rintro n1 ⟨x6, x7, x8, x9, x10⟩ o1 H hF1
    rw [tree_parser_postfix_b2] at H
    refine xS ?_
    obtain ⟨r1, hr1, H⟩ := osplit H
    have F := Y
    refine xQ ?_
    refine xs 1 ?_
    refine xc ⟨[1], []⟩ (tabG 0 (tree_parser_eat_c [40] a0 x6 x7 a3 r1 hr1)) ?_
    refine xs 1 ?_
    refine xl ?_
    refine xS ?_
    rcases bsplit H with ⟨hp1, H⟩ | ⟨hp1, H⟩
    · obtain ⟨F, G, hq1⟩ := xH Y G hp1
      refine xT ?_
      refine xr ?_
      refine w_loop (tree_parser_postfix_b3 q5 a0 a3) (fun s => [(0, .c (.pt 1 0)), (2, .c (.pt 2 0)), (3, .c (.pt 3 0)), (4, .c (.pt 4 0))]) (fun s => [[.d (.sl 11 (List.map d_Token a0)), .d (.v (.int .i64 s.1)), .d (.v (.int .i64 s.2.1)), .kc (KSK a3)], [.d (.v (.int .i64 0)), .d (.v (.int .i64 0)), .sl 3 [] 0], [.d (.v (.int .i64 x8)), .d (.v (.int .i64 x9)), .sl 3 (List.map d_Node x10) 5], [.d (.v (.int .i64 14)), .d (.v (.int .i64 (-1))), .sl 3 (List.map d_Node s.2.2) 6]]) [27, 27] H (xK ⟨[1,2,3,6], [4,0]⟩) ?_
      rintro n2 ⟨x11, x12, x13⟩ o2 H hF2
      rw [tree_parser_postfix_b3] at H
      refine xS ?_
      obtain ⟨r2, hr2, H⟩ := osplit H
      have F := Y
      refine xQ ?_
      refine xs 1 ?_
      refine xc ⟨[1], []⟩ (tabG 0 (tree_parser_eat_c [41] a0 x11 x12 a3 r2 hr2)) ?_
      refine xs 1 ?_
      refine xl ?_
      refine xS ?_
      rcases bsplit H with ⟨hp2, H⟩ | ⟨hp2, H⟩
      · obtain ⟨F, G, hq2⟩ := xH Y G hp2
        refine xT0 ?_
        refine w_skip ?_
        refine then_normal ?_
        refine w_block ?_
        refine w_cut (tree_parser_postfix_j4 q5 a0 a3 x12 x13) (fun s => [(0, .c (.pt 1 0)), (2, .c (.pt 2 0)), (3, .c (.pt 3 0)), (4, .c (.pt 4 0))]) (fun s => [[.d (.sl 11 (List.map d_Token a0)), .d (.v (.int .i64 s)), .d (.v (.int .i64 x12)), .kc (KSK a3)], [.d (.v (.int .i64 0)), .d (.v (.int .i64 0)), .sl 3 [] 0], [.d (.v (.int .i64 x8)), .d (.v (.int .i64 x9)), .sl 3 (List.map d_Node x10) 5], [.d (.v (.int .i64 14)), .d (.v (.int .i64 (-1))), .sl 3 (List.map d_Node x13) 6]]) [27, 27] o2 ?_ ?_
        · refine xS ?_
          refine xr ?_
          rcases bsplit H with ⟨hp3, H⟩ | ⟨hp3, H⟩
          · obtain ⟨F, G, hq3⟩ := xH Y G hp3
            refine xT ?_
            rcases rsplit H with ⟨r4, hr5, H⟩ | ⟨e2, hr6, H⟩
            · have F := Y
              refine xQ ?_
              refine xs 1 ?_
              refine xc ⟨[1], []⟩ (tabG 2 (tree_parser_must_c [44] a0 r2.2 x12 a3 (.ok r4) hr5)) ?_
              refine xl ?_
              refine xS ?_
              exact cut_at H (xK ⟨[1,2,3,4], [5,6]⟩)
            · have F := Y
              refine xQp [95, 96] ?_
              refine xs 1 ?_
              refine xp ⟨[1], []⟩ (tabG 2 (tree_parser_must_c [44] a0 r2.2 x12 a3 (.er e2) hr6)) ?_
              replace H := inrO_fin H hF2
              replace H := inrO_fin H hF1
              replace H := Option.some.inj H
              refine xS ?_
              subst H
              refine xpD [] ?_
              exact xOv ⟨[1], []⟩
          · obtain ⟨F, G, hq3⟩ := xH Y G hp3
            refine xE ?_
            exact cut_at H (xK ⟨[1,2,3,4], [5,6]⟩)
        · rintro x14 H
          rw [tree_parser_postfix_j4] at H
          rcases rsplit H with ⟨r3, hr3, H⟩ | ⟨e1, hr4, H⟩
          · have F := Y
            obtain ⟨hg1, H⟩ := gsplit H
            have F := xZ F (all_map one_Node [(⟨r3.1, r3.2.1, r3.2.2.1⟩ : Node)])
            refine xP [0, 1, 2, 3, 4, 5, 6, 7] [98, 888888] ⟨tree_parser_eat_k, kq5, tree_parser_must_k, kq1, tree_parser_fail_k, tree_parser_name_k, trivial⟩ ?_
            refine xsX 1 ?_
            refine xaX ?_
            refine xsX 1 ?_
            refine xcX ⟨[1], []⟩ (tabG 1 (tree_parser_assign_sc q5 a0 x14 x12 a3 (.ok r3) hr3)) ?_
            refine xsX 1 ?_
            refine xbX ?_
            refine xsX 2 ?_
            refine xlX ?_
            refine xS ?_
            exact round_at (inl_fin H hF2) (xK ⟨[1,2,3,4], [5,9]⟩)
          · have F := Y
            refine xPp [97, 98, 99, 100, 101, 102, 103] [0, 1, 2, 3, 4, 5, 6, 7] [98, 888888] ⟨tree_parser_eat_k, kq5, tree_parser_must_k, kq1, tree_parser_fail_k, tree_parser_name_k, trivial⟩ ?_
            refine xsX 1 ?_
            refine xaX ?_
            refine xsX 1 ?_
            refine xpX ⟨[1], []⟩ (tabG 1 (tree_parser_assign_sc q5 a0 x14 x12 a3 (.er e1) hr4)) ?_
            replace H := inrO_fin H hF2
            replace H := inrO_fin H hF1
            replace H := Option.some.inj H
            refine xS ?_
            subst H
            refine xpD [] ?_
            exact xOv ⟨[1], []⟩
      · obtain ⟨F, G, hq2⟩ := xH Y G hp2
        replace H := inrO_fin H hF2
        refine xE ?_
        refine xr ?_
        exact round_at (inl_fin H hF1) (xK ⟨[1,2,3], [6]⟩)
    · obtain ⟨F, G, hq1⟩ := xH Y G hp1
      refine xE ?_
      obtain ⟨r5, hr7, H⟩ := osplit H
      have F := Y
      refine xQ ?_
      refine xs 1 ?_
      refine xc ⟨[1], []⟩ (tabG 0 (tree_parser_eat_c [91] a0 r1.2 x7 a3 r5 hr7)) ?_
      refine xs 1 ?_
      refine xl ?_
      refine xS ?_
      rcases bsplit H with ⟨hp4, H⟩ | ⟨hp4, H⟩
      · obtain ⟨F, G, hq4⟩ := xH Y G hp4
        refine xT ?_
        rcases rsplit H with ⟨r6, hr8, H⟩ | ⟨e3, hr9, H⟩
        · have F := Y
          refine xP [0, 1, 2, 3, 4, 5] [108, 888888] ⟨tree_parser_eat_k, kq5, tree_parser_must_k, kq1, tree_parser_fail_k, tree_parser_name_k, trivial⟩ ?_
          refine xaX ?_
          refine xsX 1 ?_
          refine xcX ⟨[1], []⟩ (tabG 3 (tree_parser_expr_sc q1 a0 r5.2 x7 a3 (.ok r6) hr8)) ?_
          refine xsX 3 ?_
          refine xlX ?_
          refine xS ?_
          rcases rsplit H with ⟨r7, hr10, H⟩ | ⟨e4, hr11, H⟩
          · have F := Y
            refine xQ ?_
            refine xs 1 ?_
            refine xc ⟨[1], []⟩ (tabG 2 (tree_parser_must_c [93] a0 r6.2.2.2.1 r6.2.2.2.2 a3 (.ok r7) hr10)) ?_
            refine xl ?_
            refine xS ?_
            exact round_at (inl_fin H hF1) (xK ⟨[1,2,3], [0]⟩)
          · have F := Y
            refine xQp [113, 114] ?_
            refine xs 1 ?_
            refine xp ⟨[1], []⟩ (tabG 2 (tree_parser_must_c [93] a0 r6.2.2.2.1 r6.2.2.2.2 a3 (.er e4) hr11)) ?_
            replace H := inrO_fin H hF1
            replace H := Option.some.inj H
            refine xS ?_
            subst H
            refine xpD [] ?_
            exact xOv ⟨[1], []⟩
        · have F := Y
          refine xPp [108, 109, 110, 111, 112] [0, 1, 2, 3, 4, 5] [108, 888888] ⟨tree_parser_eat_k, kq5, tree_parser_must_k, kq1, tree_parser_fail_k, tree_parser_name_k, trivial⟩ ?_
          refine xaX ?_
          refine xsX 1 ?_
          refine xpX ⟨[1], []⟩ (tabG 3 (tree_parser_expr_sc q1 a0 r5.2 x7 a3 (.er e3) hr9)) ?_
          replace H := inrO_fin H hF1
          replace H := Option.some.inj H
          refine xS ?_
          subst H
          refine xpD [] ?_
          exact xOv ⟨[1], []⟩
      · obtain ⟨F, G, hq4⟩ := xH Y G hp4
        refine xE ?_
        replace H := inrO_fin H hF1
        replace H := Option.some.inj H
        refine xr ?_
        subst H
        refine xrD [] ?_
        exact xO ⟨[1], [4]⟩
noncomputable def tree_parser_assign_s (q1 : (List Token) → Int → Int → (List KD) → Option (GR (Int × Int × Int × Int × Int) (Int × Int × (List Node) × Int × Int))) (q2 : Int → (List Token) → Int → Int → (List KD) → Option (GR (Int × Int × Int × Int × Int) (Int × Int × (List Node) × Int × Int))) (q3 : (List Token) → Int → Int → (List KD) → Option (GR (Int × Int × Int × Int × Int) (Int × Int × (List Node) × Int × Int))) (q4 : (List Token) → Int → Int → (List KD) → Option (GR (Int × Int × Int × Int × Int) (Int × Int × (List Node) × Int × Int))) (q5 : (List Token) → Int → Int → (List KD) → Option (GR (Int × Int × Int × Int × Int) (Int × Int × (List Node) × Int × Int))) (a0 : List Token) (a1 : Int) (a2 : Int) (a3 : List KD) : Option (GR (Int × Int × Int × Int × Int) (Int × Int × (List Node) × Int × Int)) :=
  grB (q2 2 a0 a1 a2 a3) (fun r1 => some (.ok (r1.1, r1.2.1, r1.2.2.1, r1.2.2.2.1, r1.2.2.2.2))) (fun e1 => some (.er (e1.1, e1.2.1, e1.2.2.1, e1.2.2.2.1, e1.2.2.2.2)))
set_option maxRecDepth 100000 in
set_option maxHeartbeats 4000000 in
theorem tree_parser_assign_sok (q1 : (List Token) → Int → Int → (List KD) → Option (GR (Int × Int × Int × Int × Int) (Int × Int × (List Node) × Int × Int))) (q2 : Int → (List Token) → Int → Int → (List KD) → Option (GR (Int × Int × Int × Int × Int) (Int × Int × (List Node) × Int × Int))) (q3 : (List Token) → Int → Int → (List KD) → Option (GR (Int × Int × Int × Int × Int) (Int × Int × (List Node) × Int × Int))) (q4 : (List Token) → Int → Int → (List KD) → Option (GR (Int × Int × Int × Int × Int) (Int × Int × (List Node) × Int × Int))) (q5 : (List Token) → Int → Int → (List KD) → Option (GR (Int × Int × Int × Int × Int) (Int × Int × (List Node) × Int × Int))) (kq1 : Kok Try.prog 35 false (SF_tree_parser_expr q1)) (kq2 : Kok Try.prog 41 false (SF_tree_parser_binary q2)) (kq3 : Kok Try.prog 43 false (SF_tree_parser_unary q3)) (kq4 : Kok Try.prog 45 false (SF_tree_parser_postfix q4)) (kq5 : Kok Try.prog 37 false (SF_tree_parser_assign q5)) : ∀ g, SF_tree_parser_assign (tree_parser_assign_s q1 q2 q3 q4 q5) g → GenOk Try.prog 37 g := by
  rintro _ ⟨a0, a1, a2, a3, r, H, rfl⟩
  refine xGn mixed [] [(41, false, (SF_tree_parser_binary q2))] [] trivial ⟨kq2, trivial⟩ trivial Try.func37 _ ?_
  have G := True.intro
  have Y := xZ y_27 <| xZ Try.results37 <| xZ d_Call.eq_1 <| xZ d_Token.eq_1 <| xZ dq_Node <| xZ g_tree_parser_binary.eq_1 <| g_tree_parser_assign.eq_1
  dsimp only [g_tree_parser_assign]
  simp only [tree_parser_assign_s] at H
  refine xS ?_
  refine xr ?_
  rcases rsplit H with ⟨r1, hr1, H⟩ | ⟨e1, hr2, H⟩
  · have F := Y
    refine xQ ?_
    refine xs 1 ?_
    refine xc ⟨[1], []⟩ (tabG 0 (tree_parser_binary_sc q2 2 a0 a1 a2 a3 (.ok r1) hr1)) ?_
    refine xs 1 ?_
    refine xl ?_
    replace H := Option.some.inj H
    refine xS ?_
    subst H
    refine xrD [] ?_
    exact xO ⟨[1], [4]⟩
  · have F := Y
    refine xQp [3, 4] ?_
    refine xs 1 ?_
    refine xp ⟨[1], []⟩ (tabG 0 (tree_parser_binary_sc q2 2 a0 a1 a2 a3 (.er e1) hr2)) ?_
    replace H := Option.some.inj H
    refine xS ?_
    subst H
    refine xpD [] ?_
    exact xOv ⟨[1], []⟩
noncomputable def rec_tree_parser_expr : Nat → ((List Token) → Int → Int → (List KD) → Option (GR (Int × Int × Int × Int × Int) (Int × Int × (List Node) × Int × Int))) × (Int → (List Token) → Int → Int → (List KD) → Option (GR (Int × Int × Int × Int × Int) (Int × Int × (List Node) × Int × Int))) × ((List Token) → Int → Int → (List KD) → Option (GR (Int × Int × Int × Int × Int) (Int × Int × (List Node) × Int × Int))) × ((List Token) → Int → Int → (List KD) → Option (GR (Int × Int × Int × Int × Int) (Int × Int × (List Node) × Int × Int))) × ((List Token) → Int → Int → (List KD) → Option (GR (Int × Int × Int × Int × Int) (Int × Int × (List Node) × Int × Int)))
  | 0 => (fun _ _ _ _ => none, fun _ _ _ _ _ => none, fun _ _ _ _ => none, fun _ _ _ _ => none, fun _ _ _ _ => none)
  | n + 1 => (tree_parser_expr_s ((rec_tree_parser_expr n).1) ((rec_tree_parser_expr n).2.1) ((rec_tree_parser_expr n).2.2.1) ((rec_tree_parser_expr n).2.2.2.1) ((rec_tree_parser_expr n).2.2.2.2), tree_parser_binary_s ((rec_tree_parser_expr n).1) ((rec_tree_parser_expr n).2.1) ((rec_tree_parser_expr n).2.2.1) ((rec_tree_parser_expr n).2.2.2.1) ((rec_tree_parser_expr n).2.2.2.2), tree_parser_unary_s ((rec_tree_parser_expr n).1) ((rec_tree_parser_expr n).2.1) ((rec_tree_parser_expr n).2.2.1) ((rec_tree_parser_expr n).2.2.2.1) ((rec_tree_parser_expr n).2.2.2.2), tree_parser_postfix_s ((rec_tree_parser_expr n).1) ((rec_tree_parser_expr n).2.1) ((rec_tree_parser_expr n).2.2.1) ((rec_tree_parser_expr n).2.2.2.1) ((rec_tree_parser_expr n).2.2.2.2), tree_parser_assign_s ((rec_tree_parser_expr n).1) ((rec_tree_parser_expr n).2.1) ((rec_tree_parser_expr n).2.2.1) ((rec_tree_parser_expr n).2.2.2.1) ((rec_tree_parser_expr n).2.2.2.2))
theorem rec_tree_parser_expr_k : ∀ n, Kok Try.prog 35 false (SF_tree_parser_expr (rec_tree_parser_expr n).1) ∧ Kok Try.prog 41 false (SF_tree_parser_binary (rec_tree_parser_expr n).2.1) ∧ Kok Try.prog 43 false (SF_tree_parser_unary (rec_tree_parser_expr n).2.2.1) ∧ Kok Try.prog 45 false (SF_tree_parser_postfix (rec_tree_parser_expr n).2.2.2.1) ∧ Kok Try.prog 37 false (SF_tree_parser_assign (rec_tree_parser_expr n).2.2.2.2)
  | 0 => ⟨⟨call_35, (by rintro _ ⟨_, _, _, _, _, H, _⟩; cases H), nofun⟩, ⟨call_41, (by rintro _ ⟨_, _, _, _, _, _, H, _⟩; cases H), nofun⟩, ⟨call_43, (by rintro _ ⟨_, _, _, _, _, H, _⟩; cases H), nofun⟩, ⟨call_45, (by rintro _ ⟨_, _, _, _, _, H, _⟩; cases H), nofun⟩, ⟨call_37, (by rintro _ ⟨_, _, _, _, _, H, _⟩; cases H), nofun⟩⟩
  | n + 1 => have h := rec_tree_parser_expr_k n; ⟨⟨call_35, tree_parser_expr_sok _ _ _ _ _ h.1 h.2.1 h.2.2.1 h.2.2.2.1 h.2.2.2.2, nofun⟩, ⟨call_41, tree_parser_binary_sok _ _ _ _ _ h.1 h.2.1 h.2.2.1 h.2.2.2.1 h.2.2.2.2, nofun⟩, ⟨call_43, tree_parser_unary_sok _ _ _ _ _ h.1 h.2.1 h.2.2.1 h.2.2.2.1 h.2.2.2.2, nofun⟩, ⟨call_45, tree_parser_postfix_sok _ _ _ _ _ h.1 h.2.1 h.2.2.1 h.2.2.2.1 h.2.2.2.2, nofun⟩, ⟨call_37, tree_parser_assign_sok _ _ _ _ _ h.1 h.2.1 h.2.2.1 h.2.2.2.1 h.2.2.2.2, nofun⟩⟩
noncomputable def tree_parser_expr : (List Token) → Int → Int → (List KD) → Option (GR (Int × Int × Int × Int × Int) (Int × Int × (List Node) × Int × Int)) := (rec_tree_parser_expr bigF).1
def S_tree_parser_expr : GI → Prop := SF_tree_parser_expr tree_parser_expr
theorem tree_parser_expr_c (a0 : List Token) (a1 : Int) (a2 : Int) (a3 : List KD) (r : GR (Int × Int × Int × Int × Int) (Int × Int × (List Node) × Int × Int)) (H : tree_parser_expr a0 a1 a2 a3 = some r) : S_tree_parser_expr (g_tree_parser_expr a0 a1 a2 a3 r) := tree_parser_expr_sc tree_parser_expr a0 a1 a2 a3 r H
theorem tree_parser_expr_k : Kok Try.prog 35 false S_tree_parser_expr := (rec_tree_parser_expr_k bigF).1
noncomputable def tree_parser_assign : (List Token) → Int → Int → (List KD) → Option (GR (Int × Int × Int × Int × Int) (Int × Int × (List Node) × Int × Int)) := (rec_tree_parser_expr bigF).2.2.2.2
def S_tree_parser_assign : GI → Prop := SF_tree_parser_assign tree_parser_assign
theorem tree_parser_assign_c (a0 : List Token) (a1 : Int) (a2 : Int) (a3 : List KD) (r : GR (Int × Int × Int × Int × Int) (Int × Int × (List Node) × Int × Int)) (H : tree_parser_assign a0 a1 a2 a3 = some r) : S_tree_parser_assign (g_tree_parser_assign a0 a1 a2 a3 r) := tree_parser_assign_sc tree_parser_assign a0 a1 a2 a3 r H
theorem tree_parser_assign_k : Kok Try.prog 37 false S_tree_parser_assign := (rec_tree_parser_expr_k bigF).2.2.2.2
noncomputable def tree_parser_make (a0 : List UInt8) (a1 : Bool) (a2 : List Token) (a3 : Int) (a4 : Int) (a5 : List KD) : Option (List KD) :=
  if 0 < a5.length ∧ a0.length ≤ 9223372036854775807 ∧ (kTop a5).length < 9223372036854775807 then some (kPut a5 a0 a1) else none
def g_tree_parser_make (a0 : List UInt8) (a1 : Bool) (a2 : List Token) (a3 : Int) (a4 : Int) (a5 : List KD) (r : (List KD)) : GI :=
  ⟨[.c (.pt 1 0), .c (.d (.v (str a0))), .c (.d (.v (.bool a1)))], [[.d (.sl 11 (List.map d_Token a2)), .d (.v (.int .i64 a3)), .d (.v (.int .i64 a4)), .kc (KSK a5)]], [], .ret (.tu []) [[.d (.sl 11 (List.map d_Token a2)), .d (.v (.int .i64 a3)), .d (.v (.int .i64 a4)), .kc (KSK r)]] []⟩
def S_tree_parser_make : GI → Prop := fun g => ∃ (a0 : List UInt8) (a1 : Bool) (a2 : List Token) (a3 : Int) (a4 : Int) (a5 : List KD) (r : (List KD)), tree_parser_make a0 a1 a2 a3 a4 a5 = some r ∧ g = g_tree_parser_make a0 a1 a2 a3 a4 a5 r
theorem tree_parser_make_c (a0 : List UInt8) (a1 : Bool) (a2 : List Token) (a3 : Int) (a4 : Int) (a5 : List KD) (r : (List KD)) (H : tree_parser_make a0 a1 a2 a3 a4 a5 = some r) : S_tree_parser_make (g_tree_parser_make a0 a1 a2 a3 a4 a5 r) := ⟨a0, a1, a2, a3, a4, a5, r, H, rfl⟩
set_option maxRecDepth 100000 in
set_option maxHeartbeats 4000000 in
theorem tree_parser_make_ok : ∀ g, S_tree_parser_make g → GenOk Try.prog 36 g := by
  rintro _ ⟨a0, a1, a2, a3, a4, a5, r, H, rfl⟩
  refine xGnl mixed [1000020] [] [] [] trivial trivial trivial Try.func36 _ ?_
  have G := True.intro
  have Y := xZ y_48 <| xZ y_49 <| xZ y_51 <| xZ Try.results36 <| xZ d_Call.eq_1 <| xZ d_Token.eq_1 <| g_tree_parser_make.eq_1
  dsimp only [g_tree_parser_make]
  simp only [tree_parser_make] at H
  obtain ⟨hgh, H⟩ := gsplit H
  refine hK_make a5 a0 a1 hgh ?_
  replace H := Option.some.inj H
  subst H
  refine xnD [] ?_
  exact xO ⟨[1], []⟩
theorem tree_parser_make_k : Callable Try.prog 36 ∧ (∀ g, S_tree_parser_make g → GenOk Try.prog 36 g) ∧ (true = true → ∀ g, S_tree_parser_make g → ∃ val bs ts, g.out = .ret val bs ts) :=
  ⟨call_36, tree_parser_make_ok, fun _ => by rintro _ ⟨_, _, _, _, _, _, _, _, rfl⟩; exact ⟨_, _, _, rfl⟩⟩
noncomputable def tree_parser_declarator_j2 (a0 : Bool) (a1 : List Token) (a4 : List KD) (r2 : (Int × Int)) : (Int × Int × (List Node)) → Option (GR (Int × Int × Int × Int × Int) (Int × (List Node) × Int × Int × (List KD)))
  | (x2, x3, x4) => if (0 : Int) ≤ r2.1 ∧ r2.1.toNat < a1.length then (tree_parser_make ((a1.getD r2.1.toNat default).Text) a0 a1 x2 x3 a4).bind fun r3 => some (.ok (r2.1, x4, x2, x3, r3)) else none
noncomputable def tree_parser_declarator_b1 (a0 : Bool) (a1 : List Token) (a3 : Int) (a4 : List KD) : Int → Option (Int ⊕ (GR (Int × Int × Int × Int × Int) (Int × (List Node) × Int × Int × (List KD))))
  | x1 => (tree_parser_eat [42] a1 x1 a3 a4).bind fun r1 => if r1.1 = true then some (.inl r1.2) else inrO (grB (tree_parser_name a1 r1.2 a3 a4) (fun r2 => (tree_parser_eat [91] a1 r2.2 a3 a4).bind fun r4 => if r4.1 = true then grB (tree_parser_expr a1 r4.2 a3 a4) (fun r5 => if (([] : List Node).length + [(⟨r5.1, r5.2.1, r5.2.2.1⟩ : Node)].length) * 40 ≤ 140737488355328 then grB (tree_parser_must [93] a1 r5.2.2.2.1 r5.2.2.2.2 a4) (fun r6 => tree_parser_declarator_j2 a0 a1 a4 r2 (r6, r5.2.2.2.2, ([] : List Node) ++ [(⟨r5.1, r5.2.1, r5.2.2.1⟩ : Node)])) (fun e3 => some (.er (2, e3.1, e3.2.1, e3.2.2, r5.2.2.2.2))) else none) (fun e2 => some (.er (e2.1, e2.2.1, e2.2.2.1, e2.2.2.2.1, e2.2.2.2.2))) else tree_parser_declarator_j2 a0 a1 a4 r2 (r4.2, a3, ([] : List Node))) (fun e1 => some (.er (2, e1.1, e1.2, r1.2, a3))))
noncomputable def tree_parser_declarator (a0 : Bool) (a1 : List Token) (a2 : Int) (a3 : Int) (a4 : List KD) : Option (GR (Int × Int × Int × Int × Int) (Int × (List Node) × Int × Int × (List KD))) :=
  loopO (tree_parser_declarator_b1 a0 a1 a3 a4) a2
def u_tree_parser_declarator (a0 : Bool) (a1 : List Token) (a2 : Int) (a3 : Int) (a4 : List KD) : GR (Int × Int × Int × Int × Int) (Int × (List Node) × Int × Int × (List KD)) → GOut
  | .ok r => .ret (.ag [.d (.v (.int .i64 4)), .d (.v (.int .i64 r.1)), .sl 3 (List.map d_Node r.2.1) 2]) [[.d (.sl 11 (List.map d_Token a1)), .d (.v (.int .i64 r.2.2.1)), .d (.v (.int .i64 r.2.2.2.1)), .kc (KSK r.2.2.2.2)]] [27]
  | .er r => .pan (.iface 46 (.agg ⟨[.int .i64 r.1, .int .i64 r.2.1, .int .i64 r.2.2.1]⟩)) [[.d (.sl 11 (List.map d_Token a1)), .d (.v (.int .i64 r.2.2.2.1)), .d (.v (.int .i64 r.2.2.2.2)), .kc (KSK a4)]] []
def g_tree_parser_declarator (a0 : Bool) (a1 : List Token) (a2 : Int) (a3 : Int) (a4 : List KD) (r : GR (Int × Int × Int × Int × Int) (Int × (List Node) × Int × Int × (List KD))) : GI :=
  ⟨[.c (.pt 1 0), .c (.d (.v (.bool a0)))], [[.d (.sl 11 (List.map d_Token a1)), .d (.v (.int .i64 a2)), .d (.v (.int .i64 a3)), .kc (KSK a4)]], [], u_tree_parser_declarator a0 a1 a2 a3 a4 r⟩
def S_tree_parser_declarator : GI → Prop := fun g => ∃ (a0 : Bool) (a1 : List Token) (a2 : Int) (a3 : Int) (a4 : List KD) (r : GR (Int × Int × Int × Int × Int) (Int × (List Node) × Int × Int × (List KD))), tree_parser_declarator a0 a1 a2 a3 a4 = some r ∧ g = g_tree_parser_declarator a0 a1 a2 a3 a4 r
theorem tree_parser_declarator_c (a0 : Bool) (a1 : List Token) (a2 : Int) (a3 : Int) (a4 : List KD) (r : GR (Int × Int × Int × Int × Int) (Int × (List Node) × Int × Int × (List KD))) (H : tree_parser_declarator a0 a1 a2 a3 a4 = some r) : S_tree_parser_declarator (g_tree_parser_declarator a0 a1 a2 a3 a4 r) := ⟨a0, a1, a2, a3, a4, r, H, rfl⟩
set_option maxRecDepth 100000 in
set_option maxHeartbeats 4000000 in
theorem tree_parser_declarator_ok : ∀ g, S_tree_parser_declarator g → GenOk Try.prog 22 g := by
  rintro _ ⟨a0, a1, a2, a3, a4, r, H, rfl⟩
  refine xGnl mixed [4] [] [(23, true, S_tree_parser_eat), (34, false, S_tree_parser_name), (36, true, S_tree_parser_make), (35, false, S_tree_parser_expr), (25, false, S_tree_parser_must)] [] trivial ⟨tree_parser_eat_k, tree_parser_name_k, tree_parser_make_k, tree_parser_expr_k, tree_parser_must_k, trivial⟩ trivial Try.func22 _ ?_
  have G := True.intro
  have Y := xZ y_3 <| xZ y_9 <| xZ y_23 <| xZ y_25 <| xZ y_27 <| xZ y_38 <| xZ y_51 <| xZ Try.results22 <| xZ d_Call.eq_1 <| xZ d_Token.eq_1 <| xZ dq_Node <| xZ g_tree_parser_eat.eq_1 <| xZ g_tree_parser_name.eq_1 <| xZ g_tree_parser_make.eq_1 <| xZ g_tree_parser_expr.eq_1 <| xZ g_tree_parser_must.eq_1 <| g_tree_parser_declarator.eq_1
  dsimp only [g_tree_parser_declarator]
  simp only [tree_parser_declarator] at H
  refine xS ?_
  refine xr ?_
  refine w_loop (tree_parser_declarator_b1 a0 a1 a3 a4) (fun s => [(0, .c (.pt 1 0)), (1, .c (.d (.v (.bool a0)))), (4, .c (.pt 2 0))]) (fun s => [[.d (.sl 11 (List.map d_Token a1)), .d (.v (.int .i64 s)), .d (.v (.int .i64 a3)), .kc (KSK a4)], [.d (.v (.int .i64 0)), .d (.v (.int .i64 0)), .sl 3 [] 0]]) [] H (xK ⟨[1,2], []⟩) ?_
  rintro n1 x1 o1 H hF1
  rw [tree_parser_declarator_b1] at H
  refine xS ?_
  obtain ⟨r1, hr1, H⟩ := osplit H
  have F := Y
  refine xQ ?_
  refine xs 1 ?_
  refine xc ⟨[1], []⟩ (tabG 0 (tree_parser_eat_c [42] a1 x1 a3 a4 r1 hr1)) ?_
  refine xl ?_
  refine xS ?_
  rcases bsplit H with ⟨hp1, H⟩ | ⟨hp1, H⟩
  · obtain ⟨F, G, hq1⟩ := xH Y G hp1
    refine xT ?_
    exact round_at (inl_fin H hF1) (xK ⟨[1,2], []⟩)
  · obtain ⟨F, G, hq1⟩ := xH Y G hp1
    replace H := inrO_fin H hF1
    refine xE ?_
    rcases rsplit H with ⟨r2, hr2, H⟩ | ⟨e1, hr3, H⟩
    · have F := Y
      refine xQ ?_
      refine xs 1 ?_
      refine xc ⟨[1], []⟩ (tabG 1 (tree_parser_name_c a1 r1.2 a3 a4 (.ok r2) hr2)) ?_
      refine xs 3 ?_
      refine xl ?_
      refine  ?_
      refine then_normal ?_
      refine w_cut (tree_parser_declarator_j2 a0 a1 a4 r2) (fun s => [(0, .c (.pt 1 0)), (1, .c (.d (.v (.bool a0)))), (4, .c (.pt 2 0)), (5, .c (.pt 3 0))]) (fun s => [[.d (.sl 11 (List.map d_Token a1)), .d (.v (.int .i64 s.1)), .d (.v (.int .i64 s.2.1)), .kc (KSK a4)], [.d (.v (.int .i64 0)), .d (.v (.int .i64 0)), .sl 3 [] 0], [.d (.v (.int .i64 4)), .d (.v (.int .i64 r2.1)), .sl 3 (List.map d_Node s.2.2) 4]]) [27] r ?_ ?_
      · refine xS ?_
        obtain ⟨r4, hr5, H⟩ := osplit H
        have F := Y
        refine xQ ?_
        refine xs 1 ?_
        refine xc ⟨[1], []⟩ (tabG 0 (tree_parser_eat_c [91] a1 r2.2 a3 a4 r4 hr5)) ?_
        refine xl ?_
        refine xS ?_
        rcases bsplit H with ⟨hp2, H⟩ | ⟨hp2, H⟩
        · obtain ⟨F, G, hq2⟩ := xH Y G hp2
          refine xT ?_
          rcases rsplit H with ⟨r5, hr6, H⟩ | ⟨e2, hr7, H⟩
          · have F := Y
            obtain ⟨hg2, H⟩ := gsplit H
            have F := xZ F (all_map one_Node [(⟨r5.1, r5.2.1, r5.2.2.1⟩ : Node)])
            refine xP [0, 1, 2, 3, 4, 5, 6, 7] [14, 888888] ⟨tree_parser_eat_k, tree_parser_name_k, tree_parser_make_k, tree_parser_expr_k, tree_parser_must_k, trivial⟩ ?_
            refine xsX 1 ?_
            refine xaX ?_
            refine xsX 1 ?_
            refine xcX ⟨[1], []⟩ (tabG 3 (tree_parser_expr_c a1 r4.2 a3 a4 (.ok r5) hr6)) ?_
            refine xsX 1 ?_
            refine xbX ?_
            refine xsX 2 ?_
            refine xlX ?_
            refine xS ?_
            rcases rsplit H with ⟨r6, hr8, H⟩ | ⟨e3, hr9, H⟩
            · have F := Y
              refine xQ ?_
              refine xs 1 ?_
              refine xc ⟨[1], []⟩ (tabG 4 (tree_parser_must_c [93] a1 r5.2.2.2.1 r5.2.2.2.2 a4 (.ok r6) hr8)) ?_
              refine xl ?_
              refine xS ?_
              exact cut_at H (xK ⟨[1,2,5], [9]⟩)
            · have F := Y
              refine xQp [20, 21] ?_
              refine xs 1 ?_
              refine xp ⟨[1], []⟩ (tabG 4 (tree_parser_must_c [93] a1 r5.2.2.2.1 r5.2.2.2.2 a4 (.er e3) hr9)) ?_
              replace H := Option.some.inj H
              refine xS ?_
              subst H
              refine xpD [] ?_
              exact xOv ⟨[1], []⟩
          · have F := Y
            refine xPp [13, 14, 15, 16, 17, 18, 19] [0, 1, 2, 3, 4, 5, 6, 7] [14, 888888] ⟨tree_parser_eat_k, tree_parser_name_k, tree_parser_make_k, tree_parser_expr_k, tree_parser_must_k, trivial⟩ ?_
            refine xsX 1 ?_
            refine xaX ?_
            refine xsX 1 ?_
            refine xpX ⟨[1], []⟩ (tabG 3 (tree_parser_expr_c a1 r4.2 a3 a4 (.er e2) hr7)) ?_
            replace H := Option.some.inj H
            refine xS ?_
            subst H
            refine xpD [] ?_
            exact xOv ⟨[1], []⟩
        · obtain ⟨F, G, hq2⟩ := xH Y G hp2
          refine xE ?_
          exact cut_at H (xK ⟨[1,2,5], [0]⟩)
      · rintro ⟨x2, x3, x4⟩ H
        rw [tree_parser_declarator_j2] at H
        refine xS ?_
        obtain ⟨hg1, H⟩ := gsplit H
        have F := xZ Y (map_getD d_Token a1 r2.1.toNat default default (by omega))
        obtain ⟨r3, hr4, H⟩ := osplit H
        have F := F
        refine xQ ?_
        refine xs 11 ?_
        refine xc ⟨[1], []⟩ (tabG 2 (tree_parser_make_c ((a1.getD r2.1.toNat default).Text) a0 a1 x2 x3 a4 r3 hr4)) ?_
        refine xl ?_
        refine xS ?_
        replace H := Option.some.inj H
        refine xr ?_
        subst H
        refine xrD [] ?_
        exact xO ⟨[1], [4]⟩
    · have F := Y
      refine xQp [8, 9, 10, 5] ?_
      refine xs 1 ?_
      refine xp ⟨[1], []⟩ (tabG 1 (tree_parser_name_c a1 r1.2 a3 a4 (.er e1) hr3)) ?_
      replace H := Option.some.inj H
      refine xS ?_
      subst H
      refine xpD [] ?_
      exact xOv ⟨[1], []⟩
theorem tree_parser_declarator_k : Callable Try.prog 22 ∧ (∀ g, S_tree_parser_declarator g → GenOk Try.prog 22 g) ∧ (false = true → ∀ g, S_tree_parser_declarator g → ∃ val bs ts, g.out = .ret val bs ts) :=
  ⟨call_22, tree_parser_declarator_ok, nofun⟩
noncomputable def tree_parser_rest_j2 (a6 : Bool) (a7 : List Token) (x3 : List KD) (x4 : List Node) (x5 : Int) (x6 : Int) : (Int × Int × (List Node)) → Option ((Int × Int × (List KD) × (List Node) × Int × Int × (List Node)) ⊕ (GR (Int × Int × Int × Int × Int × (List KD)) ((List Node) × Int × Int × (List KD))))
  | (x8, x9, x10) => if (x4.length + [(⟨x5, x6, x10⟩ : Node)].length) * 40 ≤ 140737488355328 then (tree_parser_eat [44] a7 x8 x9 x3).bind fun r1 => if (!r1.1) = true then inrO (grB (tree_parser_must [59] a7 r1.2 x9 x3) (fun r2 => some (.ok (x4 ++ [(⟨x5, x6, x10⟩ : Node)], r2, x9, x3))) (fun e1 => some (.er (2, e1.1, e1.2.1, e1.2.2, x9, x3)))) else grB (tree_parser_declarator a6 a7 r1.2 x9 x3) (fun r3 => some (.inl (r3.2.2.1, r3.2.2.2.1, r3.2.2.2.2, x4 ++ [(⟨x5, x6, x10⟩ : Node)], 4, r3.1, r3.2.1))) (fun e2 => inrO (some (.er (e2.1, e2.2.1, e2.2.2.1, e2.2.2.2.1, e2.2.2.2.2, x3)))) else none
noncomputable def tree_parser_rest_j3 (a6 : Bool) (a7 : List Token) (x2 : Int) (x3 : List KD) (x4 : List Node) (x5 : Int) (x6 : Int) (x7 : List Node) : (Bool × Int) → Option ((Int × Int × (List KD) × (List Node) × Int × Int × (List Node)) ⊕ (GR (Int × Int × Int × Int × Int × (List KD)) ((List Node) × Int × Int × (List KD))))
  | (x11, x12) => if x11 = true then grB (tree_parser_assign a7 x12 x2 x3) (fun r4 => if (x7.length + [(⟨r4.1, r4.2.1, r4.2.2.1⟩ : Node)].length) * 40 ≤ 140737488355328 then tree_parser_rest_j2 a6 a7 x3 x4 x5 x6 (r4.2.2.2.1, r4.2.2.2.2, x7 ++ [(⟨r4.1, r4.2.1, r4.2.2.1⟩ : Node)]) else none) (fun e3 => inrO (some (.er (e3.1, e3.2.1, e3.2.2.1, e3.2.2.2.1, e3.2.2.2.2, x3)))) else tree_parser_rest_j2 a6 a7 x3 x4 x5 x6 (x12, x2, x7)
noncomputable def tree_parser_rest_b1 (a6 : Bool) (a7 : List Token) : (Int × Int × (List KD) × (List Node) × Int × Int × (List Node)) → Option ((Int × Int × (List KD) × (List Node) × Int × Int × (List Node)) ⊕ (GR (Int × Int × Int × Int × Int × (List KD)) ((List Node) × Int × Int × (List KD))))
  | (x1, x2, x3, x4, x5, x6, x7) => if (!a6) = true then (tree_parser_eat [61] a7 x1 x2 x3).bind fun r5 => tree_parser_rest_j3 a6 a7 x2 x3 x4 x5 x6 x7 (r5.1, r5.2) else tree_parser_rest_j3 a6 a7 x2 x3 x4 x5 x6 x7 (false, x1)
noncomputable def tree_parser_rest (a0 : Int) (a1 : Int) (a2 : List Node) (a3 : Int) (a4 : Int) (a5 : List Node) (a6 : Bool) (a7 : List Token) (a8 : Int) (a9 : Int) (a10 : List KD) : Option (GR (Int × Int × Int × Int × Int × (List KD)) ((List Node) × Int × Int × (List KD))) :=
  loopO (tree_parser_rest_b1 a6 a7) (a8, a9, a10, a2, a3, a4, a5)
def u_tree_parser_rest (a0 : Int) (a1 : Int) (a2 : List Node) (a3 : Int) (a4 : Int) (a5 : List Node) (a6 : Bool) (a7 : List Token) (a8 : Int) (a9 : Int) (a10 : List KD) : GR (Int × Int × Int × Int × Int × (List KD)) ((List Node) × Int × Int × (List KD)) → GOut
  | .ok r => .ret (.ag [.d (.v (.int .i64 a0)), .d (.v (.int .i64 a1)), .sl 3 (List.map d_Node r.1) 2]) [[.d (.sl 11 (List.map d_Token a7)), .d (.v (.int .i64 r.2.1)), .d (.v (.int .i64 r.2.2.1)), .kc (KSK r.2.2.2)]] [27]
  | .er r => .pan (.iface 46 (.agg ⟨[.int .i64 r.1, .int .i64 r.2.1, .int .i64 r.2.2.1]⟩)) [[.d (.sl 11 (List.map d_Token a7)), .d (.v (.int .i64 r.2.2.2.1)), .d (.v (.int .i64 r.2.2.2.2.1)), .kc (KSK r.2.2.2.2.2)]] []
def g_tree_parser_rest (a0 : Int) (a1 : Int) (a2 : List Node) (a3 : Int) (a4 : Int) (a5 : List Node) (a6 : Bool) (a7 : List Token) (a8 : Int) (a9 : Int) (a10 : List KD) (r : GR (Int × Int × Int × Int × Int × (List KD)) ((List Node) × Int × Int × (List KD))) : GI :=
  ⟨[.c (.pt 1 0), .ag [.d (.v (.int .i64 a0)), .d (.v (.int .i64 a1)), .sl 3 (List.map d_Node a2) 2], .ag [.d (.v (.int .i64 a3)), .d (.v (.int .i64 a4)), .sl 3 (List.map d_Node a5) 3], .c (.d (.v (.bool a6)))], [[.d (.sl 11 (List.map d_Token a7)), .d (.v (.int .i64 a8)), .d (.v (.int .i64 a9)), .kc (KSK a10)]], [27, 27], u_tree_parser_rest a0 a1 a2 a3 a4 a5 a6 a7 a8 a9 a10 r⟩
def S_tree_parser_rest : GI → Prop := fun g => ∃ (a0 : Int) (a1 : Int) (a2 : List Node) (a3 : Int) (a4 : Int) (a5 : List Node) (a6 : Bool) (a7 : List Token) (a8 : Int) (a9 : Int) (a10 : List KD) (r : GR (Int × Int × Int × Int × Int × (List KD)) ((List Node) × Int × Int × (List KD))), tree_parser_rest a0 a1 a2 a3 a4 a5 a6 a7 a8 a9 a10 = some r ∧ g = g_tree_parser_rest a0 a1 a2 a3 a4 a5 a6 a7 a8 a9 a10 r
theorem tree_parser_rest_c (a0 : Int) (a1 : Int) (a2 : List Node) (a3 : Int) (a4 : Int) (a5 : List Node) (a6 : Bool) (a7 : List Token) (a8 : Int) (a9 : Int) (a10 : List KD) (r : GR (Int × Int × Int × Int × Int × (List KD)) ((List Node) × Int × Int × (List KD))) (H : tree_parser_rest a0 a1 a2 a3 a4 a5 a6 a7 a8 a9 a10 = some r) : S_tree_parser_rest (g_tree_parser_rest a0 a1 a2 a3 a4 a5 a6 a7 a8 a9 a10 r) := ⟨a0, a1, a2, a3, a4, a5, a6, a7, a8, a9, a10, r, H, rfl⟩
set_option maxRecDepth 100000 in
set_option maxHeartbeats 4000000 in
theorem tree_parser_rest_ok : ∀ g, S_tree_parser_rest g → GenOk Try.prog 24 g := by
  rintro _ ⟨a0, a1, a2, a3, a4, a5, a6, a7, a8, a9, a10, r, H, rfl⟩
  refine xGnl mixed [2] [] [(23, true, S_tree_parser_eat), (25, false, S_tree_parser_must), (22, false, S_tree_parser_declarator), (37, false, S_tree_parser_assign)] [] trivial ⟨tree_parser_eat_k, tree_parser_must_k, tree_parser_declarator_k, tree_parser_assign_k, trivial⟩ trivial Try.func24 _ ?_
  have G := True.intro
  have Y := xZ y_25 <| xZ y_27 <| xZ Try.results24 <| xZ d_Call.eq_1 <| xZ d_Token.eq_1 <| xZ dq_Node <| xZ g_tree_parser_eat.eq_1 <| xZ g_tree_parser_must.eq_1 <| xZ g_tree_parser_declarator.eq_1 <| xZ g_tree_parser_assign.eq_1 <| g_tree_parser_rest.eq_1
  dsimp only [g_tree_parser_rest]
  simp only [tree_parser_rest] at H
  refine xS ?_
  refine xr ?_
  refine w_loop (tree_parser_rest_b1 a6 a7) (fun s => [(0, .c (.pt 1 0)), (3, .c (.d (.v (.bool a6)))), (5, .c (.pt 2 0)), (6, .c (.pt 3 0)), (8, .c (.pt 4 0))]) (fun s => [[.d (.sl 11 (List.map d_Token a7)), .d (.v (.int .i64 s.1)), .d (.v (.int .i64 s.2.1)), .kc (KSK s.2.2.1)], [.d (.v (.int .i64 a0)), .d (.v (.int .i64 a1)), .sl 3 (List.map d_Node s.2.2.2.1) 5], [.d (.v (.int .i64 s.2.2.2.2.1)), .d (.v (.int .i64 s.2.2.2.2.2.1)), .sl 3 (List.map d_Node s.2.2.2.2.2.2) 6], [.d (.v (.int .i64 0)), .d (.v (.int .i64 0)), .sl 3 [] 0]]) [27, 27] H (xK ⟨[1,4,5,6], [2,3]⟩) ?_
  rintro n1 ⟨x1, x2, x3, x4, x5, x6, x7⟩ o1 H hF1
  rw [tree_parser_rest_b1] at H
  refine w_block ?_
  refine w_cut (tree_parser_rest_j2 a6 a7 x3 x4 x5 x6) (fun s => [(0, .c (.pt 1 0)), (3, .c (.d (.v (.bool a6)))), (5, .c (.pt 2 0)), (6, .c (.pt 3 0)), (8, .c (.pt 4 0))]) (fun s => [[.d (.sl 11 (List.map d_Token a7)), .d (.v (.int .i64 s.1)), .d (.v (.int .i64 s.2.1)), .kc (KSK x3)], [.d (.v (.int .i64 a0)), .d (.v (.int .i64 a1)), .sl 3 (List.map d_Node x4) 5], [.d (.v (.int .i64 x5)), .d (.v (.int .i64 x6)), .sl 3 (List.map d_Node s.2.2) 6], [.d (.v (.int .i64 0)), .d (.v (.int .i64 0)), .sl 3 [] 0]]) [27, 27] o1 ?_ ?_
  · refine w_cut (tree_parser_rest_j3 a6 a7 x2 x3 x4 x5 x6 x7) (fun s => [(0, .c (.pt 1 0)), (3, .c (.d (.v (.bool a6)))), (5, .c (.pt 2 0)), (6, .c (.pt 3 0)), (8, .c (.pt 4 0)), (14, .c (.d (.v (.bool s.1))))]) (fun s => [[.d (.sl 11 (List.map d_Token a7)), .d (.v (.int .i64 s.2)), .d (.v (.int .i64 x2)), .kc (KSK x3)], [.d (.v (.int .i64 a0)), .d (.v (.int .i64 a1)), .sl 3 (List.map d_Node x4) 5], [.d (.v (.int .i64 x5)), .d (.v (.int .i64 x6)), .sl 3 (List.map d_Node x7) 6], [.d (.v (.int .i64 0)), .d (.v (.int .i64 0)), .sl 3 [] 0]]) [27, 27] o1 ?_ ?_
    · rcases bsplit H with ⟨hp3, H⟩ | ⟨hp3, H⟩
      · obtain ⟨F, G, hq3⟩ := xH Y G hp3
        obtain ⟨r5, hr8, H⟩ := osplit H
        have F := F
        refine xQ ?_
        refine xs 4 ?_
        refine xc ⟨[1], []⟩ (tabG 0 (tree_parser_eat_c [61] a7 x1 x2 x3 r5 hr8)) ?_
        refine xs 1 ?_
        refine xl ?_
        refine xS ?_
        exact cut_at H (xK ⟨[1,2,3,4], [5,6]⟩)
      · obtain ⟨F, G, hq3⟩ := xH Y G hp3
        refine xR ?_
        exact cut_at H (xK ⟨[1,2,3,4], [5,6]⟩)
    · rintro ⟨x11, x12⟩ H
      rw [tree_parser_rest_j3] at H
      rcases bsplit H with ⟨hp2, H⟩ | ⟨hp2, H⟩
      · obtain ⟨F, G, hq2⟩ := xH Y G hp2
        refine xT ?_
        rcases rsplit H with ⟨r4, hr6, H⟩ | ⟨e3, hr7, H⟩
        · have F := Y
          obtain ⟨hg2, H⟩ := gsplit H
          have F := xZ F (all_map one_Node [(⟨r4.1, r4.2.1, r4.2.2.1⟩ : Node)])
          refine xP [0, 1, 2, 3, 4, 5, 6, 7] [16, 888888] ⟨tree_parser_eat_k, tree_parser_must_k, tree_parser_declarator_k, tree_parser_assign_k, trivial⟩ ?_
          refine xsX 1 ?_
          refine xaX ?_
          refine xsX 1 ?_
          refine xcX ⟨[1], []⟩ (tabG 3 (tree_parser_assign_c a7 x12 x2 x3 (.ok r4) hr6)) ?_
          refine xsX 1 ?_
          refine xbX ?_
          refine xsX 2 ?_
          refine xlX ?_
          refine xS ?_
          exact cut_at H (xK ⟨[1,2,3,4], [5,9]⟩)
        · have F := Y
          refine xPp [15, 16, 17, 18, 19, 20, 21] [0, 1, 2, 3, 4, 5, 6, 7] [16, 888888] ⟨tree_parser_eat_k, tree_parser_must_k, tree_parser_declarator_k, tree_parser_assign_k, trivial⟩ ?_
          refine xsX 1 ?_
          refine xaX ?_
          refine xsX 1 ?_
          refine xpX ⟨[1], []⟩ (tabG 3 (tree_parser_assign_c a7 x12 x2 x3 (.er e3) hr7)) ?_
          replace H := inrO_fin H hF1
          replace H := Option.some.inj H
          refine xS ?_
          subst H
          refine xpD [] ?_
          exact xOv ⟨[1], []⟩
      · obtain ⟨F, G, hq2⟩ := xH Y G hp2
        refine xE ?_
        exact cut_at H (xK ⟨[1,2,3,4], [5,6]⟩)
  · rintro ⟨x8, x9, x10⟩ H
    rw [tree_parser_rest_j2] at H
    refine xS ?_
    obtain ⟨hg1, H⟩ := gsplit H
    have F := xZ Y (all_map one_Node [(⟨x5, x6, x10⟩ : Node)])
    refine xR ?_
    obtain ⟨r1, hr1, H⟩ := osplit H
    have F := Y
    refine xQ ?_
    refine xs 1 ?_
    refine xc ⟨[1], []⟩ (tabG 0 (tree_parser_eat_c [44] a7 x8 x9 x3 r1 hr1)) ?_
    refine xs 1 ?_
    refine xl ?_
    refine xS ?_
    rcases bsplit H with ⟨hp1, H⟩ | ⟨hp1, H⟩
    · obtain ⟨F, G, hq1⟩ := xH Y G hp1
      replace H := inrO_fin H hF1
      refine xT ?_
      rcases rsplit H with ⟨r2, hr2, H⟩ | ⟨e1, hr3, H⟩
      · have F := Y
        refine xQ ?_
        refine xs 1 ?_
        refine xc ⟨[1], []⟩ (tabG 1 (tree_parser_must_c [59] a7 r1.2 x9 x3 (.ok r2) hr2)) ?_
        refine xl ?_
        refine xS ?_
        replace H := Option.some.inj H
        refine xr ?_
        subst H
        refine xrD [] ?_
        exact xO ⟨[1], [7]⟩
      · have F := Y
        refine xQp [34, 35] ?_
        refine xs 1 ?_
        refine xp ⟨[1], []⟩ (tabG 1 (tree_parser_must_c [59] a7 r1.2 x9 x3 (.er e1) hr3)) ?_
        replace H := Option.some.inj H
        refine xS ?_
        subst H
        refine xpD [] ?_
        exact xOv ⟨[1], []⟩
    · obtain ⟨F, G, hq1⟩ := xH Y G hp1
      refine xE ?_
      rcases rsplit H with ⟨r3, hr4, H⟩ | ⟨e2, hr5, H⟩
      · have F := Y
        refine xQ ?_
        refine xs 2 ?_
        refine xc ⟨[1], []⟩ (tabG 2 (tree_parser_declarator_c a6 a7 r1.2 x9 x3 (.ok r3) hr4)) ?_
        refine xs 1 ?_
        refine xl ?_
        refine xS ?_
        exact round_at (inl_fin H hF1) (xK ⟨[1,2,3,4], [7,10]⟩)
      · have F := Y
        refine xQp [31, 32, 33] ?_
        refine xs 2 ?_
        refine xp ⟨[1], []⟩ (tabG 2 (tree_parser_declarator_c a6 a7 r1.2 x9 x3 (.er e2) hr5)) ?_
        replace H := inrO_fin H hF1
        replace H := Option.some.inj H
        refine xS ?_
        subst H
        refine xpD [] ?_
        exact xOv ⟨[1], []⟩
theorem tree_parser_rest_k : Callable Try.prog 24 ∧ (∀ g, S_tree_parser_rest g → GenOk Try.prog 24 g) ∧ (false = true → ∀ g, S_tree_parser_rest g → ∃ val bs ts, g.out = .ret val bs ts) :=
  ⟨call_24, tree_parser_rest_ok, nofun⟩
noncomputable def tree_parser_decl (a0 : List Token) (a1 : Int) (a2 : Int) (a3 : List KD) : Option (GR (Int × Int × Int × Int × Int × (List KD)) (Int × (List Node) × Int × Int × (List KD))) :=
  (tree_parser_eat [116, 121, 112, 101, 100, 101, 102] a0 a1 a2 a3).bind fun r1 => grB (tree_parser_typ a0 r1.2 a2 a3) (fun r2 => grB (tree_parser_declarator r1.1 a0 r2.2 a2 a3) (fun r3 => grB (tree_parser_rest 2 (-1) [(⟨16, r2.1, ([] : List Node)⟩ : Node)] 4 r3.1 r3.2.1 r1.1 a0 r3.2.2.1 r3.2.2.2.1 r3.2.2.2.2) (fun r4 => some (.ok ((-1), r4.1, r4.2.1, r4.2.2.1, r4.2.2.2))) (fun e3 => some (.er (e3.1, e3.2.1, e3.2.2.1, e3.2.2.2.1, e3.2.2.2.2.1, e3.2.2.2.2.2)))) (fun e2 => some (.er (e2.1, e2.2.1, e2.2.2.1, e2.2.2.2.1, e2.2.2.2.2, a3)))) (fun e1 => some (.er (2, e1.1, e1.2, r1.2, a2, a3)))
def u_tree_parser_decl (a0 : List Token) (a1 : Int) (a2 : Int) (a3 : List KD) : GR (Int × Int × Int × Int × Int × (List KD)) (Int × (List Node) × Int × Int × (List KD)) → GOut
  | .ok r => .ret (.ag [.d (.v (.int .i64 2)), .d (.v (.int .i64 r.1)), .sl 3 (List.map d_Node r.2.1) 2]) [[.d (.sl 11 (List.map d_Token a0)), .d (.v (.int .i64 r.2.2.1)), .d (.v (.int .i64 r.2.2.2.1)), .kc (KSK r.2.2.2.2)]] [27]
  | .er r => .pan (.iface 46 (.agg ⟨[.int .i64 r.1, .int .i64 r.2.1, .int .i64 r.2.2.1]⟩)) [[.d (.sl 11 (List.map d_Token a0)), .d (.v (.int .i64 r.2.2.2.1)), .d (.v (.int .i64 r.2.2.2.2.1)), .kc (KSK r.2.2.2.2.2)]] []
def g_tree_parser_decl (a0 : List Token) (a1 : Int) (a2 : Int) (a3 : List KD) (r : GR (Int × Int × Int × Int × Int × (List KD)) (Int × (List Node) × Int × Int × (List KD))) : GI :=
  ⟨[.c (.pt 1 0)], [[.d (.sl 11 (List.map d_Token a0)), .d (.v (.int .i64 a1)), .d (.v (.int .i64 a2)), .kc (KSK a3)]], [], u_tree_parser_decl a0 a1 a2 a3 r⟩
def S_tree_parser_decl : GI → Prop := fun g => ∃ (a0 : List Token) (a1 : Int) (a2 : Int) (a3 : List KD) (r : GR (Int × Int × Int × Int × Int × (List KD)) (Int × (List Node) × Int × Int × (List KD))), tree_parser_decl a0 a1 a2 a3 = some r ∧ g = g_tree_parser_decl a0 a1 a2 a3 r
theorem tree_parser_decl_c (a0 : List Token) (a1 : Int) (a2 : Int) (a3 : List KD) (r : GR (Int × Int × Int × Int × Int × (List KD)) (Int × (List Node) × Int × Int × (List KD))) (H : tree_parser_decl a0 a1 a2 a3 = some r) : S_tree_parser_decl (g_tree_parser_decl a0 a1 a2 a3 r) := ⟨a0, a1, a2, a3, r, H, rfl⟩
set_option maxRecDepth 100000 in
set_option maxHeartbeats 4000000 in
theorem tree_parser_decl_ok : ∀ g, S_tree_parser_decl g → GenOk Try.prog 20 g := by
  rintro _ ⟨a0, a1, a2, a3, r, H, rfl⟩
  refine xGnl mixed [3] [] [(23, true, S_tree_parser_eat), (21, false, S_tree_parser_typ), (22, false, S_tree_parser_declarator), (24, false, S_tree_parser_rest)] [] trivial ⟨tree_parser_eat_k, tree_parser_typ_k, tree_parser_declarator_k, tree_parser_rest_k, trivial⟩ trivial Try.func20 _ ?_
  have G := True.intro
  have Y := xZ y_3 <| xZ y_25 <| xZ y_27 <| xZ Try.results20 <| xZ d_Call.eq_1 <| xZ d_Token.eq_1 <| xZ dq_Node <| xZ g_tree_parser_eat.eq_1 <| xZ g_tree_parser_typ.eq_1 <| xZ g_tree_parser_declarator.eq_1 <| xZ g_tree_parser_rest.eq_1 <| g_tree_parser_decl.eq_1
  dsimp only [g_tree_parser_decl]
  simp only [tree_parser_decl] at H
  refine xS ?_
  refine xr ?_
  obtain ⟨r1, hr1, H⟩ := osplit H
  have F := Y
  refine xQ ?_
  refine xs 1 ?_
  refine xc ⟨[1], []⟩ (tabG 0 (tree_parser_eat_c [116, 121, 112, 101, 100, 101, 102] a0 a1 a2 a3 r1 hr1)) ?_
  refine xs 1 ?_
  refine xl ?_
  refine xS ?_
  rcases rsplit H with ⟨r2, hr2, H⟩ | ⟨e1, hr3, H⟩
  · have F := Y
    refine xQ ?_
    refine xs 1 ?_
    refine xc ⟨[1], []⟩ (tabG 1 (tree_parser_typ_c a0 r1.2 a2 a3 (.ok r2) hr2)) ?_
    refine xs 4 ?_
    refine xl ?_
    refine xS ?_
    rcases rsplit H with ⟨r3, hr4, H⟩ | ⟨e2, hr5, H⟩
    · have F := Y
      rcases rsplit H with ⟨r4, hr6, H⟩ | ⟨e3, hr7, H⟩
      · have F := F
        refine xP [0, 1, 2, 3, 5, 4, 6, 7] [12, 888888] ⟨tree_parser_eat_k, tree_parser_typ_k, tree_parser_declarator_k, tree_parser_rest_k, trivial⟩ ?_
        refine xsX 1 ?_
        refine xaX ?_
        refine xsX 3 ?_
        refine xcX ⟨[1], []⟩ (tabG 2 (tree_parser_declarator_c r1.1 a0 r2.2 a2 a3 (.ok r3) hr4)) ?_
        refine xcX ⟨[1], [0, 7]⟩ (tabG 3 (tree_parser_rest_c 2 (-1) [(⟨16, r2.1, ([] : List Node)⟩ : Node)] 4 r3.1 r3.2.1 r1.1 a0 r3.2.2.1 r3.2.2.2.1 r3.2.2.2.2 (.ok r4) hr6)) ?_
        refine xsX 1 ?_
        refine xlX ?_
        replace H := Option.some.inj H
        refine xS ?_
        subst H
        refine xrD [] ?_
        exact xO ⟨[1], [9]⟩
      · have F := F
        refine xPp [11, 12, 13, 14, 15, 16, 17] [0, 1, 2, 3, 5, 4, 6, 7] [12, 888888] ⟨tree_parser_eat_k, tree_parser_typ_k, tree_parser_declarator_k, tree_parser_rest_k, trivial⟩ ?_
        refine xsX 1 ?_
        refine xaX ?_
        refine xsX 3 ?_
        refine xcX ⟨[1], []⟩ (tabG 2 (tree_parser_declarator_c r1.1 a0 r2.2 a2 a3 (.ok r3) hr4)) ?_
        refine xpX ⟨[1], [0, 7]⟩ (tabG 3 (tree_parser_rest_c 2 (-1) [(⟨16, r2.1, ([] : List Node)⟩ : Node)] 4 r3.1 r3.2.1 r1.1 a0 r3.2.2.1 r3.2.2.2.1 r3.2.2.2.2 (.er e3) hr7)) ?_
        replace H := Option.some.inj H
        refine xS ?_
        subst H
        refine xpD [] ?_
        exact xOv ⟨[1], []⟩
    · have F := Y
      refine xPp [11, 12, 13, 14, 15, 16, 17] [0, 1, 2, 3, 5, 4, 6, 7] [12, 888888] ⟨tree_parser_eat_k, tree_parser_typ_k, tree_parser_declarator_k, tree_parser_rest_k, trivial⟩ ?_
      refine xsX 1 ?_
      refine xaX ?_
      refine xsX 3 ?_
      refine xpX ⟨[1], []⟩ (tabG 2 (tree_parser_declarator_c r1.1 a0 r2.2 a2 a3 (.er e2) hr5)) ?_
      replace H := Option.some.inj H
      refine xS ?_
      subst H
      refine xpD [] ?_
      exact xOv ⟨[1], []⟩
  · have F := Y
    refine xQp [7, 8, 9, 10, 4] ?_
    refine xs 1 ?_
    refine xp ⟨[1], []⟩ (tabG 1 (tree_parser_typ_c a0 r1.2 a2 a3 (.er e1) hr3)) ?_
    replace H := Option.some.inj H
    refine xS ?_
    subst H
    refine xpD [] ?_
    exact xOv ⟨[1], []⟩
theorem tree_parser_decl_k : Callable Try.prog 20 ∧ (∀ g, S_tree_parser_decl g → GenOk Try.prog 20 g) ∧ (false = true → ∀ g, S_tree_parser_decl g → ∃ val bs ts, g.out = .ret val bs ts) :=
  ⟨call_20, tree_parser_decl_ok, nofun⟩
def u_tree_parser_block (a0 : List Token) (a1 : Int) (a2 : Int) (a3 : List KD) : GR (Int × Int × Int × Int × Int × (List KD)) ((List Node) × Int × Int × (List KD)) → GOut
  | .ok r => .ret (.ag [.d (.v (.int .i64 5)), .d (.v (.int .i64 (-1))), .sl 3 (List.map d_Node r.1) 2]) [[.d (.sl 11 (List.map d_Token a0)), .d (.v (.int .i64 r.2.1)), .d (.v (.int .i64 r.2.2.1)), .kc (KSK r.2.2.2)]] [27]
  | .er r => .pan (.iface 46 (.agg ⟨[.int .i64 r.1, .int .i64 r.2.1, .int .i64 r.2.2.1]⟩)) [[.d (.sl 11 (List.map d_Token a0)), .d (.v (.int .i64 r.2.2.2.1)), .d (.v (.int .i64 r.2.2.2.2.1)), .kc (KSK r.2.2.2.2.2)]] []
def g_tree_parser_block (a0 : List Token) (a1 : Int) (a2 : Int) (a3 : List KD) (r : GR (Int × Int × Int × Int × Int × (List KD)) ((List Node) × Int × Int × (List KD))) : GI :=
  ⟨[.c (.pt 1 0)], [[.d (.sl 11 (List.map d_Token a0)), .d (.v (.int .i64 a1)), .d (.v (.int .i64 a2)), .kc (KSK a3)]], [], u_tree_parser_block a0 a1 a2 a3 r⟩
def SF_tree_parser_block (q : (List Token) → Int → Int → (List KD) → Option (GR (Int × Int × Int × Int × Int × (List KD)) ((List Node) × Int × Int × (List KD)))) : GI → Prop := fun g => ∃ (a0 : List Token) (a1 : Int) (a2 : Int) (a3 : List KD) (r : GR (Int × Int × Int × Int × Int × (List KD)) ((List Node) × Int × Int × (List KD))), q a0 a1 a2 a3 = some r ∧ g = g_tree_parser_block a0 a1 a2 a3 r
theorem tree_parser_block_sc (q : (List Token) → Int → Int → (List KD) → Option (GR (Int × Int × Int × Int × Int × (List KD)) ((List Node) × Int × Int × (List KD)))) (a0 : List Token) (a1 : Int) (a2 : Int) (a3 : List KD) (r : GR (Int × Int × Int × Int × Int × (List KD)) ((List Node) × Int × Int × (List KD))) (H : q a0 a1 a2 a3 = some r) : SF_tree_parser_block q (g_tree_parser_block a0 a1 a2 a3 r) := ⟨a0, a1, a2, a3, r, H, rfl⟩
def u_tree_parser_stmt (a0 : List Token) (a1 : Int) (a2 : Int) (a3 : List KD) : GR (Int × Int × Int × Int × Int × (List KD)) (Int × Int × (List Node) × Int × Int × (List KD)) → GOut
  | .ok r => .ret (.ag [.d (.v (.int .i64 r.1)), .d (.v (.int .i64 r.2.1)), .sl 3 (List.map d_Node r.2.2.1) 2]) [[.d (.sl 11 (List.map d_Token a0)), .d (.v (.int .i64 r.2.2.2.1)), .d (.v (.int .i64 r.2.2.2.2.1)), .kc (KSK r.2.2.2.2.2)]] [27]
  | .er r => .pan (.iface 46 (.agg ⟨[.int .i64 r.1, .int .i64 r.2.1, .int .i64 r.2.2.1]⟩)) [[.d (.sl 11 (List.map d_Token a0)), .d (.v (.int .i64 r.2.2.2.1)), .d (.v (.int .i64 r.2.2.2.2.1)), .kc (KSK r.2.2.2.2.2)]] []
def g_tree_parser_stmt (a0 : List Token) (a1 : Int) (a2 : Int) (a3 : List KD) (r : GR (Int × Int × Int × Int × Int × (List KD)) (Int × Int × (List Node) × Int × Int × (List KD))) : GI :=
  ⟨[.c (.pt 1 0)], [[.d (.sl 11 (List.map d_Token a0)), .d (.v (.int .i64 a1)), .d (.v (.int .i64 a2)), .kc (KSK a3)]], [], u_tree_parser_stmt a0 a1 a2 a3 r⟩
def SF_tree_parser_stmt (q : (List Token) → Int → Int → (List KD) → Option (GR (Int × Int × Int × Int × Int × (List KD)) (Int × Int × (List Node) × Int × Int × (List KD)))) : GI → Prop := fun g => ∃ (a0 : List Token) (a1 : Int) (a2 : Int) (a3 : List KD) (r : GR (Int × Int × Int × Int × Int × (List KD)) (Int × Int × (List Node) × Int × Int × (List KD))), q a0 a1 a2 a3 = some r ∧ g = g_tree_parser_stmt a0 a1 a2 a3 r
theorem tree_parser_stmt_sc (q : (List Token) → Int → Int → (List KD) → Option (GR (Int × Int × Int × Int × Int × (List KD)) (Int × Int × (List Node) × Int × Int × (List KD)))) (a0 : List Token) (a1 : Int) (a2 : Int) (a3 : List KD) (r : GR (Int × Int × Int × Int × Int × (List KD)) (Int × Int × (List Node) × Int × Int × (List KD))) (H : q a0 a1 a2 a3 = some r) : SF_tree_parser_stmt q (g_tree_parser_stmt a0 a1 a2 a3 r) := ⟨a0, a1, a2, a3, r, H, rfl⟩
noncomputable def tree_parser_block_b1 (q2 : (List Token) → Int → Int → (List KD) → Option (GR (Int × Int × Int × Int × Int × (List KD)) (Int × Int × (List Node) × Int × Int × (List KD)))) (a0 : List Token) : (Int × Int × (List KD) × (List Node)) → Option ((Int × Int × (List KD) × (List Node)) ⊕ (GR (Int × Int × Int × Int × Int × (List KD)) ((List Node) × Int × Int × (List KD))))
  | (x1, x2, x3, x4) => (tree_parser_eat [125] a0 x1 x2 x3).bind fun r3 => if (!r3.1) = true then if (eqI r3.2 (a0.length : Int)) = true then (tree_parser_fail 9 a0 r3.2 x2 x3).bind fun e3 => inrO ((tree_parser_down_1 a0 r3.2 x2 x3).bind fun r5 => some (.er (9, e3.1, e3.2, r3.2, r5, x3))) else grB (q2 a0 r3.2 x2 x3) (fun r6 => if (x4.length + [(⟨r6.1, r6.2.1, r6.2.2.1⟩ : Node)].length) * 40 ≤ 140737488355328 then some (.inl (r6.2.2.2.1, r6.2.2.2.2.1, r6.2.2.2.2.2, x4 ++ [(⟨r6.1, r6.2.1, r6.2.2.1⟩ : Node)])) else none) (fun e4 => inrO ((tree_parser_down_1 a0 e4.2.2.2.1 e4.2.2.2.2.1 e4.2.2.2.2.2).bind fun r7 => some (.er (e4.1, e4.2.1, e4.2.2.1, e4.2.2.2.1, r7, e4.2.2.2.2.2)))) else inrO (if 0 < x3.length then (tree_parser_down_1 a0 r3.2 x2 (List.dropLast x3)).bind fun r8 => some (.ok (x4, r3.2, r8, (List.dropLast x3))) else none)
noncomputable def tree_parser_block_s (q1 : (List Token) → Int → Int → (List KD) → Option (GR (Int × Int × Int × Int × Int × (List KD)) ((List Node) × Int × Int × (List KD)))) (q2 : (List Token) → Int → Int → (List KD) → Option (GR (Int × Int × Int × Int × Int × (List KD)) (Int × Int × (List Node) × Int × Int × (List KD)))) (a0 : List Token) (a1 : Int) (a2 : Int) (a3 : List KD) : Option (GR (Int × Int × Int × Int × Int × (List KD)) ((List Node) × Int × Int × (List KD))) :=
  grB (tree_parser_down a0 a1 a2 a3) (fun r1 => grB (tree_parser_must [123] a0 a1 r1 a3) (fun r2 => if a3.length < 17592186044416 then loopO (tree_parser_block_b1 q2 a0) (r2, r1, a3 ++ [[]], ([] : List Node)) else none) (fun e2 => (tree_parser_down_1 a0 e2.2.2 r1 a3).bind fun r9 => some (.er (2, e2.1, e2.2.1, e2.2.2, r9, a3)))) (fun e1 => some (.er (10, e1.1, e1.2, a1, a2, a3)))
set_option maxRecDepth 100000 in
set_option maxHeartbeats 4000000 in
theorem tree_parser_block_sok (q1 : (List Token) → Int → Int → (List KD) → Option (GR (Int × Int × Int × Int × Int × (List KD)) ((List Node) × Int × Int × (List KD)))) (q2 : (List Token) → Int → Int → (List KD) → Option (GR (Int × Int × Int × Int × Int × (List KD)) (Int × Int × (List Node) × Int × Int × (List KD)))) (kq1 : Kok Try.prog 26 false (SF_tree_parser_block q1)) (kq2 : Kok Try.prog 39 false (SF_tree_parser_stmt q2)) : ∀ g, SF_tree_parser_block (tree_parser_block_s q1 q2) g → GenOk Try.prog 26 g := by
  rintro _ ⟨a0, a1, a2, a3, r, H, rfl⟩
  refine xGnl mixed [1000056, 8] [] [(38, false, S_tree_parser_down), (25, false, S_tree_parser_must), (23, true, S_tree_parser_eat), (33, false, S_tree_parser_fail), (39, false, (SF_tree_parser_stmt q2))] [(42, SD_tree_parser_down_1)] trivial ⟨tree_parser_down_k, tree_parser_must_k, tree_parser_eat_k, tree_parser_fail_k, kq2, trivial⟩ ⟨⟨call_42, tree_parser_down_1_dok⟩, trivial⟩ Try.func26 _ ?_
  have G := True.intro
  have Y := xZ y_3 <| xZ y_23 <| xZ y_25 <| xZ y_27 <| xZ y_38 <| xZ y_48 <| xZ y_49 <| xZ y_51 <| xZ Try.results26 <| xZ d_Call.eq_1 <| xZ d_Token.eq_1 <| xZ dq_Node <| xZ g_tree_parser_down.eq_1 <| xZ g_tree_parser_must.eq_1 <| xZ g_tree_parser_eat.eq_1 <| xZ g_tree_parser_fail.eq_1 <| xZ g_tree_parser_stmt.eq_1 <| xZ di_tree_parser_down_1.eq_1 <| g_tree_parser_block.eq_1
  dsimp only [g_tree_parser_block]
  simp only [tree_parser_block_s] at H
  refine xS ?_
  refine xr ?_
  rcases rsplit H with ⟨r1, hr1, H⟩ | ⟨e1, hr2, H⟩
  · have F := Y
    refine xQ ?_
    refine xs 1 ?_
    refine xc ⟨[1], []⟩ (tabG 0 (tree_parser_down_c a0 a1 a2 a3 (.ok r1) hr1)) ?_
    refine xw ?_
    refine xl ?_
    refine xS ?_
    refine xr ?_
    rcases rsplit H with ⟨r2, hr3, H⟩ | ⟨e2, hr4, H⟩
    · have F := Y
      refine xQ ?_
      refine xs 1 ?_
      refine xc ⟨[1], []⟩ (tabG 1 (tree_parser_must_c [123] a0 a1 r1 a3 (.ok r2) hr3)) ?_
      refine xl ?_
      refine xS ?_
      obtain ⟨hgh, H⟩ := gsplit H
      refine hK_pushB a3 hgh ?_
      refine xS ?_
      refine w_loop (tree_parser_block_b1 q2 a0) (fun s => [(0, .c (.pt 1 0)), (2, .c (.pt 2 0)), (3, .c (.pt 3 0)), (1000000, .df [(42, [.pt 4 0])])]) (fun s => [[.d (.sl 11 (List.map d_Token a0)), .d (.v (.int .i64 s.1)), .d (.v (.int .i64 s.2.1)), .kc (KSK s.2.2.1)], [.d (.v (.int .i64 0)), .d (.v (.int .i64 0)), .sl 3 [] 0], [.d (.v (.int .i64 5)), .d (.v (.int .i64 (-1))), .sl 3 (List.map d_Node s.2.2.2) 5], [.pt 1 0]]) [27] H (xK ⟨[1,2,5,4], [0]⟩) ?_
      rintro n1 ⟨x1, x2, x3, x4⟩ o1 H hF1
      rw [tree_parser_block_b1] at H
      refine xS ?_
      obtain ⟨r3, hr5, H⟩ := osplit H
      have F := Y
      refine xQ ?_
      refine xs 1 ?_
      refine xc ⟨[1], []⟩ (tabG 2 (tree_parser_eat_c [125] a0 x1 x2 x3 r3 hr5)) ?_
      refine xs 1 ?_
      refine xl ?_
      refine xS ?_
      rcases bsplit H with ⟨hp1, H⟩ | ⟨hp1, H⟩
      · obtain ⟨F, G, hq1⟩ := xH Y G hp1
        refine xT ?_
        refine xr ?_
        rcases bsplit H with ⟨hp2, H⟩ | ⟨hp2, H⟩
        · obtain ⟨F, G, hq2⟩ := xH Y G hp2
          refine xT ?_
          obtain ⟨e3, hr7, H⟩ := osplit H
          have F := Y
          refine xQp [32, 33] ?_
          refine xs 1 ?_
          refine xp ⟨[1], []⟩ (tabG 3 (tree_parser_fail_c 9 a0 r3.2 x2 x3 e3 hr7)) ?_
          replace H := inrO_fin H hF1
          refine xS ?_
          refine xpD [(42, [.pt 4 0])] ?_
          obtain ⟨r5, hr8, H⟩ := osplit H
          refine xD ⟨[4, 1], []⟩ (tabD 0 (tree_parser_down_1_dc a0 r3.2 x2 x3 r5 (some (.iface 46 (.agg ⟨[.int .i64 9, .int .i64 e3.1, .int .i64 e3.2]⟩))) hr8)) ?_
          replace H := Option.some.inj H
          subst H
          exact xOv ⟨[1], []⟩
        · obtain ⟨F, G, hq2⟩ := xH Y G hp2
          refine xE ?_
          rcases rsplit H with ⟨r6, hr9, H⟩ | ⟨e4, hr10, H⟩
          · have F := Y
            obtain ⟨hg1, H⟩ := gsplit H
            have F := xZ F (all_map one_Node [(⟨r6.1, r6.2.1, r6.2.2.1⟩ : Node)])
            refine xP [0, 1, 2, 3, 4, 5, 6, 7] [35, 888888] ⟨tree_parser_down_k, tree_parser_must_k, tree_parser_eat_k, tree_parser_fail_k, kq2, trivial⟩ ?_
            refine xsX 1 ?_
            refine xaX ?_
            refine xsX 1 ?_
            refine xcX ⟨[1], []⟩ (tabG 4 (tree_parser_stmt_sc q2 a0 r3.2 x2 x3 (.ok r6) hr9)) ?_
            refine xsX 1 ?_
            refine xbX ?_
            refine xsX 2 ?_
            refine xlX ?_
            refine xS ?_
            exact round_at (inl_fin H hF1) (xK ⟨[1,2,3,4], [9]⟩)
          · have F := Y
            refine xPp [34, 35, 36, 37, 38, 39, 40] [0, 1, 2, 3, 4, 5, 6, 7] [35, 888888] ⟨tree_parser_down_k, tree_parser_must_k, tree_parser_eat_k, tree_parser_fail_k, kq2, trivial⟩ ?_
            refine xsX 1 ?_
            refine xaX ?_
            refine xsX 1 ?_
            refine xpX ⟨[1], []⟩ (tabG 4 (tree_parser_stmt_sc q2 a0 r3.2 x2 x3 (.er e4) hr10)) ?_
            replace H := inrO_fin H hF1
            refine xS ?_
            refine xpD [(42, [.pt 4 0])] ?_
            obtain ⟨r7, hr11, H⟩ := osplit H
            refine xD ⟨[4, 1], []⟩ (tabD 0 (tree_parser_down_1_dc a0 e4.2.2.2.1 e4.2.2.2.2.1 e4.2.2.2.2.2 r7 (some (.iface 46 (.agg ⟨[.int .i64 e4.1, .int .i64 e4.2.1, .int .i64 e4.2.2.1]⟩))) hr11)) ?_
            replace H := Option.some.inj H
            subst H
            exact xOv ⟨[1], []⟩
      · obtain ⟨F, G, hq1⟩ := xH Y G hp1
        replace H := inrO_fin H hF1
        refine xE ?_
        obtain ⟨hgh, H⟩ := gsplit H
        refine hK_popB x3 hgh ?_
        refine xS ?_
        refine xr ?_
        refine xrD [(42, [.pt 4 0])] ?_
        obtain ⟨r8, hr12, H⟩ := osplit H
        refine xD ⟨[4, 1], []⟩ (tabD 0 (tree_parser_down_1_dc a0 r3.2 x2 (List.dropLast x3) r8 none hr12)) ?_
        replace H := Option.some.inj H
        subst H
        exact xO ⟨[1], [5]⟩
    · have F := Y
      refine xQp [7, 8] ?_
      refine xs 1 ?_
      refine xp ⟨[1], []⟩ (tabG 1 (tree_parser_must_c [123] a0 a1 r1 a3 (.er e2) hr4)) ?_
      refine xS ?_
      refine xpD [(42, [.pt 4 0])] ?_
      obtain ⟨r9, hr13, H⟩ := osplit H
      refine xD ⟨[4, 1], []⟩ (tabD 0 (tree_parser_down_1_dc a0 e2.2.2 r1 a3 r9 (some (.iface 46 (.agg ⟨[.int .i64 2, .int .i64 e2.1, .int .i64 e2.2.1]⟩))) hr13)) ?_
      replace H := Option.some.inj H
      subst H
      exact xOv ⟨[1], []⟩
  · have F := Y
    refine xQp [4, 5] ?_
    refine xs 1 ?_
    refine xp ⟨[1], []⟩ (tabG 0 (tree_parser_down_c a0 a1 a2 a3 (.er e1) hr2)) ?_
    replace H := Option.some.inj H
    refine xS ?_
    subst H
    refine xpD [] ?_
    exact xOv ⟨[1], []⟩
noncomputable def tree_parser_stmt_j3 (a0 : List Token) (x2 : Int) : (Int × Int × (List KD) × (List Node)) → Option (GR (Int × Int × Int × Int × Int × (List KD)) (Int × Int × (List Node) × Int × Int × (List KD)))
  | (x3, x4, x5, x6) => (tree_parser_down_1 a0 x3 x4 x5).bind fun r10 => some (.ok (x2, (-1), x6, x3, r10, x5))
noncomputable def tree_parser_stmt_j4 (q2 : (List Token) → Int → Int → (List KD) → Option (GR (Int × Int × Int × Int × Int × (List KD)) (Int × Int × (List Node) × Int × Int × (List KD)))) (a0 : List Token) (x2 : Int) (r9 : (Int × Int × (List Node) × Int × Int × (List KD))) : (Bool × Int × (List Node)) → Option (GR (Int × Int × Int × Int × Int × (List KD)) (Int × Int × (List Node) × Int × Int × (List KD)))
  | (x7, x8, x9) => if x7 = true then grB (q2 a0 x8 r9.2.2.2.2.1 r9.2.2.2.2.2) (fun r11 => if (x9.length + [(⟨r11.1, r11.2.1, r11.2.2.1⟩ : Node)].length) * 40 ≤ 140737488355328 then tree_parser_stmt_j3 a0 x2 (r11.2.2.2.1, r11.2.2.2.2.1, r11.2.2.2.2.2, x9 ++ [(⟨r11.1, r11.2.1, r11.2.2.1⟩ : Node)]) else none) (fun e7 => (tree_parser_down_1 a0 e7.2.2.2.1 e7.2.2.2.2.1 e7.2.2.2.2.2).bind fun r12 => some (.er (e7.1, e7.2.1, e7.2.2.1, e7.2.2.2.1, r12, e7.2.2.2.2.2))) else tree_parser_stmt_j3 a0 x2 (x8, r9.2.2.2.2.1, r9.2.2.2.2.2, x9)
noncomputable def tree_parser_stmt_j2 (q2 : (List Token) → Int → Int → (List KD) → Option (GR (Int × Int × Int × Int × Int × (List KD)) (Int × Int × (List Node) × Int × Int × (List KD)))) (a0 : List Token) (a1 : Int) (a3 : List KD) (r1 : Int) (r2 : (List UInt8)) : Int → Option (GR (Int × Int × Int × Int × Int × (List KD)) (Int × Int × (List Node) × Int × Int × (List KD)))
  | x2 => grB (tree_parser_must [40] a0 (IntKind.i64.wrap (a1 + 1)) r1 a3) (fun r6 => grB (tree_parser_expr a0 r6 r1 a3) (fun r7 => if (([] : List Node).length + [(⟨r7.1, r7.2.1, r7.2.2.1⟩ : Node)].length) * 40 ≤ 140737488355328 then grB (tree_parser_must [41] a0 r7.2.2.2.1 r7.2.2.2.2 a3) (fun r8 => grB (q2 a0 r8 r7.2.2.2.2 a3) (fun r9 => if ((([] : List Node) ++ [(⟨r7.1, r7.2.1, r7.2.2.1⟩ : Node)]).length + [(⟨r9.1, r9.2.1, r9.2.2.1⟩ : Node)].length) * 40 ≤ 140737488355328 then if (eqS r2 [105, 102]) = true then (tree_parser_eat [101, 108, 115, 101] a0 r9.2.2.2.1 r9.2.2.2.2.1 r9.2.2.2.2.2).bind fun r13 => tree_parser_stmt_j4 q2 a0 x2 r9 (r13.1, r13.2, (([] : List Node) ++ [(⟨r7.1, r7.2.1, r7.2.2.1⟩ : Node)]) ++ [(⟨r9.1, r9.2.1, r9.2.2.1⟩ : Node)]) else tree_parser_stmt_j4 q2 a0 x2 r9 (false, r9.2.2.2.1, (([] : List Node) ++ [(⟨r7.1, r7.2.1, r7.2.2.1⟩ : Node)]) ++ [(⟨r9.1, r9.2.1, r9.2.2.1⟩ : Node)]) else none) (fun e6 => (tree_parser_down_1 a0 e6.2.2.2.1 e6.2.2.2.2.1 e6.2.2.2.2.2).bind fun r14 => some (.er (e6.1, e6.2.1, e6.2.2.1, e6.2.2.2.1, r14, e6.2.2.2.2.2)))) (fun e5 => (tree_parser_down_1 a0 e5.2.2 r7.2.2.2.2 a3).bind fun r15 => some (.er (2, e5.1, e5.2.1, e5.2.2, r15, a3))) else none) (fun e4 => (tree_parser_down_1 a0 e4.2.2.2.1 e4.2.2.2.2 a3).bind fun r16 => some (.er (e4.1, e4.2.1, e4.2.2.1, e4.2.2.2.1, r16, a3)))) (fun e3 => (tree_parser_down_1 a0 e3.2.2 r1 a3).bind fun r17 => some (.er (2, e3.1, e3.2.1, e3.2.2, r17, a3)))
noncomputable def tree_parser_stmt_j5 (a0 : List Token) (a3 : List KD) : (Int × Int × (List Node)) → Option (GR (Int × Int × Int × Int × Int × (List KD)) (Int × Int × (List Node) × Int × Int × (List KD)))
  | (x10, x11, x12) => (tree_parser_down_1 a0 x10 x11 a3).bind fun r19 => some (.ok (8, (-1), x12, x10, r19, a3))
noncomputable def tree_parser_stmt_j7 (a0 : List Token) (a3 : List KD) : (Int × Int × (List Node)) → Option (GR (Int × Int × Int × Int × Int × (List KD)) (Int × Int × (List Node) × Int × Int × (List KD)))
  | (x14, x15, x16) => (tree_parser_down_1 a0 x14 x15 a3).bind fun r28 => some (.ok (9, (-1), x16, x14, r28, a3))
noncomputable def tree_parser_stmt_j6 (a0 : List Token) (a3 : List KD) (r1 : Int) (r18 : (Bool × Int)) : Bool → Option (GR (Int × Int × Int × Int × Int × (List KD)) (Int × Int × (List Node) × Int × Int × (List KD)))
  | x13 => if x13 = true then grB (tree_parser_decl a0 r18.2 r1 a3) (fun r25 => (tree_parser_down_1 a0 r25.2.2.1 r25.2.2.2.1 r25.2.2.2.2).bind fun r26 => some (.ok (2, r25.1, r25.2.1, r25.2.2.1, r26, r25.2.2.2.2))) (fun e10 => (tree_parser_down_1 a0 e10.2.2.2.1 e10.2.2.2.2.1 e10.2.2.2.2.2).bind fun r27 => some (.er (e10.1, e10.2.1, e10.2.2.1, e10.2.2.2.1, r27, e10.2.2.2.2.2))) else (tree_parser_eat [59] a0 r18.2 r1 a3).bind fun r29 => if (!r29.1) = true then grB (tree_parser_expr a0 r29.2 r1 a3) (fun r30 => if (([] : List Node).length + [(⟨r30.1, r30.2.1, r30.2.2.1⟩ : Node)].length) * 40 ≤ 140737488355328 then grB (tree_parser_must [59] a0 r30.2.2.2.1 r30.2.2.2.2 a3) (fun r31 => tree_parser_stmt_j7 a0 a3 (r31, r30.2.2.2.2, ([] : List Node) ++ [(⟨r30.1, r30.2.1, r30.2.2.1⟩ : Node)])) (fun e12 => (tree_parser_down_1 a0 e12.2.2 r30.2.2.2.2 a3).bind fun r32 => some (.er (2, e12.1, e12.2.1, e12.2.2, r32, a3))) else none) (fun e11 => (tree_parser_down_1 a0 e11.2.2.2.1 e11.2.2.2.2 a3).bind fun r33 => some (.er (e11.1, e11.2.1, e11.2.2.1, e11.2.2.2.1, r33, a3))) else tree_parser_stmt_j7 a0 a3 (r29.2, r1, ([] : List Node))
noncomputable def tree_parser_stmt_j1 (q2 : (List Token) → Int → Int → (List KD) → Option (GR (Int × Int × Int × Int × Int × (List KD)) (Int × Int × (List Node) × Int × Int × (List KD)))) (a0 : List Token) (a1 : Int) (a3 : List KD) (r1 : Int) (r2 : (List UInt8)) : Bool → Option (GR (Int × Int × Int × Int × Int × (List KD)) (Int × Int × (List Node) × Int × Int × (List KD)))
  | x1 => if x1 = true then if (eqS r2 [119, 104, 105, 108, 101]) = true then tree_parser_stmt_j2 q2 a0 a1 a3 r1 r2 7 else tree_parser_stmt_j2 q2 a0 a1 a3 r1 r2 6 else (tree_parser_eat [114, 101, 116, 117, 114, 110] a0 a1 r1 a3).bind fun r18 => if r18.1 = true then (tree_parser_eat [59] a0 r18.2 r1 a3).bind fun r20 => if (!r20.1) = true then grB (tree_parser_expr a0 r20.2 r1 a3) (fun r21 => if (([] : List Node).length + [(⟨r21.1, r21.2.1, r21.2.2.1⟩ : Node)].length) * 40 ≤ 140737488355328 then grB (tree_parser_must [59] a0 r21.2.2.2.1 r21.2.2.2.2 a3) (fun r22 => tree_parser_stmt_j5 a0 a3 (r22, r21.2.2.2.2, ([] : List Node) ++ [(⟨r21.1, r21.2.1, r21.2.2.1⟩ : Node)])) (fun e9 => (tree_parser_down_1 a0 e9.2.2 r21.2.2.2.2 a3).bind fun r23 => some (.er (2, e9.1, e9.2.1, e9.2.2, r23, a3))) else none) (fun e8 => (tree_parser_down_1 a0 e8.2.2.2.1 e8.2.2.2.2 a3).bind fun r24 => some (.er (e8.1, e8.2.1, e8.2.2.1, e8.2.2.2.1, r24, a3))) else tree_parser_stmt_j5 a0 a3 (r20.2, r1, ([] : List Node)) else if (eqS r2 [116, 121, 112, 101, 100, 101, 102]) = true then tree_parser_stmt_j6 a0 a3 r1 r18 true else (tree_parser_isType a0 r18.2 r1 a3).bind fun r34 => tree_parser_stmt_j6 a0 a3 r1 r18 r34
noncomputable def tree_parser_stmt_s (q1 : (List Token) → Int → Int → (List KD) → Option (GR (Int × Int × Int × Int × Int × (List KD)) ((List Node) × Int × Int × (List KD)))) (q2 : (List Token) → Int → Int → (List KD) → Option (GR (Int × Int × Int × Int × Int × (List KD)) (Int × Int × (List Node) × Int × Int × (List KD)))) (a0 : List Token) (a1 : Int) (a2 : Int) (a3 : List KD) : Option (GR (Int × Int × Int × Int × Int × (List KD)) (Int × Int × (List Node) × Int × Int × (List KD))) :=
  grB (tree_parser_down a0 a1 a2 a3) (fun r1 => (tree_parser_peek a0 a1 r1 a3).bind fun r2 => if (eqS r2 [123]) = true then grB (q1 a0 a1 r1 a3) (fun r3 => (tree_parser_down_1 a0 r3.2.1 r3.2.2.1 r3.2.2.2).bind fun r4 => some (.ok (5, (-1), r3.1, r3.2.1, r4, r3.2.2.2))) (fun e2 => (tree_parser_down_1 a0 e2.2.2.2.1 e2.2.2.2.2.1 e2.2.2.2.2.2).bind fun r5 => some (.er (e2.1, e2.2.1, e2.2.2.1, e2.2.2.2.1, r5, e2.2.2.2.2.2))) else if (eqS r2 [105, 102]) = true then tree_parser_stmt_j1 q2 a0 a1 a3 r1 r2 true else tree_parser_stmt_j1 q2 a0 a1 a3 r1 r2 (eqS r2 [119, 104, 105, 108, 101])) (fun e1 => some (.er (10, e1.1, e1.2, a1, a2, a3)))
set_option maxRecDepth 100000 in
set_option maxHeartbeats 4000000 in
theorem tree_parser_stmt_sok (q1 : (List Token) → Int → Int → (List KD) → Option (GR (Int × Int × Int × Int × Int × (List KD)) ((List Node) × Int × Int × (List KD)))) (q2 : (List Token) → Int → Int → (List KD) → Option (GR (Int × Int × Int × Int × Int × (List KD)) (Int × Int × (List Node) × Int × Int × (List KD)))) (kq1 : Kok Try.prog 26 false (SF_tree_parser_block q1)) (kq2 : Kok Try.prog 39 false (SF_tree_parser_stmt q2)) : ∀ g, SF_tree_parser_stmt (tree_parser_stmt_s q1 q2) g → GenOk Try.prog 39 g := by
  rintro _ ⟨a0, a1, a2, a3, r, H, rfl⟩
  refine xGnl mixed [11, 13, 15, 20, 27] [] [(38, false, S_tree_parser_down), (19, true, S_tree_parser_peek), (26, false, (SF_tree_parser_block q1)), (25, false, S_tree_parser_must), (35, false, S_tree_parser_expr), (39, false, (SF_tree_parser_stmt q2)), (23, true, S_tree_parser_eat), (20, false, S_tree_parser_decl), (32, true, S_tree_parser_isType)] [(42, SD_tree_parser_down_1)] trivial ⟨tree_parser_down_k, tree_parser_peek_k, kq1, tree_parser_must_k, tree_parser_expr_k, kq2, tree_parser_eat_k, tree_parser_decl_k, tree_parser_isType_k, trivial⟩ ⟨⟨call_42, tree_parser_down_1_dok⟩, trivial⟩ Try.func39 _ ?_
  have G := True.intro
  have Y := xZ y_3 <| xZ y_25 <| xZ y_27 <| xZ y_51 <| xZ Try.results39 <| xZ d_Call.eq_1 <| xZ d_Token.eq_1 <| xZ dq_Node <| xZ g_tree_parser_down.eq_1 <| xZ g_tree_parser_peek.eq_1 <| xZ g_tree_parser_block.eq_1 <| xZ g_tree_parser_must.eq_1 <| xZ g_tree_parser_expr.eq_1 <| xZ g_tree_parser_stmt.eq_1 <| xZ g_tree_parser_eat.eq_1 <| xZ g_tree_parser_decl.eq_1 <| xZ g_tree_parser_isType.eq_1 <| xZ di_tree_parser_down_1.eq_1 <| g_tree_parser_stmt.eq_1
  dsimp only [g_tree_parser_stmt]
  simp only [tree_parser_stmt_s] at H
  refine xS ?_
  refine xr ?_
  rcases rsplit H with ⟨r1, hr1, H⟩ | ⟨e1, hr2, H⟩
  · have F := Y
    refine xQ ?_
    refine xs 1 ?_
    refine xc ⟨[1], []⟩ (tabG 0 (tree_parser_down_c a0 a1 a2 a3 (.ok r1) hr1)) ?_
    refine xw ?_
    refine xl ?_
    refine xS ?_
    obtain ⟨r2, hr3, H⟩ := osplit H
    have F := Y
    refine xQ ?_
    refine xs 1 ?_
    refine xc ⟨[1], []⟩ (tabG 1 (tree_parser_peek_c a0 a1 r1 a3 r2 hr3)) ?_
    refine xs 1 ?_
    refine xl ?_
    refine xS ?_
    refine xr ?_
    rcases bsplit H with ⟨hp1, H⟩ | ⟨hp1, H⟩
    · obtain ⟨F, G, hq1⟩ := xH Y G hp1
      refine xT ?_
      rcases rsplit H with ⟨r3, hr4, H⟩ | ⟨e2, hr5, H⟩
      · have F := Y
        refine xQ ?_
        refine xs 1 ?_
        refine xc ⟨[1], []⟩ (tabG 2 (tree_parser_block_sc q1 a0 a1 r1 a3 (.ok r3) hr4)) ?_
        refine xs 1 ?_
        refine xl ?_
        refine xS ?_
        refine xrD [(42, [.pt 4 0])] ?_
        obtain ⟨r4, hr6, H⟩ := osplit H
        refine xD ⟨[4, 1], []⟩ (tabD 0 (tree_parser_down_1_dc a0 r3.2.1 r3.2.2.1 r3.2.2.2 r4 none hr6)) ?_
        replace H := Option.some.inj H
        subst H
        exact xO ⟨[1], [7]⟩
      · have F := Y
        refine xQp [14, 15] ?_
        refine xs 1 ?_
        refine xp ⟨[1], []⟩ (tabG 2 (tree_parser_block_sc q1 a0 a1 r1 a3 (.er e2) hr5)) ?_
        refine xS ?_
        refine xpD [(42, [.pt 4 0])] ?_
        obtain ⟨r5, hr7, H⟩ := osplit H
        refine xD ⟨[4, 1], []⟩ (tabD 0 (tree_parser_down_1_dc a0 e2.2.2.2.1 e2.2.2.2.2.1 e2.2.2.2.2.2 r5 (some (.iface 46 (.agg ⟨[.int .i64 e2.1, .int .i64 e2.2.1, .int .i64 e2.2.2.1]⟩))) hr7)) ?_
        replace H := Option.some.inj H
        subst H
        exact xOv ⟨[1], []⟩
    · obtain ⟨F, G, hq1⟩ := xH Y G hp1
      refine xE0 ?_
      refine w_cut (tree_parser_stmt_j1 q2 a0 a1 a3 r1 r2) (fun s => [(0, .c (.pt 1 0)), (2, .c (.pt 2 0)), (3, .c (.d (.v (str r2)))), (16, .c (.d (.v (.bool s)))), (1000000, .df [(42, [.pt 3 0])])]) (fun s => [[.d (.sl 11 (List.map d_Token a0)), .d (.v (.int .i64 a1)), .d (.v (.int .i64 r1)), .kc (KSK a3)], [.d (.v (.int .i64 0)), .d (.v (.int .i64 0)), .sl 3 [] 0], [.pt 1 0]]) [] r ?_ ?_
      · rcases bsplit H with ⟨hp11, H⟩ | ⟨hp11, H⟩
        · obtain ⟨F, G, hq11⟩ := xH Y G hp11
          refine xR ?_
          exact cut_at H (xK ⟨[1,2,4], []⟩)
        · obtain ⟨F, G, hq11⟩ := xH Y G hp11
          refine xR ?_
          exact cut_at H (xK ⟨[1,2,4], []⟩)
      · rintro x1 H
        rw [tree_parser_stmt_j1] at H
        rcases bsplit H with ⟨hp2, H⟩ | ⟨hp2, H⟩
        · obtain ⟨F, G, hq2⟩ := xH Y G hp2
          refine xT ?_
          refine xr0 ?_
          refine then_normal ?_
          refine w_cut (tree_parser_stmt_j2 q2 a0 a1 a3 r1 r2) (fun s => [(0, .c (.pt 1 0)), (2, .c (.pt 2 0)), (3, .c (.d (.v (str r2)))), (4, .c (.pt 3 0)), (1000000, .df [(42, [.pt 4 0])])]) (fun s => [[.d (.sl 11 (List.map d_Token a0)), .d (.v (.int .i64 a1)), .d (.v (.int .i64 r1)), .kc (KSK a3)], [.d (.v (.int .i64 0)), .d (.v (.int .i64 0)), .sl 3 [] 0], [.d (.v (.int .i64 s)), .d (.v (.int .i64 (-1))), .sl 3 [] 0], [.pt 1 0]]) [] r ?_ ?_
          · refine xS ?_
            refine xr ?_
            rcases bsplit H with ⟨hp5, H⟩ | ⟨hp5, H⟩
            · obtain ⟨F, G, hq5⟩ := xH Y G hp5
              refine xT ?_
              refine xr ?_
              exact cut_at H (xK ⟨[1,2,4,3], []⟩)
            · obtain ⟨F, G, hq5⟩ := xH Y G hp5
              refine xE ?_
              exact cut_at H (xK ⟨[1,2,4,3], []⟩)
          · rintro x2 H
            rw [tree_parser_stmt_j2] at H
            refine xS ?_
            refine xr ?_
            rcases rsplit H with ⟨r6, hr8, H⟩ | ⟨e3, hr9, H⟩
            · have F := Y
              refine xQ ?_
              refine xs 1 ?_
              refine xc ⟨[1], []⟩ (tabG 3 (tree_parser_must_c [40] a0 (IntKind.i64.wrap (a1 + 1)) r1 a3 (.ok r6) hr8)) ?_
              refine xl ?_
              refine xS ?_
              rcases rsplit H with ⟨r7, hr10, H⟩ | ⟨e4, hr11, H⟩
              · have F := Y
                obtain ⟨hg1, H⟩ := gsplit H
                have F := xZ F (all_map one_Node [(⟨r7.1, r7.2.1, r7.2.2.1⟩ : Node)])
                refine xP [0, 1, 2, 3, 4, 5, 6, 7] [37, 888888] ⟨tree_parser_down_k, tree_parser_peek_k, kq1, tree_parser_must_k, tree_parser_expr_k, kq2, tree_parser_eat_k, tree_parser_decl_k, tree_parser_isType_k, trivial⟩ ?_
                refine xsX 1 ?_
                refine xaX ?_
                refine xsX 1 ?_
                refine xcX ⟨[1], []⟩ (tabG 4 (tree_parser_expr_c a0 r6 r1 a3 (.ok r7) hr10)) ?_
                refine xsX 1 ?_
                refine xbX ?_
                refine xsX 2 ?_
                refine xlX ?_
                refine xS ?_
                rcases rsplit H with ⟨r8, hr12, H⟩ | ⟨e5, hr13, H⟩
                · have F := Y
                  refine xQ ?_
                  refine xs 1 ?_
                  refine xc ⟨[1], []⟩ (tabG 3 (tree_parser_must_c [41] a0 r7.2.2.2.1 r7.2.2.2.2 a3 (.ok r8) hr12)) ?_
                  refine xl ?_
                  refine xS ?_
                  rcases rsplit H with ⟨r9, hr14, H⟩ | ⟨e6, hr15, H⟩
                  · have F := Y
                    obtain ⟨hg2, H⟩ := gsplit H
                    have F := xZ F (all_map one_Node [(⟨r9.1, r9.2.1, r9.2.2.1⟩ : Node)])
                    refine xP [0, 1, 2, 3, 4, 5, 6, 7] [46, 888888] ⟨tree_parser_down_k, tree_parser_peek_k, kq1, tree_parser_must_k, tree_parser_expr_k, kq2, tree_parser_eat_k, tree_parser_decl_k, tree_parser_isType_k, trivial⟩ ?_
                    refine xsX 1 ?_
                    refine xaX ?_
                    refine xsX 1 ?_
                    refine xcX ⟨[1], []⟩ (tabG 5 (tree_parser_stmt_sc q2 a0 r8 r7.2.2.2.2 a3 (.ok r9) hr14)) ?_
                    refine xsX 1 ?_
                    refine xbX ?_
                    refine xsX 2 ?_
                    refine xlX ?_
                    refine  ?_
                    refine then_normal ?_
                    refine w_cut (tree_parser_stmt_j3 a0 x2) (fun s => [(2, .c (.pt 2 0)), (4, .c (.pt 3 0)), (1000000, .df [(42, [.pt 4 0])])]) (fun s => [[.d (.sl 11 (List.map d_Token a0)), .d (.v (.int .i64 s.1)), .d (.v (.int .i64 s.2.1)), .kc (KSK s.2.2.1)], [.d (.v (.int .i64 0)), .d (.v (.int .i64 0)), .sl 3 [] 0], [.d (.v (.int .i64 x2)), .d (.v (.int .i64 (-1))), .sl 3 (List.map d_Node s.2.2.2) 5], [.pt 1 0]]) [27] r ?_ ?_
                    · refine w_cut (tree_parser_stmt_j4 q2 a0 x2 r9) (fun s => [(0, .c (.pt 1 0)), (2, .c (.pt 2 0)), (4, .c (.pt 3 0)), (57, .c (.d (.v (.bool s.1)))), (1000000, .df [(42, [.pt 4 0])])]) (fun s => [[.d (.sl 11 (List.map d_Token a0)), .d (.v (.int .i64 s.2.1)), .d (.v (.int .i64 r9.2.2.2.2.1)), .kc (KSK r9.2.2.2.2.2)], [.d (.v (.int .i64 0)), .d (.v (.int .i64 0)), .sl 3 [] 0], [.d (.v (.int .i64 x2)), .d (.v (.int .i64 (-1))), .sl 3 (List.map d_Node s.2.2) 5], [.pt 1 0]]) [27] r ?_ ?_
                      · rcases bsplit H with ⟨hp4, H⟩ | ⟨hp4, H⟩
                        · obtain ⟨F, G, hq4⟩ := xH Y G hp4
                          obtain ⟨r13, hr20, H⟩ := osplit H
                          have F := F
                          refine xQ ?_
                          refine xs 4 ?_
                          refine xc ⟨[1], []⟩ (tabG 6 (tree_parser_eat_c [101, 108, 115, 101] a0 r9.2.2.2.1 r9.2.2.2.2.1 r9.2.2.2.2.2 r13 hr20)) ?_
                          refine xs 1 ?_
                          refine xl ?_
                          refine xS ?_
                          exact cut_at H (xK ⟨[1,2,3,4], [12]⟩)
                        · obtain ⟨F, G, hq4⟩ := xH Y G hp4
                          refine xR ?_
                          exact cut_at H (xK ⟨[1,2,3,4], [12]⟩)
                      · rintro ⟨x7, x8, x9⟩ H
                        rw [tree_parser_stmt_j4] at H
                        rcases bsplit H with ⟨hp3, H⟩ | ⟨hp3, H⟩
                        · obtain ⟨F, G, hq3⟩ := xH Y G hp3
                          refine xT ?_
                          rcases rsplit H with ⟨r11, hr17, H⟩ | ⟨e7, hr18, H⟩
                          · have F := Y
                            obtain ⟨hg3, H⟩ := gsplit H
                            have F := xZ F (all_map one_Node [(⟨r11.1, r11.2.1, r11.2.2.1⟩ : Node)])
                            refine xP [0, 1, 2, 3, 4, 5, 6, 7] [59, 888888] ⟨tree_parser_down_k, tree_parser_peek_k, kq1, tree_parser_must_k, tree_parser_expr_k, kq2, tree_parser_eat_k, tree_parser_decl_k, tree_parser_isType_k, trivial⟩ ?_
                            refine xsX 1 ?_
                            refine xaX ?_
                            refine xsX 1 ?_
                            refine xcX ⟨[1], []⟩ (tabG 5 (tree_parser_stmt_sc q2 a0 x8 r9.2.2.2.2.1 r9.2.2.2.2.2 (.ok r11) hr17)) ?_
                            refine xsX 1 ?_
                            refine xbX ?_
                            refine xsX 2 ?_
                            refine xlX ?_
                            refine xS ?_
                            exact cut_at H (xK ⟨[1,2,3,4], [8]⟩)
                          · have F := Y
                            refine xPp [58, 59, 60, 61, 62, 63, 64] [0, 1, 2, 3, 4, 5, 6, 7] [59, 888888] ⟨tree_parser_down_k, tree_parser_peek_k, kq1, tree_parser_must_k, tree_parser_expr_k, kq2, tree_parser_eat_k, tree_parser_decl_k, tree_parser_isType_k, trivial⟩ ?_
                            refine xsX 1 ?_
                            refine xaX ?_
                            refine xsX 1 ?_
                            refine xpX ⟨[1], []⟩ (tabG 5 (tree_parser_stmt_sc q2 a0 x8 r9.2.2.2.2.1 r9.2.2.2.2.2 (.er e7) hr18)) ?_
                            refine xS ?_
                            refine xpD [(42, [.pt 4 0])] ?_
                            obtain ⟨r12, hr19, H⟩ := osplit H
                            refine xD ⟨[4, 1], []⟩ (tabD 0 (tree_parser_down_1_dc a0 e7.2.2.2.1 e7.2.2.2.2.1 e7.2.2.2.2.2 r12 (some (.iface 46 (.agg ⟨[.int .i64 e7.1, .int .i64 e7.2.1, .int .i64 e7.2.2.1]⟩))) hr19)) ?_
                            replace H := Option.some.inj H
                            subst H
                            exact xOv ⟨[1], []⟩
                        · obtain ⟨F, G, hq3⟩ := xH Y G hp3
                          refine xE ?_
                          exact cut_at H (xK ⟨[1,2,3,4], [5]⟩)
                    · rintro ⟨x3, x4, x5, x6⟩ H
                      rw [tree_parser_stmt_j3] at H
                      refine xS ?_
                      refine xr ?_
                      refine xrD [(42, [.pt 4 0])] ?_
                      obtain ⟨r10, hr16, H⟩ := osplit H
                      refine xD ⟨[4, 1], []⟩ (tabD 0 (tree_parser_down_1_dc a0 x3 x4 x5 r10 none hr16)) ?_
                      replace H := Option.some.inj H
                      subst H
                      exact xO ⟨[1], [5]⟩
                  · have F := Y
                    refine xPp [45, 46, 47, 48, 49, 50, 51] [0, 1, 2, 3, 4, 5, 6, 7] [46, 888888] ⟨tree_parser_down_k, tree_parser_peek_k, kq1, tree_parser_must_k, tree_parser_expr_k, kq2, tree_parser_eat_k, tree_parser_decl_k, tree_parser_isType_k, trivial⟩ ?_
                    refine xsX 1 ?_
                    refine xaX ?_
                    refine xsX 1 ?_
                    refine xpX ⟨[1], []⟩ (tabG 5 (tree_parser_stmt_sc q2 a0 r8 r7.2.2.2.2 a3 (.er e6) hr15)) ?_
                    refine xS ?_
                    refine xpD [(42, [.pt 4 0])] ?_
                    obtain ⟨r14, hr21, H⟩ := osplit H
                    refine xD ⟨[4, 1], []⟩ (tabD 0 (tree_parser_down_1_dc a0 e6.2.2.2.1 e6.2.2.2.2.1 e6.2.2.2.2.2 r14 (some (.iface 46 (.agg ⟨[.int .i64 e6.1, .int .i64 e6.2.1, .int .i64 e6.2.2.1]⟩))) hr21)) ?_
                    replace H := Option.some.inj H
                    subst H
                    exact xOv ⟨[1], []⟩
                · have F := Y
                  refine xQp [43, 44] ?_
                  refine xs 1 ?_
                  refine xp ⟨[1], []⟩ (tabG 3 (tree_parser_must_c [41] a0 r7.2.2.2.1 r7.2.2.2.2 a3 (.er e5) hr13)) ?_
                  refine xS ?_
                  refine xpD [(42, [.pt 4 0])] ?_
                  obtain ⟨r15, hr22, H⟩ := osplit H
                  refine xD ⟨[4, 1], []⟩ (tabD 0 (tree_parser_down_1_dc a0 e5.2.2 r7.2.2.2.2 a3 r15 (some (.iface 46 (.agg ⟨[.int .i64 2, .int .i64 e5.1, .int .i64 e5.2.1]⟩))) hr22)) ?_
                  replace H := Option.some.inj H
                  subst H
                  exact xOv ⟨[1], []⟩
              · have F := Y
                refine xPp [36, 37, 38, 39, 40, 41, 42] [0, 1, 2, 3, 4, 5, 6, 7] [37, 888888] ⟨tree_parser_down_k, tree_parser_peek_k, kq1, tree_parser_must_k, tree_parser_expr_k, kq2, tree_parser_eat_k, tree_parser_decl_k, tree_parser_isType_k, trivial⟩ ?_
                refine xsX 1 ?_
                refine xaX ?_
                refine xsX 1 ?_
                refine xpX ⟨[1], []⟩ (tabG 4 (tree_parser_expr_c a0 r6 r1 a3 (.er e4) hr11)) ?_
                refine xS ?_
                refine xpD [(42, [.pt 4 0])] ?_
                obtain ⟨r16, hr23, H⟩ := osplit H
                refine xD ⟨[4, 1], []⟩ (tabD 0 (tree_parser_down_1_dc a0 e4.2.2.2.1 e4.2.2.2.2 a3 r16 (some (.iface 46 (.agg ⟨[.int .i64 e4.1, .int .i64 e4.2.1, .int .i64 e4.2.2.1]⟩))) hr23)) ?_
                replace H := Option.some.inj H
                subst H
                exact xOv ⟨[1], []⟩
            · have F := Y
              refine xQp [34, 35] ?_
              refine xs 1 ?_
              refine xp ⟨[1], []⟩ (tabG 3 (tree_parser_must_c [40] a0 (IntKind.i64.wrap (a1 + 1)) r1 a3 (.er e3) hr9)) ?_
              refine xS ?_
              refine xpD [(42, [.pt 4 0])] ?_
              obtain ⟨r17, hr24, H⟩ := osplit H
              refine xD ⟨[4, 1], []⟩ (tabD 0 (tree_parser_down_1_dc a0 e3.2.2 r1 a3 r17 (some (.iface 46 (.agg ⟨[.int .i64 2, .int .i64 e3.1, .int .i64 e3.2.1]⟩))) hr24)) ?_
              replace H := Option.some.inj H
              subst H
              exact xOv ⟨[1], []⟩
        · obtain ⟨F, G, hq2⟩ := xH Y G hp2
          refine xE ?_
          obtain ⟨r18, hr25, H⟩ := osplit H
          have F := Y
          refine xQ ?_
          refine xs 1 ?_
          refine xc ⟨[1], []⟩ (tabG 6 (tree_parser_eat_c [114, 101, 116, 117, 114, 110] a0 a1 r1 a3 r18 hr25)) ?_
          refine xs 1 ?_
          refine xl ?_
          refine xS ?_
          rcases bsplit H with ⟨hp6, H⟩ | ⟨hp6, H⟩
          · obtain ⟨F, G, hq6⟩ := xH Y G hp6
            refine xT ?_
            refine xr0 ?_
            refine then_normal ?_
            refine w_cut (tree_parser_stmt_j5 a0 a3) (fun s => [(2, .c (.pt 2 0)), (5, .c (.pt 3 0)), (1000000, .df [(42, [.pt 4 0])])]) (fun s => [[.d (.sl 11 (List.map d_Token a0)), .d (.v (.int .i64 s.1)), .d (.v (.int .i64 s.2.1)), .kc (KSK a3)], [.d (.v (.int .i64 0)), .d (.v (.int .i64 0)), .sl 3 [] 0], [.d (.v (.int .i64 8)), .d (.v (.int .i64 (-1))), .sl 3 (List.map d_Node s.2.2) 5], [.pt 1 0]]) [27] r ?_ ?_
            · refine xS ?_
              obtain ⟨r20, hr27, H⟩ := osplit H
              have F := Y
              refine xQ ?_
              refine xs 1 ?_
              refine xc ⟨[1], []⟩ (tabG 6 (tree_parser_eat_c [59] a0 r18.2 r1 a3 r20 hr27)) ?_
              refine xs 1 ?_
              refine xl ?_
              refine xS ?_
              rcases bsplit H with ⟨hp7, H⟩ | ⟨hp7, H⟩
              · obtain ⟨F, G, hq7⟩ := xH Y G hp7
                refine xT ?_
                rcases rsplit H with ⟨r21, hr28, H⟩ | ⟨e8, hr29, H⟩
                · have F := Y
                  obtain ⟨hg4, H⟩ := gsplit H
                  have F := xZ F (all_map one_Node [(⟨r21.1, r21.2.1, r21.2.2.1⟩ : Node)])
                  refine xP [0, 1, 2, 3, 4, 5, 6, 7] [74, 888888] ⟨tree_parser_down_k, tree_parser_peek_k, kq1, tree_parser_must_k, tree_parser_expr_k, kq2, tree_parser_eat_k, tree_parser_decl_k, tree_parser_isType_k, trivial⟩ ?_
                  refine xsX 1 ?_
                  refine xaX ?_
                  refine xsX 1 ?_
                  refine xcX ⟨[1], []⟩ (tabG 4 (tree_parser_expr_c a0 r20.2 r1 a3 (.ok r21) hr28)) ?_
                  refine xsX 1 ?_
                  refine xbX ?_
                  refine xsX 2 ?_
                  refine xlX ?_
                  refine xS ?_
                  rcases rsplit H with ⟨r22, hr30, H⟩ | ⟨e9, hr31, H⟩
                  · have F := Y
                    refine xQ ?_
                    refine xs 1 ?_
                    refine xc ⟨[1], []⟩ (tabG 3 (tree_parser_must_c [59] a0 r21.2.2.2.1 r21.2.2.2.2 a3 (.ok r22) hr30)) ?_
                    refine xl ?_
                    refine xS ?_
                    exact cut_at H (xK ⟨[1,2,5,3], [9]⟩)
                  · have F := Y
                    refine xQp [80, 81] ?_
                    refine xs 1 ?_
                    refine xp ⟨[1], []⟩ (tabG 3 (tree_parser_must_c [59] a0 r21.2.2.2.1 r21.2.2.2.2 a3 (.er e9) hr31)) ?_
                    refine xS ?_
                    refine xpD [(42, [.pt 3 0])] ?_
                    obtain ⟨r23, hr32, H⟩ := osplit H
                    refine xD ⟨[3, 1], []⟩ (tabD 0 (tree_parser_down_1_dc a0 e9.2.2 r21.2.2.2.2 a3 r23 (some (.iface 46 (.agg ⟨[.int .i64 2, .int .i64 e9.1, .int .i64 e9.2.1]⟩))) hr32)) ?_
                    replace H := Option.some.inj H
                    subst H
                    exact xOv ⟨[1], []⟩
                · have F := Y
                  refine xPp [73, 74, 75, 76, 77, 78, 79] [0, 1, 2, 3, 4, 5, 6, 7] [74, 888888] ⟨tree_parser_down_k, tree_parser_peek_k, kq1, tree_parser_must_k, tree_parser_expr_k, kq2, tree_parser_eat_k, tree_parser_decl_k, tree_parser_isType_k, trivial⟩ ?_
                  refine xsX 1 ?_
                  refine xaX ?_
                  refine xsX 1 ?_
                  refine xpX ⟨[1], []⟩ (tabG 4 (tree_parser_expr_c a0 r20.2 r1 a3 (.er e8) hr29)) ?_
                  refine xS ?_
                  refine xpD [(42, [.pt 3 0])] ?_
                  obtain ⟨r24, hr33, H⟩ := osplit H
                  refine xD ⟨[3, 1], []⟩ (tabD 0 (tree_parser_down_1_dc a0 e8.2.2.2.1 e8.2.2.2.2 a3 r24 (some (.iface 46 (.agg ⟨[.int .i64 e8.1, .int .i64 e8.2.1, .int .i64 e8.2.2.1]⟩))) hr33)) ?_
                  replace H := Option.some.inj H
                  subst H
                  exact xOv ⟨[1], []⟩
              · obtain ⟨F, G, hq7⟩ := xH Y G hp7
                refine xE ?_
                exact cut_at H (xK ⟨[1,2,5,3], [0]⟩)
            · rintro ⟨x10, x11, x12⟩ H
              rw [tree_parser_stmt_j5] at H
              refine xS ?_
              refine xr ?_
              refine xrD [(42, [.pt 4 0])] ?_
              obtain ⟨r19, hr26, H⟩ := osplit H
              refine xD ⟨[4, 1], []⟩ (tabD 0 (tree_parser_down_1_dc a0 x10 x11 a3 r19 none hr26)) ?_
              replace H := Option.some.inj H
              subst H
              exact xO ⟨[1], [5]⟩
          · obtain ⟨F, G, hq6⟩ := xH Y G hp6
            refine xE0 ?_
            refine w_cut (tree_parser_stmt_j6 a0 a3 r1 r18) (fun s => [(0, .c (.pt 1 0)), (2, .c (.pt 2 0)), (83, .c (.d (.v (.bool s)))), (1000000, .df [(42, [.pt 3 0])])]) (fun s => [[.d (.sl 11 (List.map d_Token a0)), .d (.v (.int .i64 r18.2)), .d (.v (.int .i64 r1)), .kc (KSK a3)], [.d (.v (.int .i64 0)), .d (.v (.int .i64 0)), .sl 3 [] 0], [.pt 1 0]]) [] r ?_ ?_
            · rcases bsplit H with ⟨hp10, H⟩ | ⟨hp10, H⟩
              · obtain ⟨F, G, hq10⟩ := xH Y G hp10
                refine xR ?_
                exact cut_at H (xK ⟨[1,2,3], []⟩)
              · obtain ⟨F, G, hq10⟩ := xH Y G hp10
                obtain ⟨r34, hr46, H⟩ := osplit H
                have F := F
                refine xQ ?_
                refine xs 4 ?_
                refine xc ⟨[1], []⟩ (tabG 8 (tree_parser_isType_c a0 r18.2 r1 a3 r34 hr46)) ?_
                refine xs 2 ?_
                refine xl ?_
                refine xS ?_
                exact cut_at H (xK ⟨[1,2,3], []⟩)
            · rintro x13 H
              rw [tree_parser_stmt_j6] at H
              rcases bsplit H with ⟨hp8, H⟩ | ⟨hp8, H⟩
              · obtain ⟨F, G, hq8⟩ := xH Y G hp8
                refine xT ?_
                rcases rsplit H with ⟨r25, hr34, H⟩ | ⟨e10, hr35, H⟩
                · have F := Y
                  refine xQ ?_
                  refine xs 1 ?_
                  refine xc ⟨[1], []⟩ (tabG 7 (tree_parser_decl_c a0 r18.2 r1 a3 (.ok r25) hr34)) ?_
                  refine xs 1 ?_
                  refine xl ?_
                  refine xS ?_
                  refine xrD [(42, [.pt 3 0])] ?_
                  obtain ⟨r26, hr36, H⟩ := osplit H
                  refine xD ⟨[3, 1], []⟩ (tabD 0 (tree_parser_down_1_dc a0 r25.2.2.1 r25.2.2.2.1 r25.2.2.2.2 r26 none hr36)) ?_
                  replace H := Option.some.inj H
                  subst H
                  exact xO ⟨[1], [5]⟩
                · have F := Y
                  refine xQp [90, 91] ?_
                  refine xs 1 ?_
                  refine xp ⟨[1], []⟩ (tabG 7 (tree_parser_decl_c a0 r18.2 r1 a3 (.er e10) hr35)) ?_
                  refine xS ?_
                  refine xpD [(42, [.pt 3 0])] ?_
                  obtain ⟨r27, hr37, H⟩ := osplit H
                  refine xD ⟨[3, 1], []⟩ (tabD 0 (tree_parser_down_1_dc a0 e10.2.2.2.1 e10.2.2.2.2.1 e10.2.2.2.2.2 r27 (some (.iface 46 (.agg ⟨[.int .i64 e10.1, .int .i64 e10.2.1, .int .i64 e10.2.2.1]⟩))) hr37)) ?_
                  replace H := Option.some.inj H
                  subst H
                  exact xOv ⟨[1], []⟩
              · obtain ⟨F, G, hq8⟩ := xH Y G hp8
                refine xE ?_
                refine xr0 ?_
                refine then_normal ?_
                refine w_cut (tree_parser_stmt_j7 a0 a3) (fun s => [(2, .c (.pt 2 0)), (6, .c (.pt 3 0)), (1000000, .df [(42, [.pt 4 0])])]) (fun s => [[.d (.sl 11 (List.map d_Token a0)), .d (.v (.int .i64 s.1)), .d (.v (.int .i64 s.2.1)), .kc (KSK a3)], [.d (.v (.int .i64 0)), .d (.v (.int .i64 0)), .sl 3 [] 0], [.d (.v (.int .i64 9)), .d (.v (.int .i64 (-1))), .sl 3 (List.map d_Node s.2.2) 5], [.pt 1 0]]) [27] r ?_ ?_
                · refine xS ?_
                  obtain ⟨r29, hr39, H⟩ := osplit H
                  have F := Y
                  refine xQ ?_
                  refine xs 1 ?_
                  refine xc ⟨[1], []⟩ (tabG 6 (tree_parser_eat_c [59] a0 r18.2 r1 a3 r29 hr39)) ?_
                  refine xs 1 ?_
                  refine xl ?_
                  refine xS ?_
                  rcases bsplit H with ⟨hp9, H⟩ | ⟨hp9, H⟩
                  · obtain ⟨F, G, hq9⟩ := xH Y G hp9
                    refine xT ?_
                    rcases rsplit H with ⟨r30, hr40, H⟩ | ⟨e11, hr41, H⟩
                    · have F := Y
                      obtain ⟨hg5, H⟩ := gsplit H
                      have F := xZ F (all_map one_Node [(⟨r30.1, r30.2.1, r30.2.2.1⟩ : Node)])
                      refine xP [0, 1, 2, 3, 4, 5, 6, 7] [97, 888888] ⟨tree_parser_down_k, tree_parser_peek_k, kq1, tree_parser_must_k, tree_parser_expr_k, kq2, tree_parser_eat_k, tree_parser_decl_k, tree_parser_isType_k, trivial⟩ ?_
                      refine xsX 1 ?_
                      refine xaX ?_
                      refine xsX 1 ?_
                      refine xcX ⟨[1], []⟩ (tabG 4 (tree_parser_expr_c a0 r29.2 r1 a3 (.ok r30) hr40)) ?_
                      refine xsX 1 ?_
                      refine xbX ?_
                      refine xsX 2 ?_
                      refine xlX ?_
                      refine xS ?_
                      rcases rsplit H with ⟨r31, hr42, H⟩ | ⟨e12, hr43, H⟩
                      · have F := Y
                        refine xQ ?_
                        refine xs 1 ?_
                        refine xc ⟨[1], []⟩ (tabG 3 (tree_parser_must_c [59] a0 r30.2.2.2.1 r30.2.2.2.2 a3 (.ok r31) hr42)) ?_
                        refine xl ?_
                        refine xS ?_
                        exact cut_at H (xK ⟨[1,2,4,3], [8]⟩)
                      · have F := Y
                        refine xQp [103, 104] ?_
                        refine xs 1 ?_
                        refine xp ⟨[1], []⟩ (tabG 3 (tree_parser_must_c [59] a0 r30.2.2.2.1 r30.2.2.2.2 a3 (.er e12) hr43)) ?_
                        refine xS ?_
                        refine xpD [(42, [.pt 3 0])] ?_
                        obtain ⟨r32, hr44, H⟩ := osplit H
                        refine xD ⟨[3, 1], []⟩ (tabD 0 (tree_parser_down_1_dc a0 e12.2.2 r30.2.2.2.2 a3 r32 (some (.iface 46 (.agg ⟨[.int .i64 2, .int .i64 e12.1, .int .i64 e12.2.1]⟩))) hr44)) ?_
                        replace H := Option.some.inj H
                        subst H
                        exact xOv ⟨[1], []⟩
                    · have F := Y
                      refine xPp [96, 97, 98, 99, 100, 101, 102] [0, 1, 2, 3, 4, 5, 6, 7] [97, 888888] ⟨tree_parser_down_k, tree_parser_peek_k, kq1, tree_parser_must_k, tree_parser_expr_k, kq2, tree_parser_eat_k, tree_parser_decl_k, tree_parser_isType_k, trivial⟩ ?_
                      refine xsX 1 ?_
                      refine xaX ?_
                      refine xsX 1 ?_
                      refine xpX ⟨[1], []⟩ (tabG 4 (tree_parser_expr_c a0 r29.2 r1 a3 (.er e11) hr41)) ?_
                      refine xS ?_
                      refine xpD [(42, [.pt 3 0])] ?_
                      obtain ⟨r33, hr45, H⟩ := osplit H
                      refine xD ⟨[3, 1], []⟩ (tabD 0 (tree_parser_down_1_dc a0 e11.2.2.2.1 e11.2.2.2.2 a3 r33 (some (.iface 46 (.agg ⟨[.int .i64 e11.1, .int .i64 e11.2.1, .int .i64 e11.2.2.1]⟩))) hr45)) ?_
                      replace H := Option.some.inj H
                      subst H
                      exact xOv ⟨[1], []⟩
                  · obtain ⟨F, G, hq9⟩ := xH Y G hp9
                    refine xE ?_
                    exact cut_at H (xK ⟨[1,2,4,3], [0]⟩)
                · rintro ⟨x14, x15, x16⟩ H
                  rw [tree_parser_stmt_j7] at H
                  refine xS ?_
                  refine xr ?_
                  refine xrD [(42, [.pt 4 0])] ?_
                  obtain ⟨r28, hr38, H⟩ := osplit H
                  refine xD ⟨[4, 1], []⟩ (tabD 0 (tree_parser_down_1_dc a0 x14 x15 a3 r28 none hr38)) ?_
                  replace H := Option.some.inj H
                  subst H
                  exact xO ⟨[1], [5]⟩
  · have F := Y
    refine xQp [7, 8] ?_
    refine xs 1 ?_
    refine xp ⟨[1], []⟩ (tabG 0 (tree_parser_down_c a0 a1 a2 a3 (.er e1) hr2)) ?_
    replace H := Option.some.inj H
    refine xS ?_
    subst H
    refine xpD [] ?_
    exact xOv ⟨[1], []⟩
noncomputable def rec_tree_parser_block : Nat → ((List Token) → Int → Int → (List KD) → Option (GR (Int × Int × Int × Int × Int × (List KD)) ((List Node) × Int × Int × (List KD)))) × ((List Token) → Int → Int → (List KD) → Option (GR (Int × Int × Int × Int × Int × (List KD)) (Int × Int × (List Node) × Int × Int × (List KD))))
  | 0 => (fun _ _ _ _ => none, fun _ _ _ _ => none)
  | n + 1 => (tree_parser_block_s ((rec_tree_parser_block n).1) ((rec_tree_parser_block n).2), tree_parser_stmt_s ((rec_tree_parser_block n).1) ((rec_tree_parser_block n).2))
theorem rec_tree_parser_block_k : ∀ n, Kok Try.prog 26 false (SF_tree_parser_block (rec_tree_parser_block n).1) ∧ Kok Try.prog 39 false (SF_tree_parser_stmt (rec_tree_parser_block n).2)
  | 0 => ⟨⟨call_26, (by rintro _ ⟨_, _, _, _, _, H, _⟩; cases H), nofun⟩, ⟨call_39, (by rintro _ ⟨_, _, _, _, _, H, _⟩; cases H), nofun⟩⟩
  | n + 1 => have h := rec_tree_parser_block_k n; ⟨⟨call_26, tree_parser_block_sok _ _ h.1 h.2, nofun⟩, ⟨call_39, tree_parser_stmt_sok _ _ h.1 h.2, nofun⟩⟩
noncomputable def tree_parser_block : (List Token) → Int → Int → (List KD) → Option (GR (Int × Int × Int × Int × Int × (List KD)) ((List Node) × Int × Int × (List KD))) := (rec_tree_parser_block bigF).1
def S_tree_parser_block : GI → Prop := SF_tree_parser_block tree_parser_block
theorem tree_parser_block_c (a0 : List Token) (a1 : Int) (a2 : Int) (a3 : List KD) (r : GR (Int × Int × Int × Int × Int × (List KD)) ((List Node) × Int × Int × (List KD))) (H : tree_parser_block a0 a1 a2 a3 = some r) : S_tree_parser_block (g_tree_parser_block a0 a1 a2 a3 r) := tree_parser_block_sc tree_parser_block a0 a1 a2 a3 r H
theorem tree_parser_block_k : Kok Try.prog 26 false S_tree_parser_block := (rec_tree_parser_block_k bigF).1
noncomputable def tree_parser_outer_v2_j3 (a0 : List Token) (x4 : Int) (x5 : List KD) (x6 : List Node) : Int → Option ((Int × Int × (List KD) × (List Node)) ⊕ (GR (Int × Int × Int × Int × Int × (List KD)) (Int × Int × (List Node) × Int × Int × (List KD))))
  | x7 => grB (tree_parser_typ a0 x7 x4 x5) (fun r7 => grB (tree_parser_declarator false a0 r7.2 x4 x5) (fun r8 => if ([(⟨16, r7.1, ([] : List Node)⟩ : Node)].length + [(⟨4, r8.1, r8.2.1⟩ : Node)].length) * 40 ≤ 140737488355328 then if (x6.length + [(⟨2, (-1), [(⟨16, r7.1, ([] : List Node)⟩ : Node)] ++ [(⟨4, r8.1, r8.2.1⟩ : Node)]⟩ : Node)].length) * 40 ≤ 140737488355328 then some (.inl (r8.2.2.1, r8.2.2.2.1, r8.2.2.2.2, x6 ++ [(⟨2, (-1), [(⟨16, r7.1, ([] : List Node)⟩ : Node)] ++ [(⟨4, r8.1, r8.2.1⟩ : Node)]⟩ : Node)])) else none else none) (fun e6 => inrO (some (.er (e6.1, e6.2.1, e6.2.2.1, e6.2.2.2.1, e6.2.2.2.2, x5))))) (fun e5 => inrO (some (.er (2, e5.1, e5.2, x7, x4, x5))))
noncomputable def tree_parser_outer_v2_b2 (a0 : List Token) : (Int × Int × (List KD) × (List Node)) → Option ((Int × Int × (List KD) × (List Node)) ⊕ (GR (Int × Int × Int × Int × Int × (List KD)) (Int × Int × (List Node) × Int × Int × (List KD))))
  | (x3, x4, x5, x6) => (tree_parser_eat [41] a0 x3 x4 x5).bind fun r6 => if (!r6.1) = true then if (ltI 2 (x6.length : Int)) = true then grB (tree_parser_must [44] a0 r6.2 x4 x5) (fun r9 => tree_parser_outer_v2_j3 a0 x4 x5 x6 r9) (fun e7 => inrO (some (.er (2, e7.1, e7.2.1, e7.2.2, x4, x5)))) else tree_parser_outer_v2_j3 a0 x4 x5 x6 r6.2 else inrO (grB (tree_parser_block a0 r6.2 x4 x5) (fun r10 => if (x6.length + [(⟨5, (-1), r10.1⟩ : Node)].length) * 40 ≤ 140737488355328 then if 0 < r10.2.2.2.length then some (.ok (3, (-1), x6 ++ [(⟨5, (-1), r10.1⟩ : Node)], r10.2.1, r10.2.2.1, List.dropLast r10.2.2.2)) else none else none) (fun e8 => some (.er (e8.1, e8.2.1, e8.2.2.1, e8.2.2.2.1, e8.2.2.2.2.1, e8.2.2.2.2.2))))
noncomputable def tree_parser_outer_v2_j1 (a0 : List Token) (r3 : (Int × Int)) (r4 : (Int × (List Node) × Int × Int × (List KD))) : (Bool × Int) → Option (GR (Int × Int × Int × Int × Int × (List KD)) (Int × Int × (List Node) × Int × Int × (List KD)))
  | (x1, x2) => if x1 = true then grB (tree_parser_rest 2 (-1) [(⟨16, r3.1, ([] : List Node)⟩ : Node)] 4 r4.1 r4.2.1 false a0 x2 r4.2.2.2.1 r4.2.2.2.2) (fun r5 => some (.ok (2, (-1), r5.1, r5.2.1, r5.2.2.1, r5.2.2.2))) (fun e4 => some (.er (e4.1, e4.2.1, e4.2.2.1, e4.2.2.2.1, e4.2.2.2.2.1, e4.2.2.2.2.2))) else if r4.2.2.2.2.length < 17592186044416 then loopO (tree_parser_outer_v2_b2 a0) (x2, r4.2.2.2.1, r4.2.2.2.2 ++ [[]], [(⟨16, r3.1, ([] : List Node)⟩ : Node), (⟨4, r4.1, r4.2.1⟩ : Node)]) else none
noncomputable def tree_parser_outer_v2 (a0 : List Token) (a1 : Int) (a2 : Int) (a3 : List KD) : Option (GR (Int × Int × Int × Int × Int × (List KD)) (Int × Int × (List Node) × Int × Int × (List KD))) :=
  (tree_parser_peek a0 a1 a2 a3).bind fun r1 => if (eqS r1 [116, 121, 112, 101, 100, 101, 102]) = true then grB (tree_parser_decl a0 a1 a2 a3) (fun r2 => some (.ok (2, r2.1, r2.2.1, r2.2.2.1, r2.2.2.2.1, r2.2.2.2.2))) (fun e1 => some (.er (e1.1, e1.2.1, e1.2.2.1, e1.2.2.2.1, e1.2.2.2.2.1, e1.2.2.2.2.2))) else grB (tree_parser_typ a0 a1 a2 a3) (fun r3 => grB (tree_parser_declarator false a0 r3.2 a2 a3) (fun r4 => if (ltI 0 (r4.2.1.length : Int)) = true then tree_parser_outer_v2_j1 a0 r3 r4 (true, r4.2.2.1) else (tree_parser_eat [40] a0 r4.2.2.1 r4.2.2.2.1 r4.2.2.2.2).bind fun r11 => tree_parser_outer_v2_j1 a0 r3 r4 (!r11.1, r11.2)) (fun e3 => some (.er (e3.1, e3.2.1, e3.2.2.1, e3.2.2.2.1, e3.2.2.2.2, a3)))) (fun e2 => some (.er (2, e2.1, e2.2, a1, a2, a3)))
def u_tree_parser_outer_v2 (a0 : List Token) (a1 : Int) (a2 : Int) (a3 : List KD) : GR (Int × Int × Int × Int × Int × (List KD)) (Int × Int × (List Node) × Int × Int × (List KD)) → GOut
  | .ok r => .ret (.ag [.d (.v (.int .i64 r.1)), .d (.v (.int .i64 r.2.1)), .sl 3 (List.map d_Node r.2.2.1) 2]) [[.d (.sl 11 (List.map d_Token a0)), .d (.v (.int .i64 r.2.2.2.1)), .d (.v (.int .i64 r.2.2.2.2.1)), .kc (KSK r.2.2.2.2.2)]] [27]
  | .er r => .pan (.iface 46 (.agg ⟨[.int .i64 r.1, .int .i64 r.2.1, .int .i64 r.2.2.1]⟩)) [[.d (.sl 11 (List.map d_Token a0)), .d (.v (.int .i64 r.2.2.2.1)), .d (.v (.int .i64 r.2.2.2.2.1)), .kc (KSK r.2.2.2.2.2)]] []
def g_tree_parser_outer_v2 (a0 : List Token) (a1 : Int) (a2 : Int) (a3 : List KD) (r : GR (Int × Int × Int × Int × Int × (List KD)) (Int × Int × (List Node) × Int × Int × (List KD))) : GI :=
  ⟨[.c (.pt 1 0)], [[.d (.sl 11 (List.map d_Token a0)), .d (.v (.int .i64 a1)), .d (.v (.int .i64 a2)), .kc (KSK a3)]], [], u_tree_parser_outer_v2 a0 a1 a2 a3 r⟩
def S_tree_parser_outer_v2 : GI → Prop := fun g => ∃ (a0 : List Token) (a1 : Int) (a2 : Int) (a3 : List KD) (r : GR (Int × Int × Int × Int × Int × (List KD)) (Int × Int × (List Node) × Int × Int × (List KD))), tree_parser_outer_v2 a0 a1 a2 a3 = some r ∧ g = g_tree_parser_outer_v2 a0 a1 a2 a3 r
theorem tree_parser_outer_v2_c (a0 : List Token) (a1 : Int) (a2 : Int) (a3 : List KD) (r : GR (Int × Int × Int × Int × Int × (List KD)) (Int × Int × (List Node) × Int × Int × (List KD))) (H : tree_parser_outer_v2 a0 a1 a2 a3 = some r) : S_tree_parser_outer_v2 (g_tree_parser_outer_v2 a0 a1 a2 a3 r) := ⟨a0, a1, a2, a3, r, H, rfl⟩
set_option maxRecDepth 100000 in
set_option maxHeartbeats 4000000 in
theorem tree_parser_outer_v2_ok : ∀ g, S_tree_parser_outer_v2 g → GenOk Try.prog 14 g := by
  rintro _ ⟨a0, a1, a2, a3, r, H, rfl⟩
  refine xGnl mixed [1000093, 13, 15] [] [(19, true, S_tree_parser_peek), (20, false, S_tree_parser_decl), (21, false, S_tree_parser_typ), (22, false, S_tree_parser_declarator), (24, false, S_tree_parser_rest), (23, true, S_tree_parser_eat), (25, false, S_tree_parser_must), (26, false, S_tree_parser_block)] [] trivial ⟨tree_parser_peek_k, tree_parser_decl_k, tree_parser_typ_k, tree_parser_declarator_k, tree_parser_rest_k, tree_parser_eat_k, tree_parser_must_k, tree_parser_block_k, trivial⟩ trivial Try.func14 _ ?_
  have G := True.intro
  have Y := xZ y_3 <| xZ y_25 <| xZ y_27 <| xZ y_48 <| xZ y_49 <| xZ y_51 <| xZ Try.results14 <| xZ d_Call.eq_1 <| xZ d_Token.eq_1 <| xZ dq_Node <| xZ g_tree_parser_peek.eq_1 <| xZ g_tree_parser_decl.eq_1 <| xZ g_tree_parser_typ.eq_1 <| xZ g_tree_parser_declarator.eq_1 <| xZ g_tree_parser_rest.eq_1 <| xZ g_tree_parser_eat.eq_1 <| xZ g_tree_parser_must.eq_1 <| xZ g_tree_parser_block.eq_1 <| g_tree_parser_outer_v2.eq_1
  dsimp only [g_tree_parser_outer_v2]
  simp only [tree_parser_outer_v2] at H
  refine xS ?_
  refine xr ?_
  obtain ⟨r1, hr1, H⟩ := osplit H
  have F := Y
  refine xQ ?_
  refine xs 1 ?_
  refine xc ⟨[1], []⟩ (tabG 0 (tree_parser_peek_c a0 a1 a2 a3 r1 hr1)) ?_
  refine xs 1 ?_
  refine xl ?_
  refine xS ?_
  rcases bsplit H with ⟨hp1, H⟩ | ⟨hp1, H⟩
  · obtain ⟨F, G, hq1⟩ := xH Y G hp1
    refine xT ?_
    rcases rsplit H with ⟨r2, hr2, H⟩ | ⟨e1, hr3, H⟩
    · have F := Y
      refine xQ ?_
      refine xs 1 ?_
      refine xc ⟨[1], []⟩ (tabG 1 (tree_parser_decl_c a0 a1 a2 a3 (.ok r2) hr2)) ?_
      refine xs 1 ?_
      refine xl ?_
      replace H := Option.some.inj H
      refine xS ?_
      subst H
      refine xrD [] ?_
      exact xO ⟨[1], [5]⟩
    · have F := Y
      refine xQp [10, 11] ?_
      refine xs 1 ?_
      refine xp ⟨[1], []⟩ (tabG 1 (tree_parser_decl_c a0 a1 a2 a3 (.er e1) hr3)) ?_
      replace H := Option.some.inj H
      refine xS ?_
      subst H
      refine xpD [] ?_
      exact xOv ⟨[1], []⟩
  · obtain ⟨F, G, hq1⟩ := xH Y G hp1
    refine xE ?_
    rcases rsplit H with ⟨r3, hr4, H⟩ | ⟨e2, hr5, H⟩
    · have F := Y
      refine xQ ?_
      refine xs 1 ?_
      refine xc ⟨[1], []⟩ (tabG 2 (tree_parser_typ_c a0 a1 a2 a3 (.ok r3) hr4)) ?_
      refine xs 2 ?_
      refine xl ?_
      refine xS ?_
      rcases rsplit H with ⟨r4, hr6, H⟩ | ⟨e3, hr7, H⟩
      · have F := Y
        refine xQ ?_
        refine xs 1 ?_
        refine xc ⟨[1], []⟩ (tabG 3 (tree_parser_declarator_c false a0 r3.2 a2 a3 (.ok r4) hr6)) ?_
        refine xs 2 ?_
        refine xl ?_
        refine  ?_
        refine then_normal ?_
        refine w_seq ?_
        refine w_cut (tree_parser_outer_v2_j1 a0 r3 r4) (fun s => [(0, .c (.pt 1 0)), (2, .c (.pt 2 0)), (3, .c (.pt 3 0)), (4, .c (.pt 4 0)), (24, .c (.d (.v (.bool s.1))))]) (fun s => [[.d (.sl 11 (List.map d_Token a0)), .d (.v (.int .i64 s.2)), .d (.v (.int .i64 r4.2.2.2.1)), .kc (KSK r4.2.2.2.2)], [.d (.v (.int .i64 0)), .d (.v (.int .i64 0)), .sl 3 [] 0], [.d (.v (.int .i64 16)), .d (.v (.int .i64 r3.1)), .sl 3 [] 0], [.d (.v (.int .i64 4)), .d (.v (.int .i64 r4.1)), .sl 3 (List.map d_Node r4.2.1) 5]]) [27] r ?_ ?_
        · rcases bsplit H with ⟨hp5, H⟩ | ⟨hp5, H⟩
          · obtain ⟨F, G, hq5⟩ := xH Y G hp5
            refine xR ?_
            exact cut_at H (xK ⟨[1,2,5,8], [7]⟩)
          · obtain ⟨F, G, hq5⟩ := xH Y G hp5
            obtain ⟨r11, hr19, H⟩ := osplit H
            have F := F
            refine xQ ?_
            refine xs 6 ?_
            refine xc ⟨[1], []⟩ (tabG 5 (tree_parser_eat_c [40] a0 r4.2.2.1 r4.2.2.2.1 r4.2.2.2.2 r11 hr19)) ?_
            refine xs 2 ?_
            refine xl ?_
            refine xS ?_
            exact cut_at H (xK ⟨[1,2,5,8], [7]⟩)
        · rintro ⟨x1, x2⟩ H
          rw [tree_parser_outer_v2_j1] at H
          rcases bsplit H with ⟨hp2, H⟩ | ⟨hp2, H⟩
          · obtain ⟨F, G, hq2⟩ := xH Y G hp2
            refine xT ?_
            rcases rsplit H with ⟨r5, hr8, H⟩ | ⟨e4, hr9, H⟩
            · have F := Y
              refine xQ ?_
              refine xs 5 ?_
              refine xc ⟨[1], [0, 5]⟩ (tabG 4 (tree_parser_rest_c 2 (-1) [(⟨16, r3.1, ([] : List Node)⟩ : Node)] 4 r4.1 r4.2.1 false a0 x2 r4.2.2.2.1 r4.2.2.2.2 (.ok r5) hr8)) ?_
              refine xs 1 ?_
              refine xl ?_
              replace H := Option.some.inj H
              refine xS ?_
              subst H
              refine xrD [] ?_
              exact xO ⟨[1], [7]⟩
            · have F := Y
              refine xQp [25, 26, 27, 28, 29, 30] ?_
              refine xs 5 ?_
              refine xp ⟨[1], [0, 5]⟩ (tabG 4 (tree_parser_rest_c 2 (-1) [(⟨16, r3.1, ([] : List Node)⟩ : Node)] 4 r4.1 r4.2.1 false a0 x2 r4.2.2.2.1 r4.2.2.2.2 (.er e4) hr9)) ?_
              replace H := Option.some.inj H
              refine xS ?_
              subst H
              refine xpD [] ?_
              exact xOv ⟨[1], []⟩
          · obtain ⟨F, G, hq2⟩ := xH Y G hp2
            refine xE ?_
            refine xr ?_
            obtain ⟨hgh, H⟩ := gsplit H
            refine hK_pushO r4.2.2.2.2 hgh ?_
            refine xS ?_
            refine w_loop (tree_parser_outer_v2_b2 a0) (fun s => [(0, .c (.pt 1 0)), (2, .c (.pt 2 0)), (5, .c (.pt 3 0))]) (fun s => [[.d (.sl 11 (List.map d_Token a0)), .d (.v (.int .i64 s.1)), .d (.v (.int .i64 s.2.1)), .kc (KSK s.2.2.1)], [.d (.v (.int .i64 0)), .d (.v (.int .i64 0)), .sl 3 [] 0], [.d (.v (.int .i64 3)), .d (.v (.int .i64 (-1))), .sl 3 (List.map d_Node s.2.2.2) 4]]) [27] H (xK ⟨[1,2,6], [0]⟩) ?_
            rintro n1 ⟨x3, x4, x5, x6⟩ o1 H hF1
            rw [tree_parser_outer_v2_b2] at H
            refine xS ?_
            obtain ⟨r6, hr10, H⟩ := osplit H
            have F := Y
            refine xQ ?_
            refine xs 1 ?_
            refine xc ⟨[1], []⟩ (tabG 5 (tree_parser_eat_c [41] a0 x3 x4 x5 r6 hr10)) ?_
            refine xs 1 ?_
            refine xl ?_
            refine xS ?_
            rcases bsplit H with ⟨hp3, H⟩ | ⟨hp3, H⟩
            · obtain ⟨F, G, hq3⟩ := xH Y G hp3
              refine xT0 ?_
              refine w_skip ?_
              refine then_normal ?_
              refine w_block ?_
              refine w_cut (tree_parser_outer_v2_j3 a0 x4 x5 x6) (fun s => [(0, .c (.pt 1 0)), (2, .c (.pt 2 0)), (5, .c (.pt 3 0))]) (fun s => [[.d (.sl 11 (List.map d_Token a0)), .d (.v (.int .i64 s)), .d (.v (.int .i64 x4)), .kc (KSK x5)], [.d (.v (.int .i64 0)), .d (.v (.int .i64 0)), .sl 3 [] 0], [.d (.v (.int .i64 3)), .d (.v (.int .i64 (-1))), .sl 3 (List.map d_Node x6) 4]]) [27] o1 ?_ ?_
              · refine xS ?_
                refine xr ?_
                rcases bsplit H with ⟨hp4, H⟩ | ⟨hp4, H⟩
                · obtain ⟨F, G, hq4⟩ := xH Y G hp4
                  refine xT ?_
                  rcases rsplit H with ⟨r9, hr15, H⟩ | ⟨e7, hr16, H⟩
                  · have F := Y
                    refine xQ ?_
                    refine xs 1 ?_
                    refine xc ⟨[1], []⟩ (tabG 6 (tree_parser_must_c [44] a0 r6.2 x4 x5 (.ok r9) hr15)) ?_
                    refine xl ?_
                    refine xS ?_
                    exact cut_at H (xK ⟨[1,2,3], [4]⟩)
                  · have F := Y
                    refine xQp [52, 53] ?_
                    refine xs 1 ?_
                    refine xp ⟨[1], []⟩ (tabG 6 (tree_parser_must_c [44] a0 r6.2 x4 x5 (.er e7) hr16)) ?_
                    replace H := inrO_fin H hF1
                    replace H := Option.some.inj H
                    refine xS ?_
                    subst H
                    refine xpD [] ?_
                    exact xOv ⟨[1], []⟩
                · obtain ⟨F, G, hq4⟩ := xH Y G hp4
                  refine xE ?_
                  exact cut_at H (xK ⟨[1,2,3], [4]⟩)
              · rintro x7 H
                rw [tree_parser_outer_v2_j3] at H
                refine xS ?_
                rcases rsplit H with ⟨r7, hr11, H⟩ | ⟨e5, hr12, H⟩
                · have F := Y
                  refine xQ ?_
                  refine xs 1 ?_
                  refine xc ⟨[1], []⟩ (tabG 2 (tree_parser_typ_c a0 x7 x4 x5 (.ok r7) hr11)) ?_
                  refine xs 4 ?_
                  refine xl ?_
                  refine xS ?_
                  rcases rsplit H with ⟨r8, hr13, H⟩ | ⟨e6, hr14, H⟩
                  · have F := Y
                    obtain ⟨hg1, H⟩ := gsplit H
                    have F := xZ F (all_map one_Node [(⟨4, r8.1, r8.2.1⟩ : Node)])
                    refine xP [0, 1, 2, 3, 4, 5, 6, 7] [59, 888888] ⟨tree_parser_peek_k, tree_parser_decl_k, tree_parser_typ_k, tree_parser_declarator_k, tree_parser_rest_k, tree_parser_eat_k, tree_parser_must_k, tree_parser_block_k, trivial⟩ ?_
                    refine xsX 1 ?_
                    refine xaX ?_
                    refine xsX 1 ?_
                    refine xcX ⟨[1], []⟩ (tabG 3 (tree_parser_declarator_c false a0 r7.2 x4 x5 (.ok r8) hr13)) ?_
                    refine xsX 1 ?_
                    refine xbX ?_
                    refine xsX 2 ?_
                    refine xlX ?_
                    refine xS ?_
                    obtain ⟨hg2, H⟩ := gsplit H
                    have F := xZ Y (all_map one_Node [(⟨2, (-1), [(⟨16, r7.1, ([] : List Node)⟩ : Node)] ++ [(⟨4, r8.1, r8.2.1⟩ : Node)]⟩ : Node)])
                    refine xR ?_
                    exact round_at (inl_fin H hF1) (xK ⟨[1,2,3], [10]⟩)
                  · have F := Y
                    refine xPp [58, 59, 60, 61, 62, 63, 64] [0, 1, 2, 3, 4, 5, 6, 7] [59, 888888] ⟨tree_parser_peek_k, tree_parser_decl_k, tree_parser_typ_k, tree_parser_declarator_k, tree_parser_rest_k, tree_parser_eat_k, tree_parser_must_k, tree_parser_block_k, trivial⟩ ?_
                    refine xsX 1 ?_
                    refine xaX ?_
                    refine xsX 1 ?_
                    refine xpX ⟨[1], []⟩ (tabG 3 (tree_parser_declarator_c false a0 r7.2 x4 x5 (.er e6) hr14)) ?_
                    replace H := inrO_fin H hF1
                    replace H := Option.some.inj H
                    refine xS ?_
                    subst H
                    refine xpD [] ?_
                    exact xOv ⟨[1], []⟩
                · have F := Y
                  refine xQp [54, 55, 56, 57, 6] ?_
                  refine xs 1 ?_
                  refine xp ⟨[1], []⟩ (tabG 2 (tree_parser_typ_c a0 x7 x4 x5 (.er e5) hr12)) ?_
                  replace H := inrO_fin H hF1
                  replace H := Option.some.inj H
                  refine xS ?_
                  subst H
                  refine xpD [] ?_
                  exact xOv ⟨[1], []⟩
            · obtain ⟨F, G, hq3⟩ := xH Y G hp3
              replace H := inrO_fin H hF1
              refine xE ?_
              rcases rsplit H with ⟨r10, hr17, H⟩ | ⟨e8, hr18, H⟩
              · have F := Y
                obtain ⟨hg3, H⟩ := gsplit H
                have F := xZ F (all_map one_Node [(⟨5, (-1), r10.1⟩ : Node)])
                refine xP [0, 1, 2, 3, 4, 5, 6, 7] [72, 888888] ⟨tree_parser_peek_k, tree_parser_decl_k, tree_parser_typ_k, tree_parser_declarator_k, tree_parser_rest_k, tree_parser_eat_k, tree_parser_must_k, tree_parser_block_k, trivial⟩ ?_
                refine xsX 1 ?_
                refine xaX ?_
                refine xsX 1 ?_
                refine xcX ⟨[1], []⟩ (tabG 7 (tree_parser_block_c a0 r6.2 x4 x5 (.ok r10) hr17)) ?_
                refine xsX 1 ?_
                refine xbX ?_
                refine xsX 2 ?_
                refine xlX ?_
                refine xS ?_
                obtain ⟨hgh, H⟩ := gsplit H
                refine hK_popO r10.2.2.2 hgh ?_
                refine xS ?_
                replace H := Option.some.inj H
                refine xr ?_
                subst H
                refine xrD [] ?_
                exact xO ⟨[1], [8]⟩
              · have F := Y
                refine xPp [71, 72, 73, 74, 75, 76, 77] [0, 1, 2, 3, 4, 5, 6, 7] [72, 888888] ⟨tree_parser_peek_k, tree_parser_decl_k, tree_parser_typ_k, tree_parser_declarator_k, tree_parser_rest_k, tree_parser_eat_k, tree_parser_must_k, tree_parser_block_k, trivial⟩ ?_
                refine xsX 1 ?_
                refine xaX ?_
                refine xsX 1 ?_
                refine xpX ⟨[1], []⟩ (tabG 7 (tree_parser_block_c a0 r6.2 x4 x5 (.er e8) hr18)) ?_
                replace H := Option.some.inj H
                refine xS ?_
                subst H
                refine xpD [] ?_
                exact xOv ⟨[1], []⟩
      · have F := Y
        refine xQp [14, 15, 4] ?_
        refine xs 1 ?_
        refine xp ⟨[1], []⟩ (tabG 3 (tree_parser_declarator_c false a0 r3.2 a2 a3 (.er e3) hr7)) ?_
        replace H := Option.some.inj H
        refine xS ?_
        subst H
        refine xpD [] ?_
        exact xOv ⟨[1], []⟩
    · have F := Y
      refine xQp [12, 13, 3] ?_
      refine xs 1 ?_
      refine xp ⟨[1], []⟩ (tabG 2 (tree_parser_typ_c a0 a1 a2 a3 (.er e2) hr5)) ?_
      replace H := Option.some.inj H
      refine xS ?_
      subst H
      refine xpD [] ?_
      exact xOv ⟨[1], []⟩
theorem tree_parser_outer_v2_k : Callable Try.prog 14 ∧ (∀ g, S_tree_parser_outer_v2 g → GenOk Try.prog 14 g) ∧ (false = true → ∀ g, S_tree_parser_outer_v2 g → ∃ val bs ts, g.out = .ret val bs ts) :=
  ⟨call_14, tree_parser_outer_v2_ok, nofun⟩
noncomputable def tree_Parse_1 (a0 : Int) (a1 : Int) (a2 : Int) (a3 : Int) (a4 : Int) (a5 : List Node) (a6 : Int) (a7 : Int) (a8 : Int) : Option Unit :=
  some ()
def di_tree_Parse_1 (a0 : Int) (a1 : Int) (a2 : Int) (a3 : Int) (a4 : Int) (a5 : List Node) (a6 : Int) (a7 : Int) (a8 : Int) (r : Unit) : DI :=
  ⟨[.c (.pt 1 0), .c (.pt 2 0)], [[.d (.v (.int .i64 a0)), .d (.v (.int .i64 a1)), .os 3 3 0 a5.length], [.d (.v (.int .i64 a2)), .d (.v (.int .i64 a3)), .d (.v (.int .i64 a4))], [.arr 3 (List.map d_Node a5)]], [], (some (.iface 46 (.agg ⟨[.int .i64 a6, .int .i64 a7, .int .i64 a8]⟩))), [[.d (.v (.int .i64 0)), .d (.v (.int .i64 0)), .sl 3 [] 0], [.d (.v (.int .i64 a6)), .d (.v (.int .i64 a7)), .d (.v (.int .i64 a8))], [.arr 3 (List.map d_Node a5)]], [], none⟩
def SD_tree_Parse_1 : DI → Prop := fun d => ∃ (a0 : Int) (a1 : Int) (a2 : Int) (a3 : Int) (a4 : Int) (a5 : List Node) (a6 : Int) (a7 : Int) (a8 : Int) (r : Unit), tree_Parse_1 a0 a1 a2 a3 a4 a5 a6 a7 a8 = some r ∧ d = di_tree_Parse_1 a0 a1 a2 a3 a4 a5 a6 a7 a8 r
theorem tree_Parse_1_dc (a0 : Int) (a1 : Int) (a2 : Int) (a3 : Int) (a4 : Int) (a5 : List Node) (a6 : Int) (a7 : Int) (a8 : Int) (r : Unit) (H : tree_Parse_1 a0 a1 a2 a3 a4 a5 a6 a7 a8 = some r) : SD_tree_Parse_1 (di_tree_Parse_1 a0 a1 a2 a3 a4 a5 a6 a7 a8 r) := ⟨a0, a1, a2, a3, a4, a5, a6, a7, a8, r, H, rfl⟩
set_option maxRecDepth 100000 in
set_option maxHeartbeats 4000000 in
theorem tree_Parse_1_dok : ∀ d, SD_tree_Parse_1 d → DOk Try.prog 13 d := by
  rintro _ ⟨a0, a1, a2, a3, a4, a5, a6, a7, a8, r, H, rfl⟩
  refine xRcl mixed [7] [] [] trivial trivial Try.func13 _ ?_
  have G := True.intro
  have Y := xZ y_3 <| xZ y_20 <| xZ y_25 <| xZ y_27 <| xZ y_30 <| xZ y_46 <| xZ Try.results13 <| xZ dq_Node <| di_tree_Parse_1.eq_1
  dsimp only [di_tree_Parse_1, Option.getD_some, Option.getD_none]
  unfold tree_Parse_1 at H
  refine xS ?_
  refine xr ?_
  refine xe ?_
  refine xr ?_
  refine xt ?_
  refine xr ?_
  have F := Y
  refine xP [0, 1, 2, 3, 4] [13] trivial ?_
  refine xsX 2 ?_
  refine xaX ?_
  refine xbX ?_
  refine xbX ?_
  refine xlX ?_
  replace H := Option.some.inj H
  refine xS ?_
  subst H
  exact xDn ⟨[1, 2, 3], []⟩
noncomputable def tree_Parse_1_v2 (a0 : Int) (a1 : Int) (a2 : Int) (a3 : Int) (a4 : Int) (a5 : List Node) : Option Unit :=
  some ()
def di_tree_Parse_1_v2 (a0 : Int) (a1 : Int) (a2 : Int) (a3 : Int) (a4 : Int) (a5 : List Node) (r : Unit) : DI :=
  ⟨[.c (.pt 1 0), .c (.pt 2 0)], [[.d (.v (.int .i64 a0)), .d (.v (.int .i64 a1)), .os 3 3 0 a5.length], [.d (.v (.int .i64 a2)), .d (.v (.int .i64 a3)), .d (.v (.int .i64 a4))], [.arr 3 (List.map d_Node a5)]], [], none, [[.d (.v (.int .i64 a0)), .d (.v (.int .i64 a1)), .os 3 3 0 a5.length], [.d (.v (.int .i64 a2)), .d (.v (.int .i64 a3)), .d (.v (.int .i64 a4))], [.arr 3 (List.map d_Node a5)]], [], none⟩
def SD_tree_Parse_1_v2 : DI → Prop := fun d => ∃ (a0 : Int) (a1 : Int) (a2 : Int) (a3 : Int) (a4 : Int) (a5 : List Node) (r : Unit), tree_Parse_1_v2 a0 a1 a2 a3 a4 a5 = some r ∧ d = di_tree_Parse_1_v2 a0 a1 a2 a3 a4 a5 r
theorem tree_Parse_1_v2_dc (a0 : Int) (a1 : Int) (a2 : Int) (a3 : Int) (a4 : Int) (a5 : List Node) (r : Unit) (H : tree_Parse_1_v2 a0 a1 a2 a3 a4 a5 = some r) : SD_tree_Parse_1_v2 (di_tree_Parse_1_v2 a0 a1 a2 a3 a4 a5 r) := ⟨a0, a1, a2, a3, a4, a5, r, H, rfl⟩
set_option maxRecDepth 100000 in
set_option maxHeartbeats 4000000 in
theorem tree_Parse_1_v2_dok : ∀ d, SD_tree_Parse_1_v2 d → DOk Try.prog 13 d := by
  rintro _ ⟨a0, a1, a2, a3, a4, a5, r, H, rfl⟩
  refine xRcl mixed [7] [] [] trivial trivial Try.func13 _ ?_
  have G := True.intro
  have Y := xZ y_3 <| xZ y_20 <| xZ y_25 <| xZ y_27 <| xZ y_30 <| xZ y_46 <| xZ Try.results13 <| xZ dq_Node <| di_tree_Parse_1_v2.eq_1
  dsimp only [di_tree_Parse_1_v2, Option.getD_some, Option.getD_none]
  unfold tree_Parse_1_v2 at H
  refine xS ?_
  refine xr ?_
  refine xt ?_
  replace H := Option.some.inj H
  refine xr ?_
  subst H
  exact xDn ⟨[1, 2, 3], []⟩
noncomputable def tree_Parse_b1 (a0 : List Token) : (Int × Int × (List KD) × (List Node)) → Option ((Int × Int × (List KD) × (List Node)) ⊕ (Int × Int × Int × Int × Int × (List Node)))
  | (x1, x2, x3, x4) => if (ltI x1 (a0.length : Int)) = true then grB (tree_parser_outer_v2 a0 x1 x2 x3) (fun r1 => if (x4.length + [(⟨0, 0, ([] : List Node)⟩ : Node)].length) * 40 ≤ 140737488355328 then if x4.length < x4.length + [(⟨0, 0, ([] : List Node)⟩ : Node)].length then if x4.length < (x4 ++ [(⟨0, 0, ([] : List Node)⟩ : Node)]).length then some (.inl (r1.2.2.2.1, r1.2.2.2.2.1, r1.2.2.2.2.2, List.set (x4 ++ [(⟨0, 0, ([] : List Node)⟩ : Node)]) x4.length (⟨r1.1, r1.2.1, r1.2.2.1⟩ : Node))) else none else none else none) (fun e1 => inrO ((tree_Parse_1 1 (-1) 0 0 0 x4 e1.1 e1.2.1 e1.2.2.1).bind fun r2 => some (0, 0, e1.1, e1.2.1, e1.2.2.1, ([] : List Node)))) else inrO ((tree_Parse_1_v2 1 (-1) 0 (-1) 0 x4).bind fun r3 => some (1, (-1), 0, (-1), 0, x4))
noncomputable def tree_Parse (a0 : List Token) : Option (Int × Int × Int × Int × Int × (List Node)) :=
  loopO (tree_Parse_b1 a0) (0, 0, ([[]] : List KD), ([] : List Node))
def g_tree_Parse (a0 : List Token) (r : (Int × Int × Int × Int × Int × (List Node))) : GI :=
  ⟨[.c (.d (.sl 11 (List.map d_Token a0)))], [], [], .ret (.tu [(true, [.d (.v (.int .i64 r.1)), .d (.v (.int .i64 r.2.1)), .os 1 3 0 r.2.2.2.2.2.length]), (true, [.d (.v (.int .i64 r.2.2.1)), .d (.v (.int .i64 r.2.2.2.1)), .d (.v (.int .i64 r.2.2.2.2.1))])]) [[.arr 3 (List.map d_Node r.2.2.2.2.2)]] []⟩
def S_tree_Parse : GI → Prop := fun g => ∃ (a0 : List Token) (r : (Int × Int × Int × Int × Int × (List Node))), tree_Parse a0 = some r ∧ g = g_tree_Parse a0 r
theorem tree_Parse_c (a0 : List Token) (r : (Int × Int × Int × Int × Int × (List Node))) (H : tree_Parse a0 = some r) : S_tree_Parse (g_tree_Parse a0 r) := ⟨a0, r, H, rfl⟩
set_option maxRecDepth 100000 in
set_option maxHeartbeats 4000000 in
theorem tree_Parse_ok : ∀ g, S_tree_Parse g → GenOk Try.prog 7 g := by
  rintro _ ⟨a0, r, H, rfl⟩
  refine xGnl mixed [1000030, 5] [] [(14, false, S_tree_parser_outer_v2)] [(13, SD_tree_Parse_1), (13, SD_tree_Parse_1_v2)] trivial ⟨tree_parser_outer_v2_k, trivial⟩ ⟨⟨call_13, tree_Parse_1_dok⟩, ⟨call_13, tree_Parse_1_v2_dok⟩, trivial⟩ Try.func7 _ ?_
  have G := True.intro
  have Y := xZ y_3 <| xZ y_23 <| xZ y_25 <| xZ y_27 <| xZ y_28 <| xZ y_30 <| xZ y_38 <| xZ y_48 <| xZ y_49 <| xZ y_51 <| xZ Try.results7 <| xZ d_Call.eq_1 <| xZ d_Token.eq_1 <| xZ dq_Node <| xZ g_tree_parser_outer_v2.eq_1 <| xZ di_tree_Parse_1.eq_1 <| xZ di_tree_Parse_1_v2.eq_1 <| g_tree_Parse.eq_1
  dsimp only [g_tree_Parse]
  simp only [tree_Parse] at H
  refine xS ?_
  refine xr ?_
  have F := Y
  refine xQ ?_
  refine xs 1 ?_
  refine xw ?_
  refine xl ?_
  refine xS ?_
  refine hK_new ?_
  refine xS ?_
  refine xr ?_
  refine w_loop (tree_Parse_b1 a0) (fun s => [(0, .c (.d (.sl 11 (List.map d_Token a0)))), (2, .c (.pt 1 0)), (3, .c (.pt 2 0)), (4, .c (.pt 3 0)), (1000000, .df [(13, [.pt 1 0, .pt 2 0])])]) (fun s => [[.d (.v (.int .i64 1)), .d (.v (.int .i64 (-1))), .os 4 3 0 s.2.2.2.length], [.d (.v (.int .i64 0)), .d (.v (.int .i64 0)), .d (.v (.int .i64 0))], [.d (.sl 11 (List.map d_Token a0)), .d (.v (.int .i64 s.1)), .d (.v (.int .i64 s.2.1)), .kc (KSK s.2.2.1)], [.arr 3 (List.map d_Node s.2.2.2)]]) [] H (xK ⟨[1,2,3,0], []⟩) ?_
  rintro n1 ⟨x1, x2, x3, x4⟩ o1 H hF1
  rw [tree_Parse_b1] at H
  refine xS ?_
  refine xr ?_
  rcases bsplit H with ⟨hp1, H⟩ | ⟨hp1, H⟩
  · obtain ⟨F, G, hq1⟩ := xH Y G hp1
    refine xT ?_
    rcases rsplit H with ⟨r1, hr1, H⟩ | ⟨e1, hr2, H⟩
    · have F := Y
      obtain ⟨hg1, H⟩ := gsplit H
      have F := xZ F (all_map one_Node [(⟨0, 0, ([] : List Node)⟩ : Node)])
      have L : [(⟨0, 0, ([] : List Node)⟩ : Node)].length = 1 := rfl
      obtain ⟨hg2, H⟩ := gsplit H
      obtain ⟨hg, H⟩ := gsplit H
      have F := xZ F (map_getD d_Node (x4 ++ [(⟨0, 0, ([] : List Node)⟩ : Node)]) x4.length default default (by omega))
      have F := xZ F (getD_lastA d_Node x4)
      have F := xZ F (set_len d_Node (x4 ++ [(⟨0, 0, ([] : List Node)⟩ : Node)]) x4.length)
      have F := xZ F (set_get d_Node (x4 ++ [(⟨0, 0, ([] : List Node)⟩ : Node)]) (show x4.length < (x4 ++ [(⟨0, 0, ([] : List Node)⟩ : Node)]).length by omega))
      have F := xZ F (set_set d_Node (x4 ++ [(⟨0, 0, ([] : List Node)⟩ : Node)]) x4.length)
      refine xPn [0, 1, 2, 4, 5, 3, 6, 7, 9] 2 [20, 888888] ⟨tree_parser_outer_v2_k, trivial⟩ ?_
      refine xsX 1 ?_
      refine xaX ?_
      refine xsX 3 ?_
      refine xcX ⟨[3], []⟩ (tabG 0 (tree_parser_outer_v2_c a0 x1 x2 x3 (.ok r1) hr1)) ?_
      refine xbX ?_
      refine xsX 2 ?_
      refine xm ?_
      refine xg2 8 10 ?_ ?_
      · refine xsX 1 ?_
        refine xm ?_
        refine xg1 10 ?_
        refine xsX 1 ?_
        refine xm ?_
        refine xez ?_
        refine xS ?_
        exact round_at (inl_fin H hF1) (xK ⟨[1,2,3,7], []⟩)
      · refine xsX 1 ?_
        refine xm ?_
        refine xg1 8 ?_
        refine xsX 1 ?_
        refine xm ?_
        refine xez ?_
        refine xS ?_
        exact round_at (inl_fin H hF1) (xK ⟨[1,2,3,7], []⟩)
    · have F := Y
      refine xPpn [19, 20, 21, 22, 23, 24, 25, 26, 27] [0, 1, 2, 4, 5, 3, 6, 7, 9] 2 [20, 888888] ⟨tree_parser_outer_v2_k, trivial⟩ ?_
      refine xsX 1 ?_
      refine xaX ?_
      refine xsX 3 ?_
      refine xpX ⟨[3], []⟩ (tabG 0 (tree_parser_outer_v2_c a0 x1 x2 x3 (.er e1) hr2)) ?_
      replace H := inrO_fin H hF1
      refine xS ?_
      refine xpD [(13, [.pt 1 0, .pt 2 0])] ?_
      obtain ⟨r2, hr3, H⟩ := osplit H
      refine xD ⟨[1, 2, 4], []⟩ (tabD 0 (tree_Parse_1_dc 1 (-1) 0 0 0 x4 e1.1 e1.2.1 e1.2.2.1 r2 hr3)) ?_
      replace H := Option.some.inj H
      subst H
      exact xO ⟨[0], []⟩
  · obtain ⟨F, G, hq1⟩ := xH Y G hp1
    replace H := inrO_fin H hF1
    refine xE ?_
    refine xr ?_
    refine xrD [(13, [.pt 1 0, .pt 2 0])] ?_
    obtain ⟨r3, hr4, H⟩ := osplit H
    refine xD ⟨[1, 2, 4], []⟩ (tabD 1 (tree_Parse_1_v2_dc 1 (-1) 0 (-1) 0 x4 r3 hr4)) ?_
    replace H := Option.some.inj H
    subst H
    exact xO ⟨[4], []⟩
theorem tree_Parse_k : Callable Try.prog 7 ∧ (∀ g, S_tree_Parse g → GenOk Try.prog 7 g) ∧ (true = true → ∀ g, S_tree_Parse g → ∃ val bs ts, g.out = .ret val bs ts) :=
  ⟨call_7, tree_Parse_ok, fun _ => by rintro _ ⟨_, _, _, rfl⟩; exact ⟨_, _, _, rfl⟩⟩
end Go.Proofs.Ytppomhjhokbacaa
