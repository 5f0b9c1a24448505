/- Functions of data for functions of the program. Written by dec3.py. -/
import Derived.Test.YtghmojcecefgjaaDoorZoah
import Derived.Test.YtghmojcecefgjaaDoorZoaj
import Derived.Test.YtghmojcecefgjaaDoorZoan
import Derived.Test.YtghmojcecefgjaaDoorZoao
set_option linter.unusedVariables false
set_option linter.unusedSimpArgs false
namespace Go.Proofs.YtghmojcecefgjaaDoor
open Go.RowKit
noncomputable def cond_parser_fail_j1 : (Int × Int) → Option (Int × Int)
  | (x1, x2) => some (x1, x2)
noncomputable def cond_parser_fail (a0 : Int) (a1 : List Token) (a2 : Int) (a3 : Int) (a4 : Int) : Option (Int × Int) :=
  if (ltI a2 (a1.length : Int)) = true then if (0 : Int) ≤ a2 ∧ a2.toNat < a1.length then if (0 : Int) ≤ a2 ∧ a2.toNat < a1.length then cond_parser_fail_j1 ((a1.getD a2.toNat default).File, (a1.getD a2.toNat default).At) else none else none else if (ltI 0 (a1.length : Int)) = true then if (0 : Int) ≤ (IntKind.i64.wrap ((a1.length : Int) - 1)) ∧ (IntKind.i64.wrap ((a1.length : Int) - 1)).toNat < a1.length then if (0 : Int) ≤ (IntKind.i64.wrap ((a1.length : Int) - 1)) ∧ (IntKind.i64.wrap ((a1.length : Int) - 1)).toNat < a1.length then cond_parser_fail_j1 ((a1.getD ((IntKind.i64.wrap ((a1.length : Int) - 1)).toNat) default).File, (a1.getD ((IntKind.i64.wrap ((a1.length : Int) - 1)).toNat) default).End) else none else none else cond_parser_fail_j1 ((-1), 0)
def g_cond_parser_fail (a0 : Int) (a1 : List Token) (a2 : Int) (a3 : Int) (a4 : Int) (r : (Int × Int)) : GI :=
  ⟨[.c (.pt 1 0), .c (.d (.v (.int .i64 a0)))], [[.d (.sl 11 (List.map d_Token a1)), .d (.v (.int .i64 a2)), .d (.v (.int .i64 a3)), .d (.v (.int .i64 a4))]], [], .pan (.iface 52 (.agg ⟨[.int .i64 a0, .int .i64 r.1, .int .i64 r.2]⟩)) [[.d (.sl 11 (List.map d_Token a1)), .d (.v (.int .i64 a2)), .d (.v (.int .i64 a3)), .d (.v (.int .i64 a4))]] []⟩
def S_cond_parser_fail : GI → Prop := fun g => ∃ (a0 : Int) (a1 : List Token) (a2 : Int) (a3 : Int) (a4 : Int) (r : (Int × Int)), cond_parser_fail a0 a1 a2 a3 a4 = some r ∧ g = g_cond_parser_fail a0 a1 a2 a3 a4 r
theorem cond_parser_fail_c (a0 : Int) (a1 : List Token) (a2 : Int) (a3 : Int) (a4 : Int) (r : (Int × Int)) (H : cond_parser_fail a0 a1 a2 a3 a4 = some r) : S_cond_parser_fail (g_cond_parser_fail a0 a1 a2 a3 a4 r) := ⟨a0, a1, a2, a3, a4, r, H, rfl⟩
set_option maxRecDepth 100000 in
set_option maxHeartbeats 4000000 in
theorem cond_parser_fail_ok : ∀ g, S_cond_parser_fail g → GenOk Tryd.prog 24 g := by
  rintro _ ⟨a0, a1, a2, a3, a4, r, H, rfl⟩
  refine xGnl mixed [2, 4] [] [] [] trivial trivial trivial Tryd.func24 _ ?_
  have G := True.intro
  have Y := xZ y_3 <| xZ y_22 <| xZ y_23 <| xZ y_25 <| xZ y_47 <| xZ y_52 <| xZ y_55 <| xZ Tryd.results24 <| xZ d_Call.eq_1 <| xZ d_Token.eq_1 <| g_cond_parser_fail.eq_1
  dsimp only [g_cond_parser_fail]
  simp only [cond_parser_fail] at H
  refine xS ?_
  refine xr0 ?_
  refine then_normal ?_
  refine w_cut cond_parser_fail_j1 (fun s => [(4, .c (.pt 2 0))]) (fun s => [[.d (.sl 11 (List.map d_Token a1)), .d (.v (.int .i64 a2)), .d (.v (.int .i64 a3)), .d (.v (.int .i64 a4))], [.d (.v (.int .i64 a0)), .d (.v (.int .i64 s.1)), .d (.v (.int .i64 s.2))]]) [] r ?_ ?_
  · refine xS ?_
    refine xr ?_
    rcases bsplit H with ⟨hp1, H⟩ | ⟨hp1, H⟩
    · obtain ⟨F, G, hq1⟩ := xH Y G hp1
      refine xT ?_
      obtain ⟨hg1, H⟩ := gsplit H
      have F := xZ Y (map_getD d_Token a1 a2.toNat default default (by omega))
      obtain ⟨hg2, H⟩ := gsplit H
      have F := xZ F (map_getD d_Token a1 a2.toNat default default (by omega))
      refine xX 26 0 [32, 36, 39] trivial ?_
      refine xsX 14 ?_
      refine xaX ?_
      refine xsX 3 ?_
      refine xaX ?_
      refine xsX 2 ?_
      refine xaX ?_
      refine xsX 1 ?_
      refine xbX ?_
      refine xsX 1 ?_
      refine xbX ?_
      refine xlX ?_
      refine xS ?_
      exact cut_at H (xK ⟨[1,2], []⟩)
    · obtain ⟨F, G, hq1⟩ := xH Y G hp1
      refine xE ?_
      refine xr ?_
      rcases bsplit H with ⟨hp2, H⟩ | ⟨hp2, H⟩
      · obtain ⟨F, G, hq2⟩ := xH Y G hp2
        refine xT ?_
        obtain ⟨hg3, H⟩ := gsplit H
        have F := xZ Y (map_getD d_Token a1 ((IntKind.i64.wrap ((a1.length : Int) - 1)).toNat) default default (by omega))
        obtain ⟨hg4, H⟩ := gsplit H
        have F := xZ F (map_getD d_Token a1 ((IntKind.i64.wrap ((a1.length : Int) - 1)).toNat) default default (by omega))
        refine xX 30 0 [65, 69, 74] trivial ?_
        refine xsX 16 ?_
        refine xaX ?_
        refine xsX 3 ?_
        refine xaX ?_
        refine xsX 4 ?_
        refine xaX ?_
        refine xsX 1 ?_
        refine xbX ?_
        refine xsX 1 ?_
        refine xbX ?_
        refine xlX ?_
        refine xS ?_
        exact cut_at H (xK ⟨[1,2], []⟩)
      · obtain ⟨F, G, hq2⟩ := xH Y G hp2
        refine xE ?_
        exact cut_at H (xK ⟨[1,2], []⟩)
  · rintro ⟨x1, x2⟩ H
    rw [cond_parser_fail_j1] at H
    have F := Y
    refine xQp [77, 78, 79] ?_
    refine xs 3 ?_
    refine xv ?_
    replace H := Option.some.inj H
    refine xS ?_
    subst H
    refine xOp ?_
    refine qDf [] ?_
    exact xOv ⟨[1], []⟩
theorem cond_parser_fail_k : Callable Tryd.prog 24 ∧ (∀ g, S_cond_parser_fail g → GenOk Tryd.prog 24 g) ∧ (false = true → ∀ g, S_cond_parser_fail g → ∃ val bs ts, g.out = .ret val bs ts) :=
  ⟨call_24, cond_parser_fail_ok, nofun⟩
noncomputable def cond_parser_atom_1 (a0 : List Token) (a1 : Int) (a2 : Int) (a3 : Int) : Option Int :=
  some (IntKind.i64.wrap (a2 - 1))
def di_cond_parser_atom_1 (a0 : List Token) (a1 : Int) (a2 : Int) (a3 : Int) (r : Int) (u : Option Value) : DI :=
  ⟨[.c (.pt 1 0)], [[.pt 2 0], [.d (.sl 11 (List.map d_Token a0)), .d (.v (.int .i64 a1)), .d (.v (.int .i64 a2)), .d (.v (.int .i64 a3))]], [], u, [[.pt 2 0], [.d (.sl 11 (List.map d_Token a0)), .d (.v (.int .i64 a1)), .d (.v (.int .i64 r)), .d (.v (.int .i64 a3))]], [], u⟩
def SD_cond_parser_atom_1 : DI → Prop := fun d => ∃ (a0 : List Token) (a1 : Int) (a2 : Int) (a3 : Int) (r : Int) (u : Option Value), cond_parser_atom_1 a0 a1 a2 a3 = some r ∧ d = di_cond_parser_atom_1 a0 a1 a2 a3 r u
theorem cond_parser_atom_1_dc (a0 : List Token) (a1 : Int) (a2 : Int) (a3 : Int) (r : Int) (u : Option Value) (H : cond_parser_atom_1 a0 a1 a2 a3 = some r) : SD_cond_parser_atom_1 (di_cond_parser_atom_1 a0 a1 a2 a3 r u) := ⟨a0, a1, a2, a3, r, u, H, rfl⟩
set_option maxRecDepth 100000 in
set_option maxHeartbeats 4000000 in
theorem cond_parser_atom_1_dok : ∀ d, SD_cond_parser_atom_1 d → DOk Tryd.prog 58 d := by
  rintro _ ⟨a0, a1, a2, a3, r, u, H, rfl⟩
  refine xDf mixed [] [] trivial trivial Tryd.func58 _ ?_
  have G := True.intro
  have Y := xZ y_3 <| xZ y_53 <| xZ y_55 <| xZ Tryd.results58 <| xZ d_Call.eq_1 <| xZ d_Token.eq_1 <| di_cond_parser_atom_1.eq_1
  dsimp only [di_cond_parser_atom_1]
  simp only [cond_parser_atom_1] at H
  replace H := Option.some.inj H
  refine xr ?_
  subst H
  exact xDn ⟨[1, 2], []⟩
noncomputable def cond_parser_peek_j1 (a0 : List Token) (a1 : Int) : Bool → Option (List UInt8)
  | x1 => if x1 = true then if (0 : Int) ≤ a1 ∧ a1.toNat < a0.length then some ((a0.getD a1.toNat default).Text) else none else some []
noncomputable def cond_parser_peek (a0 : List Token) (a1 : Int) (a2 : Int) (a3 : Int) : Option (List UInt8) :=
  if (ltI a1 (a0.length : Int)) = true then if (0 : Int) ≤ a1 ∧ a1.toNat < a0.length then cond_parser_peek_j1 a0 a1 (eqI ((a0.getD a1.toNat default).Kind) 5) else none else cond_parser_peek_j1 a0 a1 false
def g_cond_parser_peek (a0 : List Token) (a1 : Int) (a2 : Int) (a3 : Int) (r : (List UInt8)) : GI :=
  ⟨[.c (.pt 1 0)], [[.d (.sl 11 (List.map d_Token a0)), .d (.v (.int .i64 a1)), .d (.v (.int .i64 a2)), .d (.v (.int .i64 a3))]], [], .ret (.c (.d (.v (str r)))) [[.d (.sl 11 (List.map d_Token a0)), .d (.v (.int .i64 a1)), .d (.v (.int .i64 a2)), .d (.v (.int .i64 a3))]] []⟩
def S_cond_parser_peek : GI → Prop := fun g => ∃ (a0 : List Token) (a1 : Int) (a2 : Int) (a3 : Int) (r : (List UInt8)), cond_parser_peek a0 a1 a2 a3 = some r ∧ g = g_cond_parser_peek a0 a1 a2 a3 r
theorem cond_parser_peek_c (a0 : List Token) (a1 : Int) (a2 : Int) (a3 : Int) (r : (List UInt8)) (H : cond_parser_peek a0 a1 a2 a3 = some r) : S_cond_parser_peek (g_cond_parser_peek a0 a1 a2 a3 r) := ⟨a0, a1, a2, a3, r, H, rfl⟩
set_option maxRecDepth 100000 in
set_option maxHeartbeats 4000000 in
theorem cond_parser_peek_ok : ∀ g, S_cond_parser_peek g → GenOk Tryd.prog 44 g := by
  rintro _ ⟨a0, a1, a2, a3, r, H, rfl⟩
  refine xGn mixed [] [] [] trivial trivial trivial Tryd.func44 _ ?_
  have G := True.intro
  have Y := xZ y_3 <| xZ y_9 <| xZ y_22 <| xZ y_47 <| xZ y_55 <| xZ Tryd.results44 <| xZ d_Call.eq_1 <| xZ d_Token.eq_1 <| g_cond_parser_peek.eq_1
  dsimp only [g_cond_parser_peek]
  simp only [cond_parser_peek] at H
  refine xS ?_
  refine xr0 ?_
  refine then_normal ?_
  refine w_seq ?_
  refine w_cut (cond_parser_peek_j1 a0 a1) (fun s => [(0, .c (.pt 1 0)), (26, .c (.d (.v (.bool s))))]) (fun s => [[.d (.sl 11 (List.map d_Token a0)), .d (.v (.int .i64 a1)), .d (.v (.int .i64 a2)), .d (.v (.int .i64 a3))]]) [] r ?_ ?_
  · rcases bsplit H with ⟨hp2, H⟩ | ⟨hp2, H⟩
    · obtain ⟨F, G, hq2⟩ := xH Y G hp2
      obtain ⟨hg2, H⟩ := gsplit H
      have F := xZ F (map_getD d_Token a0 a1.toNat default default (by omega))
      refine xR ?_
      exact cut_at H (xK ⟨[1], []⟩)
    · obtain ⟨F, G, hq2⟩ := xH Y G hp2
      refine xR ?_
      exact cut_at H (xK ⟨[1], []⟩)
  · rintro x1 H
    rw [cond_parser_peek_j1] at H
    rcases bsplit H with ⟨hp1, H⟩ | ⟨hp1, H⟩
    · obtain ⟨F, G, hq1⟩ := xH Y G hp1
      refine xT ?_
      obtain ⟨hg1, H⟩ := gsplit H
      have F := xZ Y (map_getD d_Token a0 a1.toNat default default (by omega))
      replace H := Option.some.inj H
      refine xR ?_
      subst H
      refine xOr ?_
      refine qDf [] ?_
      exact xO ⟨[1], []⟩
    · obtain ⟨F, G, hq1⟩ := xH Y G hp1
      refine xE ?_
      replace H := Option.some.inj H
      refine xr ?_
      subst H
      refine xOr ?_
      refine qDf [] ?_
      exact xO ⟨[1], []⟩
theorem cond_parser_peek_k : Callable Tryd.prog 44 ∧ (∀ g, S_cond_parser_peek g → GenOk Tryd.prog 44 g) ∧ (true = true → ∀ g, S_cond_parser_peek g → ∃ val bs ts, g.out = .ret val bs ts) :=
  ⟨call_44, cond_parser_peek_ok, fun _ => by rintro _ ⟨_, _, _, _, _, _, rfl⟩; exact ⟨_, _, _, rfl⟩⟩
noncomputable def cond_parser_eat (a0 : List UInt8) (a1 : List Token) (a2 : Int) (a3 : Int) (a4 : Int) : Option (Bool × Int) :=
  (cond_parser_peek a1 a2 a3 a4).bind fun r1 => if (!eqS r1 a0) = true then some (false, a2) else some (true, IntKind.i64.wrap (a2 + 1))
def g_cond_parser_eat (a0 : List UInt8) (a1 : List Token) (a2 : Int) (a3 : Int) (a4 : Int) (r : (Bool × Int)) : GI :=
  ⟨[.c (.pt 1 0), .c (.d (.v (str a0)))], [[.d (.sl 11 (List.map d_Token a1)), .d (.v (.int .i64 a2)), .d (.v (.int .i64 a3)), .d (.v (.int .i64 a4))]], [], .ret (.c (.d (.v (.bool r.1)))) [[.d (.sl 11 (List.map d_Token a1)), .d (.v (.int .i64 r.2)), .d (.v (.int .i64 a3)), .d (.v (.int .i64 a4))]] []⟩
def S_cond_parser_eat : GI → Prop := fun g => ∃ (a0 : List UInt8) (a1 : List Token) (a2 : Int) (a3 : Int) (a4 : Int) (r : (Bool × Int)), cond_parser_eat a0 a1 a2 a3 a4 = some r ∧ g = g_cond_parser_eat a0 a1 a2 a3 a4 r
theorem cond_parser_eat_c (a0 : List UInt8) (a1 : List Token) (a2 : Int) (a3 : Int) (a4 : Int) (r : (Bool × Int)) (H : cond_parser_eat a0 a1 a2 a3 a4 = some r) : S_cond_parser_eat (g_cond_parser_eat a0 a1 a2 a3 a4 r) := ⟨a0, a1, a2, a3, a4, r, H, rfl⟩
set_option maxRecDepth 100000 in
set_option maxHeartbeats 4000000 in
theorem cond_parser_eat_ok : ∀ g, S_cond_parser_eat g → GenOk Tryd.prog 35 g := by
  rintro _ ⟨a0, a1, a2, a3, a4, r, H, rfl⟩
  refine xGn mixed [] [(44, true, S_cond_parser_peek)] [] trivial ⟨cond_parser_peek_k, trivial⟩ trivial Tryd.func35 _ ?_
  have G := True.intro
  have Y := xZ y_3 <| xZ y_55 <| xZ Tryd.results35 <| xZ d_Call.eq_1 <| xZ d_Token.eq_1 <| xZ g_cond_parser_peek.eq_1 <| g_cond_parser_eat.eq_1
  dsimp only [g_cond_parser_eat]
  simp only [cond_parser_eat] at H
  refine xS ?_
  refine xr ?_
  obtain ⟨r1, hr1, H⟩ := osplit H
  have F := Y
  refine xQ ?_
  refine xs 1 ?_
  refine xc ⟨[1], []⟩ (tabG 0 (cond_parser_peek_c a1 a2 a3 a4 r1 hr1)) ?_
  refine xs 2 ?_
  refine xl ?_
  refine xS ?_
  rcases bsplit H with ⟨hp1, H⟩ | ⟨hp1, H⟩
  · obtain ⟨F, G, hq1⟩ := xH Y G hp1
    refine xT ?_
    replace H := Option.some.inj H
    refine xr ?_
    subst H
    refine xOr ?_
    refine qDf [] ?_
    exact xO ⟨[1], []⟩
  · obtain ⟨F, G, hq1⟩ := xH Y G hp1
    refine xE ?_
    refine xr ?_
    replace H := Option.some.inj H
    refine xr ?_
    subst H
    refine xOr ?_
    refine qDf [] ?_
    exact xO ⟨[1], []⟩
theorem cond_parser_eat_k : Callable Tryd.prog 35 ∧ (∀ g, S_cond_parser_eat g → GenOk Tryd.prog 35 g) ∧ (true = true → ∀ g, S_cond_parser_eat g → ∃ val bs ts, g.out = .ret val bs ts) :=
  ⟨call_35, cond_parser_eat_ok, fun _ => by rintro _ ⟨_, _, _, _, _, _, _, rfl⟩; exact ⟨_, _, _, rfl⟩⟩
noncomputable def cond_tight_j5 : Bool → Option Int
  | x5 => if x5 = true then some 10 else some 0
noncomputable def cond_tight_j4 (a0 : List UInt8) : Bool → Option Int
  | x4 => if x4 = true then some 9 else if (eqS a0 [42]) = true then cond_tight_j5 true else if (eqS a0 [47]) = true then cond_tight_j5 true else cond_tight_j5 (eqS a0 [37])
noncomputable def cond_tight_j3 (a0 : List UInt8) : Bool → Option Int
  | x3 => if x3 = true then some 8 else if (eqS a0 [43]) = true then cond_tight_j4 a0 true else cond_tight_j4 a0 (eqS a0 [45])
noncomputable def cond_tight_j2 (a0 : List UInt8) : Bool → Option Int
  | x2 => if x2 = true then some 7 else if (eqS a0 [60, 60]) = true then cond_tight_j3 a0 true else cond_tight_j3 a0 (eqS a0 [62, 62])
noncomputable def cond_tight_j1 (a0 : List UInt8) : Bool → Option Int
  | x1 => if x1 = true then some 6 else if (eqS a0 [60]) = true then cond_tight_j2 a0 true else if (eqS a0 [62]) = true then cond_tight_j2 a0 true else if (eqS a0 [60, 61]) = true then cond_tight_j2 a0 true else cond_tight_j2 a0 (eqS a0 [62, 61])
noncomputable def cond_tight (a0 : List UInt8) : Option Int :=
  if (eqS a0 [124, 124]) = true then some 1 else if (eqS a0 [38, 38]) = true then some 2 else if (eqS a0 [124]) = true then some 3 else if (eqS a0 [94]) = true then some 4 else if (eqS a0 [38]) = true then some 5 else if (eqS a0 [61, 61]) = true then cond_tight_j1 a0 true else cond_tight_j1 a0 (eqS a0 [33, 61])
noncomputable def pf_cond_tight : PF := PF.of (E1 dS) (fun a => cond_tight a) dI
set_option maxRecDepth 100000 in
set_option maxHeartbeats 4000000 in
theorem cond_tight_ok : PureOk Tryd.prog 45 pf_cond_tight := by
  refine xF mixed [] [] trivial trivial Tryd.func45 ?_
  rintro a0 out H
  have G := True.intro
  have Y := Tryd.results45
  simp only [cond_tight] at H
  refine xS ?_
  refine xr ?_
  refine xr ?_
  refine xr ?_
  rcases bsplit H with ⟨hp1, H⟩ | ⟨hp1, H⟩
  · obtain ⟨F, G, hq1⟩ := xH Y G hp1
    refine xT ?_
    replace H := Option.some.inj H
    refine xr ?_
    subst H
    exact xN
  · obtain ⟨F, G, hq1⟩ := xH Y G hp1
    refine xE ?_
    refine xr ?_
    rcases bsplit H with ⟨hp2, H⟩ | ⟨hp2, H⟩
    · obtain ⟨F, G, hq2⟩ := xH Y G hp2
      refine xT ?_
      replace H := Option.some.inj H
      refine xr ?_
      subst H
      exact xN
    · obtain ⟨F, G, hq2⟩ := xH Y G hp2
      refine xE ?_
      refine xr ?_
      rcases bsplit H with ⟨hp3, H⟩ | ⟨hp3, H⟩
      · obtain ⟨F, G, hq3⟩ := xH Y G hp3
        refine xT ?_
        replace H := Option.some.inj H
        refine xr ?_
        subst H
        exact xN
      · obtain ⟨F, G, hq3⟩ := xH Y G hp3
        refine xE ?_
        refine xr ?_
        rcases bsplit H with ⟨hp4, H⟩ | ⟨hp4, H⟩
        · obtain ⟨F, G, hq4⟩ := xH Y G hp4
          refine xT ?_
          replace H := Option.some.inj H
          refine xr ?_
          subst H
          exact xN
        · obtain ⟨F, G, hq4⟩ := xH Y G hp4
          refine xE ?_
          refine xr ?_
          rcases bsplit H with ⟨hp5, H⟩ | ⟨hp5, H⟩
          · obtain ⟨F, G, hq5⟩ := xH Y G hp5
            refine xT ?_
            replace H := Option.some.inj H
            refine xr ?_
            subst H
            exact xN
          · obtain ⟨F, G, hq5⟩ := xH Y G hp5
            refine xE0 ?_
            refine w_cut (cond_tight_j1 a0) (fun s => [(3, .c (.d (.v (str a0)))), (14, .c (.d (.v (.bool s))))]) (fun s => []) [] out ?_ ?_
            · refine xS ?_
              refine xr ?_
              rcases bsplit H with ⟨hp18, H⟩ | ⟨hp18, H⟩
              · obtain ⟨F, G, hq18⟩ := xH Y G hp18
                refine xT ?_
                exact cut_at H (xK ⟨[], []⟩)
              · obtain ⟨F, G, hq18⟩ := xH Y G hp18
                refine xE ?_
                refine xr ?_
                exact cut_at H (xK ⟨[], []⟩)
            · rintro x1 H
              rw [cond_tight_j1] at H
              rcases bsplit H with ⟨hp6, H⟩ | ⟨hp6, H⟩
              · obtain ⟨F, G, hq6⟩ := xH Y G hp6
                refine xT ?_
                replace H := Option.some.inj H
                refine xr ?_
                subst H
                exact xN
              · obtain ⟨F, G, hq6⟩ := xH Y G hp6
                refine xE0 ?_
                refine w_cut (cond_tight_j2 a0) (fun s => [(3, .c (.d (.v (str a0)))), (17, .c (.d (.v (.bool s))))]) (fun s => []) [] out ?_ ?_
                · refine xS ?_
                  refine xr ?_
                  rcases bsplit H with ⟨hp15, H⟩ | ⟨hp15, H⟩
                  · obtain ⟨F, G, hq15⟩ := xH Y G hp15
                    refine xT ?_
                    exact cut_at H (xK ⟨[], []⟩)
                  · obtain ⟨F, G, hq15⟩ := xH Y G hp15
                    refine xE ?_
                    refine xr ?_
                    rcases bsplit H with ⟨hp16, H⟩ | ⟨hp16, H⟩
                    · obtain ⟨F, G, hq16⟩ := xH Y G hp16
                      refine xT ?_
                      exact cut_at H (xK ⟨[], []⟩)
                    · obtain ⟨F, G, hq16⟩ := xH Y G hp16
                      refine xE ?_
                      refine xr ?_
                      rcases bsplit H with ⟨hp17, H⟩ | ⟨hp17, H⟩
                      · obtain ⟨F, G, hq17⟩ := xH Y G hp17
                        refine xT ?_
                        exact cut_at H (xK ⟨[], []⟩)
                      · obtain ⟨F, G, hq17⟩ := xH Y G hp17
                        refine xE ?_
                        refine xr ?_
                        exact cut_at H (xK ⟨[], []⟩)
                · rintro x2 H
                  rw [cond_tight_j2] at H
                  rcases bsplit H with ⟨hp7, H⟩ | ⟨hp7, H⟩
                  · obtain ⟨F, G, hq7⟩ := xH Y G hp7
                    refine xT ?_
                    replace H := Option.some.inj H
                    refine xr ?_
                    subst H
                    exact xN
                  · obtain ⟨F, G, hq7⟩ := xH Y G hp7
                    refine xE0 ?_
                    refine w_cut (cond_tight_j3 a0) (fun s => [(3, .c (.d (.v (str a0)))), (22, .c (.d (.v (.bool s))))]) (fun s => []) [] out ?_ ?_
                    · refine xS ?_
                      refine xr ?_
                      rcases bsplit H with ⟨hp14, H⟩ | ⟨hp14, H⟩
                      · obtain ⟨F, G, hq14⟩ := xH Y G hp14
                        refine xT ?_
                        exact cut_at H (xK ⟨[], []⟩)
                      · obtain ⟨F, G, hq14⟩ := xH Y G hp14
                        refine xE ?_
                        refine xr ?_
                        exact cut_at H (xK ⟨[], []⟩)
                    · rintro x3 H
                      rw [cond_tight_j3] at H
                      rcases bsplit H with ⟨hp8, H⟩ | ⟨hp8, H⟩
                      · obtain ⟨F, G, hq8⟩ := xH Y G hp8
                        refine xT ?_
                        replace H := Option.some.inj H
                        refine xr ?_
                        subst H
                        exact xN
                      · obtain ⟨F, G, hq8⟩ := xH Y G hp8
                        refine xE0 ?_
                        refine w_cut (cond_tight_j4 a0) (fun s => [(3, .c (.d (.v (str a0)))), (25, .c (.d (.v (.bool s))))]) (fun s => []) [] out ?_ ?_
                        · refine xS ?_
                          refine xr ?_
                          rcases bsplit H with ⟨hp13, H⟩ | ⟨hp13, H⟩
                          · obtain ⟨F, G, hq13⟩ := xH Y G hp13
                            refine xT ?_
                            exact cut_at H (xK ⟨[], []⟩)
                          · obtain ⟨F, G, hq13⟩ := xH Y G hp13
                            refine xE ?_
                            refine xr ?_
                            exact cut_at H (xK ⟨[], []⟩)
                        · rintro x4 H
                          rw [cond_tight_j4] at H
                          rcases bsplit H with ⟨hp9, H⟩ | ⟨hp9, H⟩
                          · obtain ⟨F, G, hq9⟩ := xH Y G hp9
                            refine xT ?_
                            replace H := Option.some.inj H
                            refine xr ?_
                            subst H
                            exact xN
                          · obtain ⟨F, G, hq9⟩ := xH Y G hp9
                            refine xE0 ?_
                            refine w_cut cond_tight_j5 (fun s => [(28, .c (.d (.v (.bool s))))]) (fun s => []) [] out ?_ ?_
                            · refine xS ?_
                              refine xr ?_
                              rcases bsplit H with ⟨hp11, H⟩ | ⟨hp11, H⟩
                              · obtain ⟨F, G, hq11⟩ := xH Y G hp11
                                refine xT ?_
                                exact cut_at H (xK ⟨[], []⟩)
                              · obtain ⟨F, G, hq11⟩ := xH Y G hp11
                                refine xE ?_
                                refine xr ?_
                                rcases bsplit H with ⟨hp12, H⟩ | ⟨hp12, H⟩
                                · obtain ⟨F, G, hq12⟩ := xH Y G hp12
                                  refine xT ?_
                                  exact cut_at H (xK ⟨[], []⟩)
                                · obtain ⟨F, G, hq12⟩ := xH Y G hp12
                                  refine xE ?_
                                  refine xr ?_
                                  exact cut_at H (xK ⟨[], []⟩)
                            · rintro x5 H
                              rw [cond_tight_j5] at H
                              rcases bsplit H with ⟨hp10, H⟩ | ⟨hp10, H⟩
                              · obtain ⟨F, G, hq10⟩ := xH Y G hp10
                                refine xT ?_
                                replace H := Option.some.inj H
                                refine xr ?_
                                subst H
                                exact xN
                              · obtain ⟨F, G, hq10⟩ := xH Y G hp10
                                refine xE ?_
                                replace H := Option.some.inj H
                                refine xr ?_
                                subst H
                                exact xN
theorem cond_tight_c (a0 : List UInt8) (r : Int) (H : cond_tight a0 = some r) : PC pf_cond_tight [dS a0] (dI r) := PF.c (a := a0) H
noncomputable def cond_one (a0 : Bool) : Option Int :=
  if a0 = true then some 1 else some 0
noncomputable def pf_cond_one : PF := PF.of (E1 dB) (fun a => cond_one a) dI
set_option maxRecDepth 100000 in
set_option maxHeartbeats 4000000 in
theorem cond_one_ok : PureOk Tryd.prog 46 pf_cond_one := by
  refine xF mixed [] [] trivial trivial Tryd.func46 ?_
  rintro a0 out H
  have G := True.intro
  have Y := Tryd.results46
  simp only [cond_one] at H
  refine xS ?_
  refine xr ?_
  refine xr ?_
  rcases bsplit H with ⟨hp1, H⟩ | ⟨hp1, H⟩
  · obtain ⟨F, G, hq1⟩ := xH Y G hp1
    refine xT ?_
    replace H := Option.some.inj H
    refine xr ?_
    subst H
    exact xN
  · obtain ⟨F, G, hq1⟩ := xH Y G hp1
    refine xE ?_
    replace H := Option.some.inj H
    refine xr ?_
    subst H
    exact xN
theorem cond_one_c (a0 : Bool) (r : Int) (H : cond_one a0 = some r) : PC pf_cond_one [dB a0] (dI r) := PF.c (a := a0) H
noncomputable def cond_parser_bad (a0 : Int) (a1 : Int) (a2 : List Token) (a3 : Int) (a4 : Int) (a5 : Int) : Option (GR (Int × Int) Unit) :=
  if (eqI a5 0) = true then (cond_parser_fail a0 a2 a1 a4 a5).bind fun e1 => some (.er (e1.1, e1.2)) else some (.ok ())
def u_cond_parser_bad (a0 : Int) (a1 : Int) (a2 : List Token) (a3 : Int) (a4 : Int) (a5 : Int) : GR (Int × Int) Unit → GOut
  | .ok r => .ret (.tu []) [[.d (.sl 11 (List.map d_Token a2)), .d (.v (.int .i64 a3)), .d (.v (.int .i64 a4)), .d (.v (.int .i64 a5))]] []
  | .er r => .pan (.iface 52 (.agg ⟨[.int .i64 a0, .int .i64 r.1, .int .i64 r.2]⟩)) [[.d (.sl 11 (List.map d_Token a2)), .d (.v (.int .i64 a1)), .d (.v (.int .i64 a4)), .d (.v (.int .i64 a5))]] []
def g_cond_parser_bad (a0 : Int) (a1 : Int) (a2 : List Token) (a3 : Int) (a4 : Int) (a5 : Int) (r : GR (Int × Int) Unit) : GI :=
  ⟨[.c (.pt 1 0), .c (.d (.v (.int .i64 a0))), .c (.d (.v (.int .i64 a1)))], [[.d (.sl 11 (List.map d_Token a2)), .d (.v (.int .i64 a3)), .d (.v (.int .i64 a4)), .d (.v (.int .i64 a5))]], [], u_cond_parser_bad a0 a1 a2 a3 a4 a5 r⟩
def S_cond_parser_bad : GI → Prop := fun g => ∃ (a0 : Int) (a1 : Int) (a2 : List Token) (a3 : Int) (a4 : Int) (a5 : Int) (r : GR (Int × Int) Unit), cond_parser_bad a0 a1 a2 a3 a4 a5 = some r ∧ g = g_cond_parser_bad a0 a1 a2 a3 a4 a5 r
theorem cond_parser_bad_c (a0 : Int) (a1 : Int) (a2 : List Token) (a3 : Int) (a4 : Int) (a5 : Int) (r : GR (Int × Int) Unit) (H : cond_parser_bad a0 a1 a2 a3 a4 a5 = some r) : S_cond_parser_bad (g_cond_parser_bad a0 a1 a2 a3 a4 a5 r) := ⟨a0, a1, a2, a3, a4, a5, r, H, rfl⟩
set_option maxRecDepth 100000 in
set_option maxHeartbeats 4000000 in
theorem cond_parser_bad_ok : ∀ g, S_cond_parser_bad g → GenOk Tryd.prog 59 g := by
  rintro _ ⟨a0, a1, a2, a3, a4, a5, r, H, rfl⟩
  refine xGn mixed [] [(24, false, S_cond_parser_fail)] [] trivial ⟨cond_parser_fail_k, trivial⟩ trivial Tryd.func59 _ ?_
  have G := True.intro
  have Y := xZ y_3 <| xZ y_55 <| xZ Tryd.results59 <| xZ d_Call.eq_1 <| xZ d_Token.eq_1 <| xZ g_cond_parser_fail.eq_1 <| g_cond_parser_bad.eq_1
  dsimp only [g_cond_parser_bad]
  simp only [cond_parser_bad] at H
  refine xS ?_
  refine xr ?_
  rcases bsplit H with ⟨hp1, H⟩ | ⟨hp1, H⟩
  · obtain ⟨F, G, hq1⟩ := xH Y G hp1
    refine xT ?_
    refine xr ?_
    obtain ⟨e1, hr2, H⟩ := osplit H
    have F := Y
    refine xQp [15, 16, 17] ?_
    refine xs 2 ?_
    refine xp ⟨[1], []⟩ (tabG 0 (cond_parser_fail_c a0 a2 a1 a4 a5 e1 hr2)) ?_
    replace H := Option.some.inj H
    refine xS ?_
    subst H
    refine xOp ?_
    refine qDf [] ?_
    exact xOv ⟨[1], []⟩
  · obtain ⟨F, G, hq1⟩ := xH Y G hp1
    replace H := Option.some.inj H
    refine xE ?_
    subst H
    refine xOn ?_
    refine qDf [] ?_
    exact xO ⟨[1], []⟩
theorem cond_parser_bad_k : Callable Tryd.prog 59 ∧ (∀ g, S_cond_parser_bad g → GenOk Tryd.prog 59 g) ∧ (false = true → ∀ g, S_cond_parser_bad g → ∃ val bs ts, g.out = .ret val bs ts) :=
  ⟨call_59, cond_parser_bad_ok, nofun⟩
noncomputable def cond_parser_op_j2 (a0 : List UInt8) (a1 : Int) (a2 : Int) (a3 : Int) (a4 : List Token) (a5 : Int) (a6 : Int) (a7 : Int) : Bool → Option (GR (Int × Int × Int) Int)
  | x2 => if x2 = true then grB (cond_parser_bad 3 a3 a4 a5 a6 a7) (fun r7 => some (.ok 0)) (fun e1 => some (.er (3, e1.1, e1.2))) else if (eqS a0 [60, 60]) = true then if (0 : Int) ≤ a2 then some (.ok (IntKind.i64.wrap (a1 * 2 ^ (min a2.toNat IntKind.i64.bits)))) else none else if (0 : Int) ≤ a2 then some (.ok (Int.fdiv a1 (2 ^ (min a2.toNat IntKind.i64.bits)))) else none
noncomputable def cond_parser_op_j1 (a0 : List UInt8) (a1 : Int) (a2 : Int) (a3 : Int) (a4 : List Token) (a5 : Int) (a6 : Int) (a7 : Int) : Bool → Option (GR (Int × Int × Int) Int)
  | x1 => if x1 = true then if (ltI a2 0) = true then cond_parser_op_j2 a0 a1 a2 a3 a4 a5 a6 a7 true else cond_parser_op_j2 a0 a1 a2 a3 a4 a5 a6 a7 (ltI 63 a2) else if (eqI a2 0) = true then grB (cond_parser_bad 13 a3 a4 a5 a6 a7) (fun r8 => some (.ok 0)) (fun e2 => some (.er (13, e2.1, e2.2))) else if (eqI a2 (-1)) = true then if (eqS a0 [47]) = true then some (.ok (IntKind.i64.wrap (0 - a1))) else some (.ok 0) else if (eqS a0 [47]) = true then if a2 ≠ 0 then some (.ok (IntKind.i64.wrap (Int.tdiv a1 a2))) else none else if a2 ≠ 0 then some (.ok (Int.tmod a1 a2)) else none
noncomputable def cond_parser_op (a0 : List UInt8) (a1 : Int) (a2 : Int) (a3 : Int) (a4 : List Token) (a5 : Int) (a6 : Int) (a7 : Int) : Option (GR (Int × Int × Int) Int) :=
  if (eqS a0 [124]) = true then some (.ok (IntKind.i64.wrap ((BitVec.ofInt IntKind.i64.bits a1) ||| (BitVec.ofInt IntKind.i64.bits a2)).toNat)) else if (eqS a0 [94]) = true then some (.ok (IntKind.i64.wrap ((BitVec.ofInt IntKind.i64.bits a1) ^^^ (BitVec.ofInt IntKind.i64.bits a2)).toNat)) else if (eqS a0 [38]) = true then some (.ok (IntKind.i64.wrap ((BitVec.ofInt IntKind.i64.bits a1) &&& (BitVec.ofInt IntKind.i64.bits a2)).toNat)) else if (eqS a0 [61, 61]) = true then (cond_one (eqI a1 a2)).bind fun r1 => some (.ok r1) else if (eqS a0 [33, 61]) = true then (cond_one (!eqI a1 a2)).bind fun r2 => some (.ok r2) else if (eqS a0 [60]) = true then (cond_one (ltI a1 a2)).bind fun r3 => some (.ok r3) else if (eqS a0 [62]) = true then (cond_one (ltI a2 a1)).bind fun r4 => some (.ok r4) else if (eqS a0 [60, 61]) = true then (cond_one (leI a1 a2)).bind fun r5 => some (.ok r5) else if (eqS a0 [62, 61]) = true then (cond_one (leI a2 a1)).bind fun r6 => some (.ok r6) else if (eqS a0 [43]) = true then some (.ok (IntKind.i64.wrap (a1 + a2))) else if (eqS a0 [45]) = true then some (.ok (IntKind.i64.wrap (a1 - a2))) else if (eqS a0 [42]) = true then some (.ok (IntKind.i64.wrap (a1 * a2))) else if (eqS a0 [60, 60]) = true then cond_parser_op_j1 a0 a1 a2 a3 a4 a5 a6 a7 true else cond_parser_op_j1 a0 a1 a2 a3 a4 a5 a6 a7 (eqS a0 [62, 62])
def u_cond_parser_op (a0 : List UInt8) (a1 : Int) (a2 : Int) (a3 : Int) (a4 : List Token) (a5 : Int) (a6 : Int) (a7 : Int) : GR (Int × Int × Int) Int → GOut
  | .ok r => .ret (.c (.d (.v (.int .i64 r)))) [[.d (.sl 11 (List.map d_Token a4)), .d (.v (.int .i64 a5)), .d (.v (.int .i64 a6)), .d (.v (.int .i64 a7))]] []
  | .er r => .pan (.iface 52 (.agg ⟨[.int .i64 r.1, .int .i64 r.2.1, .int .i64 r.2.2]⟩)) [[.d (.sl 11 (List.map d_Token a4)), .d (.v (.int .i64 a3)), .d (.v (.int .i64 a6)), .d (.v (.int .i64 a7))]] []
def g_cond_parser_op (a0 : List UInt8) (a1 : Int) (a2 : Int) (a3 : Int) (a4 : List Token) (a5 : Int) (a6 : Int) (a7 : Int) (r : GR (Int × Int × Int) Int) : GI :=
  ⟨[.c (.pt 1 0), .c (.d (.v (str a0))), .c (.d (.v (.int .i64 a1))), .c (.d (.v (.int .i64 a2))), .c (.d (.v (.int .i64 a3)))], [[.d (.sl 11 (List.map d_Token a4)), .d (.v (.int .i64 a5)), .d (.v (.int .i64 a6)), .d (.v (.int .i64 a7))]], [], u_cond_parser_op a0 a1 a2 a3 a4 a5 a6 a7 r⟩
def S_cond_parser_op : GI → Prop := fun g => ∃ (a0 : List UInt8) (a1 : Int) (a2 : Int) (a3 : Int) (a4 : List Token) (a5 : Int) (a6 : Int) (a7 : Int) (r : GR (Int × Int × Int) Int), cond_parser_op a0 a1 a2 a3 a4 a5 a6 a7 = some r ∧ g = g_cond_parser_op a0 a1 a2 a3 a4 a5 a6 a7 r
theorem cond_parser_op_c (a0 : List UInt8) (a1 : Int) (a2 : Int) (a3 : Int) (a4 : List Token) (a5 : Int) (a6 : Int) (a7 : Int) (r : GR (Int × Int × Int) Int) (H : cond_parser_op a0 a1 a2 a3 a4 a5 a6 a7 = some r) : S_cond_parser_op (g_cond_parser_op a0 a1 a2 a3 a4 a5 a6 a7 r) := ⟨a0, a1, a2, a3, a4, a5, a6, a7, r, H, rfl⟩
set_option maxRecDepth 100000 in
set_option maxHeartbeats 4000000 in
theorem cond_parser_op_ok : ∀ g, S_cond_parser_op g → GenOk Tryd.prog 47 g := by
  rintro _ ⟨a0, a1, a2, a3, a4, a5, a6, a7, r, H, rfl⟩
  refine xGn mixed [(46, pf_cond_one)] [(59, false, S_cond_parser_bad)] [] ⟨⟨call_46, cond_one_ok⟩, trivial⟩ ⟨cond_parser_bad_k, trivial⟩ trivial Tryd.func47 _ ?_
  have G := True.intro
  have Y := xZ Tryd.results47 <| xZ d_Call.eq_1 <| xZ d_Token.eq_1 <| xZ g_cond_parser_bad.eq_1 <| g_cond_parser_op.eq_1
  dsimp only [g_cond_parser_op]
  simp only [cond_parser_op] at H
  refine xS ?_
  refine xr ?_
  refine xr ?_
  refine xr ?_
  rcases bsplit H with ⟨hp1, H⟩ | ⟨hp1, H⟩
  · obtain ⟨F, G, hq1⟩ := xH Y G hp1
    refine xT ?_
    replace H := Option.some.inj H
    refine xr ?_
    subst H
    refine xOr ?_
    refine qDf [] ?_
    exact xO ⟨[1], []⟩
  · obtain ⟨F, G, hq1⟩ := xH Y G hp1
    refine xE ?_
    refine xr ?_
    rcases bsplit H with ⟨hp2, H⟩ | ⟨hp2, H⟩
    · obtain ⟨F, G, hq2⟩ := xH Y G hp2
      refine xT ?_
      replace H := Option.some.inj H
      refine xr ?_
      subst H
      refine xOr ?_
      refine qDf [] ?_
      exact xO ⟨[1], []⟩
    · obtain ⟨F, G, hq2⟩ := xH Y G hp2
      refine xE ?_
      refine xr ?_
      rcases bsplit H with ⟨hp3, H⟩ | ⟨hp3, H⟩
      · obtain ⟨F, G, hq3⟩ := xH Y G hp3
        refine xT ?_
        replace H := Option.some.inj H
        refine xr ?_
        subst H
        refine xOr ?_
        refine qDf [] ?_
        exact xO ⟨[1], []⟩
      · obtain ⟨F, G, hq3⟩ := xH Y G hp3
        refine xE ?_
        refine xr ?_
        rcases bsplit H with ⟨hp4, H⟩ | ⟨hp4, H⟩
        · obtain ⟨F, G, hq4⟩ := xH Y G hp4
          refine xT ?_
          obtain ⟨r1, hr1, H⟩ := osplit H
          have F := xC Y (cond_one_c (eqI a1 a2) r1 hr1)
          replace H := Option.some.inj H
          refine xR ?_
          subst H
          refine xOr ?_
          refine qDf [] ?_
          exact xO ⟨[1], []⟩
        · obtain ⟨F, G, hq4⟩ := xH Y G hp4
          refine xE ?_
          refine xr ?_
          rcases bsplit H with ⟨hp5, H⟩ | ⟨hp5, H⟩
          · obtain ⟨F, G, hq5⟩ := xH Y G hp5
            refine xT ?_
            obtain ⟨r2, hr2, H⟩ := osplit H
            have F := xC Y (cond_one_c (!eqI a1 a2) r2 hr2)
            replace H := Option.some.inj H
            refine xR ?_
            subst H
            refine xOr ?_
            refine qDf [] ?_
            exact xO ⟨[1], []⟩
          · obtain ⟨F, G, hq5⟩ := xH Y G hp5
            refine xE ?_
            refine xr ?_
            rcases bsplit H with ⟨hp6, H⟩ | ⟨hp6, H⟩
            · obtain ⟨F, G, hq6⟩ := xH Y G hp6
              refine xT ?_
              obtain ⟨r3, hr3, H⟩ := osplit H
              have F := xC Y (cond_one_c (ltI a1 a2) r3 hr3)
              replace H := Option.some.inj H
              refine xR ?_
              subst H
              refine xOr ?_
              refine qDf [] ?_
              exact xO ⟨[1], []⟩
            · obtain ⟨F, G, hq6⟩ := xH Y G hp6
              refine xE ?_
              refine xr ?_
              rcases bsplit H with ⟨hp7, H⟩ | ⟨hp7, H⟩
              · obtain ⟨F, G, hq7⟩ := xH Y G hp7
                refine xT ?_
                obtain ⟨r4, hr4, H⟩ := osplit H
                have F := xC Y (cond_one_c (ltI a2 a1) r4 hr4)
                replace H := Option.some.inj H
                refine xR ?_
                subst H
                refine xOr ?_
                refine qDf [] ?_
                exact xO ⟨[1], []⟩
              · obtain ⟨F, G, hq7⟩ := xH Y G hp7
                refine xE ?_
                refine xr ?_
                rcases bsplit H with ⟨hp8, H⟩ | ⟨hp8, H⟩
                · obtain ⟨F, G, hq8⟩ := xH Y G hp8
                  refine xT ?_
                  obtain ⟨r5, hr5, H⟩ := osplit H
                  have F := xC Y (cond_one_c (leI a1 a2) r5 hr5)
                  replace H := Option.some.inj H
                  refine xR ?_
                  subst H
                  refine xOr ?_
                  refine qDf [] ?_
                  exact xO ⟨[1], []⟩
                · obtain ⟨F, G, hq8⟩ := xH Y G hp8
                  refine xE ?_
                  refine xr ?_
                  rcases bsplit H with ⟨hp9, H⟩ | ⟨hp9, H⟩
                  · obtain ⟨F, G, hq9⟩ := xH Y G hp9
                    refine xT ?_
                    obtain ⟨r6, hr6, H⟩ := osplit H
                    have F := xC Y (cond_one_c (leI a2 a1) r6 hr6)
                    replace H := Option.some.inj H
                    refine xR ?_
                    subst H
                    refine xOr ?_
                    refine qDf [] ?_
                    exact xO ⟨[1], []⟩
                  · obtain ⟨F, G, hq9⟩ := xH Y G hp9
                    refine xE ?_
                    refine xr ?_
                    rcases bsplit H with ⟨hp10, H⟩ | ⟨hp10, H⟩
                    · obtain ⟨F, G, hq10⟩ := xH Y G hp10
                      refine xT ?_
                      replace H := Option.some.inj H
                      refine xr ?_
                      subst H
                      refine xOr ?_
                      refine qDf [] ?_
                      exact xO ⟨[1], []⟩
                    · obtain ⟨F, G, hq10⟩ := xH Y G hp10
                      refine xE ?_
                      refine xr ?_
                      rcases bsplit H with ⟨hp11, H⟩ | ⟨hp11, H⟩
                      · obtain ⟨F, G, hq11⟩ := xH Y G hp11
                        refine xT ?_
                        replace H := Option.some.inj H
                        refine xr ?_
                        subst H
                        refine xOr ?_
                        refine qDf [] ?_
                        exact xO ⟨[1], []⟩
                      · obtain ⟨F, G, hq11⟩ := xH Y G hp11
                        refine xE ?_
                        refine xr ?_
                        rcases bsplit H with ⟨hp12, H⟩ | ⟨hp12, H⟩
                        · obtain ⟨F, G, hq12⟩ := xH Y G hp12
                          refine xT ?_
                          replace H := Option.some.inj H
                          refine xr ?_
                          subst H
                          refine xOr ?_
                          refine qDf [] ?_
                          exact xO ⟨[1], []⟩
                        · obtain ⟨F, G, hq12⟩ := xH Y G hp12
                          refine xE0 ?_
                          refine w_cut (cond_parser_op_j1 a0 a1 a2 a3 a4 a5 a6 a7) (fun s => [(0, .c (.pt 1 0)), (1, .c (.d (.v (str a0)))), (2, .c (.d (.v (.int .i64 a1)))), (3, .c (.d (.v (.int .i64 a2)))), (4, .c (.d (.v (.int .i64 a3)))), (78, .c (.d (.v (.bool s))))]) (fun s => [[.d (.sl 11 (List.map d_Token a4)), .d (.v (.int .i64 a5)), .d (.v (.int .i64 a6)), .d (.v (.int .i64 a7))]]) [] r ?_ ?_
                          · refine xS ?_
                            refine xr ?_
                            rcases bsplit H with ⟨hp21, H⟩ | ⟨hp21, H⟩
                            · obtain ⟨F, G, hq21⟩ := xH Y G hp21
                              refine xT ?_
                              exact cut_at H (xK ⟨[1], []⟩)
                            · obtain ⟨F, G, hq21⟩ := xH Y G hp21
                              refine xE ?_
                              refine xr ?_
                              exact cut_at H (xK ⟨[1], []⟩)
                          · rintro x1 H
                            rw [cond_parser_op_j1] at H
                            rcases bsplit H with ⟨hp13, H⟩ | ⟨hp13, H⟩
                            · obtain ⟨F, G, hq13⟩ := xH Y G hp13
                              refine xT0 ?_
                              refine w_seq ?_
                              refine w_cut (cond_parser_op_j2 a0 a1 a2 a3 a4 a5 a6 a7) (fun s => [(0, .c (.pt 1 0)), (1, .c (.d (.v (str a0)))), (2, .c (.d (.v (.int .i64 a1)))), (3, .c (.d (.v (.int .i64 a2)))), (4, .c (.d (.v (.int .i64 a3)))), (86, .c (.d (.v (.bool s))))]) (fun s => [[.d (.sl 11 (List.map d_Token a4)), .d (.v (.int .i64 a5)), .d (.v (.int .i64 a6)), .d (.v (.int .i64 a7))]]) [] r ?_ ?_
                              · rcases bsplit H with ⟨hp16, H⟩ | ⟨hp16, H⟩
                                · obtain ⟨F, G, hq16⟩ := xH Y G hp16
                                  refine xR ?_
                                  exact cut_at H (xK ⟨[1], []⟩)
                                · obtain ⟨F, G, hq16⟩ := xH Y G hp16
                                  refine xR ?_
                                  exact cut_at H (xK ⟨[1], []⟩)
                              · rintro x2 H
                                rw [cond_parser_op_j2] at H
                                rcases bsplit H with ⟨hp14, H⟩ | ⟨hp14, H⟩
                                · obtain ⟨F, G, hq14⟩ := xH Y G hp14
                                  refine xT ?_
                                  rcases rsplit H with ⟨r7, hr7, H⟩ | ⟨e1, hr8, H⟩
                                  · have F := Y
                                    refine xQ ?_
                                    refine xs 2 ?_
                                    refine xc ⟨[1], []⟩ (tabG 0 (cond_parser_bad_c 3 a3 a4 a5 a6 a7 (.ok r7) hr7)) ?_
                                    refine xl ?_
                                    refine xS ?_
                                    replace H := Option.some.inj H
                                    refine xr ?_
                                    subst H
                                    refine xOr ?_
                                    refine qDf [] ?_
                                    exact xO ⟨[1], []⟩
                                  · have F := Y
                                    refine xQp [87, 88, 89] ?_
                                    refine xs 2 ?_
                                    refine xp ⟨[1], []⟩ (tabG 0 (cond_parser_bad_c 3 a3 a4 a5 a6 a7 (.er e1) hr8)) ?_
                                    replace H := Option.some.inj H
                                    refine xS ?_
                                    subst H
                                    refine xOp ?_
                                    refine qDf [] ?_
                                    exact xOv ⟨[1], []⟩
                                · obtain ⟨F, G, hq14⟩ := xH Y G hp14
                                  refine xE ?_
                                  refine xr ?_
                                  rcases bsplit H with ⟨hp15, H⟩ | ⟨hp15, H⟩
                                  · obtain ⟨F, G, hq15⟩ := xH Y G hp15
                                    refine xT ?_
                                    obtain ⟨hg1, H⟩ := gsplit H
                                    replace H := Option.some.inj H
                                    refine xr ?_
                                    subst H
                                    refine xOr ?_
                                    refine qDf [] ?_
                                    exact xO ⟨[1], []⟩
                                  · obtain ⟨F, G, hq15⟩ := xH Y G hp15
                                    refine xE ?_
                                    obtain ⟨hg2, H⟩ := gsplit H
                                    replace H := Option.some.inj H
                                    refine xr ?_
                                    subst H
                                    refine xOr ?_
                                    refine qDf [] ?_
                                    exact xO ⟨[1], []⟩
                            · obtain ⟨F, G, hq13⟩ := xH Y G hp13
                              refine xE ?_
                              refine xr ?_
                              rcases bsplit H with ⟨hp17, H⟩ | ⟨hp17, H⟩
                              · obtain ⟨F, G, hq17⟩ := xH Y G hp17
                                refine xT ?_
                                rcases rsplit H with ⟨r8, hr9, H⟩ | ⟨e2, hr10, H⟩
                                · have F := Y
                                  refine xQ ?_
                                  refine xs 2 ?_
                                  refine xc ⟨[1], []⟩ (tabG 0 (cond_parser_bad_c 13 a3 a4 a5 a6 a7 (.ok r8) hr9)) ?_
                                  refine xl ?_
                                  refine xS ?_
                                  replace H := Option.some.inj H
                                  refine xr ?_
                                  subst H
                                  refine xOr ?_
                                  refine qDf [] ?_
                                  exact xO ⟨[1], []⟩
                                · have F := Y
                                  refine xQp [100, 101, 102] ?_
                                  refine xs 2 ?_
                                  refine xp ⟨[1], []⟩ (tabG 0 (cond_parser_bad_c 13 a3 a4 a5 a6 a7 (.er e2) hr10)) ?_
                                  replace H := Option.some.inj H
                                  refine xS ?_
                                  subst H
                                  refine xOp ?_
                                  refine qDf [] ?_
                                  exact xOv ⟨[1], []⟩
                              · obtain ⟨F, G, hq17⟩ := xH Y G hp17
                                refine xE ?_
                                refine xr ?_
                                rcases bsplit H with ⟨hp18, H⟩ | ⟨hp18, H⟩
                                · obtain ⟨F, G, hq18⟩ := xH Y G hp18
                                  refine xT ?_
                                  refine xr ?_
                                  rcases bsplit H with ⟨hp19, H⟩ | ⟨hp19, H⟩
                                  · obtain ⟨F, G, hq19⟩ := xH Y G hp19
                                    refine xT ?_
                                    replace H := Option.some.inj H
                                    refine xr ?_
                                    subst H
                                    refine xOr ?_
                                    refine qDf [] ?_
                                    exact xO ⟨[1], []⟩
                                  · obtain ⟨F, G, hq19⟩ := xH Y G hp19
                                    refine xE ?_
                                    replace H := Option.some.inj H
                                    refine xr ?_
                                    subst H
                                    refine xOr ?_
                                    refine qDf [] ?_
                                    exact xO ⟨[1], []⟩
                                · obtain ⟨F, G, hq18⟩ := xH Y G hp18
                                  refine xE ?_
                                  refine xr ?_
                                  rcases bsplit H with ⟨hp20, H⟩ | ⟨hp20, H⟩
                                  · obtain ⟨F, G, hq20⟩ := xH Y G hp20
                                    refine xT ?_
                                    obtain ⟨hg3, H⟩ := gsplit H
                                    replace H := Option.some.inj H
                                    refine xr ?_
                                    subst H
                                    refine xOr ?_
                                    refine qDf [] ?_
                                    exact xO ⟨[1], []⟩
                                  · obtain ⟨F, G, hq20⟩ := xH Y G hp20
                                    refine xE ?_
                                    obtain ⟨hg4, H⟩ := gsplit H
                                    replace H := Option.some.inj H
                                    refine xr ?_
                                    subst H
                                    refine xOr ?_
                                    refine qDf [] ?_
                                    exact xO ⟨[1], []⟩
theorem cond_parser_op_k : Callable Tryd.prog 47 ∧ (∀ g, S_cond_parser_op g → GenOk Tryd.prog 47 g) ∧ (false = true → ∀ g, S_cond_parser_op g → ∃ val bs ts, g.out = .ret val bs ts) :=
  ⟨call_47, cond_parser_op_ok, nofun⟩
def u_cond_parser_choice (a0 : List Token) (a1 : Int) (a2 : Int) (a3 : Int) : GR (Int × Int × Int × Int × Int × Int) (Int × Int × Int × Int) → GOut
  | .ok r => .ret (.c (.d (.v (.int .i64 r.1)))) [[.d (.sl 11 (List.map d_Token a0)), .d (.v (.int .i64 r.2.1)), .d (.v (.int .i64 r.2.2.1)), .d (.v (.int .i64 r.2.2.2))]] []
  | .er r => .pan (.iface 52 (.agg ⟨[.int .i64 r.1, .int .i64 r.2.1, .int .i64 r.2.2.1]⟩)) [[.d (.sl 11 (List.map d_Token a0)), .d (.v (.int .i64 r.2.2.2.1)), .d (.v (.int .i64 r.2.2.2.2.1)), .d (.v (.int .i64 r.2.2.2.2.2))]] []
def g_cond_parser_choice (a0 : List Token) (a1 : Int) (a2 : Int) (a3 : Int) (r : GR (Int × Int × Int × Int × Int × Int) (Int × Int × Int × Int)) : GI :=
  ⟨[.c (.pt 1 0)], [[.d (.sl 11 (List.map d_Token a0)), .d (.v (.int .i64 a1)), .d (.v (.int .i64 a2)), .d (.v (.int .i64 a3))]], [], u_cond_parser_choice a0 a1 a2 a3 r⟩
def SF_cond_parser_choice (q : (List Token) → Int → Int → Int → Option (GR (Int × Int × Int × Int × Int × Int) (Int × Int × Int × Int))) : GI → Prop := fun g => ∃ (a0 : List Token) (a1 : Int) (a2 : Int) (a3 : Int) (r : GR (Int × Int × Int × Int × Int × Int) (Int × Int × Int × Int)), q a0 a1 a2 a3 = some r ∧ g = g_cond_parser_choice a0 a1 a2 a3 r
theorem cond_parser_choice_sc (q : (List Token) → Int → Int → Int → Option (GR (Int × Int × Int × Int × Int × Int) (Int × Int × Int × Int))) (a0 : List Token) (a1 : Int) (a2 : Int) (a3 : Int) (r : GR (Int × Int × Int × Int × Int × Int) (Int × Int × Int × Int)) (H : q a0 a1 a2 a3 = some r) : SF_cond_parser_choice q (g_cond_parser_choice a0 a1 a2 a3 r) := ⟨a0, a1, a2, a3, r, H, rfl⟩
def u_cond_parser_binary (a0 : Int) (a1 : List Token) (a2 : Int) (a3 : Int) (a4 : Int) : GR (Int × Int × Int × Int × Int × Int) (Int × Int × Int × Int) → GOut
  | .ok r => .ret (.c (.d (.v (.int .i64 r.1)))) [[.d (.sl 11 (List.map d_Token a1)), .d (.v (.int .i64 r.2.1)), .d (.v (.int .i64 r.2.2.1)), .d (.v (.int .i64 r.2.2.2))]] []
  | .er r => .pan (.iface 52 (.agg ⟨[.int .i64 r.1, .int .i64 r.2.1, .int .i64 r.2.2.1]⟩)) [[.d (.sl 11 (List.map d_Token a1)), .d (.v (.int .i64 r.2.2.2.1)), .d (.v (.int .i64 r.2.2.2.2.1)), .d (.v (.int .i64 r.2.2.2.2.2))]] []
def g_cond_parser_binary (a0 : Int) (a1 : List Token) (a2 : Int) (a3 : Int) (a4 : Int) (r : GR (Int × Int × Int × Int × Int × Int) (Int × Int × Int × Int)) : GI :=
  ⟨[.c (.pt 1 0), .c (.d (.v (.int .i64 a0)))], [[.d (.sl 11 (List.map d_Token a1)), .d (.v (.int .i64 a2)), .d (.v (.int .i64 a3)), .d (.v (.int .i64 a4))]], [], u_cond_parser_binary a0 a1 a2 a3 a4 r⟩
def SF_cond_parser_binary (q : Int → (List Token) → Int → Int → Int → Option (GR (Int × Int × Int × Int × Int × Int) (Int × Int × Int × Int))) : GI → Prop := fun g => ∃ (a0 : Int) (a1 : List Token) (a2 : Int) (a3 : Int) (a4 : Int) (r : GR (Int × Int × Int × Int × Int × Int) (Int × Int × Int × Int)), q a0 a1 a2 a3 a4 = some r ∧ g = g_cond_parser_binary a0 a1 a2 a3 a4 r
theorem cond_parser_binary_sc (q : Int → (List Token) → Int → Int → Int → Option (GR (Int × Int × Int × Int × Int × Int) (Int × Int × Int × Int))) (a0 : Int) (a1 : List Token) (a2 : Int) (a3 : Int) (a4 : Int) (r : GR (Int × Int × Int × Int × Int × Int) (Int × Int × Int × Int)) (H : q a0 a1 a2 a3 a4 = some r) : SF_cond_parser_binary q (g_cond_parser_binary a0 a1 a2 a3 a4 r) := ⟨a0, a1, a2, a3, a4, r, H, rfl⟩
def u_cond_parser_atom (a0 : List Token) (a1 : Int) (a2 : Int) (a3 : Int) : GR (Int × Int × Int × Int × Int × Int) (Int × Int × Int × Int) → GOut
  | .ok r => .ret (.c (.d (.v (.int .i64 r.1)))) [[.d (.sl 11 (List.map d_Token a0)), .d (.v (.int .i64 r.2.1)), .d (.v (.int .i64 r.2.2.1)), .d (.v (.int .i64 r.2.2.2))]] []
  | .er r => .pan (.iface 52 (.agg ⟨[.int .i64 r.1, .int .i64 r.2.1, .int .i64 r.2.2.1]⟩)) [[.d (.sl 11 (List.map d_Token a0)), .d (.v (.int .i64 r.2.2.2.1)), .d (.v (.int .i64 r.2.2.2.2.1)), .d (.v (.int .i64 r.2.2.2.2.2))]] []
def g_cond_parser_atom (a0 : List Token) (a1 : Int) (a2 : Int) (a3 : Int) (r : GR (Int × Int × Int × Int × Int × Int) (Int × Int × Int × Int)) : GI :=
  ⟨[.c (.pt 1 0)], [[.d (.sl 11 (List.map d_Token a0)), .d (.v (.int .i64 a1)), .d (.v (.int .i64 a2)), .d (.v (.int .i64 a3))]], [], u_cond_parser_atom a0 a1 a2 a3 r⟩
def SF_cond_parser_atom (q : (List Token) → Int → Int → Int → Option (GR (Int × Int × Int × Int × Int × Int) (Int × Int × Int × Int))) : GI → Prop := fun g => ∃ (a0 : List Token) (a1 : Int) (a2 : Int) (a3 : Int) (r : GR (Int × Int × Int × Int × Int × Int) (Int × Int × Int × Int)), q a0 a1 a2 a3 = some r ∧ g = g_cond_parser_atom a0 a1 a2 a3 r
theorem cond_parser_atom_sc (q : (List Token) → Int → Int → Int → Option (GR (Int × Int × Int × Int × Int × Int) (Int × Int × Int × Int))) (a0 : List Token) (a1 : Int) (a2 : Int) (a3 : Int) (r : GR (Int × Int × Int × Int × Int × Int) (Int × Int × Int × Int)) (H : q a0 a1 a2 a3 = some r) : SF_cond_parser_atom q (g_cond_parser_atom a0 a1 a2 a3 r) := ⟨a0, a1, a2, a3, r, H, rfl⟩
noncomputable def cond_parser_choice_j4 (r1 : (Int × Int × Int × Int)) (r3 : (Int × Int × Int × Int)) (r6 : (Int × Int × Int × Int)) : Int → Option (GR (Int × Int × Int × Int × Int × Int) (Int × Int × Int × Int))
  | x6 => if (!eqI r1.1 0) = true then some (.ok (r3.1, r6.2.1, r6.2.2.1, x6)) else some (.ok (r6.1, r6.2.1, r6.2.2.1, x6))
noncomputable def cond_parser_choice_j3 (q1 : (List Token) → Int → Int → Int → Option (GR (Int × Int × Int × Int × Int × Int) (Int × Int × Int × Int))) (a0 : List Token) (r1 : (Int × Int × Int × Int)) (r3 : (Int × Int × Int × Int)) (r4 : (Bool × Int)) : (Bool × Int) → Option (GR (Int × Int × Int × Int × Int × Int) (Int × Int × Int × Int))
  | (x4, x5) => grB (q1 a0 r4.2 r3.2.2.1 x5) (fun r6 => if x4 = true then cond_parser_choice_j4 r1 r3 r6 (IntKind.i64.wrap (r6.2.2.2 - 1)) else cond_parser_choice_j4 r1 r3 r6 r6.2.2.2) (fun e4 => some (.er (e4.1, e4.2.1, e4.2.2.1, e4.2.2.2.1, e4.2.2.2.2.1, e4.2.2.2.2.2)))
noncomputable def cond_parser_choice_j2 (q1 : (List Token) → Int → Int → Int → Option (GR (Int × Int × Int × Int × Int × Int) (Int × Int × Int × Int))) (a0 : List Token) (r1 : (Int × Int × Int × Int)) (r3 : (Int × Int × Int × Int)) : Int → Option (GR (Int × Int × Int × Int × Int × Int) (Int × Int × Int × Int))
  | x3 => (cond_parser_eat [58] a0 r3.2.1 r3.2.2.1 x3).bind fun r4 => if (!r4.1) = true then (cond_parser_fail 2 a0 r4.2 r3.2.2.1 x3).bind fun e3 => some (.er (2, e3.1, e3.2, r4.2, r3.2.2.1, x3)) else if (eqB (!eqI r1.1 0) true) = true then cond_parser_choice_j3 q1 a0 r1 r3 r4 (true, IntKind.i64.wrap (x3 + 1)) else cond_parser_choice_j3 q1 a0 r1 r3 r4 (false, x3)
noncomputable def cond_parser_choice_j1 (q1 : (List Token) → Int → Int → Int → Option (GR (Int × Int × Int × Int × Int × Int) (Int × Int × Int × Int))) (a0 : List Token) (r1 : (Int × Int × Int × Int)) (r2 : (Bool × Int)) : (Bool × Int) → Option (GR (Int × Int × Int × Int × Int × Int) (Int × Int × Int × Int))
  | (x1, x2) => grB (q1 a0 r2.2 r1.2.2.1 x2) (fun r3 => if x1 = true then cond_parser_choice_j2 q1 a0 r1 r3 (IntKind.i64.wrap (r3.2.2.2 - 1)) else cond_parser_choice_j2 q1 a0 r1 r3 r3.2.2.2) (fun e2 => some (.er (e2.1, e2.2.1, e2.2.2.1, e2.2.2.2.1, e2.2.2.2.2.1, e2.2.2.2.2.2)))
noncomputable def cond_parser_choice_s (q1 : (List Token) → Int → Int → Int → Option (GR (Int × Int × Int × Int × Int × Int) (Int × Int × Int × Int))) (q2 : Int → (List Token) → Int → Int → Int → Option (GR (Int × Int × Int × Int × Int × Int) (Int × Int × Int × Int))) (q3 : (List Token) → Int → Int → Int → Option (GR (Int × Int × Int × Int × Int × Int) (Int × Int × Int × Int))) (a0 : List Token) (a1 : Int) (a2 : Int) (a3 : Int) : Option (GR (Int × Int × Int × Int × Int × Int) (Int × Int × Int × Int)) :=
  grB (q2 1 a0 a1 a2 a3) (fun r1 => (cond_parser_eat [63] a0 r1.2.1 r1.2.2.1 r1.2.2.2).bind fun r2 => if (!r2.1) = true then some (.ok (r1.1, r2.2, r1.2.2.1, r1.2.2.2)) else if (eqB (!eqI r1.1 0) false) = true then cond_parser_choice_j1 q1 a0 r1 r2 (true, IntKind.i64.wrap (r1.2.2.2 + 1)) else cond_parser_choice_j1 q1 a0 r1 r2 (false, r1.2.2.2)) (fun e1 => some (.er (e1.1, e1.2.1, e1.2.2.1, e1.2.2.2.1, e1.2.2.2.2.1, e1.2.2.2.2.2)))
set_option maxRecDepth 100000 in
set_option maxHeartbeats 4000000 in
theorem cond_parser_choice_sok (q1 : (List Token) → Int → Int → Int → Option (GR (Int × Int × Int × Int × Int × Int) (Int × Int × Int × Int))) (q2 : Int → (List Token) → Int → Int → Int → Option (GR (Int × Int × Int × Int × Int × Int) (Int × Int × Int × Int))) (q3 : (List Token) → Int → Int → Int → Option (GR (Int × Int × Int × Int × Int × Int) (Int × Int × Int × Int))) (kq1 : Kok Tryd.prog 23 false (SF_cond_parser_choice q1)) (kq2 : Kok Tryd.prog 34 false (SF_cond_parser_binary q2)) (kq3 : Kok Tryd.prog 43 false (SF_cond_parser_atom q3)) : ∀ g, SF_cond_parser_choice (cond_parser_choice_s q1 q2 q3) g → GenOk Tryd.prog 23 g := by
  rintro _ ⟨a0, a1, a2, a3, r, H, rfl⟩
  refine xGn mixed [] [(34, false, (SF_cond_parser_binary q2)), (35, true, S_cond_parser_eat), (23, false, (SF_cond_parser_choice q1)), (24, false, S_cond_parser_fail)] [] trivial ⟨kq2, cond_parser_eat_k, kq1, cond_parser_fail_k, trivial⟩ trivial Tryd.func23 _ ?_
  have G := True.intro
  have Y := xZ y_3 <| xZ y_4 <| xZ y_55 <| xZ y_73 <| xZ Tryd.results23 <| xZ d_Call.eq_1 <| xZ d_Token.eq_1 <| xZ g_cond_parser_binary.eq_1 <| xZ g_cond_parser_eat.eq_1 <| xZ g_cond_parser_choice.eq_1 <| xZ g_cond_parser_fail.eq_1 <| g_cond_parser_choice.eq_1
  dsimp only [g_cond_parser_choice]
  simp only [cond_parser_choice_s] at H
  refine xS ?_
  refine xr ?_
  rcases rsplit H with ⟨r1, hr1, H⟩ | ⟨e1, hr2, H⟩
  · have F := Y
    refine xQ ?_
    refine xs 1 ?_
    refine xc ⟨[1], []⟩ (tabG 0 (cond_parser_binary_sc q2 1 a0 a1 a2 a3 (.ok r1) hr1)) ?_
    refine xs 1 ?_
    refine xl ?_
    refine xS ?_
    obtain ⟨r2, hr3, H⟩ := osplit H
    have F := Y
    refine xQ ?_
    refine xs 1 ?_
    refine xc ⟨[1], []⟩ (tabG 1 (cond_parser_eat_c [63] a0 r1.2.1 r1.2.2.1 r1.2.2.2 r2 hr3)) ?_
    refine xs 1 ?_
    refine xl ?_
    refine xS ?_
    rcases bsplit H with ⟨hp1, H⟩ | ⟨hp1, H⟩
    · obtain ⟨F, G, hq1⟩ := xH Y G hp1
      refine xT ?_
      replace H := Option.some.inj H
      refine xr ?_
      subst H
      refine xOr ?_
      refine qDf [] ?_
      exact xO ⟨[1], []⟩
    · obtain ⟨F, G, hq1⟩ := xH Y G hp1
      refine xE ?_
      refine xr ?_
      refine xr ?_
      refine w_unroll 2 ?_
      refine xS ?_
      refine xr ?_
      refine xt ?_
      refine xr ?_
      refine xr0 ?_
      refine then_normal ?_
      refine w_cut (cond_parser_choice_j1 q1 a0 r1 r2) (fun s => [(0, .c (.pt 1 0)), (3, .c (.d (.v (.int .i64 r1.1)))), (4, .c (.pt 2 0)), (5, .c (.d (.v (.int .i64 0)))), (6, .c (.d (.v (.bool s.1)))), (14, .c (.d (.v (.int .i64 0))))]) (fun s => [[.d (.sl 11 (List.map d_Token a0)), .d (.v (.int .i64 r2.2)), .d (.v (.int .i64 r1.2.2.1)), .d (.v (.int .i64 s.2))], [.d (.v (.int .i64 0)), .d (.v (.int .i64 0))]]) [] r ?_ ?_
      · refine xS ?_
        refine xr ?_
        rcases bsplit H with ⟨hp7, H⟩ | ⟨hp7, H⟩
        · obtain ⟨F, G, hq7⟩ := xH Y G hp7
          refine xT ?_
          refine xr ?_
          exact cut_at H (xK ⟨[1,4], []⟩)
        · obtain ⟨F, G, hq7⟩ := xH Y G hp7
          refine xE ?_
          exact cut_at H (xK ⟨[1,4], []⟩)
      · rintro ⟨x1, x2⟩ H
        rw [cond_parser_choice_j1] at H
        refine xS ?_
        rcases rsplit H with ⟨r3, hr4, H⟩ | ⟨e2, hr5, H⟩
        · have F := Y
          refine xQ ?_
          refine xs 2 ?_
          refine xc ⟨[1], []⟩ (tabG 2 (cond_parser_choice_sc q1 a0 r2.2 r1.2.2.1 x2 (.ok r3) hr4)) ?_
          refine xs 2 ?_
          refine xl ?_
          refine  ?_
          refine then_normal ?_
          refine w_cut (cond_parser_choice_j2 q1 a0 r1 r3) (fun s => [(0, .c (.pt 1 0)), (3, .c (.d (.v (.int .i64 r1.1)))), (4, .c (.pt 2 0)), (5, .c (.d (.v (.int .i64 0)))), (14, .c (.d (.v (.int .i64 0))))]) (fun s => [[.d (.sl 11 (List.map d_Token a0)), .d (.v (.int .i64 r3.2.1)), .d (.v (.int .i64 r3.2.2.1)), .d (.v (.int .i64 s))], [.d (.v (.int .i64 r3.1)), .d (.v (.int .i64 0))]]) [] r ?_ ?_
          · refine xS ?_
            refine xr ?_
            rcases bsplit H with ⟨hp6, H⟩ | ⟨hp6, H⟩
            · obtain ⟨F, G, hq6⟩ := xH Y G hp6
              refine xT ?_
              refine xr ?_
              exact cut_at H (xK ⟨[1,2], []⟩)
            · obtain ⟨F, G, hq6⟩ := xH Y G hp6
              refine xE ?_
              exact cut_at H (xK ⟨[1,2], []⟩)
          · rintro x3 H
            rw [cond_parser_choice_j2] at H
            refine xS ?_
            obtain ⟨r4, hr6, H⟩ := osplit H
            have F := Y
            refine xQ ?_
            refine xs 4 ?_
            refine xc ⟨[1], []⟩ (tabG 1 (cond_parser_eat_c [58] a0 r3.2.1 r3.2.2.1 x3 r4 hr6)) ?_
            refine xs 2 ?_
            refine xl ?_
            refine xS ?_
            rcases bsplit H with ⟨hp2, H⟩ | ⟨hp2, H⟩
            · obtain ⟨F, G, hq2⟩ := xH Y G hp2
              refine xT ?_
              obtain ⟨e3, hr8, H⟩ := osplit H
              have F := Y
              refine xQp [49, 50] ?_
              refine xs 1 ?_
              refine xp ⟨[1], []⟩ (tabG 3 (cond_parser_fail_c 2 a0 r4.2 r3.2.2.1 x3 e3 hr8)) ?_
              replace H := Option.some.inj H
              refine xS ?_
              subst H
              refine xOp ?_
              refine qDf [] ?_
              exact xOv ⟨[1], []⟩
            · obtain ⟨F, G, hq2⟩ := xH Y G hp2
              refine xE ?_
              refine xr ?_
              refine xr ?_
              refine xt ?_
              refine xr ?_
              refine xr0 ?_
              refine then_normal ?_
              refine w_cut (cond_parser_choice_j3 q1 a0 r1 r3 r4) (fun s => [(0, .c (.pt 1 0)), (3, .c (.d (.v (.int .i64 r1.1)))), (4, .c (.pt 2 0)), (5, .c (.d (.v (.int .i64 1)))), (6, .c (.d (.v (.bool s.1)))), (14, .c (.d (.v (.int .i64 1)))), (45, .c (.pt 1 0)), (46, .c (.d (.v (.bool r4.1)))), (47, .c (.d (.v (.bool false))))]) (fun s => [[.d (.sl 11 (List.map d_Token a0)), .d (.v (.int .i64 r4.2)), .d (.v (.int .i64 r3.2.2.1)), .d (.v (.int .i64 s.2))], [.d (.v (.int .i64 r3.1)), .d (.v (.int .i64 0))]]) [] r ?_ ?_
              · refine xS ?_
                refine xr ?_
                rcases bsplit H with ⟨hp5, H⟩ | ⟨hp5, H⟩
                · obtain ⟨F, G, hq5⟩ := xH Y G hp5
                  refine xT ?_
                  refine xr ?_
                  exact cut_at H (xK ⟨[1,2], []⟩)
                · obtain ⟨F, G, hq5⟩ := xH Y G hp5
                  refine xE ?_
                  exact cut_at H (xK ⟨[1,2], []⟩)
              · rintro ⟨x4, x5⟩ H
                rw [cond_parser_choice_j3] at H
                refine xS ?_
                rcases rsplit H with ⟨r6, hr9, H⟩ | ⟨e4, hr10, H⟩
                · have F := Y
                  refine xQ ?_
                  refine xs 2 ?_
                  refine xc ⟨[1], []⟩ (tabG 2 (cond_parser_choice_sc q1 a0 r4.2 r3.2.2.1 x5 (.ok r6) hr9)) ?_
                  refine xs 2 ?_
                  refine xl ?_
                  refine  ?_
                  refine then_normal ?_
                  refine w_cut (cond_parser_choice_j4 r1 r3 r6) (fun s => [(0, .c (.pt 1 0)), (3, .c (.d (.v (.int .i64 r1.1)))), (4, .c (.pt 2 0)), (5, .c (.d (.v (.int .i64 1)))), (14, .c (.d (.v (.int .i64 1)))), (45, .c (.pt 1 0)), (46, .c (.d (.v (.bool r4.1)))), (47, .c (.d (.v (.bool false))))]) (fun s => [[.d (.sl 11 (List.map d_Token a0)), .d (.v (.int .i64 r6.2.1)), .d (.v (.int .i64 r6.2.2.1)), .d (.v (.int .i64 s))], [.d (.v (.int .i64 r3.1)), .d (.v (.int .i64 r6.1))]]) [] r ?_ ?_
                  · refine xS ?_
                    refine xr ?_
                    rcases bsplit H with ⟨hp4, H⟩ | ⟨hp4, H⟩
                    · obtain ⟨F, G, hq4⟩ := xH Y G hp4
                      refine xT ?_
                      refine xr ?_
                      exact cut_at H (xK ⟨[1,2], []⟩)
                    · obtain ⟨F, G, hq4⟩ := xH Y G hp4
                      refine xE ?_
                      exact cut_at H (xK ⟨[1,2], []⟩)
                  · rintro x6 H
                    rw [cond_parser_choice_j4] at H
                    refine xS ?_
                    refine xr ?_
                    refine xe ?_
                    refine xr ?_
                    refine xr ?_
                    refine xe ?_
                    refine xr ?_
                    rcases bsplit H with ⟨hp3, H⟩ | ⟨hp3, H⟩
                    · obtain ⟨F, G, hq3⟩ := xH Y G hp3
                      refine xT ?_
                      replace H := Option.some.inj H
                      refine xr ?_
                      subst H
                      refine xOr ?_
                      refine qDf [] ?_
                      exact xO ⟨[1], []⟩
                    · obtain ⟨F, G, hq3⟩ := xH Y G hp3
                      refine xE ?_
                      replace H := Option.some.inj H
                      refine xr ?_
                      subst H
                      refine xOr ?_
                      refine qDf [] ?_
                      exact xO ⟨[1], []⟩
                · have F := Y
                  refine xQp [30, 31, 32, 33] ?_
                  refine xs 2 ?_
                  refine xp ⟨[1], []⟩ (tabG 2 (cond_parser_choice_sc q1 a0 r4.2 r3.2.2.1 x5 (.er e4) hr10)) ?_
                  replace H := Option.some.inj H
                  refine xS ?_
                  subst H
                  refine xOp ?_
                  refine qDf [] ?_
                  exact xOv ⟨[1], []⟩
        · have F := Y
          refine xQp [30, 31, 32, 33] ?_
          refine xs 2 ?_
          refine xp ⟨[1], []⟩ (tabG 2 (cond_parser_choice_sc q1 a0 r2.2 r1.2.2.1 x2 (.er e2) hr5)) ?_
          replace H := Option.some.inj H
          refine xS ?_
          subst H
          refine xOp ?_
          refine qDf [] ?_
          exact xOv ⟨[1], []⟩
  · have F := Y
    refine xQp [7, 8, 3] ?_
    refine xs 1 ?_
    refine xp ⟨[1], []⟩ (tabG 0 (cond_parser_binary_sc q2 1 a0 a1 a2 a3 (.er e1) hr2)) ?_
    replace H := Option.some.inj H
    refine xS ?_
    subst H
    refine xOp ?_
    refine qDf [] ?_
    exact xOv ⟨[1], []⟩
noncomputable def cond_parser_binary_j5 (a1 : List Token) (x1 : Int) (x2 : Int) (r2 : (List UInt8)) (r4 : (Int × Int × Int × Int)) : Int → Option ((Int × Int × Int × Int) ⊕ (GR (Int × Int × Int × Int × Int × Int) (Int × Int × Int × Int)))
  | x10 => if (eqS r2 [38, 38]) = true then if (!eqI x1 0) = true then (cond_one (!eqI r4.1 0)).bind fun r5 => some (.inl (r5, r4.2.1, r4.2.2.1, x10)) else (cond_one false).bind fun r6 => some (.inl (r6, r4.2.1, r4.2.2.1, x10)) else if (eqS r2 [124, 124]) = true then if (!eqI x1 0) = true then (cond_one true).bind fun r7 => some (.inl (r7, r4.2.1, r4.2.2.1, x10)) else (cond_one (!eqI r4.1 0)).bind fun r8 => some (.inl (r8, r4.2.1, r4.2.2.1, x10)) else grB (cond_parser_op r2 x1 r4.1 x2 a1 r4.2.1 r4.2.2.1 x10) (fun r9 => some (.inl (r9, r4.2.1, r4.2.2.1, x10))) (fun e3 => inrO (some (.er (e3.1, e3.2.1, e3.2.2, x2, r4.2.2.1, x10))))
noncomputable def cond_parser_binary_j4 (q2 : Int → (List Token) → Int → Int → Int → Option (GR (Int × Int × Int × Int × Int × Int) (Int × Int × Int × Int))) (a1 : List Token) (x1 : Int) (x2 : Int) (x3 : Int) (r2 : (List UInt8)) (r3 : Int) (x7 : Int) : (Bool × Int) → Option ((Int × Int × Int × Int) ⊕ (GR (Int × Int × Int × Int × Int × Int) (Int × Int × Int × Int)))
  | (x8, x9) => grB (q2 (IntKind.i64.wrap (r3 + 1)) a1 x7 x3 x9) (fun r4 => if x8 = true then cond_parser_binary_j5 a1 x1 x2 r2 r4 (IntKind.i64.wrap (r4.2.2.2 - 1)) else cond_parser_binary_j5 a1 x1 x2 r2 r4 r4.2.2.2) (fun e2 => inrO (some (.er (e2.1, e2.2.1, e2.2.2.1, e2.2.2.2.1, e2.2.2.2.2.1, e2.2.2.2.2.2))))
noncomputable def cond_parser_binary_j3 (q2 : Int → (List Token) → Int → Int → Int → Option (GR (Int × Int × Int × Int × Int × Int) (Int × Int × Int × Int))) (a1 : List Token) (x1 : Int) (x2 : Int) (x3 : Int) (x4 : Int) (r2 : (List UInt8)) (r3 : Int) : (Bool × Int) → Option ((Int × Int × Int × Int) ⊕ (GR (Int × Int × Int × Int × Int × Int) (Int × Int × Int × Int)))
  | (x6, x7) => if x6 = true then cond_parser_binary_j4 q2 a1 x1 x2 x3 r2 r3 x7 (true, IntKind.i64.wrap (x4 + 1)) else cond_parser_binary_j4 q2 a1 x1 x2 x3 r2 r3 x7 (false, x4)
noncomputable def cond_parser_binary_j2 (q2 : Int → (List Token) → Int → Int → Int → Option (GR (Int × Int × Int × Int × Int × Int) (Int × Int × Int × Int))) (a1 : List Token) (x1 : Int) (x2 : Int) (x3 : Int) (x4 : Int) (r2 : (List UInt8)) (r3 : Int) : Bool → Option ((Int × Int × Int × Int) ⊕ (GR (Int × Int × Int × Int × Int × Int) (Int × Int × Int × Int)))
  | x5 => if x5 = true then inrO (some (.ok (x1, x2, x3, x4))) else if (eqS r2 [38, 38]) = true then if (eqI x1 0) = true then cond_parser_binary_j3 q2 a1 x1 x2 x3 x4 r2 r3 (true, IntKind.i64.wrap (x2 + 1)) else if (eqS r2 [124, 124]) = true then cond_parser_binary_j3 q2 a1 x1 x2 x3 x4 r2 r3 (true, IntKind.i64.wrap (x2 + 1)) else cond_parser_binary_j3 q2 a1 x1 x2 x3 x4 r2 r3 (false, IntKind.i64.wrap (x2 + 1)) else if (eqS r2 [124, 124]) = true then cond_parser_binary_j3 q2 a1 x1 x2 x3 x4 r2 r3 (!eqI x1 0, IntKind.i64.wrap (x2 + 1)) else cond_parser_binary_j3 q2 a1 x1 x2 x3 x4 r2 r3 (false, IntKind.i64.wrap (x2 + 1))
noncomputable def cond_parser_binary_b1 (q2 : Int → (List Token) → Int → Int → Int → Option (GR (Int × Int × Int × Int × Int × Int) (Int × Int × Int × Int))) (a0 : Int) (a1 : List Token) : (Int × Int × Int × Int) → Option ((Int × Int × Int × Int) ⊕ (GR (Int × Int × Int × Int × Int × Int) (Int × Int × Int × Int)))
  | (x1, x2, x3, x4) => (cond_parser_peek a1 x2 x3 x4).bind fun r2 => (cond_tight r2).bind fun r3 => if (eqI r3 0) = true then cond_parser_binary_j2 q2 a1 x1 x2 x3 x4 r2 r3 true else cond_parser_binary_j2 q2 a1 x1 x2 x3 x4 r2 r3 (ltI r3 a0)
noncomputable def cond_parser_binary_s (q1 : (List Token) → Int → Int → Int → Option (GR (Int × Int × Int × Int × Int × Int) (Int × Int × Int × Int))) (q2 : Int → (List Token) → Int → Int → Int → Option (GR (Int × Int × Int × Int × Int × Int) (Int × Int × Int × Int))) (q3 : (List Token) → Int → Int → Int → Option (GR (Int × Int × Int × Int × Int × Int) (Int × Int × Int × Int))) (a0 : Int) (a1 : List Token) (a2 : Int) (a3 : Int) (a4 : Int) : Option (GR (Int × Int × Int × Int × Int × Int) (Int × Int × Int × Int)) :=
  grB (q3 a1 a2 a3 a4) (fun r1 => loopO (cond_parser_binary_b1 q2 a0 a1) (r1.1, r1.2.1, r1.2.2.1, r1.2.2.2)) (fun e1 => some (.er (e1.1, e1.2.1, e1.2.2.1, e1.2.2.2.1, e1.2.2.2.2.1, e1.2.2.2.2.2)))
set_option maxRecDepth 100000 in
set_option maxHeartbeats 4000000 in
theorem cond_parser_binary_sok (q1 : (List Token) → Int → Int → Int → Option (GR (Int × Int × Int × Int × Int × Int) (Int × Int × Int × Int))) (q2 : Int → (List Token) → Int → Int → Int → Option (GR (Int × Int × Int × Int × Int × Int) (Int × Int × Int × Int))) (q3 : (List Token) → Int → Int → Int → Option (GR (Int × Int × Int × Int × Int × Int) (Int × Int × Int × Int))) (kq1 : Kok Tryd.prog 23 false (SF_cond_parser_choice q1)) (kq2 : Kok Tryd.prog 34 false (SF_cond_parser_binary q2)) (kq3 : Kok Tryd.prog 43 false (SF_cond_parser_atom q3)) : ∀ g, SF_cond_parser_binary (cond_parser_binary_s q1 q2 q3) g → GenOk Tryd.prog 34 g := by
  rintro _ ⟨a0, a1, a2, a3, a4, r, H, rfl⟩
  refine xGn mixed [(45, pf_cond_tight), (46, pf_cond_one)] [(43, false, (SF_cond_parser_atom q3)), (44, true, S_cond_parser_peek), (34, false, (SF_cond_parser_binary q2)), (47, false, S_cond_parser_op)] [] ⟨⟨call_45, cond_tight_ok⟩, ⟨call_46, cond_one_ok⟩, trivial⟩ ⟨kq3, cond_parser_peek_k, kq2, cond_parser_op_k, trivial⟩ trivial Tryd.func34 _ ?_
  have G := True.intro
  have Y := xZ y_3 <| xZ y_55 <| xZ Tryd.results34 <| xZ d_Call.eq_1 <| xZ d_Token.eq_1 <| xZ g_cond_parser_atom.eq_1 <| xZ g_cond_parser_peek.eq_1 <| xZ g_cond_parser_binary.eq_1 <| xZ g_cond_parser_op.eq_1 <| g_cond_parser_binary.eq_1
  dsimp only [g_cond_parser_binary]
  simp only [cond_parser_binary_s] at H
  refine xS ?_
  refine xr ?_
  rcases rsplit H with ⟨r1, hr1, H⟩ | ⟨e1, hr2, H⟩
  · have F := Y
    refine xQ ?_
    refine xs 1 ?_
    refine xc ⟨[1], []⟩ (tabG 0 (cond_parser_atom_sc q3 a1 a2 a3 a4 (.ok r1) hr1)) ?_
    refine xs 1 ?_
    refine xl ?_
    refine xS ?_
    refine w_loop (cond_parser_binary_b1 q2 a0 a1) (fun s => [(0, .c (.pt 1 0)), (1, .c (.d (.v (.int .i64 a0)))), (5, .c (.d (.v (.int .i64 s.1))))]) (fun s => [[.d (.sl 11 (List.map d_Token a1)), .d (.v (.int .i64 s.2.1)), .d (.v (.int .i64 s.2.2.1)), .d (.v (.int .i64 s.2.2.2))]]) [] H (xK ⟨[1], []⟩) ?_
    rintro n1 ⟨x1, x2, x3, x4⟩ o1 H hF1
    rw [cond_parser_binary_b1] at H
    refine xS ?_
    obtain ⟨r2, hr3, H⟩ := osplit H
    have F := Y
    refine xQ ?_
    refine xs 1 ?_
    refine xc ⟨[1], []⟩ (tabG 1 (cond_parser_peek_c a1 x2 x3 x4 r2 hr3)) ?_
    refine xs 1 ?_
    refine xl ?_
    refine xS ?_
    obtain ⟨r3, hr4, H⟩ := osplit H
    have F := xC Y (cond_tight_c r2 r3 hr4)
    refine xR0 ?_
    refine then_normal ?_
    refine w_seq ?_
    refine w_cut (cond_parser_binary_j2 q2 a1 x1 x2 x3 x4 r2 r3) (fun s => [(0, .c (.pt 1 0)), (1, .c (.d (.v (.int .i64 a0)))), (5, .c (.d (.v (.int .i64 x1)))), (6, .c (.d (.v (str r2)))), (7, .c (.d (.v (.int .i64 r3)))), (23, .c (.d (.v (.bool s))))]) (fun s => [[.d (.sl 11 (List.map d_Token a1)), .d (.v (.int .i64 x2)), .d (.v (.int .i64 x3)), .d (.v (.int .i64 x4))]]) [] o1 ?_ ?_
    · rcases bsplit H with ⟨hp12, H⟩ | ⟨hp12, H⟩
      · obtain ⟨F, G, hq12⟩ := xH Y G hp12
        refine xR ?_
        exact cut_at H (xK ⟨[1], []⟩)
      · obtain ⟨F, G, hq12⟩ := xH Y G hp12
        refine xR ?_
        exact cut_at H (xK ⟨[1], []⟩)
    · rintro x5 H
      rw [cond_parser_binary_j2] at H
      rcases bsplit H with ⟨hp1, H⟩ | ⟨hp1, H⟩
      · obtain ⟨F, G, hq1⟩ := xH Y G hp1
        refine xT ?_
        replace H := inrO_fin H hF1
        replace H := Option.some.inj H
        refine xr ?_
        subst H
        refine xOr ?_
        refine qDf [] ?_
        exact xO ⟨[1], []⟩
      · obtain ⟨F, G, hq1⟩ := xH Y G hp1
        refine xE ?_
        refine xr ?_
        refine xr0 ?_
        refine then_normal ?_
        refine w_cut (cond_parser_binary_j3 q2 a1 x1 x2 x3 x4 r2 r3) (fun s => [(0, .c (.pt 1 0)), (1, .c (.d (.v (.int .i64 a0)))), (5, .c (.d (.v (.int .i64 x1)))), (6, .c (.d (.v (str r2)))), (7, .c (.d (.v (.int .i64 r3)))), (8, .c (.d (.v (.int .i64 x2)))), (9, .c (.d (.v (.bool s.1))))]) (fun s => [[.d (.sl 11 (List.map d_Token a1)), .d (.v (.int .i64 s.2)), .d (.v (.int .i64 x3)), .d (.v (.int .i64 x4))]]) [] o1 ?_ ?_
        · rcases bsplit H with ⟨hp8, H⟩ | ⟨hp8, H⟩
          · obtain ⟨F, G, hq8⟩ := xH Y G hp8
            rcases bsplit H with ⟨hp9, H⟩ | ⟨hp9, H⟩
            · obtain ⟨F, G, hq9⟩ := xH F G hp9
              refine xR ?_
              exact cut_at H (xK ⟨[1], []⟩)
            · obtain ⟨F, G, hq9⟩ := xH F G hp9
              rcases bsplit H with ⟨hp10, H⟩ | ⟨hp10, H⟩
              · obtain ⟨F, G, hq10⟩ := xH F G hp10
                refine xR ?_
                exact cut_at H (xK ⟨[1], []⟩)
              · obtain ⟨F, G, hq10⟩ := xH F G hp10
                refine xR ?_
                exact cut_at H (xK ⟨[1], []⟩)
          · obtain ⟨F, G, hq8⟩ := xH Y G hp8
            rcases bsplit H with ⟨hp11, H⟩ | ⟨hp11, H⟩
            · obtain ⟨F, G, hq11⟩ := xH F G hp11
              refine xR ?_
              exact cut_at H (xK ⟨[1], []⟩)
            · obtain ⟨F, G, hq11⟩ := xH F G hp11
              refine xR ?_
              exact cut_at H (xK ⟨[1], []⟩)
        · rintro ⟨x6, x7⟩ H
          rw [cond_parser_binary_j3] at H
          refine w_cut (cond_parser_binary_j4 q2 a1 x1 x2 x3 r2 r3 x7) (fun s => [(0, .c (.pt 1 0)), (1, .c (.d (.v (.int .i64 a0)))), (5, .c (.d (.v (.int .i64 x1)))), (6, .c (.d (.v (str r2)))), (7, .c (.d (.v (.int .i64 r3)))), (8, .c (.d (.v (.int .i64 x2)))), (9, .c (.d (.v (.bool s.1))))]) (fun s => [[.d (.sl 11 (List.map d_Token a1)), .d (.v (.int .i64 x7)), .d (.v (.int .i64 x3)), .d (.v (.int .i64 s.2))]]) [] o1 ?_ ?_
          · refine xS ?_
            refine xr ?_
            rcases bsplit H with ⟨hp7, H⟩ | ⟨hp7, H⟩
            · obtain ⟨F, G, hq7⟩ := xH Y G hp7
              refine xT ?_
              refine xr ?_
              exact cut_at H (xK ⟨[1], []⟩)
            · obtain ⟨F, G, hq7⟩ := xH Y G hp7
              refine xE ?_
              exact cut_at H (xK ⟨[1], []⟩)
          · rintro ⟨x8, x9⟩ H
            rw [cond_parser_binary_j4] at H
            refine xS ?_
            rcases rsplit H with ⟨r4, hr5, H⟩ | ⟨e2, hr6, H⟩
            · have F := Y
              refine xQ ?_
              refine xs 3 ?_
              refine xc ⟨[1], []⟩ (tabG 2 (cond_parser_binary_sc q2 (IntKind.i64.wrap (r3 + 1)) a1 x7 x3 x9 (.ok r4) hr5)) ?_
              refine xs 1 ?_
              refine xl ?_
              refine  ?_
              refine then_normal ?_
              refine w_cut (cond_parser_binary_j5 a1 x1 x2 r2 r4) (fun s => [(0, .c (.pt 1 0)), (1, .c (.d (.v (.int .i64 a0)))), (5, .c (.d (.v (.int .i64 x1)))), (6, .c (.d (.v (str r2)))), (8, .c (.d (.v (.int .i64 x2)))), (10, .c (.d (.v (.int .i64 r4.1))))]) (fun s => [[.d (.sl 11 (List.map d_Token a1)), .d (.v (.int .i64 r4.2.1)), .d (.v (.int .i64 r4.2.2.1)), .d (.v (.int .i64 s))]]) [] o1 ?_ ?_
              · refine xS ?_
                refine xr ?_
                rcases bsplit H with ⟨hp6, H⟩ | ⟨hp6, H⟩
                · obtain ⟨F, G, hq6⟩ := xH Y G hp6
                  refine xT ?_
                  refine xr ?_
                  exact cut_at H (xK ⟨[1], []⟩)
                · obtain ⟨F, G, hq6⟩ := xH Y G hp6
                  refine xE ?_
                  exact cut_at H (xK ⟨[1], []⟩)
              · rintro x10 H
                rw [cond_parser_binary_j5] at H
                refine xS ?_
                refine xr ?_
                refine xr ?_
                rcases bsplit H with ⟨hp2, H⟩ | ⟨hp2, H⟩
                · obtain ⟨F, G, hq2⟩ := xH Y G hp2
                  refine xT ?_
                  rcases bsplit H with ⟨hp3, H⟩ | ⟨hp3, H⟩
                  · obtain ⟨F, G, hq3⟩ := xH Y G hp3
                    obtain ⟨r5, hr7, H⟩ := osplit H
                    have F := xCf F (cond_one_c (!eqI r4.1 0) r5 hr7)
                    refine xR ?_
                    exact round_at (inl_fin H hF1) (xK ⟨[1], []⟩)
                  · obtain ⟨F, G, hq3⟩ := xH Y G hp3
                    obtain ⟨r6, hr8, H⟩ := osplit H
                    have F := xCf F (cond_one_c false r6 hr8)
                    refine xR ?_
                    exact round_at (inl_fin H hF1) (xK ⟨[1], []⟩)
                · obtain ⟨F, G, hq2⟩ := xH Y G hp2
                  refine xE ?_
                  refine xr ?_
                  rcases bsplit H with ⟨hp4, H⟩ | ⟨hp4, H⟩
                  · obtain ⟨F, G, hq4⟩ := xH Y G hp4
                    refine xT ?_
                    rcases bsplit H with ⟨hp5, H⟩ | ⟨hp5, H⟩
                    · obtain ⟨F, G, hq5⟩ := xH Y G hp5
                      obtain ⟨r7, hr9, H⟩ := osplit H
                      have F := xCf F (cond_one_c true r7 hr9)
                      refine xR ?_
                      exact round_at (inl_fin H hF1) (xK ⟨[1], []⟩)
                    · obtain ⟨F, G, hq5⟩ := xH Y G hp5
                      obtain ⟨r8, hr10, H⟩ := osplit H
                      have F := xCf F (cond_one_c (!eqI r4.1 0) r8 hr10)
                      refine xR ?_
                      exact round_at (inl_fin H hF1) (xK ⟨[1], []⟩)
                  · obtain ⟨F, G, hq4⟩ := xH Y G hp4
                    refine xE ?_
                    rcases rsplit H with ⟨r9, hr11, H⟩ | ⟨e3, hr12, H⟩
                    · have F := Y
                      refine xQ ?_
                      refine xs 5 ?_
                      refine xc ⟨[1], []⟩ (tabG 3 (cond_parser_op_c r2 x1 r4.1 x2 a1 r4.2.1 r4.2.2.1 x10 (.ok r9) hr11)) ?_
                      refine xs 1 ?_
                      refine xl ?_
                      refine xS ?_
                      exact round_at (inl_fin H hF1) (xK ⟨[1], []⟩)
                    · have F := Y
                      refine xQp [71, 72, 73, 74, 75, 76, 5] ?_
                      refine xs 5 ?_
                      refine xp ⟨[1], []⟩ (tabG 3 (cond_parser_op_c r2 x1 r4.1 x2 a1 r4.2.1 r4.2.2.1 x10 (.er e3) hr12)) ?_
                      replace H := inrO_fin H hF1
                      replace H := Option.some.inj H
                      refine xS ?_
                      subst H
                      refine xOp ?_
                      refine qDf [] ?_
                      exact xOv ⟨[1], []⟩
            · have F := Y
              refine xQp [58, 59, 60, 61, 10] ?_
              refine xs 3 ?_
              refine xp ⟨[1], []⟩ (tabG 2 (cond_parser_binary_sc q2 (IntKind.i64.wrap (r3 + 1)) a1 x7 x3 x9 (.er e2) hr6)) ?_
              replace H := inrO_fin H hF1
              replace H := Option.some.inj H
              refine xS ?_
              subst H
              refine xOp ?_
              refine qDf [] ?_
              exact xOv ⟨[1], []⟩
  · have F := Y
    refine xQp [11, 12, 5] ?_
    refine xs 1 ?_
    refine xp ⟨[1], []⟩ (tabG 0 (cond_parser_atom_sc q3 a1 a2 a3 a4 (.er e1) hr2)) ?_
    replace H := Option.some.inj H
    refine xS ?_
    subst H
    refine xOp ?_
    refine qDf [] ?_
    exact xOv ⟨[1], []⟩
noncomputable def cond_parser_atom_j2 (a0 : List Token) (a1 : Int) (a3 : Int) (x2 : Int) : (Int × Bool) → Option (GR (Int × Int × Int × Int × Int × Int) (Int × Int × Int × Int))
  | (x14, x15) => if (!x15) = true then (cond_parser_fail 3 a0 a1 x2 a3).bind fun e3 => (cond_parser_atom_1 a0 a1 x2 a3).bind fun r7 => some (.er (3, e3.1, e3.2, a1, r7, a3)) else (cond_parser_atom_1 a0 (IntKind.i64.wrap (a1 + 1)) x2 a3).bind fun r8 => some (.ok (x14, (IntKind.i64.wrap (a1 + 1)), r8, a3))
noncomputable def cond_parser_atom_j1 (q3 : (List Token) → Int → Int → Int → Option (GR (Int × Int × Int × Int × Int × Int) (Int × Int × Int × Int))) (q1 : (List Token) → Int → Int → Int → Option (GR (Int × Int × Int × Int × Int × Int) (Int × Int × Int × Int))) (a0 : List Token) (a1 : Int) (a3 : Int) : (Bool × Int × Int × (List UInt8) × Bool × Bool × Int × Int × Int × Int × (List (List UInt8)) × (List Call) × Int) → Option (GR (Int × Int × Int × Int × Int × Int) (Int × Int × Int × Int))
  | (x1, x2, x3, x4, x5, x6, x7, x8, x9, x10, x11, x12, x13) => if x1 = true then (cond_Num x4).bind fun r5 => if (eqI x3 3) = true then (cond_Char x4).bind fun r9 => cond_parser_atom_j2 a0 a1 a3 x2 (r9.1, r9.2) else cond_parser_atom_j2 a0 a1 a3 x2 (r5.1, r5.2) else (cond_parser_eat [40] a0 a1 x2 a3).bind fun r10 => if r10.1 = true then grB (q1 a0 r10.2 x2 a3) (fun r11 => (cond_parser_eat [41] a0 r11.2.1 r11.2.2.1 r11.2.2.2).bind fun r12 => if (!r12.1) = true then (cond_parser_fail 2 a0 r12.2 r11.2.2.1 r11.2.2.2).bind fun e5 => (cond_parser_atom_1 a0 r12.2 r11.2.2.1 r11.2.2.2).bind fun r14 => some (.er (2, e5.1, e5.2, r12.2, r14, r11.2.2.2)) else (cond_parser_atom_1 a0 r12.2 r11.2.2.1 r11.2.2.2).bind fun r15 => some (.ok (r11.1, r12.2, r15, r11.2.2.2))) (fun e4 => (cond_parser_atom_1 a0 e4.2.2.2.1 e4.2.2.2.2.1 e4.2.2.2.2.2).bind fun r16 => some (.er (e4.1, e4.2.1, e4.2.2.1, e4.2.2.2.1, r16, e4.2.2.2.2.2))) else (cond_parser_eat [45] a0 r10.2 x2 a3).bind fun r17 => if r17.1 = true then grB (q3 a0 r17.2 x2 a3) (fun r18 => (cond_parser_atom_1 a0 r18.2.1 r18.2.2.1 r18.2.2.2).bind fun r19 => some (.ok (IntKind.i64.wrap (0 - r18.1), r18.2.1, r19, r18.2.2.2))) (fun e6 => (cond_parser_atom_1 a0 e6.2.2.2.1 e6.2.2.2.2.1 e6.2.2.2.2.2).bind fun r20 => some (.er (e6.1, e6.2.1, e6.2.2.1, e6.2.2.2.1, r20, e6.2.2.2.2.2))) else (cond_parser_eat [43] a0 r17.2 x2 a3).bind fun r21 => if r21.1 = true then grB (q3 a0 r21.2 x2 a3) (fun r22 => (cond_parser_atom_1 a0 r22.2.1 r22.2.2.1 r22.2.2.2).bind fun r23 => some (.ok (r22.1, r22.2.1, r23, r22.2.2.2))) (fun e7 => (cond_parser_atom_1 a0 e7.2.2.2.1 e7.2.2.2.2.1 e7.2.2.2.2.2).bind fun r24 => some (.er (e7.1, e7.2.1, e7.2.2.1, e7.2.2.2.1, r24, e7.2.2.2.2.2))) else (cond_parser_eat [126] a0 r21.2 x2 a3).bind fun r25 => if r25.1 = true then grB (q3 a0 r25.2 x2 a3) (fun r26 => (cond_parser_atom_1 a0 r26.2.1 r26.2.2.1 r26.2.2.2).bind fun r27 => some (.ok (IntKind.i64.wrap ((BitVec.ofInt IntKind.i64.bits (-1)) ^^^ (BitVec.ofInt IntKind.i64.bits r26.1)).toNat, r26.2.1, r27, r26.2.2.2))) (fun e8 => (cond_parser_atom_1 a0 e8.2.2.2.1 e8.2.2.2.2.1 e8.2.2.2.2.2).bind fun r28 => some (.er (e8.1, e8.2.1, e8.2.2.1, e8.2.2.2.1, r28, e8.2.2.2.2.2))) else (cond_parser_eat [33] a0 r25.2 x2 a3).bind fun r29 => if r29.1 = true then grB (q3 a0 r29.2 x2 a3) (fun r30 => (cond_one (eqI r30.1 0)).bind fun r31 => (cond_parser_atom_1 a0 r30.2.1 r30.2.2.1 r30.2.2.2).bind fun r32 => some (.ok (r31, r30.2.1, r32, r30.2.2.2))) (fun e9 => (cond_parser_atom_1 a0 e9.2.2.2.1 e9.2.2.2.2.1 e9.2.2.2.2.2).bind fun r33 => some (.er (e9.1, e9.2.1, e9.2.2.1, e9.2.2.2.1, r33, e9.2.2.2.2.2))) else (cond_parser_fail 2 a0 r29.2 x2 a3).bind fun e10 => (cond_parser_atom_1 a0 r29.2 x2 a3).bind fun r35 => some (.er (2, e10.1, e10.2, r29.2, r35, a3))
noncomputable def cond_parser_atom_s (q1 : (List Token) → Int → Int → Int → Option (GR (Int × Int × Int × Int × Int × Int) (Int × Int × Int × Int))) (q2 : Int → (List Token) → Int → Int → Int → Option (GR (Int × Int × Int × Int × Int × Int) (Int × Int × Int × Int))) (q3 : (List Token) → Int → Int → Int → Option (GR (Int × Int × Int × Int × Int × Int) (Int × Int × Int × Int))) (a0 : List Token) (a1 : Int) (a2 : Int) (a3 : Int) : Option (GR (Int × Int × Int × Int × Int × Int) (Int × Int × Int × Int)) :=
  if (eqI a2 30) = true then (cond_parser_fail 10 a0 a1 a2 a3).bind fun e1 => some (.er (10, e1.1, e1.2, a1, a2, a3)) else if (eqI a1 (a0.length : Int)) = true then (cond_parser_fail 9 a0 a1 (IntKind.i64.wrap (a2 + 1)) a3).bind fun e2 => (cond_parser_atom_1 a0 a1 (IntKind.i64.wrap (a2 + 1)) a3).bind fun r3 => some (.er (9, e2.1, e2.2, a1, r3, a3)) else if (0 : Int) ≤ a1 ∧ a1.toNat < a0.length then if (eqI ((a0.getD a1.toNat default).Kind) 1) = true then (cond_parser_atom_1 a0 (IntKind.i64.wrap (a1 + 1)) (IntKind.i64.wrap (a2 + 1)) a3).bind fun r4 => some (.ok (0, (IntKind.i64.wrap (a1 + 1)), r4, a3)) else if (eqI ((a0.getD a1.toNat default).Kind) 2) = true then cond_parser_atom_j1 q3 q1 a0 a1 a3 (true, IntKind.i64.wrap (a2 + 1), (a0.getD a1.toNat default).Kind, (a0.getD a1.toNat default).Text, (a0.getD a1.toNat default).Space, (a0.getD a1.toNat default).First, (a0.getD a1.toNat default).File, (a0.getD a1.toNat default).At, (a0.getD a1.toNat default).End, (a0.getD a1.toNat default).Line, (a0.getD a1.toNat default).Hide, (a0.getD a1.toNat default).Calls, (a0.getD a1.toNat default).Made) else cond_parser_atom_j1 q3 q1 a0 a1 a3 (eqI ((a0.getD a1.toNat default).Kind) 3, IntKind.i64.wrap (a2 + 1), (a0.getD a1.toNat default).Kind, (a0.getD a1.toNat default).Text, (a0.getD a1.toNat default).Space, (a0.getD a1.toNat default).First, (a0.getD a1.toNat default).File, (a0.getD a1.toNat default).At, (a0.getD a1.toNat default).End, (a0.getD a1.toNat default).Line, (a0.getD a1.toNat default).Hide, (a0.getD a1.toNat default).Calls, (a0.getD a1.toNat default).Made) else none
set_option maxRecDepth 100000 in
set_option maxHeartbeats 4000000 in
theorem cond_parser_atom_sok (q1 : (List Token) → Int → Int → Int → Option (GR (Int × Int × Int × Int × Int × Int) (Int × Int × Int × Int))) (q2 : Int → (List Token) → Int → Int → Int → Option (GR (Int × Int × Int × Int × Int × Int) (Int × Int × Int × Int))) (q3 : (List Token) → Int → Int → Int → Option (GR (Int × Int × Int × Int × Int × Int) (Int × Int × Int × Int))) (kq1 : Kok Tryd.prog 23 false (SF_cond_parser_choice q1)) (kq2 : Kok Tryd.prog 34 false (SF_cond_parser_binary q2)) (kq3 : Kok Tryd.prog 43 false (SF_cond_parser_atom q3)) : ∀ g, SF_cond_parser_atom (cond_parser_atom_s q1 q2 q3) g → GenOk Tryd.prog 43 g := by
  rintro _ ⟨a0, a1, a2, a3, r, H, rfl⟩
  refine xGn mixed [(10, pf_cond_Num), (12, pf_cond_Char), (46, pf_cond_one)] [(24, false, S_cond_parser_fail), (35, true, S_cond_parser_eat), (23, false, (SF_cond_parser_choice q1)), (43, false, (SF_cond_parser_atom q3))] [(58, SD_cond_parser_atom_1)] ⟨⟨call_10, cond_Num_ok⟩, ⟨call_12, cond_Char_ok⟩, ⟨call_46, cond_one_ok⟩, trivial⟩ ⟨cond_parser_fail_k, cond_parser_eat_k, kq1, kq3, trivial⟩ ⟨⟨call_58, cond_parser_atom_1_dok⟩, trivial⟩ Tryd.func43 _ ?_
  have G := True.intro
  have Y := xZ y_3 <| xZ y_9 <| xZ y_22 <| xZ y_47 <| xZ y_53 <| xZ y_55 <| xZ Tryd.results43 <| xZ d_Call.eq_1 <| xZ d_Token.eq_1 <| xZ g_cond_parser_fail.eq_1 <| xZ g_cond_parser_eat.eq_1 <| xZ g_cond_parser_choice.eq_1 <| xZ g_cond_parser_atom.eq_1 <| xZ di_cond_parser_atom_1.eq_1 <| g_cond_parser_atom.eq_1
  dsimp only [g_cond_parser_atom]
  simp only [cond_parser_atom_s] at H
  refine xS ?_
  refine xr ?_
  refine xr ?_
  rcases bsplit H with ⟨hp1, H⟩ | ⟨hp1, H⟩
  · obtain ⟨F, G, hq1⟩ := xH Y G hp1
    refine xT ?_
    obtain ⟨e1, hr2, H⟩ := osplit H
    have F := Y
    refine xQp [12, 13] ?_
    refine xs 1 ?_
    refine xp ⟨[1], []⟩ (tabG 0 (cond_parser_fail_c 10 a0 a1 a2 a3 e1 hr2)) ?_
    replace H := Option.some.inj H
    refine xS ?_
    subst H
    refine xOp ?_
    refine qDf [] ?_
    exact xOv ⟨[1], []⟩
  · obtain ⟨F, G, hq1⟩ := xH Y G hp1
    refine xE ?_
    refine xr ?_
    have F := Y
    refine xQ ?_
    refine xs 1 ?_
    refine xw ?_
    refine xl ?_
    refine xS ?_
    refine xr ?_
    rcases bsplit H with ⟨hp2, H⟩ | ⟨hp2, H⟩
    · obtain ⟨F, G, hq2⟩ := xH Y G hp2
      refine xT ?_
      obtain ⟨e2, hr4, H⟩ := osplit H
      have F := Y
      refine xQp [32, 33] ?_
      refine xs 1 ?_
      refine xp ⟨[1], []⟩ (tabG 0 (cond_parser_fail_c 9 a0 a1 (IntKind.i64.wrap (a2 + 1)) a3 e2 hr4)) ?_
      refine xS ?_
      refine xOp ?_
      refine qDf [(58, [.pt 2 0])] ?_
      obtain ⟨r3, hr5, H⟩ := osplit H
      refine xD ⟨[2, 1], []⟩ (tabD 0 (cond_parser_atom_1_dc a0 a1 (IntKind.i64.wrap (a2 + 1)) a3 r3 (some (.iface 52 (.agg ⟨[.int .i64 9, .int .i64 e2.1, .int .i64 e2.2]⟩))) hr5)) ?_
      replace H := Option.some.inj H
      subst H
      exact xOv ⟨[1], []⟩
    · obtain ⟨F, G, hq2⟩ := xH Y G hp2
      refine xE ?_
      obtain ⟨hg1, H⟩ := gsplit H
      have F := xZ Y (map_getD d_Token a0 a1.toNat default default (by omega))
      refine xR ?_
      refine xr ?_
      rcases bsplit H with ⟨hp3, H⟩ | ⟨hp3, H⟩
      · obtain ⟨F, G, hq3⟩ := xH Y G hp3
        refine xT ?_
        refine xr ?_
        refine xr ?_
        refine xOr ?_
        refine qDf [(58, [.pt 2 0])] ?_
        obtain ⟨r4, hr6, H⟩ := osplit H
        refine xD ⟨[2, 1], []⟩ (tabD 0 (cond_parser_atom_1_dc a0 (IntKind.i64.wrap (a1 + 1)) (IntKind.i64.wrap (a2 + 1)) a3 r4 none hr6)) ?_
        replace H := Option.some.inj H
        subst H
        exact xO ⟨[1], []⟩
      · obtain ⟨F, G, hq3⟩ := xH Y G hp3
        refine xE0 ?_
        refine w_cut (cond_parser_atom_j1 q3 q1 a0 a1 a3) (fun s => [(1, .c (.pt 2 0)), (3, .c (.pt 3 0)), (55, .c (.d (.v (.bool s.1)))), (1000000, .df [(58, [.pt 2 0])])]) (fun s => [[.d (.sl 11 (List.map d_Token a0)), .d (.v (.int .i64 a1)), .d (.v (.int .i64 s.2.1)), .d (.v (.int .i64 a3))], [.pt 1 0], [.d (.v (.int .i64 s.2.2.1)), .d (.v (str s.2.2.2.1)), .d (.v (.bool s.2.2.2.2.1)), .d (.v (.bool s.2.2.2.2.2.1)), .d (.v (.int .i64 s.2.2.2.2.2.2.1)), .d (.v (.int .i64 s.2.2.2.2.2.2.2.1)), .d (.v (.int .i64 s.2.2.2.2.2.2.2.2.1)), .d (.v (.int .i64 s.2.2.2.2.2.2.2.2.2.1)), .d (.sl 1 (List.map dS s.2.2.2.2.2.2.2.2.2.2.1)), .d (.sl 3 (List.map d_Call s.2.2.2.2.2.2.2.2.2.2.2.1)), .d (.v (.int .i64 s.2.2.2.2.2.2.2.2.2.2.2.2))]]) [] r ?_ ?_
        · rcases bsplit H with ⟨hp13, H⟩ | ⟨hp13, H⟩
          · obtain ⟨F, G, hq13⟩ := xH Y G hp13
            refine xR ?_
            exact cut_at H (xK ⟨[1,2,3], []⟩)
          · obtain ⟨F, G, hq13⟩ := xH Y G hp13
            refine xR ?_
            exact cut_at H (xK ⟨[1,2,3], []⟩)
        · rintro ⟨x1, x2, x3, x4, x5, x6, x7, x8, x9, x10, x11, x12, x13⟩ H
          rw [cond_parser_atom_j1] at H
          rcases bsplit H with ⟨hp4, H⟩ | ⟨hp4, H⟩
          · obtain ⟨F, G, hq4⟩ := xH Y G hp4
            refine xT ?_
            obtain ⟨r5, hr7, H⟩ := osplit H
            have F := xC Y (cond_Num_c x4 r5 hr7)
            refine xR0 ?_
            refine then_normal ?_
            refine w_cut (cond_parser_atom_j2 a0 a1 a3 x2) (fun s => [(1, .c (.pt 2 0)), (4, .c (.d (.v (.int .i64 s.1)))), (5, .c (.d (.v (.bool s.2)))), (1000000, .df [(58, [.pt 2 0])])]) (fun s => [[.d (.sl 11 (List.map d_Token a0)), .d (.v (.int .i64 a1)), .d (.v (.int .i64 x2)), .d (.v (.int .i64 a3))], [.pt 1 0]]) [] r ?_ ?_
            · refine xS ?_
              refine xr ?_
              rcases bsplit H with ⟨hp6, H⟩ | ⟨hp6, H⟩
              · obtain ⟨F, G, hq6⟩ := xH Y G hp6
                refine xT ?_
                obtain ⟨r9, hr12, H⟩ := osplit H
                have F := xC Y (cond_Char_c x4 r9 hr12)
                refine xR ?_
                exact cut_at H (xK ⟨[1,2], []⟩)
              · obtain ⟨F, G, hq6⟩ := xH Y G hp6
                refine xE ?_
                exact cut_at H (xK ⟨[1,2], []⟩)
            · rintro ⟨x14, x15⟩ H
              rw [cond_parser_atom_j2] at H
              refine xS ?_
              refine xr ?_
              rcases bsplit H with ⟨hp5, H⟩ | ⟨hp5, H⟩
              · obtain ⟨F, G, hq5⟩ := xH Y G hp5
                refine xT ?_
                obtain ⟨e3, hr9, H⟩ := osplit H
                have F := Y
                refine xQp [81, 82] ?_
                refine xs 1 ?_
                refine xp ⟨[1], []⟩ (tabG 0 (cond_parser_fail_c 3 a0 a1 x2 a3 e3 hr9)) ?_
                refine xS ?_
                refine xOp ?_
                refine qDf [(58, [.pt 2 0])] ?_
                obtain ⟨r7, hr10, H⟩ := osplit H
                refine xD ⟨[2, 1], []⟩ (tabD 0 (cond_parser_atom_1_dc a0 a1 x2 a3 r7 (some (.iface 52 (.agg ⟨[.int .i64 3, .int .i64 e3.1, .int .i64 e3.2]⟩))) hr10)) ?_
                replace H := Option.some.inj H
                subst H
                exact xOv ⟨[1], []⟩
              · obtain ⟨F, G, hq5⟩ := xH Y G hp5
                refine xE ?_
                refine xr ?_
                refine xr ?_
                refine xOr ?_
                refine qDf [(58, [.pt 2 0])] ?_
                obtain ⟨r8, hr11, H⟩ := osplit H
                refine xD ⟨[2, 1], []⟩ (tabD 0 (cond_parser_atom_1_dc a0 (IntKind.i64.wrap (a1 + 1)) x2 a3 r8 none hr11)) ?_
                replace H := Option.some.inj H
                subst H
                exact xO ⟨[1], []⟩
          · obtain ⟨F, G, hq4⟩ := xH Y G hp4
            refine xE ?_
            obtain ⟨r10, hr13, H⟩ := osplit H
            have F := Y
            refine xQ ?_
            refine xs 1 ?_
            refine xc ⟨[1], []⟩ (tabG 1 (cond_parser_eat_c [40] a0 a1 x2 a3 r10 hr13)) ?_
            refine xs 1 ?_
            refine xl ?_
            refine xS ?_
            rcases bsplit H with ⟨hp7, H⟩ | ⟨hp7, H⟩
            · obtain ⟨F, G, hq7⟩ := xH Y G hp7
              refine xT ?_
              rcases rsplit H with ⟨r11, hr14, H⟩ | ⟨e4, hr15, H⟩
              · have F := Y
                refine xQ ?_
                refine xs 1 ?_
                refine xc ⟨[1], []⟩ (tabG 2 (cond_parser_choice_sc q1 a0 r10.2 x2 a3 (.ok r11) hr14)) ?_
                refine xs 1 ?_
                refine xl ?_
                refine xS ?_
                obtain ⟨r12, hr16, H⟩ := osplit H
                have F := Y
                refine xQ ?_
                refine xs 1 ?_
                refine xc ⟨[1], []⟩ (tabG 1 (cond_parser_eat_c [41] a0 r11.2.1 r11.2.2.1 r11.2.2.2 r12 hr16)) ?_
                refine xs 1 ?_
                refine xl ?_
                refine xS ?_
                rcases bsplit H with ⟨hp8, H⟩ | ⟨hp8, H⟩
                · obtain ⟨F, G, hq8⟩ := xH Y G hp8
                  refine xT ?_
                  obtain ⟨e5, hr18, H⟩ := osplit H
                  have F := Y
                  refine xQp [99, 100] ?_
                  refine xs 1 ?_
                  refine xp ⟨[1], []⟩ (tabG 0 (cond_parser_fail_c 2 a0 r12.2 r11.2.2.1 r11.2.2.2 e5 hr18)) ?_
                  refine xS ?_
                  refine xOp ?_
                  refine qDf [(58, [.pt 2 0])] ?_
                  obtain ⟨r14, hr19, H⟩ := osplit H
                  refine xD ⟨[2, 1], []⟩ (tabD 0 (cond_parser_atom_1_dc a0 r12.2 r11.2.2.1 r11.2.2.2 r14 (some (.iface 52 (.agg ⟨[.int .i64 2, .int .i64 e5.1, .int .i64 e5.2]⟩))) hr19)) ?_
                  replace H := Option.some.inj H
                  subst H
                  exact xOv ⟨[1], []⟩
                · obtain ⟨F, G, hq8⟩ := xH Y G hp8
                  refine xE ?_
                  refine xr ?_
                  refine xOr ?_
                  refine qDf [(58, [.pt 2 0])] ?_
                  obtain ⟨r15, hr20, H⟩ := osplit H
                  refine xD ⟨[2, 1], []⟩ (tabD 0 (cond_parser_atom_1_dc a0 r12.2 r11.2.2.1 r11.2.2.2 r15 none hr20)) ?_
                  replace H := Option.some.inj H
                  subst H
                  exact xO ⟨[1], []⟩
              · have F := Y
                refine xQp [94, 95, 6] ?_
                refine xs 1 ?_
                refine xp ⟨[1], []⟩ (tabG 2 (cond_parser_choice_sc q1 a0 r10.2 x2 a3 (.er e4) hr15)) ?_
                refine xS ?_
                refine xOp ?_
                refine qDf [(58, [.pt 2 0])] ?_
                obtain ⟨r16, hr21, H⟩ := osplit H
                refine xD ⟨[2, 1], []⟩ (tabD 0 (cond_parser_atom_1_dc a0 e4.2.2.2.1 e4.2.2.2.2.1 e4.2.2.2.2.2 r16 (some (.iface 52 (.agg ⟨[.int .i64 e4.1, .int .i64 e4.2.1, .int .i64 e4.2.2.1]⟩))) hr21)) ?_
                replace H := Option.some.inj H
                subst H
                exact xOv ⟨[1], []⟩
            · obtain ⟨F, G, hq7⟩ := xH Y G hp7
              refine xE ?_
              obtain ⟨r17, hr22, H⟩ := osplit H
              have F := Y
              refine xQ ?_
              refine xs 1 ?_
              refine xc ⟨[1], []⟩ (tabG 1 (cond_parser_eat_c [45] a0 r10.2 x2 a3 r17 hr22)) ?_
              refine xs 1 ?_
              refine xl ?_
              refine xS ?_
              rcases bsplit H with ⟨hp9, H⟩ | ⟨hp9, H⟩
              · obtain ⟨F, G, hq9⟩ := xH Y G hp9
                refine xT ?_
                rcases rsplit H with ⟨r18, hr23, H⟩ | ⟨e6, hr24, H⟩
                · have F := Y
                  refine xQ ?_
                  refine xs 1 ?_
                  refine xc ⟨[1], []⟩ (tabG 3 (cond_parser_atom_sc q3 a0 r17.2 x2 a3 (.ok r18) hr23)) ?_
                  refine xs 2 ?_
                  refine xl ?_
                  refine xS ?_
                  refine xOr ?_
                  refine qDf [(58, [.pt 2 0])] ?_
                  obtain ⟨r19, hr25, H⟩ := osplit H
                  refine xD ⟨[2, 1], []⟩ (tabD 0 (cond_parser_atom_1_dc a0 r18.2.1 r18.2.2.1 r18.2.2.2 r19 none hr25)) ?_
                  replace H := Option.some.inj H
                  subst H
                  exact xO ⟨[1], []⟩
                · have F := Y
                  refine xQp [105, 106, 107, 2] ?_
                  refine xs 1 ?_
                  refine xp ⟨[1], []⟩ (tabG 3 (cond_parser_atom_sc q3 a0 r17.2 x2 a3 (.er e6) hr24)) ?_
                  refine xS ?_
                  refine xOp ?_
                  refine qDf [(58, [.pt 2 0])] ?_
                  obtain ⟨r20, hr26, H⟩ := osplit H
                  refine xD ⟨[2, 1], []⟩ (tabD 0 (cond_parser_atom_1_dc a0 e6.2.2.2.1 e6.2.2.2.2.1 e6.2.2.2.2.2 r20 (some (.iface 52 (.agg ⟨[.int .i64 e6.1, .int .i64 e6.2.1, .int .i64 e6.2.2.1]⟩))) hr26)) ?_
                  replace H := Option.some.inj H
                  subst H
                  exact xOv ⟨[1], []⟩
              · obtain ⟨F, G, hq9⟩ := xH Y G hp9
                refine xE ?_
                obtain ⟨r21, hr27, H⟩ := osplit H
                have F := Y
                refine xQ ?_
                refine xs 1 ?_
                refine xc ⟨[1], []⟩ (tabG 1 (cond_parser_eat_c [43] a0 r17.2 x2 a3 r21 hr27)) ?_
                refine xs 1 ?_
                refine xl ?_
                refine xS ?_
                rcases bsplit H with ⟨hp10, H⟩ | ⟨hp10, H⟩
                · obtain ⟨F, G, hq10⟩ := xH Y G hp10
                  refine xT ?_
                  rcases rsplit H with ⟨r22, hr28, H⟩ | ⟨e7, hr29, H⟩
                  · have F := Y
                    refine xQ ?_
                    refine xs 1 ?_
                    refine xc ⟨[1], []⟩ (tabG 3 (cond_parser_atom_sc q3 a0 r21.2 x2 a3 (.ok r22) hr28)) ?_
                    refine xs 1 ?_
                    refine xl ?_
                    refine xS ?_
                    refine xOr ?_
                    refine qDf [(58, [.pt 2 0])] ?_
                    obtain ⟨r23, hr30, H⟩ := osplit H
                    refine xD ⟨[2, 1], []⟩ (tabD 0 (cond_parser_atom_1_dc a0 r22.2.1 r22.2.2.1 r22.2.2.2 r23 none hr30)) ?_
                    replace H := Option.some.inj H
                    subst H
                    exact xO ⟨[1], []⟩
                  · have F := Y
                    refine xQp [111, 112, 2] ?_
                    refine xs 1 ?_
                    refine xp ⟨[1], []⟩ (tabG 3 (cond_parser_atom_sc q3 a0 r21.2 x2 a3 (.er e7) hr29)) ?_
                    refine xS ?_
                    refine xOp ?_
                    refine qDf [(58, [.pt 2 0])] ?_
                    obtain ⟨r24, hr31, H⟩ := osplit H
                    refine xD ⟨[2, 1], []⟩ (tabD 0 (cond_parser_atom_1_dc a0 e7.2.2.2.1 e7.2.2.2.2.1 e7.2.2.2.2.2 r24 (some (.iface 52 (.agg ⟨[.int .i64 e7.1, .int .i64 e7.2.1, .int .i64 e7.2.2.1]⟩))) hr31)) ?_
                    replace H := Option.some.inj H
                    subst H
                    exact xOv ⟨[1], []⟩
                · obtain ⟨F, G, hq10⟩ := xH Y G hp10
                  refine xE ?_
                  obtain ⟨r25, hr32, H⟩ := osplit H
                  have F := Y
                  refine xQ ?_
                  refine xs 1 ?_
                  refine xc ⟨[1], []⟩ (tabG 1 (cond_parser_eat_c [126] a0 r21.2 x2 a3 r25 hr32)) ?_
                  refine xs 1 ?_
                  refine xl ?_
                  refine xS ?_
                  rcases bsplit H with ⟨hp11, H⟩ | ⟨hp11, H⟩
                  · obtain ⟨F, G, hq11⟩ := xH Y G hp11
                    refine xT ?_
                    rcases rsplit H with ⟨r26, hr33, H⟩ | ⟨e8, hr34, H⟩
                    · have F := Y
                      refine xQ ?_
                      refine xs 1 ?_
                      refine xc ⟨[1], []⟩ (tabG 3 (cond_parser_atom_sc q3 a0 r25.2 x2 a3 (.ok r26) hr33)) ?_
                      refine xs 2 ?_
                      refine xl ?_
                      refine xS ?_
                      refine xOr ?_
                      refine qDf [(58, [.pt 2 0])] ?_
                      obtain ⟨r27, hr35, H⟩ := osplit H
                      refine xD ⟨[2, 1], []⟩ (tabD 0 (cond_parser_atom_1_dc a0 r26.2.1 r26.2.2.1 r26.2.2.2 r27 none hr35)) ?_
                      replace H := Option.some.inj H
                      subst H
                      exact xO ⟨[1], []⟩
                    · have F := Y
                      refine xQp [116, 117, 118, 2] ?_
                      refine xs 1 ?_
                      refine xp ⟨[1], []⟩ (tabG 3 (cond_parser_atom_sc q3 a0 r25.2 x2 a3 (.er e8) hr34)) ?_
                      refine xS ?_
                      refine xOp ?_
                      refine qDf [(58, [.pt 2 0])] ?_
                      obtain ⟨r28, hr36, H⟩ := osplit H
                      refine xD ⟨[2, 1], []⟩ (tabD 0 (cond_parser_atom_1_dc a0 e8.2.2.2.1 e8.2.2.2.2.1 e8.2.2.2.2.2 r28 (some (.iface 52 (.agg ⟨[.int .i64 e8.1, .int .i64 e8.2.1, .int .i64 e8.2.2.1]⟩))) hr36)) ?_
                      replace H := Option.some.inj H
                      subst H
                      exact xOv ⟨[1], []⟩
                  · obtain ⟨F, G, hq11⟩ := xH Y G hp11
                    refine xE ?_
                    obtain ⟨r29, hr37, H⟩ := osplit H
                    have F := Y
                    refine xQ ?_
                    refine xs 1 ?_
                    refine xc ⟨[1], []⟩ (tabG 1 (cond_parser_eat_c [33] a0 r25.2 x2 a3 r29 hr37)) ?_
                    refine xs 1 ?_
                    refine xl ?_
                    refine xS ?_
                    rcases bsplit H with ⟨hp12, H⟩ | ⟨hp12, H⟩
                    · obtain ⟨F, G, hq12⟩ := xH Y G hp12
                      refine xT ?_
                      rcases rsplit H with ⟨r30, hr38, H⟩ | ⟨e9, hr39, H⟩
                      · have F := Y
                        obtain ⟨r31, hr40, H⟩ := osplit H
                        have F := xCf F (cond_one_c (eqI r30.1 0) r31 hr40)
                        refine xQ ?_
                        refine xs 1 ?_
                        refine xc ⟨[1], []⟩ (tabG 3 (cond_parser_atom_sc q3 a0 r29.2 x2 a3 (.ok r30) hr38)) ?_
                        refine xs 3 ?_
                        refine xl ?_
                        refine xS ?_
                        refine xOr ?_
                        refine qDf [(58, [.pt 2 0])] ?_
                        obtain ⟨r32, hr41, H⟩ := osplit H
                        refine xD ⟨[2, 1], []⟩ (tabD 0 (cond_parser_atom_1_dc a0 r30.2.1 r30.2.2.1 r30.2.2.2 r32 none hr41)) ?_
                        replace H := Option.some.inj H
                        subst H
                        exact xO ⟨[1], []⟩
                      · have F := Y
                        refine xQp [122, 123, 124, 125, 2] ?_
                        refine xs 1 ?_
                        refine xp ⟨[1], []⟩ (tabG 3 (cond_parser_atom_sc q3 a0 r29.2 x2 a3 (.er e9) hr39)) ?_
                        refine xS ?_
                        refine xOp ?_
                        refine qDf [(58, [.pt 2 0])] ?_
                        obtain ⟨r33, hr42, H⟩ := osplit H
                        refine xD ⟨[2, 1], []⟩ (tabD 0 (cond_parser_atom_1_dc a0 e9.2.2.2.1 e9.2.2.2.2.1 e9.2.2.2.2.2 r33 (some (.iface 52 (.agg ⟨[.int .i64 e9.1, .int .i64 e9.2.1, .int .i64 e9.2.2.1]⟩))) hr42)) ?_
                        replace H := Option.some.inj H
                        subst H
                        exact xOv ⟨[1], []⟩
                    · obtain ⟨F, G, hq12⟩ := xH Y G hp12
                      refine xE ?_
                      obtain ⟨e10, hr44, H⟩ := osplit H
                      have F := Y
                      refine xQp [126, 127] ?_
                      refine xs 1 ?_
                      refine xp ⟨[1], []⟩ (tabG 0 (cond_parser_fail_c 2 a0 r29.2 x2 a3 e10 hr44)) ?_
                      refine xS ?_
                      refine xOp ?_
                      refine qDf [(58, [.pt 2 0])] ?_
                      obtain ⟨r35, hr45, H⟩ := osplit H
                      refine xD ⟨[2, 1], []⟩ (tabD 0 (cond_parser_atom_1_dc a0 r29.2 x2 a3 r35 (some (.iface 52 (.agg ⟨[.int .i64 2, .int .i64 e10.1, .int .i64 e10.2]⟩))) hr45)) ?_
                      replace H := Option.some.inj H
                      subst H
                      exact xOv ⟨[1], []⟩
noncomputable def rec_cond_parser_choice : Nat → ((List Token) → Int → Int → Int → Option (GR (Int × Int × Int × Int × Int × Int) (Int × Int × Int × Int))) × (Int → (List Token) → Int → Int → Int → Option (GR (Int × Int × Int × Int × Int × Int) (Int × Int × Int × Int))) × ((List Token) → Int → Int → Int → Option (GR (Int × Int × Int × Int × Int × Int) (Int × Int × Int × Int)))
  | 0 => (fun _ _ _ _ => none, fun _ _ _ _ _ => none, fun _ _ _ _ => none)
  | n + 1 => (cond_parser_choice_s ((rec_cond_parser_choice n).1) ((rec_cond_parser_choice n).2.1) ((rec_cond_parser_choice n).2.2), cond_parser_binary_s ((rec_cond_parser_choice n).1) ((rec_cond_parser_choice n).2.1) ((rec_cond_parser_choice n).2.2), cond_parser_atom_s ((rec_cond_parser_choice n).1) ((rec_cond_parser_choice n).2.1) ((rec_cond_parser_choice n).2.2))
theorem rec_cond_parser_choice_k : ∀ n, Kok Tryd.prog 23 false (SF_cond_parser_choice (rec_cond_parser_choice n).1) ∧ Kok Tryd.prog 34 false (SF_cond_parser_binary (rec_cond_parser_choice n).2.1) ∧ Kok Tryd.prog 43 false (SF_cond_parser_atom (rec_cond_parser_choice n).2.2)
  | 0 => ⟨⟨call_23, (by rintro _ ⟨_, _, _, _, _, H, _⟩; cases H), nofun⟩, ⟨call_34, (by rintro _ ⟨_, _, _, _, _, _, H, _⟩; cases H), nofun⟩, ⟨call_43, (by rintro _ ⟨_, _, _, _, _, H, _⟩; cases H), nofun⟩⟩
  | n + 1 => have h := rec_cond_parser_choice_k n; ⟨⟨call_23, cond_parser_choice_sok _ _ _ h.1 h.2.1 h.2.2, nofun⟩, ⟨call_34, cond_parser_binary_sok _ _ _ h.1 h.2.1 h.2.2, nofun⟩, ⟨call_43, cond_parser_atom_sok _ _ _ h.1 h.2.1 h.2.2, nofun⟩⟩
noncomputable def cond_parser_choice : (List Token) → Int → Int → Int → Option (GR (Int × Int × Int × Int × Int × Int) (Int × Int × Int × Int)) := (rec_cond_parser_choice bigF).1
def S_cond_parser_choice : GI → Prop := SF_cond_parser_choice cond_parser_choice
theorem cond_parser_choice_c (a0 : List Token) (a1 : Int) (a2 : Int) (a3 : Int) (r : GR (Int × Int × Int × Int × Int × Int) (Int × Int × Int × Int)) (H : cond_parser_choice a0 a1 a2 a3 = some r) : S_cond_parser_choice (g_cond_parser_choice a0 a1 a2 a3 r) := cond_parser_choice_sc cond_parser_choice a0 a1 a2 a3 r H
theorem cond_parser_choice_k : Kok Tryd.prog 23 false S_cond_parser_choice := (rec_cond_parser_choice_k bigF).1
noncomputable def cond_Eval_1 (a0 : Int) (a1 : Int) (a2 : Int) (a3 : Int) (a4 : Int) (a5 : Int) (a6 : Int) : Option Unit :=
  some ()
def di_cond_Eval_1 (a0 : Int) (a1 : Int) (a2 : Int) (a3 : Int) (a4 : Int) (a5 : Int) (a6 : Int) (r : Unit) : DI :=
  ⟨[.c (.pt 1 0), .c (.pt 2 0)], [[.d (.v (.int .i64 a0))], [.d (.v (.int .i64 a1)), .d (.v (.int .i64 a2)), .d (.v (.int .i64 a3))]], [], (some (.iface 52 (.agg ⟨[.int .i64 a4, .int .i64 a5, .int .i64 a6]⟩))), [[.d (.v (.int .i64 0))], [.d (.v (.int .i64 a4)), .d (.v (.int .i64 a5)), .d (.v (.int .i64 a6))]], [], none⟩
def SD_cond_Eval_1 : DI → Prop := fun d => ∃ (a0 : Int) (a1 : Int) (a2 : Int) (a3 : Int) (a4 : Int) (a5 : Int) (a6 : Int) (r : Unit), cond_Eval_1 a0 a1 a2 a3 a4 a5 a6 = some r ∧ d = di_cond_Eval_1 a0 a1 a2 a3 a4 a5 a6 r
theorem cond_Eval_1_dc (a0 : Int) (a1 : Int) (a2 : Int) (a3 : Int) (a4 : Int) (a5 : Int) (a6 : Int) (r : Unit) (H : cond_Eval_1 a0 a1 a2 a3 a4 a5 a6 = some r) : SD_cond_Eval_1 (di_cond_Eval_1 a0 a1 a2 a3 a4 a5 a6 r) := ⟨a0, a1, a2, a3, a4, a5, a6, r, H, rfl⟩
set_option maxRecDepth 100000 in
set_option maxHeartbeats 4000000 in
theorem cond_Eval_1_dok : ∀ d, SD_cond_Eval_1 d → DOk Tryd.prog 22 d := by
  rintro _ ⟨a0, a1, a2, a3, a4, a5, a6, r, H, rfl⟩
  refine xRcl mixed [7] [] [] trivial trivial Tryd.func22 _ ?_
  have G := True.intro
  have Y := xZ y_3 <| xZ y_20 <| xZ y_25 <| xZ y_52 <| xZ Tryd.results22 <| di_cond_Eval_1.eq_1
  dsimp only [di_cond_Eval_1, Option.getD_some, Option.getD_none]
  unfold cond_Eval_1 at H
  refine xS ?_
  refine xr ?_
  refine xe ?_
  refine xr ?_
  refine xt ?_
  refine xr ?_
  have F := Y
  refine xX 4 0 [12] trivial ?_
  refine xsX 1 ?_
  refine xaX ?_
  refine xbX ?_
  refine xbX ?_
  refine xlX ?_
  replace H := Option.some.inj H
  refine xS ?_
  subst H
  exact xDn ⟨[1, 2], []⟩
noncomputable def cond_Eval_1_v2 (a0 : Int) (a1 : Int) (a2 : Int) (a3 : Int) : Option Unit :=
  some ()
def di_cond_Eval_1_v2 (a0 : Int) (a1 : Int) (a2 : Int) (a3 : Int) (r : Unit) : DI :=
  ⟨[.c (.pt 1 0), .c (.pt 2 0)], [[.d (.v (.int .i64 a0))], [.d (.v (.int .i64 a1)), .d (.v (.int .i64 a2)), .d (.v (.int .i64 a3))]], [], none, [[.d (.v (.int .i64 a0))], [.d (.v (.int .i64 a1)), .d (.v (.int .i64 a2)), .d (.v (.int .i64 a3))]], [], none⟩
def SD_cond_Eval_1_v2 : DI → Prop := fun d => ∃ (a0 : Int) (a1 : Int) (a2 : Int) (a3 : Int) (r : Unit), cond_Eval_1_v2 a0 a1 a2 a3 = some r ∧ d = di_cond_Eval_1_v2 a0 a1 a2 a3 r
theorem cond_Eval_1_v2_dc (a0 : Int) (a1 : Int) (a2 : Int) (a3 : Int) (r : Unit) (H : cond_Eval_1_v2 a0 a1 a2 a3 = some r) : SD_cond_Eval_1_v2 (di_cond_Eval_1_v2 a0 a1 a2 a3 r) := ⟨a0, a1, a2, a3, r, H, rfl⟩
set_option maxRecDepth 100000 in
set_option maxHeartbeats 4000000 in
theorem cond_Eval_1_v2_dok : ∀ d, SD_cond_Eval_1_v2 d → DOk Tryd.prog 22 d := by
  rintro _ ⟨a0, a1, a2, a3, r, H, rfl⟩
  refine xRcl mixed [7] [] [] trivial trivial Tryd.func22 _ ?_
  have G := True.intro
  have Y := xZ y_3 <| xZ y_20 <| xZ y_25 <| xZ y_52 <| xZ Tryd.results22 <| di_cond_Eval_1_v2.eq_1
  dsimp only [di_cond_Eval_1_v2, Option.getD_some, Option.getD_none]
  unfold cond_Eval_1_v2 at H
  refine xS ?_
  refine xr ?_
  refine xt ?_
  replace H := Option.some.inj H
  refine xr ?_
  subst H
  exact xDn ⟨[1, 2], []⟩
noncomputable def cond_Eval (a0 : List Token) : Option (Int × Int × Int × Int) :=
  grB (cond_parser_choice a0 0 0 0) (fun r1 => if (ltI r1.2.1 (a0.length : Int)) = true then (cond_parser_fail 2 a0 r1.2.1 r1.2.2.1 r1.2.2.2).bind fun e2 => (cond_Eval_1 r1.1 0 0 0 2 e2.1 e2.2).bind fun r3 => some (0, 2, e2.1, e2.2) else (cond_Eval_1_v2 r1.1 0 (-1) 0).bind fun r4 => some (r1.1, 0, (-1), 0)) (fun e1 => (cond_Eval_1 0 0 0 0 e1.1 e1.2.1 e1.2.2.1).bind fun r5 => some (0, e1.1, e1.2.1, e1.2.2.1))
def g_cond_Eval (a0 : List Token) (r : (Int × Int × Int × Int)) : GI :=
  ⟨[.c (.d (.sl 11 (List.map d_Token a0)))], [], [], .ret (.tu [(false, [.d (.v (.int .i64 r.1))]), (true, [.d (.v (.int .i64 r.2.1)), .d (.v (.int .i64 r.2.2.1)), .d (.v (.int .i64 r.2.2.2))])]) [] []⟩
def S_cond_Eval : GI → Prop := fun g => ∃ (a0 : List Token) (r : (Int × Int × Int × Int)), cond_Eval a0 = some r ∧ g = g_cond_Eval a0 r
theorem cond_Eval_c (a0 : List Token) (r : (Int × Int × Int × Int)) (H : cond_Eval a0 = some r) : S_cond_Eval (g_cond_Eval a0 r) := ⟨a0, r, H, rfl⟩
set_option maxRecDepth 100000 in
set_option maxHeartbeats 4000000 in
theorem cond_Eval_ok : ∀ g, S_cond_Eval g → GenOk Tryd.prog 8 g := by
  rintro _ ⟨a0, r, H, rfl⟩
  refine xGn mixed [] [(23, false, S_cond_parser_choice), (24, false, S_cond_parser_fail)] [(22, SD_cond_Eval_1), (22, SD_cond_Eval_1_v2)] trivial ⟨cond_parser_choice_k, cond_parser_fail_k, trivial⟩ ⟨⟨call_22, cond_Eval_1_dok⟩, ⟨call_22, cond_Eval_1_v2_dok⟩, trivial⟩ Tryd.func8 _ ?_
  have G := True.intro
  have Y := xZ y_3 <| xZ y_22 <| xZ y_23 <| xZ y_25 <| xZ y_47 <| xZ y_55 <| xZ Tryd.results8 <| xZ d_Call.eq_1 <| xZ d_Token.eq_1 <| xZ g_cond_parser_choice.eq_1 <| xZ g_cond_parser_fail.eq_1 <| xZ di_cond_Eval_1.eq_1 <| xZ di_cond_Eval_1_v2.eq_1 <| g_cond_Eval.eq_1
  dsimp only [g_cond_Eval]
  simp only [cond_Eval] at H
  refine xS ?_
  refine xr ?_
  have F := Y
  refine xQ ?_
  refine xs 1 ?_
  refine xw ?_
  refine xl ?_
  refine xS ?_
  refine xr ?_
  rcases rsplit H with ⟨r1, hr1, H⟩ | ⟨e1, hr2, H⟩
  · have F := Y
    refine xQ ?_
    refine xs 1 ?_
    refine xc ⟨[3], []⟩ (tabG 0 (cond_parser_choice_c a0 0 0 0 (.ok r1) hr1)) ?_
    refine xs 1 ?_
    refine xl ?_
    refine xS ?_
    refine xr ?_
    rcases bsplit H with ⟨hp1, H⟩ | ⟨hp1, H⟩
    · obtain ⟨F, G, hq1⟩ := xH Y G hp1
      refine xT ?_
      obtain ⟨e2, hr4, H⟩ := osplit H
      have F := Y
      refine xQp [18, 19] ?_
      refine xs 1 ?_
      refine xp ⟨[3], []⟩ (tabG 1 (cond_parser_fail_c 2 a0 r1.2.1 r1.2.2.1 r1.2.2.2 e2 hr4)) ?_
      refine xS ?_
      refine xOp ?_
      refine qDf [(22, [.pt 1 0, .pt 2 0])] ?_
      obtain ⟨r3, hr5, H⟩ := osplit H
      refine xD ⟨[1, 2], []⟩ (tabD 0 (cond_Eval_1_dc r1.1 0 0 0 2 e2.1 e2.2 r3 hr5)) ?_
      replace H := Option.some.inj H
      subst H
      exact xO ⟨[], []⟩
    · obtain ⟨F, G, hq1⟩ := xH Y G hp1
      refine xE ?_
      refine xr ?_
      refine xOr ?_
      refine qDf [(22, [.pt 1 0, .pt 2 0])] ?_
      obtain ⟨r4, hr6, H⟩ := osplit H
      refine xD ⟨[1, 2], []⟩ (tabD 1 (cond_Eval_1_v2_dc r1.1 0 (-1) 0 r4 hr6)) ?_
      replace H := Option.some.inj H
      subst H
      exact xO ⟨[], []⟩
  · have F := Y
    refine xQp [9, 10] ?_
    refine xs 1 ?_
    refine xp ⟨[3], []⟩ (tabG 0 (cond_parser_choice_c a0 0 0 0 (.er e1) hr2)) ?_
    refine xS ?_
    refine xOp ?_
    refine qDf [(22, [.pt 1 0, .pt 2 0])] ?_
    obtain ⟨r5, hr7, H⟩ := osplit H
    refine xD ⟨[1, 2], []⟩ (tabD 0 (cond_Eval_1_dc 0 0 0 0 e1.1 e1.2.1 e1.2.2.1 r5 hr7)) ?_
    replace H := Option.some.inj H
    subst H
    exact xO ⟨[], []⟩
theorem cond_Eval_k : Callable Tryd.prog 8 ∧ (∀ g, S_cond_Eval g → GenOk Tryd.prog 8 g) ∧ (true = true → ∀ g, S_cond_Eval g → ∃ val bs ts, g.out = .ret val bs ts) :=
  ⟨call_8, cond_Eval_ok, fun _ => by rintro _ ⟨_, _, _, rfl⟩; exact ⟨_, _, _, rfl⟩⟩
end Go.Proofs.YtghmojcecefgjaaDoor
