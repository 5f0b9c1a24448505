/- Functions of data for functions of the program. Written by dec3.py. -/
import Derived.Test.YtkhcecpbbmfcaaaZaq
import Derived.Test.YtkhcecpbbmfcaaaZar
set_option linter.unusedVariables false
set_option linter.unusedSimpArgs false
namespace Go.Proofs.Ytkhcecpbbmfcaaa
open Go.RowKit
noncomputable def preref9_Format_j5 (x6 : List Token) (x8 : List Token) (x9 : Int) (x10 : Int) : Int → Option (((List Token) × Int × (List Token) × Int × Int) ⊕ (((List UInt8) × Int × Int) ⊕ ((List UInt8) × Fault)))
  | x11 => some (.inl (x6, x11, x8, x9, IntKind.i64.wrap (x10 + 1)))
noncomputable def preref9_Format_j7 (x6 : List Token) (x8 : List Token) (x9 : Int) (x10 : Int) (x12 : Int) : Bool → Option (((List Token) × Int × (List Token) × Int × Int) ⊕ (((List UInt8) × Int × Int) ⊕ ((List UInt8) × Fault)))
  | x24 => if x24 = true then preref9_Format_j5 x6 x8 x9 x10 (IntKind.i64.wrap (x12 - 1)) else preref9_Format_j5 x6 x8 x9 x10 x12
noncomputable def preref9_Format_j6 (x6 : List Token) (x8 : List Token) (x9 : Int) (x10 : Int) : (Int × Int × (List UInt8) × Bool × Bool × Int × Int × Int × Int × (List (List UInt8)) × (List Call) × Int) → Option (((List Token) × Int × (List Token) × Int × Int) ⊕ (((List UInt8) × Int × Int) ⊕ ((List UInt8) × Fault)))
  | (x12, x13, x14, x15, x16, x17, x18, x19, x20, x21, x22, x23) => if (eqI x13 5) = true then if (eqS x14 [125]) = true then preref9_Format_j7 x6 x8 x9 x10 x12 (ltI 0 x12) else preref9_Format_j7 x6 x8 x9 x10 x12 false else preref9_Format_j7 x6 x8 x9 x10 x12 false
noncomputable def preref9_Format_j8 (x6 : List Token) (x7 : Int) (x8 : List Token) (x9 : Int) (x10 : Int) : (Bool × Int × (List UInt8) × Bool × Bool × Int × Int × Int × Int × (List (List UInt8)) × (List Call) × Int) → Option (((List Token) × Int × (List Token) × Int × Int) ⊕ (((List UInt8) × Int × Int) ⊕ ((List UInt8) × Fault)))
  | (x25, x26, x27, x28, x29, x30, x31, x32, x33, x34, x35, x36) => if x25 = true then preref9_Format_j6 x6 x8 x9 x10 (IntKind.i64.wrap (x7 + 1), x26, x27, x28, x29, x30, x31, x32, x33, x34, x35, x36) else preref9_Format_j6 x6 x8 x9 x10 (x7, x26, x27, x28, x29, x30, x31, x32, x33, x34, x35, x36)
noncomputable def preref9_Format_j11 (x4 : Int) (x38 : Int) : (List UInt8) → Option (((List UInt8) × Int × Int) ⊕ ((List UInt8) × Fault))
  | x41 => if x41.length + 1 ≤ 9223372036854775807 then some (.inl (x41 ++ [10], x38, x4)) else none
noncomputable def preref9_Format_b10 (x4 : Int) (x6 : List Token) (x37 : Int) (x38 : Int) : ((List UInt8) × Int) → Option (((List UInt8) × Int) ⊕ (((List UInt8) × Int × Int) ⊕ ((List UInt8) × Fault)))
  | (x39, x40) => if (ltI x40 x37) = true then if x39.length + 2 ≤ 9223372036854775807 then some (.inl (x39 ++ [32, 32], IntKind.i64.wrap (x40 + 1))) else none else inrO ((preref1_Join x6).bind fun r2 => if x39.length + r2.length ≤ 9223372036854775807 then if (0 : Int) ≤ (IntKind.i64.wrap ((x6.length : Int) - 1)) ∧ (IntKind.i64.wrap ((x6.length : Int) - 1)).toNat < x6.length then if (eqS ((x6.getD ((IntKind.i64.wrap ((x6.length : Int) - 1)).toNat) default).Text) [92]) = true then if x39.length + r2.length + 1 ≤ 9223372036854775807 then preref9_Format_j11 x4 x38 ((x39 ++ r2) ++ [32]) else none else preref9_Format_j11 x4 x38 (x39 ++ r2) else none else none)
noncomputable def preref9_Format_j9 (x1 : List UInt8) (x4 : Int) (x6 : List Token) : (Int × Int) → Option (((List UInt8) × Int × Int) ⊕ ((List UInt8) × Fault))
  | (x37, x38) => loopO (preref9_Format_b10 x4 x6 x37 x38) (x1, 0)
noncomputable def preref9_Format_j13 (x1 : List UInt8) (x2 : Int) (x4 : Int) (x6 : List Token) (x7 : Int) : Bool → Option (((List UInt8) × Int × Int) ⊕ ((List UInt8) × Fault))
  | x43 => if x43 = true then preref9_Format_j9 x1 x4 x6 (IntKind.i64.wrap (x2 - 1), x7) else preref9_Format_j9 x1 x4 x6 (x2, x7)
noncomputable def preref9_Format_j12 (x1 : List UInt8) (x2 : Int) (x4 : Int) (x6 : List Token) (x7 : Int) : Bool → Option (((List UInt8) × Int × Int) ⊕ ((List UInt8) × Fault))
  | x42 => if x42 = true then preref9_Format_j9 x1 x4 x6 (0, x2) else if 0 < x6.length then if (eqI ((x6.getD 0 default).Kind) 5) = true then if 0 < x6.length then if (eqS ((x6.getD 0 default).Text) [125]) = true then preref9_Format_j13 x1 x2 x4 x6 x7 (ltI 0 x2) else preref9_Format_j13 x1 x2 x4 x6 x7 false else none else preref9_Format_j13 x1 x2 x4 x6 x7 false else none
noncomputable def preref9_Format_b4 (x1 : List UInt8) (x2 : Int) (x4 : Int) : ((List Token) × Int × (List Token) × Int × Int) → Option (((List Token) × Int × (List Token) × Int × Int) ⊕ (((List UInt8) × Int × Int) ⊕ ((List UInt8) × Fault)))
  | (x6, x7, x8, x9, x10) => if (ltI x10 x9) = true then if (0 : Int) ≤ x10 ∧ x10.toNat < x8.length then if (eqI ((x8.getD x10.toNat default).Kind) 5) = true then preref9_Format_j8 x6 x7 x8 x9 x10 (eqS ((x8.getD x10.toNat default).Text) [123], (x8.getD x10.toNat default).Kind, (x8.getD x10.toNat default).Text, (x8.getD x10.toNat default).Space, (x8.getD x10.toNat default).First, (x8.getD x10.toNat default).File, (x8.getD x10.toNat default).At, (x8.getD x10.toNat default).End, (x8.getD x10.toNat default).Line, (x8.getD x10.toNat default).Hide, (x8.getD x10.toNat default).Calls, (x8.getD x10.toNat default).Made) else preref9_Format_j8 x6 x7 x8 x9 x10 (false, (x8.getD x10.toNat default).Kind, (x8.getD x10.toNat default).Text, (x8.getD x10.toNat default).Space, (x8.getD x10.toNat default).First, (x8.getD x10.toNat default).File, (x8.getD x10.toNat default).At, (x8.getD x10.toNat default).End, (x8.getD x10.toNat default).Line, (x8.getD x10.toNat default).Hide, (x8.getD x10.toNat default).Calls, (x8.getD x10.toNat default).Made) else none else inrO (if 0 < x6.length then if (eqI ((x6.getD 0 default).Kind) 5) = true then if 0 < x6.length then preref9_Format_j12 x1 x2 x4 x6 x7 (eqS ((x6.getD 0 default).Text) [35]) else none else preref9_Format_j12 x1 x2 x4 x6 x7 false else none)
noncomputable def preref9_Format_j3 (r1 : (List Token) × Fault) (x1 : List UInt8) (x2 : Int) (x3 : Int) (x4 : Int) : Bool → Option (Int ⊕ (((List UInt8) × Int × Int) ⊕ ((List UInt8) × Fault)))
  | x5 => if x5 = true then some (.inl (IntKind.i64.wrap (x4 + 1))) else inrO (if (0 : Int) ≤ x3 ∧ x3 ≤ x4 ∧ x4 ≤ (r1.1.length : Int) then loopO (preref9_Format_b4 x1 x2 x4) (List.take (x4.toNat - x3.toNat) (List.drop x3.toNat r1.1), x2, List.take (x4.toNat - x3.toNat) (List.drop x3.toNat r1.1), ((List.take (x4.toNat - x3.toNat) (List.drop x3.toNat r1.1)).length : Int), 0) else none)
noncomputable def preref9_Format_b2 (r1 : (List Token) × Fault) (x1 : List UInt8) (x2 : Int) (x3 : Int) : Int → Option (Int ⊕ (((List UInt8) × Int × Int) ⊕ ((List UInt8) × Fault)))
  | x4 => if (ltI x4 (r1.1.length : Int)) = true then if (0 : Int) ≤ x4 ∧ x4.toNat < r1.1.length then preref9_Format_j3 r1 x1 x2 x3 x4 (!((r1.1.getD x4.toNat default).First)) else none else preref9_Format_j3 r1 x1 x2 x3 x4 false
noncomputable def preref9_Format_b1 (r1 : (List Token) × Fault) : ((List UInt8) × Int × Int) → Option (((List UInt8) × Int × Int) ⊕ ((List UInt8) × Fault))
  | (x1, x2, x3) => if (ltI x3 (r1.1.length : Int)) = true then loopO (preref9_Format_b2 r1 x1 x2 x3) (IntKind.i64.wrap (x3 + 1)) else inrO (if (ltI 3000 (x1.length : Int)) = true then some ([], (⟨4, 0, 0⟩ : Fault)) else some (x1, (⟨0, (-1), 0⟩ : Fault)))
noncomputable def preref9_Format (a0 : List UInt8) : Option ((List UInt8) × Fault) :=
  (preref1_Tokens 0 a0).bind fun r1 => if (!eqI r1.2.Err 0) = true then some ([], r1.2) else loopO (preref9_Format_b1 r1) ([], 0, 0)
noncomputable def pf_preref9_Format : PF := PF.of (E1 dS) (fun a => preref9_Format a) (T2 dS d_Fault)
set_option maxRecDepth 100000 in
set_option maxHeartbeats 4000000 in
theorem preref9_Format_ok : PureOk Try.prog 9 pf_preref9_Format := by
  refine xF mixed [(31, pf_preref1_Tokens), (40, pf_preref1_Join)] [] ⟨⟨call_31, preref1_Tokens_ok⟩, ⟨call_40, preref1_Join_ok⟩, trivial⟩ trivial Try.func9 ?_
  rintro a0 out H
  have G := True.intro
  have Y := xZ y_3 <| xZ y_4 <| xZ y_9 <| xZ y_22 <| xZ y_24 <| xZ y_30 <| xZ y_45 <| xZ Try.results9 <| xZ d_Call.eq_1 <| xZ d_Token.eq_1 <| d_Fault.eq_1
  simp only [preref9_Format] at H
  refine xS ?_
  refine xr ?_
  obtain ⟨r1, hr1, H⟩ := osplit H
  have F := xC Y (preref1_Tokens_c 0 a0 r1 hr1)
  refine xR ?_
  refine xr ?_
  rcases bsplit H with ⟨hp1, H⟩ | ⟨hp1, H⟩
  · obtain ⟨F, G, hq1⟩ := xH Y G hp1
    refine xT ?_
    replace H := Option.some.inj H
    refine xr ?_
    subst H
    exact xN
  · obtain ⟨F, G, hq1⟩ := xH Y G hp1
    refine xE ?_
    refine xr ?_
    refine xr ?_
    refine w_loop (preref9_Format_b1 r1) (fun s => [(3, .c (.pt 1 0)), (4, .c (.d (.sl 11 (List.map d_Token r1.1)))), (6, .c (.d (.v (str s.1)))), (7, .c (.d (.v (.int .i64 s.2.1)))), (8, .c (.d (.v (.int .i64 s.2.2))))]) (fun s => [[.d (.v (.int .i64 0)), .d (.v (.int .i64 0)), .d (.v (.int .i64 0))]]) [] H (xK ⟨[1], []⟩) ?_
    rintro n1 ⟨x1, x2, x3⟩ o1 H hF1
    rw [preref9_Format_b1] at H
    refine xS ?_
    refine xr ?_
    rcases bsplit H with ⟨hp2, H⟩ | ⟨hp2, H⟩
    · obtain ⟨F, G, hq2⟩ := xH Y G hp2
      refine xT ?_
      refine xr ?_
      refine w_loop (preref9_Format_b2 r1 x1 x2 x3) (fun s => [(3, .c (.pt 1 0)), (4, .c (.d (.sl 11 (List.map d_Token r1.1)))), (6, .c (.d (.v (str x1)))), (7, .c (.d (.v (.int .i64 x2)))), (8, .c (.d (.v (.int .i64 x3)))), (9, .c (.d (.v (.int .i64 s))))]) (fun s => [[.d (.v (.int .i64 0)), .d (.v (.int .i64 0)), .d (.v (.int .i64 0))]]) [] H (xK ⟨[1], []⟩) ?_
      rintro n2 x4 o2 H hF2
      rw [preref9_Format_b2] at H
      refine w_seq ?_
      refine w_cut (preref9_Format_j3 r1 x1 x2 x3 x4) (fun s => [(3, .c (.pt 1 0)), (4, .c (.d (.sl 11 (List.map d_Token r1.1)))), (6, .c (.d (.v (str x1)))), (7, .c (.d (.v (.int .i64 x2)))), (8, .c (.d (.v (.int .i64 x3)))), (9, .c (.d (.v (.int .i64 x4)))), (41, .c (.d (.v (.bool s))))]) (fun s => [[.d (.v (.int .i64 0)), .d (.v (.int .i64 0)), .d (.v (.int .i64 0))]]) [] o2 ?_ ?_
      · rcases bsplit H with ⟨hp17, H⟩ | ⟨hp17, H⟩
        · obtain ⟨F, G, hq17⟩ := xH Y G hp17
          obtain ⟨hg12, H⟩ := gsplit H
          have F := xZ F (map_getD d_Token r1.1 x4.toNat default default (by omega))
          refine xR ?_
          exact cut_at H (xK ⟨[1], []⟩)
        · obtain ⟨F, G, hq17⟩ := xH Y G hp17
          refine xR ?_
          exact cut_at H (xK ⟨[1], []⟩)
      · rintro x5 H
        rw [preref9_Format_j3] at H
        rcases bsplit H with ⟨hp3, H⟩ | ⟨hp3, H⟩
        · obtain ⟨F, G, hq3⟩ := xH Y G hp3
          refine xT ?_
          refine xr ?_
          exact round_at (inl_fin H hF2) (xK ⟨[1], []⟩)
        · obtain ⟨F, G, hq3⟩ := xH Y G hp3
          replace H := inrO_fin H hF2
          refine xE ?_
          obtain ⟨hg1, H⟩ := gsplit H
          refine xr ?_
          refine xr ?_
          refine xr ?_
          refine xr ?_
          refine w_loop (preref9_Format_b4 x1 x2 x4) (fun s => [(3, .c (.pt 1 0)), (4, .c (.d (.sl 11 (List.map d_Token r1.1)))), (6, .c (.d (.v (str x1)))), (7, .c (.d (.v (.int .i64 x2)))), (8, .c (.d (.v (.int .i64 x4)))), (10, .c (.d (.sl 11 (List.map d_Token s.1)))), (11, .c (.d (.v (.int .i64 x2)))), (12, .c (.d (.v (.int .i64 s.2.1)))), (51, .c (.d (.sl 11 (List.map d_Token s.2.2.1)))), (52, .c (.d (.v (.int .i64 s.2.2.2.1)))), (53, .c (.d (.v (.int .i64 s.2.2.2.2))))]) (fun s => [[.d (.v (.int .i64 0)), .d (.v (.int .i64 0)), .d (.v (.int .i64 0))]]) [] H (xK ⟨[1], []⟩) ?_
          rintro n3 ⟨x6, x7, x8, x9, x10⟩ o3 H hF3
          rw [preref9_Format_b4] at H
          refine xS ?_
          refine xr ?_
          rcases bsplit H with ⟨hp4, H⟩ | ⟨hp4, H⟩
          · obtain ⟨F, G, hq4⟩ := xH Y G hp4
            refine xT0 ?_
            refine w_skip ?_
            refine then_normal ?_
            refine w_cut (preref9_Format_j5 x6 x8 x9 x10) (fun s => [(3, .c (.pt 1 0)), (4, .c (.d (.sl 11 (List.map d_Token r1.1)))), (6, .c (.d (.v (str x1)))), (7, .c (.d (.v (.int .i64 x2)))), (8, .c (.d (.v (.int .i64 x4)))), (10, .c (.d (.sl 11 (List.map d_Token x6)))), (11, .c (.d (.v (.int .i64 x2)))), (12, .c (.d (.v (.int .i64 s)))), (51, .c (.d (.sl 11 (List.map d_Token x8)))), (52, .c (.d (.v (.int .i64 x9)))), (53, .c (.d (.v (.int .i64 x10))))]) (fun s => [[.d (.v (.int .i64 0)), .d (.v (.int .i64 0)), .d (.v (.int .i64 0))]]) [] o3 ?_ ?_
            · refine xS ?_
              obtain ⟨hg2, H⟩ := gsplit H
              have F := xZ Y (map_getD d_Token x8 x10.toNat default default (by omega))
              refine xR0 ?_
              refine then_normal ?_
              refine w_cut (preref9_Format_j6 x6 x8 x9 x10) (fun s => [(3, .c (.pt 1 0)), (4, .c (.d (.sl 11 (List.map d_Token r1.1)))), (6, .c (.d (.v (str x1)))), (7, .c (.d (.v (.int .i64 x2)))), (8, .c (.d (.v (.int .i64 x4)))), (10, .c (.d (.sl 11 (List.map d_Token x6)))), (11, .c (.d (.v (.int .i64 x2)))), (12, .c (.d (.v (.int .i64 s.1)))), (14, .c (.pt 2 0)), (51, .c (.d (.sl 11 (List.map d_Token x8)))), (52, .c (.d (.v (.int .i64 x9)))), (53, .c (.d (.v (.int .i64 x10))))]) (fun s => [[.d (.v (.int .i64 0)), .d (.v (.int .i64 0)), .d (.v (.int .i64 0))], [.d (.v (.int .i64 s.2.1)), .d (.v (str s.2.2.1)), .d (.v (.bool s.2.2.2.1)), .d (.v (.bool s.2.2.2.2.1)), .d (.v (.int .i64 s.2.2.2.2.2.1)), .d (.v (.int .i64 s.2.2.2.2.2.2.1)), .d (.v (.int .i64 s.2.2.2.2.2.2.2.1)), .d (.v (.int .i64 s.2.2.2.2.2.2.2.2.1)), .d (.sl 1 (List.map dS s.2.2.2.2.2.2.2.2.2.1)), .d (.sl 3 (List.map d_Call s.2.2.2.2.2.2.2.2.2.2.1)), .d (.v (.int .i64 s.2.2.2.2.2.2.2.2.2.2.2))]]) [] o3 ?_ ?_
              · refine w_cut (preref9_Format_j8 x6 x7 x8 x9 x10) (fun s => [(3, .c (.pt 1 0)), (4, .c (.d (.sl 11 (List.map d_Token r1.1)))), (6, .c (.d (.v (str x1)))), (7, .c (.d (.v (.int .i64 x2)))), (8, .c (.d (.v (.int .i64 x4)))), (10, .c (.d (.sl 11 (List.map d_Token x6)))), (11, .c (.d (.v (.int .i64 x2)))), (12, .c (.d (.v (.int .i64 x7)))), (14, .c (.pt 2 0)), (51, .c (.d (.sl 11 (List.map d_Token x8)))), (52, .c (.d (.v (.int .i64 x9)))), (53, .c (.d (.v (.int .i64 x10)))), (64, .c (.d (.v (.bool s.1))))]) (fun s => [[.d (.v (.int .i64 0)), .d (.v (.int .i64 0)), .d (.v (.int .i64 0))], [.d (.v (.int .i64 s.2.1)), .d (.v (str s.2.2.1)), .d (.v (.bool s.2.2.2.1)), .d (.v (.bool s.2.2.2.2.1)), .d (.v (.int .i64 s.2.2.2.2.2.1)), .d (.v (.int .i64 s.2.2.2.2.2.2.1)), .d (.v (.int .i64 s.2.2.2.2.2.2.2.1)), .d (.v (.int .i64 s.2.2.2.2.2.2.2.2.1)), .d (.sl 1 (List.map dS s.2.2.2.2.2.2.2.2.2.1)), .d (.sl 3 (List.map d_Call s.2.2.2.2.2.2.2.2.2.2.1)), .d (.v (.int .i64 s.2.2.2.2.2.2.2.2.2.2.2))]]) [] o3 ?_ ?_
                · rcases bsplit H with ⟨hp9, H⟩ | ⟨hp9, H⟩
                  · obtain ⟨F, G, hq9⟩ := xH Y G hp9
                    refine xR ?_
                    exact cut_at H (xK ⟨[1,2], []⟩)
                  · obtain ⟨F, G, hq9⟩ := xH Y G hp9
                    refine xR ?_
                    exact cut_at H (xK ⟨[1,2], []⟩)
                · rintro ⟨x25, x26, x27, x28, x29, x30, x31, x32, x33, x34, x35, x36⟩ H
                  rw [preref9_Format_j8] at H
                  rcases bsplit H with ⟨hp8, H⟩ | ⟨hp8, H⟩
                  · obtain ⟨F, G, hq8⟩ := xH Y G hp8
                    refine xT ?_
                    refine xr ?_
                    exact cut_at H (xK ⟨[1,2], []⟩)
                  · obtain ⟨F, G, hq8⟩ := xH Y G hp8
                    refine xE ?_
                    exact cut_at H (xK ⟨[1,2], []⟩)
              · rintro ⟨x12, x13, x14, x15, x16, x17, x18, x19, x20, x21, x22, x23⟩ H
                rw [preref9_Format_j6] at H
                refine w_cut (preref9_Format_j7 x6 x8 x9 x10 x12) (fun s => [(3, .c (.pt 1 0)), (4, .c (.d (.sl 11 (List.map d_Token r1.1)))), (6, .c (.d (.v (str x1)))), (7, .c (.d (.v (.int .i64 x2)))), (8, .c (.d (.v (.int .i64 x4)))), (10, .c (.d (.sl 11 (List.map d_Token x6)))), (11, .c (.d (.v (.int .i64 x2)))), (12, .c (.d (.v (.int .i64 x12)))), (51, .c (.d (.sl 11 (List.map d_Token x8)))), (52, .c (.d (.v (.int .i64 x9)))), (53, .c (.d (.v (.int .i64 x10)))), (78, .c (.d (.v (.bool s))))]) (fun s => [[.d (.v (.int .i64 0)), .d (.v (.int .i64 0)), .d (.v (.int .i64 0))]]) [] o3 ?_ ?_
                · rcases bsplit H with ⟨hp6, H⟩ | ⟨hp6, H⟩
                  · obtain ⟨F, G, hq6⟩ := xH Y G hp6
                    rcases bsplit H with ⟨hp7, H⟩ | ⟨hp7, H⟩
                    · obtain ⟨F, G, hq7⟩ := xH F G hp7
                      refine xR ?_
                      exact cut_at H (xK ⟨[1], []⟩)
                    · obtain ⟨F, G, hq7⟩ := xH F G hp7
                      refine xR ?_
                      exact cut_at H (xK ⟨[1], []⟩)
                  · obtain ⟨F, G, hq6⟩ := xH Y G hp6
                    refine xR ?_
                    exact cut_at H (xK ⟨[1], []⟩)
                · rintro x24 H
                  rw [preref9_Format_j7] at H
                  rcases bsplit H with ⟨hp5, H⟩ | ⟨hp5, H⟩
                  · obtain ⟨F, G, hq5⟩ := xH Y G hp5
                    refine xT ?_
                    refine xr ?_
                    exact cut_at H (xK ⟨[1], []⟩)
                  · obtain ⟨F, G, hq5⟩ := xH Y G hp5
                    refine xE ?_
                    exact cut_at H (xK ⟨[1], []⟩)
            · rintro x11 H
              rw [preref9_Format_j5] at H
              refine xr ?_
              exact round_at (inl_fin H hF3) (xK ⟨[1], []⟩)
          · obtain ⟨F, G, hq4⟩ := xH Y G hp4
            replace H := inrO_fin H hF3
            refine xE0 ?_
            refine w_exit ?_
            refine then_exit ?_
            refine round_exit ?_
            refine block_exit ?_
            refine then_normal ?_
            refine w_cut (preref9_Format_j9 x1 x4 x6) (fun s => [(3, .c (.pt 1 0)), (4, .c (.d (.sl 11 (List.map d_Token r1.1)))), (6, .c (.d (.v (str x1)))), (8, .c (.d (.v (.int .i64 x4)))), (10, .c (.d (.sl 11 (List.map d_Token x6)))), (11, .c (.d (.v (.int .i64 s.1)))), (12, .c (.d (.v (.int .i64 s.2))))]) (fun s => [[.d (.v (.int .i64 0)), .d (.v (.int .i64 0)), .d (.v (.int .i64 0))]]) [] o1 ?_ ?_
            · refine w_cut (preref9_Format_j12 x1 x2 x4 x6 x7) (fun s => [(3, .c (.pt 1 0)), (4, .c (.d (.sl 11 (List.map d_Token r1.1)))), (6, .c (.d (.v (str x1)))), (7, .c (.d (.v (.int .i64 x2)))), (8, .c (.d (.v (.int .i64 x4)))), (10, .c (.d (.sl 11 (List.map d_Token x6)))), (11, .c (.d (.v (.int .i64 x2)))), (12, .c (.d (.v (.int .i64 x7)))), (93, .c (.d (.v (.bool s))))]) (fun s => [[.d (.v (.int .i64 0)), .d (.v (.int .i64 0)), .d (.v (.int .i64 0))]]) [] o1 ?_ ?_
              · obtain ⟨hg10, H⟩ := gsplit H
                have F := xZ Y (map_getD d_Token x6 0 default default (by omega))
                rcases bsplit H with ⟨hp16, H⟩ | ⟨hp16, H⟩
                · obtain ⟨F, G, hq16⟩ := xH F G hp16
                  obtain ⟨hg11, H⟩ := gsplit H
                  have F := xZ F (map_getD d_Token x6 0 default default (by omega))
                  refine xR ?_
                  exact cut_at H (xK ⟨[1], []⟩)
                · obtain ⟨F, G, hq16⟩ := xH F G hp16
                  refine xR ?_
                  exact cut_at H (xK ⟨[1], []⟩)
              · rintro x42 H
                rw [preref9_Format_j12] at H
                rcases bsplit H with ⟨hp12, H⟩ | ⟨hp12, H⟩
                · obtain ⟨F, G, hq12⟩ := xH Y G hp12
                  refine xT ?_
                  refine xr ?_
                  exact cut_at H (xK ⟨[1], []⟩)
                · obtain ⟨F, G, hq12⟩ := xH Y G hp12
                  refine xE0 ?_
                  refine w_cut (preref9_Format_j13 x1 x2 x4 x6 x7) (fun s => [(3, .c (.pt 1 0)), (4, .c (.d (.sl 11 (List.map d_Token r1.1)))), (6, .c (.d (.v (str x1)))), (8, .c (.d (.v (.int .i64 x4)))), (10, .c (.d (.sl 11 (List.map d_Token x6)))), (11, .c (.d (.v (.int .i64 x2)))), (12, .c (.d (.v (.int .i64 x7)))), (110, .c (.d (.v (.bool s))))]) (fun s => [[.d (.v (.int .i64 0)), .d (.v (.int .i64 0)), .d (.v (.int .i64 0))]]) [] o1 ?_ ?_
                  · obtain ⟨hg8, H⟩ := gsplit H
                    have F := xZ Y (map_getD d_Token x6 0 default default (by omega))
                    rcases bsplit H with ⟨hp14, H⟩ | ⟨hp14, H⟩
                    · obtain ⟨F, G, hq14⟩ := xH F G hp14
                      obtain ⟨hg9, H⟩ := gsplit H
                      have F := xZ F (map_getD d_Token x6 0 default default (by omega))
                      rcases bsplit H with ⟨hp15, H⟩ | ⟨hp15, H⟩
                      · obtain ⟨F, G, hq15⟩ := xH F G hp15
                        refine xR ?_
                        exact cut_at H (xK ⟨[1], []⟩)
                      · obtain ⟨F, G, hq15⟩ := xH F G hp15
                        refine xR ?_
                        exact cut_at H (xK ⟨[1], []⟩)
                    · obtain ⟨F, G, hq14⟩ := xH F G hp14
                      refine xR ?_
                      exact cut_at H (xK ⟨[1], []⟩)
                  · rintro x43 H
                    rw [preref9_Format_j13] at H
                    rcases bsplit H with ⟨hp13, H⟩ | ⟨hp13, H⟩
                    · obtain ⟨F, G, hq13⟩ := xH Y G hp13
                      refine xT ?_
                      refine xr ?_
                      exact cut_at H (xK ⟨[1], []⟩)
                    · obtain ⟨F, G, hq13⟩ := xH Y G hp13
                      refine xE ?_
                      exact cut_at H (xK ⟨[1], []⟩)
            · rintro ⟨x37, x38⟩ H
              rw [preref9_Format_j9] at H
              refine xS ?_
              refine xr ?_
              refine xr ?_
              refine w_loop (preref9_Format_b10 x4 x6 x37 x38) (fun s => [(3, .c (.pt 1 0)), (4, .c (.d (.sl 11 (List.map d_Token r1.1)))), (6, .c (.d (.v (str s.1)))), (7, .c (.d (.v (.int .i64 x38)))), (8, .c (.d (.v (.int .i64 x4)))), (10, .c (.d (.sl 11 (List.map d_Token x6)))), (114, .c (.d (.v (.int .i64 x37)))), (115, .c (.d (.v (.int .i64 s.2))))]) (fun s => [[.d (.v (.int .i64 0)), .d (.v (.int .i64 0)), .d (.v (.int .i64 0))]]) [] H (xK ⟨[1], []⟩) ?_
              rintro n4 ⟨x39, x40⟩ o4 H hF4
              rw [preref9_Format_b10] at H
              refine xS ?_
              refine xr ?_
              rcases bsplit H with ⟨hp10, H⟩ | ⟨hp10, H⟩
              · obtain ⟨F, G, hq10⟩ := xH Y G hp10
                refine xT ?_
                obtain ⟨hg3, H⟩ := gsplit H
                refine xr ?_
                refine xr ?_
                exact round_at (inl_fin H hF4) (xK ⟨[1], []⟩)
              · obtain ⟨F, G, hq10⟩ := xH Y G hp10
                replace H := inrO_fin H hF4
                refine xE ?_
                obtain ⟨r2, hr2, H⟩ := osplit H
                have F := xC Y (preref1_Join_c x6 r2 hr2)
                obtain ⟨hg4, H⟩ := gsplit H
                refine xR0 ?_
                refine then_normal ?_
                refine w_cut (preref9_Format_j11 x4 x38) (fun s => [(3, .c (.pt 1 0)), (4, .c (.d (.sl 11 (List.map d_Token r1.1)))), (6, .c (.d (.v (str s)))), (7, .c (.d (.v (.int .i64 x38)))), (8, .c (.d (.v (.int .i64 x4))))]) (fun s => [[.d (.v (.int .i64 0)), .d (.v (.int .i64 0)), .d (.v (.int .i64 0))]]) [] o1 ?_ ?_
                · refine xS ?_
                  obtain ⟨hg6, H⟩ := gsplit H
                  have F := xZ Y (map_getD d_Token x6 ((IntKind.i64.wrap ((x6.length : Int) - 1)).toNat) default default (by omega))
                  refine xR ?_
                  rcases bsplit H with ⟨hp11, H⟩ | ⟨hp11, H⟩
                  · obtain ⟨F, G, hq11⟩ := xH Y G hp11
                    refine xT ?_
                    obtain ⟨hg7, H⟩ := gsplit H
                    refine xr ?_
                    exact cut_at H (xK ⟨[1], []⟩)
                  · obtain ⟨F, G, hq11⟩ := xH Y G hp11
                    refine xE ?_
                    exact cut_at H (xK ⟨[1], []⟩)
                · rintro x41 H
                  rw [preref9_Format_j11] at H
                  obtain ⟨hg5, H⟩ := gsplit H
                  refine xr ?_
                  exact round_at (inl_fin H hF1) (xK ⟨[1], []⟩)
    · obtain ⟨F, G, hq2⟩ := xH Y G hp2
      replace H := inrO_fin H hF1
      refine xE ?_
      refine xr ?_
      rcases bsplit H with ⟨hp18, H⟩ | ⟨hp18, H⟩
      · obtain ⟨F, G, hq18⟩ := xH Y G hp18
        refine xT ?_
        replace H := Option.some.inj H
        refine xr ?_
        subst H
        exact xN
      · obtain ⟨F, G, hq18⟩ := xH Y G hp18
        refine xE ?_
        replace H := Option.some.inj H
        refine xr ?_
        subst H
        exact xN
theorem preref9_Format_c (a0 : List UInt8) (r : (List UInt8) × Fault) (H : preref9_Format a0 = some r) : PC pf_preref9_Format [dS a0] (T2 dS d_Fault r) := PF.c (a := a0) H
noncomputable def prelaw12_NeatTells_j1 : Bool → Option Bool
  | x1 => some x1
noncomputable def prelaw12_NeatTells (a0 : List UInt8) : Option Bool :=
  (neat_Text a0).bind fun r1 => (preref9_Format a0).bind fun r2 => if (eqI r1.2.Err r2.2.Err && (eqI r1.2.File r2.2.File && (eqI r1.2.At r2.2.At))) = true then prelaw12_NeatTells_j1 (eqS r1.1 r2.1) else prelaw12_NeatTells_j1 false
noncomputable def pf_prelaw12_NeatTells : PF := PF.of (E1 dS) (fun a => prelaw12_NeatTells a) dB
set_option maxRecDepth 100000 in
set_option maxHeartbeats 4000000 in
theorem prelaw12_NeatTells_ok : PureOk Try.prog 3 pf_prelaw12_NeatTells := by
  refine xF mixed [(8, pf_neat_Text), (9, pf_preref9_Format)] [] ⟨⟨call_8, neat_Text_ok⟩, ⟨call_9, preref9_Format_ok⟩, trivial⟩ trivial Try.func3 ?_
  rintro a0 out H
  have G := True.intro
  have Y := xZ y_24 <| xZ Try.results3 <| d_Fault.eq_1
  simp only [prelaw12_NeatTells] at H
  refine xS ?_
  refine xr ?_
  obtain ⟨r1, hr1, H⟩ := osplit H
  have F := xC Y (neat_Text_c a0 r1 hr1)
  refine xR ?_
  obtain ⟨r2, hr2, H⟩ := osplit H
  have F := xC Y (preref9_Format_c a0 r2 hr2)
  refine xR0 ?_
  refine then_normal ?_
  refine w_cut prelaw12_NeatTells_j1 (fun s => [(2, .c (.d (.v (.bool s))))]) (fun s => []) [] out ?_ ?_
  · rcases bsplit H with ⟨hp1, H⟩ | ⟨hp1, H⟩
    · obtain ⟨F, G, hq1⟩ := xH Y G hp1
      refine xR ?_
      exact cut_at H (xK ⟨[], []⟩)
    · obtain ⟨F, G, hq1⟩ := xH Y G hp1
      refine xR ?_
      exact cut_at H (xK ⟨[], []⟩)
  · rintro x1 H
    rw [prelaw12_NeatTells_j1] at H
    replace H := Option.some.inj H
    refine xS ?_
    subst H
    exact xN
theorem prelaw12_NeatTells_c (a0 : List UInt8) (r : Bool) (H : prelaw12_NeatTells a0 = some r) : PC pf_prelaw12_NeatTells [dS a0] (dB r) := PF.c (a := a0) H
end Go.Proofs.Ytkhcecpbbmfcaaa
