/- Functions of data for functions of the program. Written by dec3.py. -/
import Derived.Test.YtkhcecpbbmfcaaaZag
import Derived.Test.YtkhcecpbbmfcaaaZaj
import Derived.Test.YtkhcecpbbmfcaaaZal
set_option linter.unusedVariables false
set_option linter.unusedSimpArgs false
namespace Go.Proofs.Ytkhcecpbbmfcaaa
open Go.RowKit
noncomputable def strings_Builder_WriteByte (a0 : UInt8) (a1 : Bool) (a2 : List UInt8) : Option (List UInt8) :=
  (strings_Builder_copyCheck a1 a2).bind fun r1 => if a2.length + 1 ≤ 140737488355328 then some (a2 ++ [a0]) else none
def g_strings_Builder_WriteByte (a0 : UInt8) (a1 : Bool) (a2 : List UInt8) (r : (List UInt8)) : GI :=
  ⟨[.c (.pt 1 0), .c (.d (.v (.int .u8 (a0.toNat : Int))))], [[.op a1 1 0, .os 2 1 0 a2.length], [.bar a2]], [], .ret (.c (.d (.v .nilIface))) [[.op true 1 0, .os 3 1 0 r.length], [], [.bar r]] []⟩
def S_strings_Builder_WriteByte : GI → Prop := fun g => ∃ (a0 : UInt8) (a1 : Bool) (a2 : List UInt8) (r : (List UInt8)), strings_Builder_WriteByte a0 a1 a2 = some r ∧ g = g_strings_Builder_WriteByte a0 a1 a2 r
theorem strings_Builder_WriteByte_c (a0 : UInt8) (a1 : Bool) (a2 : List UInt8) (r : (List UInt8)) (H : strings_Builder_WriteByte a0 a1 a2 = some r) : S_strings_Builder_WriteByte (g_strings_Builder_WriteByte a0 a1 a2 r) := ⟨a0, a1, a2, r, H, rfl⟩
set_option maxRecDepth 100000 in
set_option maxHeartbeats 4000000 in
theorem strings_Builder_WriteByte_ok : ∀ g, S_strings_Builder_WriteByte g → GenOk Try.prog 37 g := by
  rintro _ ⟨a0, a1, a2, r, H, rfl⟩
  refine xGn mixed [] [(66, true, S_strings_Builder_copyCheck)] [] trivial ⟨strings_Builder_copyCheck_k, trivial⟩ trivial Try.func37 _ ?_
  have G := True.intro
  have Y := xZ y_5 <| xZ y_57 <| xZ y_59 <| xZ Try.results37 <| xZ g_strings_Builder_copyCheck.eq_1 <| g_strings_Builder_WriteByte.eq_1
  dsimp only [g_strings_Builder_WriteByte]
  simp only [strings_Builder_WriteByte] at H
  refine xS ?_
  refine xr ?_
  obtain ⟨r1, hr1, H⟩ := osplit H
  have F := Y
  refine xQ ?_
  refine xs 1 ?_
  refine xc ⟨[1, 2], []⟩ (tabG 0 (strings_Builder_copyCheck_c a1 a2 r1 hr1)) ?_
  refine xl ?_
  refine xS ?_
  obtain ⟨hg1, H⟩ := gsplit H
  refine xr ?_
  replace H := Option.some.inj H
  refine xr ?_
  subst H
  refine xOr ?_
  refine qDf [] ?_
  exact xO ⟨[1, 2, 5], []⟩
theorem strings_Builder_WriteByte_k : Callable Try.prog 37 ∧ (∀ g, S_strings_Builder_WriteByte g → GenOk Try.prog 37 g) ∧ (true = true → ∀ g, S_strings_Builder_WriteByte g → ∃ val bs ts, g.out = .ret val bs ts) :=
  ⟨call_37, strings_Builder_WriteByte_ok, fun _ => by rintro _ ⟨_, _, _, _, _, rfl⟩; exact ⟨_, _, _, rfl⟩⟩
noncomputable def macro_Quote_j4 (x17 : Int) (x18 : Int) : (UInt8 × (List UInt8)) → Option ((Int × Int × (List UInt8)) ⊕ ((Int × Int × (List UInt8) × (List UInt8)) ⊕ Token))
  | (x20, x21) => (strings_Builder_WriteByte x20 true x21).bind fun r2 => some (.inl (x17, IntKind.i64.wrap (x18 + 1), r2))
noncomputable def macro_Quote_j5 (x17 : Int) (x18 : Int) (x19 : List UInt8) : (UInt8 × Bool) → Option ((Int × Int × (List UInt8)) ⊕ ((Int × Int × (List UInt8) × (List UInt8)) ⊕ Token))
  | (x22, x23) => if x23 = true then (strings_Builder_WriteByte (92 : UInt8) true x19).bind fun r3 => macro_Quote_j4 x17 x18 (x22, r3) else macro_Quote_j4 x17 x18 (x22, x19)
noncomputable def macro_Quote_b3 (x1 : Int) (x2 : Int) (x3 : List UInt8) (x5 : Int) (x6 : List UInt8) : (Int × Int × (List UInt8)) → Option ((Int × Int × (List UInt8)) ⊕ ((Int × Int × (List UInt8) × (List UInt8)) ⊕ Token))
  | (x17, x18, x19) => if (ltI x18 x17) = true then if (0 : Int) ≤ x18 ∧ x18.toNat < x6.length then if (eqI x5 4) = true then if (eqI ((x6.getD x18.toNat default).toNat : Int) 34) = true then macro_Quote_j5 x17 x18 x19 ((x6.getD x18.toNat default), true) else macro_Quote_j5 x17 x18 x19 ((x6.getD x18.toNat default), eqI ((x6.getD x18.toNat default).toNat : Int) 92) else if (eqI x5 3) = true then if (eqI ((x6.getD x18.toNat default).toNat : Int) 34) = true then macro_Quote_j5 x17 x18 x19 ((x6.getD x18.toNat default), true) else macro_Quote_j5 x17 x18 x19 ((x6.getD x18.toNat default), eqI ((x6.getD x18.toNat default).toNat : Int) 92) else macro_Quote_j5 x17 x18 x19 ((x6.getD x18.toNat default), false) else none else inrO (some (.inl (x1, IntKind.i64.wrap (x2 + 1), x3, x19)))
noncomputable def macro_Quote_j2 (x1 : Int) (x2 : Int) (x3 : List UInt8) : (Int × (List UInt8) × Bool × Bool × Int × Int × Int × Int × (List (List UInt8)) × (List Call) × Int × (List UInt8)) → Option ((Int × Int × (List UInt8) × (List UInt8)) ⊕ Token)
  | (x5, x6, x7, x8, x9, x10, x11, x12, x13, x14, x15, x16) => loopO (macro_Quote_b3 x1 x2 x3 x5 x6) ((x6.length : Int), 0, x16)
noncomputable def macro_Quote_j6 (x1 : Int) (x2 : Int) (x3 : List UInt8) (x4 : List UInt8) : (Bool × Int × (List UInt8) × Bool × Bool × Int × Int × Int × Int × (List (List UInt8)) × (List Call) × Int) → Option ((Int × Int × (List UInt8) × (List UInt8)) ⊕ Token)
  | (x24, x25, x26, x27, x28, x29, x30, x31, x32, x33, x34, x35) => if x24 = true then (strings_Builder_WriteByte (32 : UInt8) true x4).bind fun r4 => macro_Quote_j2 x1 x2 x3 (x25, x26, x27, x28, x29, x30, x31, x32, x33, x34, x35, r4) else macro_Quote_j2 x1 x2 x3 (x25, x26, x27, x28, x29, x30, x31, x32, x33, x34, x35, x4)
noncomputable def macro_Quote_b1 (a0 : List Token) (a1 : Token) : (Int × Int × (List UInt8) × (List UInt8)) → Option ((Int × Int × (List UInt8) × (List UInt8)) ⊕ Token)
  | (x1, x2, x3, x4) => if (ltI x2 x1) = true then if (0 : Int) ≤ x2 ∧ x2.toNat < a0.length then if (ltI 0 x2) = true then macro_Quote_j6 x1 x2 x3 x4 ((a0.getD x2.toNat default).Space, (a0.getD x2.toNat default).Kind, (a0.getD x2.toNat default).Text, (a0.getD x2.toNat default).Space, (a0.getD x2.toNat default).First, (a0.getD x2.toNat default).File, (a0.getD x2.toNat default).At, (a0.getD x2.toNat default).End, (a0.getD x2.toNat default).Line, (a0.getD x2.toNat default).Hide, (a0.getD x2.toNat default).Calls, (a0.getD x2.toNat default).Made) else macro_Quote_j6 x1 x2 x3 x4 (false, (a0.getD x2.toNat default).Kind, (a0.getD x2.toNat default).Text, (a0.getD x2.toNat default).Space, (a0.getD x2.toNat default).First, (a0.getD x2.toNat default).File, (a0.getD x2.toNat default).At, (a0.getD x2.toNat default).End, (a0.getD x2.toNat default).Line, (a0.getD x2.toNat default).Hide, (a0.getD x2.toNat default).Calls, (a0.getD x2.toNat default).Made) else none else inrO ((strings_Builder_WriteByte (34 : UInt8) true x4).bind fun r5 => (strings_Builder_String true r5).bind fun r6 => some (⟨4, r5, a1.Space, a1.First, a1.File, a1.At, a1.End, a1.Line, a1.Hide, a1.Calls, 2⟩ : Token))
noncomputable def macro_Quote (a0 : List Token) (a1 : Token) : Option Token :=
  (strings_Builder_WriteByte (34 : UInt8) false []).bind fun r1 => loopO (macro_Quote_b1 a0 a1) ((a0.length : Int), 0, [], r1)
noncomputable def pf_macro_Quote : PF := PF.of (E2 (dL 11 d_Token) d_Token) (fun a => macro_Quote a.1 a.2) d_Token
set_option maxRecDepth 100000 in
set_option maxHeartbeats 4000000 in
theorem macro_Quote_ok : PureOk Try.prog 26 pf_macro_Quote := by
  refine xF mixed [] [(37, true, S_strings_Builder_WriteByte), (39, true, S_strings_Builder_String)] trivial ⟨strings_Builder_WriteByte_k, strings_Builder_String_k, trivial⟩ Try.func26 ?_
  rintro ⟨a0, a1⟩ out H
  have G := True.intro
  have Y := xZ y_3 <| xZ y_4 <| xZ y_5 <| xZ y_9 <| xZ y_30 <| xZ y_45 <| xZ y_57 <| xZ y_59 <| xZ Try.results26 <| xZ d_Call.eq_1 <| xZ d_Token.eq_1 <| xZ g_strings_Builder_WriteByte.eq_1 <| g_strings_Builder_String.eq_1
  simp only [macro_Quote] at H
  refine xS ?_
  refine xr ?_
  refine xr ?_
  obtain ⟨r1, hr1, H⟩ := osplit H
  have F := Y
  refine xQ ?_
  refine xc ⟨[3, 0], []⟩ (tabG 0 (strings_Builder_WriteByte_c (34 : UInt8) false [] r1 hr1)) ?_
  refine xl ?_
  refine xS ?_
  refine xr ?_
  refine w_loop (macro_Quote_b1 a0 a1) (fun s => [(3, .c (.pt 1 0)), (4, .c (.pt 2 0)), (5, .c (.pt 3 0)), (11, .c (.d (.sl 11 (List.map d_Token a0)))), (12, .c (.d (.v (.int .i64 s.1)))), (13, .c (.d (.v (.int .i64 s.2.1))))]) (fun s => [[.d (.v (.int .i64 a1.Kind)), .d (.v (str a1.Text)), .d (.v (.bool a1.Space)), .d (.v (.bool a1.First)), .d (.v (.int .i64 a1.File)), .d (.v (.int .i64 a1.At)), .d (.v (.int .i64 a1.End)), .d (.v (.int .i64 a1.Line)), .d (.sl 1 (List.map dS a1.Hide)), .d (.sl 3 (List.map d_Call a1.Calls)), .d (.v (.int .i64 a1.Made))], [.d (.v (.int .i64 0)), .d (.v (str s.2.2.1)), .d (.v (.bool false)), .d (.v (.bool false)), .d (.v (.int .i64 0)), .d (.v (.int .i64 0)), .d (.v (.int .i64 0)), .d (.v (.int .i64 0)), .sl 1 [] 0, .sl 3 [] 0, .d (.v (.int .i64 0))], [.op true 3 0, .os 4 1 0 s.2.2.2.length], [.bar s.2.2.2]]) [] H (xK ⟨[1,2,3,6], []⟩) ?_
  rintro n1 ⟨x1, x2, x3, x4⟩ o1 H hF1
  rw [macro_Quote_b1] at H
  refine xS ?_
  refine xr ?_
  rcases bsplit H with ⟨hp1, H⟩ | ⟨hp1, H⟩
  · obtain ⟨F, G, hq1⟩ := xH Y G hp1
    refine xT ?_
    obtain ⟨hg1, H⟩ := gsplit H
    have F := xZ Y (map_getD d_Token a0 x2.toNat default default (by omega))
    refine xR0 ?_
    refine then_normal ?_
    refine w_cut (macro_Quote_j2 x1 x2 x3) (fun s => [(3, .c (.pt 1 0)), (4, .c (.pt 2 0)), (5, .c (.pt 3 0)), (7, .c (.pt 4 0)), (11, .c (.d (.sl 11 (List.map d_Token a0)))), (12, .c (.d (.v (.int .i64 x1)))), (13, .c (.d (.v (.int .i64 x2))))]) (fun s => [[.d (.v (.int .i64 a1.Kind)), .d (.v (str a1.Text)), .d (.v (.bool a1.Space)), .d (.v (.bool a1.First)), .d (.v (.int .i64 a1.File)), .d (.v (.int .i64 a1.At)), .d (.v (.int .i64 a1.End)), .d (.v (.int .i64 a1.Line)), .d (.sl 1 (List.map dS a1.Hide)), .d (.sl 3 (List.map d_Call a1.Calls)), .d (.v (.int .i64 a1.Made))], [.d (.v (.int .i64 0)), .d (.v (str x3)), .d (.v (.bool false)), .d (.v (.bool false)), .d (.v (.int .i64 0)), .d (.v (.int .i64 0)), .d (.v (.int .i64 0)), .d (.v (.int .i64 0)), .sl 1 [] 0, .sl 3 [] 0, .d (.v (.int .i64 0))], [.op true 3 0, .os 5 1 0 s.2.2.2.2.2.2.2.2.2.2.2.length], [.d (.v (.int .i64 s.1)), .d (.v (str s.2.1)), .d (.v (.bool s.2.2.1)), .d (.v (.bool s.2.2.2.1)), .d (.v (.int .i64 s.2.2.2.2.1)), .d (.v (.int .i64 s.2.2.2.2.2.1)), .d (.v (.int .i64 s.2.2.2.2.2.2.1)), .d (.v (.int .i64 s.2.2.2.2.2.2.2.1)), .d (.sl 1 (List.map dS s.2.2.2.2.2.2.2.2.1)), .d (.sl 3 (List.map d_Call s.2.2.2.2.2.2.2.2.2.1)), .d (.v (.int .i64 s.2.2.2.2.2.2.2.2.2.2.1))], [.bar s.2.2.2.2.2.2.2.2.2.2.2]]) [] o1 ?_ ?_
    · refine w_cut (macro_Quote_j6 x1 x2 x3 x4) (fun s => [(3, .c (.pt 1 0)), (4, .c (.pt 2 0)), (5, .c (.pt 3 0)), (7, .c (.pt 4 0)), (11, .c (.d (.sl 11 (List.map d_Token a0)))), (12, .c (.d (.v (.int .i64 x1)))), (13, .c (.d (.v (.int .i64 x2)))), (23, .c (.d (.v (.bool s.1))))]) (fun s => [[.d (.v (.int .i64 a1.Kind)), .d (.v (str a1.Text)), .d (.v (.bool a1.Space)), .d (.v (.bool a1.First)), .d (.v (.int .i64 a1.File)), .d (.v (.int .i64 a1.At)), .d (.v (.int .i64 a1.End)), .d (.v (.int .i64 a1.Line)), .d (.sl 1 (List.map dS a1.Hide)), .d (.sl 3 (List.map d_Call a1.Calls)), .d (.v (.int .i64 a1.Made))], [.d (.v (.int .i64 0)), .d (.v (str x3)), .d (.v (.bool false)), .d (.v (.bool false)), .d (.v (.int .i64 0)), .d (.v (.int .i64 0)), .d (.v (.int .i64 0)), .d (.v (.int .i64 0)), .sl 1 [] 0, .sl 3 [] 0, .d (.v (.int .i64 0))], [.op true 3 0, .os 5 1 0 x4.length], [.d (.v (.int .i64 s.2.1)), .d (.v (str s.2.2.1)), .d (.v (.bool s.2.2.2.1)), .d (.v (.bool s.2.2.2.2.1)), .d (.v (.int .i64 s.2.2.2.2.2.1)), .d (.v (.int .i64 s.2.2.2.2.2.2.1)), .d (.v (.int .i64 s.2.2.2.2.2.2.2.1)), .d (.v (.int .i64 s.2.2.2.2.2.2.2.2.1)), .d (.sl 1 (List.map dS s.2.2.2.2.2.2.2.2.2.1)), .d (.sl 3 (List.map d_Call s.2.2.2.2.2.2.2.2.2.2.1)), .d (.v (.int .i64 s.2.2.2.2.2.2.2.2.2.2.2))], [.bar x4]]) [] o1 ?_ ?_
      · rcases bsplit H with ⟨hp9, H⟩ | ⟨hp9, H⟩
        · obtain ⟨F, G, hq9⟩ := xH Y G hp9
          refine xR ?_
          exact cut_at H (xK ⟨[1,2,3,5,4], []⟩)
        · obtain ⟨F, G, hq9⟩ := xH Y G hp9
          refine xR ?_
          exact cut_at H (xK ⟨[1,2,3,5,4], []⟩)
      · rintro ⟨x24, x25, x26, x27, x28, x29, x30, x31, x32, x33, x34, x35⟩ H
        rw [macro_Quote_j6] at H
        rcases bsplit H with ⟨hp8, H⟩ | ⟨hp8, H⟩
        · obtain ⟨F, G, hq8⟩ := xH Y G hp8
          refine xT ?_
          obtain ⟨r4, hr4, H⟩ := osplit H
          have F := Y
          refine xQ ?_
          refine xc ⟨[3, 5], []⟩ (tabG 0 (strings_Builder_WriteByte_c (32 : UInt8) true x4 r4 hr4)) ?_
          refine xl ?_
          refine xS ?_
          exact cut_at H (xK ⟨[1,2,3,4,8], []⟩)
        · obtain ⟨F, G, hq8⟩ := xH Y G hp8
          refine xE ?_
          exact cut_at H (xK ⟨[1,2,3,4,5], []⟩)
    · rintro ⟨x5, x6, x7, x8, x9, x10, x11, x12, x13, x14, x15, x16⟩ H
      rw [macro_Quote_j2] at H
      refine xS ?_
      refine xr ?_
      refine w_loop (macro_Quote_b3 x1 x2 x3 x5 x6) (fun s => [(3, .c (.pt 1 0)), (4, .c (.pt 2 0)), (5, .c (.pt 3 0)), (7, .c (.pt 4 0)), (11, .c (.d (.sl 11 (List.map d_Token a0)))), (12, .c (.d (.v (.int .i64 x1)))), (13, .c (.d (.v (.int .i64 x2)))), (27, .c (.d (.sl 1 (List.map dU x6)))), (28, .c (.d (.v (.int .i64 s.1)))), (29, .c (.d (.v (.int .i64 s.2.1))))]) (fun s => [[.d (.v (.int .i64 a1.Kind)), .d (.v (str a1.Text)), .d (.v (.bool a1.Space)), .d (.v (.bool a1.First)), .d (.v (.int .i64 a1.File)), .d (.v (.int .i64 a1.At)), .d (.v (.int .i64 a1.End)), .d (.v (.int .i64 a1.Line)), .d (.sl 1 (List.map dS a1.Hide)), .d (.sl 3 (List.map d_Call a1.Calls)), .d (.v (.int .i64 a1.Made))], [.d (.v (.int .i64 0)), .d (.v (str x3)), .d (.v (.bool false)), .d (.v (.bool false)), .d (.v (.int .i64 0)), .d (.v (.int .i64 0)), .d (.v (.int .i64 0)), .d (.v (.int .i64 0)), .sl 1 [] 0, .sl 3 [] 0, .d (.v (.int .i64 0))], [.op true 3 0, .os 5 1 0 s.2.2.length], [.d (.v (.int .i64 x5)), .d (.v (str x6)), .d (.v (.bool x7)), .d (.v (.bool x8)), .d (.v (.int .i64 x9)), .d (.v (.int .i64 x10)), .d (.v (.int .i64 x11)), .d (.v (.int .i64 x12)), .d (.sl 1 (List.map dS x13)), .d (.sl 3 (List.map d_Call x14)), .d (.v (.int .i64 x15))], [.bar s.2.2]]) [] H (xK ⟨[1,2,3,4,5], []⟩) ?_
      rintro n2 ⟨x17, x18, x19⟩ o2 H hF2
      rw [macro_Quote_b3] at H
      refine xS ?_
      refine xr ?_
      rcases bsplit H with ⟨hp2, H⟩ | ⟨hp2, H⟩
      · obtain ⟨F, G, hq2⟩ := xH Y G hp2
        refine xT ?_
        obtain ⟨hg2, H⟩ := gsplit H
        have F := xZ Y (map_getD dU x6 x18.toNat default default (by omega))
        refine xR0 ?_
        refine then_normal ?_
        refine w_cut (macro_Quote_j4 x17 x18) (fun s => [(3, .c (.pt 1 0)), (4, .c (.pt 2 0)), (5, .c (.pt 3 0)), (7, .c (.pt 4 0)), (9, .c (.d (.v (.int .u8 (s.1.toNat : Int))))), (11, .c (.d (.sl 11 (List.map d_Token a0)))), (12, .c (.d (.v (.int .i64 x1)))), (13, .c (.d (.v (.int .i64 x2)))), (27, .c (.d (.sl 1 (List.map dU x6)))), (28, .c (.d (.v (.int .i64 x17)))), (29, .c (.d (.v (.int .i64 x18))))]) (fun s => [[.d (.v (.int .i64 a1.Kind)), .d (.v (str a1.Text)), .d (.v (.bool a1.Space)), .d (.v (.bool a1.First)), .d (.v (.int .i64 a1.File)), .d (.v (.int .i64 a1.At)), .d (.v (.int .i64 a1.End)), .d (.v (.int .i64 a1.Line)), .d (.sl 1 (List.map dS a1.Hide)), .d (.sl 3 (List.map d_Call a1.Calls)), .d (.v (.int .i64 a1.Made))], [.d (.v (.int .i64 0)), .d (.v (str x3)), .d (.v (.bool false)), .d (.v (.bool false)), .d (.v (.int .i64 0)), .d (.v (.int .i64 0)), .d (.v (.int .i64 0)), .d (.v (.int .i64 0)), .sl 1 [] 0, .sl 3 [] 0, .d (.v (.int .i64 0))], [.op true 3 0, .os 5 1 0 s.2.length], [.d (.v (.int .i64 x5)), .d (.v (str x6)), .d (.v (.bool x7)), .d (.v (.bool x8)), .d (.v (.int .i64 x9)), .d (.v (.int .i64 x10)), .d (.v (.int .i64 x11)), .d (.v (.int .i64 x12)), .d (.sl 1 (List.map dS x13)), .d (.sl 3 (List.map d_Call x14)), .d (.v (.int .i64 x15))], [.bar s.2]]) [] o2 ?_ ?_
        · refine w_cut (macro_Quote_j5 x17 x18 x19) (fun s => [(3, .c (.pt 1 0)), (4, .c (.pt 2 0)), (5, .c (.pt 3 0)), (7, .c (.pt 4 0)), (9, .c (.d (.v (.int .u8 (s.1.toNat : Int))))), (11, .c (.d (.sl 11 (List.map d_Token a0)))), (12, .c (.d (.v (.int .i64 x1)))), (13, .c (.d (.v (.int .i64 x2)))), (27, .c (.d (.sl 1 (List.map dU x6)))), (28, .c (.d (.v (.int .i64 x17)))), (29, .c (.d (.v (.int .i64 x18)))), (48, .c (.d (.v (.bool s.2))))]) (fun s => [[.d (.v (.int .i64 a1.Kind)), .d (.v (str a1.Text)), .d (.v (.bool a1.Space)), .d (.v (.bool a1.First)), .d (.v (.int .i64 a1.File)), .d (.v (.int .i64 a1.At)), .d (.v (.int .i64 a1.End)), .d (.v (.int .i64 a1.Line)), .d (.sl 1 (List.map dS a1.Hide)), .d (.sl 3 (List.map d_Call a1.Calls)), .d (.v (.int .i64 a1.Made))], [.d (.v (.int .i64 0)), .d (.v (str x3)), .d (.v (.bool false)), .d (.v (.bool false)), .d (.v (.int .i64 0)), .d (.v (.int .i64 0)), .d (.v (.int .i64 0)), .d (.v (.int .i64 0)), .sl 1 [] 0, .sl 3 [] 0, .d (.v (.int .i64 0))], [.op true 3 0, .os 5 1 0 x19.length], [.d (.v (.int .i64 x5)), .d (.v (str x6)), .d (.v (.bool x7)), .d (.v (.bool x8)), .d (.v (.int .i64 x9)), .d (.v (.int .i64 x10)), .d (.v (.int .i64 x11)), .d (.v (.int .i64 x12)), .d (.sl 1 (List.map dS x13)), .d (.sl 3 (List.map d_Call x14)), .d (.v (.int .i64 x15))], [.bar x19]]) [] o2 ?_ ?_
          · rcases bsplit H with ⟨hp4, H⟩ | ⟨hp4, H⟩
            · obtain ⟨F, G, hq4⟩ := xH Y G hp4
              rcases bsplit H with ⟨hp5, H⟩ | ⟨hp5, H⟩
              · obtain ⟨F, G, hq5⟩ := xH F G hp5
                refine xR ?_
                exact cut_at H (xK ⟨[1,2,3,4,5], []⟩)
              · obtain ⟨F, G, hq5⟩ := xH F G hp5
                refine xR ?_
                exact cut_at H (xK ⟨[1,2,3,4,5], []⟩)
            · obtain ⟨F, G, hq4⟩ := xH Y G hp4
              rcases bsplit H with ⟨hp6, H⟩ | ⟨hp6, H⟩
              · obtain ⟨F, G, hq6⟩ := xH F G hp6
                rcases bsplit H with ⟨hp7, H⟩ | ⟨hp7, H⟩
                · obtain ⟨F, G, hq7⟩ := xH F G hp7
                  refine xR ?_
                  exact cut_at H (xK ⟨[1,2,3,4,5], []⟩)
                · obtain ⟨F, G, hq7⟩ := xH F G hp7
                  refine xR ?_
                  exact cut_at H (xK ⟨[1,2,3,4,5], []⟩)
              · obtain ⟨F, G, hq6⟩ := xH F G hp6
                refine xR ?_
                exact cut_at H (xK ⟨[1,2,3,4,5], []⟩)
          · rintro ⟨x22, x23⟩ H
            rw [macro_Quote_j5] at H
            rcases bsplit H with ⟨hp3, H⟩ | ⟨hp3, H⟩
            · obtain ⟨F, G, hq3⟩ := xH Y G hp3
              refine xT ?_
              obtain ⟨r3, hr3, H⟩ := osplit H
              have F := Y
              refine xQ ?_
              refine xc ⟨[3, 5], []⟩ (tabG 0 (strings_Builder_WriteByte_c (92 : UInt8) true x19 r3 hr3)) ?_
              refine xl ?_
              refine xS ?_
              exact cut_at H (xK ⟨[1,2,3,4,8], []⟩)
            · obtain ⟨F, G, hq3⟩ := xH Y G hp3
              refine xE ?_
              exact cut_at H (xK ⟨[1,2,3,4,5], []⟩)
        · rintro ⟨x20, x21⟩ H
          rw [macro_Quote_j4] at H
          obtain ⟨r2, hr2, H⟩ := osplit H
          have F := Y
          refine xQ ?_
          refine xs 1 ?_
          refine xc ⟨[3, 5], []⟩ (tabG 0 (strings_Builder_WriteByte_c x20 true x21 r2 hr2)) ?_
          refine xl ?_
          refine xS ?_
          refine xr ?_
          exact round_at (inl_fin H hF2) (xK ⟨[1,2,3,4,8], []⟩)
      · obtain ⟨F, G, hq2⟩ := xH Y G hp2
        replace H := inrO_fin H hF2
        refine xE ?_
        refine xr ?_
        exact round_at (inl_fin H hF1) (xK ⟨[1,2,3,5], []⟩)
  · obtain ⟨F, G, hq1⟩ := xH Y G hp1
    replace H := inrO_fin H hF1
    refine xE ?_
    obtain ⟨r5, hr5, H⟩ := osplit H
    have F := Y
    refine xQ ?_
    refine xc ⟨[3, 4], []⟩ (tabG 0 (strings_Builder_WriteByte_c (34 : UInt8) true x4 r5 hr5)) ?_
    refine xl ?_
    refine xS ?_
    obtain ⟨r6, hr6, H⟩ := osplit H
    have F := Y
    refine xQ ?_
    refine xc ⟨[3, 7], []⟩ (tabG 1 (strings_Builder_String_c true r5 r6 hr6)) ?_
    refine xs 6 ?_
    refine xl ?_
    refine xS ?_
    replace H := Option.some.inj H
    refine xr ?_
    subst H
    exact xN
theorem macro_Quote_c (a0 : List Token) (a1 : Token) (r : Token) (H : macro_Quote a0 a1 = some r) : PC pf_macro_Quote [(dL 11 d_Token) a0, d_Token a1] (d_Token r) := PF.c (a := (a0, a1)) H
noncomputable def preref4_Quote_j4 (x17 : List UInt8) (x18 : Int) (x19 : Int) : (List UInt8) → Option (((List UInt8) × Int × Int) ⊕ (((List UInt8) × Int × Int × (List UInt8)) ⊕ Token))
  | x20 => if x17.length + x20.length ≤ 9223372036854775807 then some (.inl (x17 ++ x20, x18, IntKind.i64.wrap (x19 + 1))) else none
noncomputable def preref4_Quote_j5 (x17 : List UInt8) (x18 : Int) (x19 : Int) : ((List UInt8) × Bool) → Option (((List UInt8) × Int × Int) ⊕ (((List UInt8) × Int × Int × (List UInt8)) ⊕ Token))
  | (x21, x22) => if x22 = true then if 1 + x21.length ≤ 9223372036854775807 then preref4_Quote_j4 x17 x18 x19 ([92] ++ x21) else none else preref4_Quote_j4 x17 x18 x19 x21
noncomputable def preref4_Quote_b3 (x2 : Int) (x3 : Int) (x4 : List UInt8) (x6 : Int) (x7 : List UInt8) : ((List UInt8) × Int × Int) → Option (((List UInt8) × Int × Int) ⊕ (((List UInt8) × Int × Int × (List UInt8)) ⊕ Token))
  | (x17, x18, x19) => if (ltI x19 x18) = true then if (0 : Int) ≤ x19 ∧ x19 ≤ (IntKind.i64.wrap (x19 + 1)) ∧ (IntKind.i64.wrap (x19 + 1)) ≤ (x7.length : Int) then if (eqS (List.take ((IntKind.i64.wrap (x19 + 1)).toNat - x19.toNat) (List.drop x19.toNat x7)) [34]) = true then if (eqI x6 4) = true then preref4_Quote_j5 x17 x18 x19 (List.take ((IntKind.i64.wrap (x19 + 1)).toNat - x19.toNat) (List.drop x19.toNat x7), true) else preref4_Quote_j5 x17 x18 x19 (List.take ((IntKind.i64.wrap (x19 + 1)).toNat - x19.toNat) (List.drop x19.toNat x7), eqI x6 3) else if (eqS (List.take ((IntKind.i64.wrap (x19 + 1)).toNat - x19.toNat) (List.drop x19.toNat x7)) [92]) = true then if (eqI x6 4) = true then preref4_Quote_j5 x17 x18 x19 (List.take ((IntKind.i64.wrap (x19 + 1)).toNat - x19.toNat) (List.drop x19.toNat x7), true) else preref4_Quote_j5 x17 x18 x19 (List.take ((IntKind.i64.wrap (x19 + 1)).toNat - x19.toNat) (List.drop x19.toNat x7), eqI x6 3) else preref4_Quote_j5 x17 x18 x19 (List.take ((IntKind.i64.wrap (x19 + 1)).toNat - x19.toNat) (List.drop x19.toNat x7), false) else none else inrO (some (.inl (x17, x2, IntKind.i64.wrap (x3 + 1), x4)))
noncomputable def preref4_Quote_j2 (x2 : Int) (x3 : Int) (x4 : List UInt8) : ((List UInt8) × Int × (List UInt8) × Bool × Bool × Int × Int × Int × Int × (List (List UInt8)) × (List Call) × Int) → Option (((List UInt8) × Int × Int × (List UInt8)) ⊕ Token)
  | (x5, x6, x7, x8, x9, x10, x11, x12, x13, x14, x15, x16) => loopO (preref4_Quote_b3 x2 x3 x4 x6 x7) (x5, (x7.length : Int), 0)
noncomputable def preref4_Quote_j6 (x1 : List UInt8) (x2 : Int) (x3 : Int) (x4 : List UInt8) : (Bool × Int × (List UInt8) × Bool × Bool × Int × Int × Int × Int × (List (List UInt8)) × (List Call) × Int) → Option (((List UInt8) × Int × Int × (List UInt8)) ⊕ Token)
  | (x23, x24, x25, x26, x27, x28, x29, x30, x31, x32, x33, x34) => if x23 = true then if x1.length + 1 ≤ 9223372036854775807 then preref4_Quote_j2 x2 x3 x4 (x1 ++ [32], x24, x25, x26, x27, x28, x29, x30, x31, x32, x33, x34) else none else preref4_Quote_j2 x2 x3 x4 (x1, x24, x25, x26, x27, x28, x29, x30, x31, x32, x33, x34)
noncomputable def preref4_Quote_b1 (a0 : List Token) (a1 : Token) : ((List UInt8) × Int × Int × (List UInt8)) → Option (((List UInt8) × Int × Int × (List UInt8)) ⊕ Token)
  | (x1, x2, x3, x4) => if (ltI x3 x2) = true then if (0 : Int) ≤ x3 ∧ x3.toNat < a0.length then if (ltI 0 x3) = true then preref4_Quote_j6 x1 x2 x3 x4 ((a0.getD x3.toNat default).Space, (a0.getD x3.toNat default).Kind, (a0.getD x3.toNat default).Text, (a0.getD x3.toNat default).Space, (a0.getD x3.toNat default).First, (a0.getD x3.toNat default).File, (a0.getD x3.toNat default).At, (a0.getD x3.toNat default).End, (a0.getD x3.toNat default).Line, (a0.getD x3.toNat default).Hide, (a0.getD x3.toNat default).Calls, (a0.getD x3.toNat default).Made) else preref4_Quote_j6 x1 x2 x3 x4 (false, (a0.getD x3.toNat default).Kind, (a0.getD x3.toNat default).Text, (a0.getD x3.toNat default).Space, (a0.getD x3.toNat default).First, (a0.getD x3.toNat default).File, (a0.getD x3.toNat default).At, (a0.getD x3.toNat default).End, (a0.getD x3.toNat default).Line, (a0.getD x3.toNat default).Hide, (a0.getD x3.toNat default).Calls, (a0.getD x3.toNat default).Made) else none else inrO (if x1.length + 1 ≤ 9223372036854775807 then some (⟨4, x1 ++ [34], a1.Space, a1.First, a1.File, a1.At, a1.End, a1.Line, a1.Hide, a1.Calls, 2⟩ : Token) else none)
noncomputable def preref4_Quote (a0 : List Token) (a1 : Token) : Option Token :=
  loopO (preref4_Quote_b1 a0 a1) ([34], (a0.length : Int), 0, [])
noncomputable def pf_preref4_Quote : PF := PF.of (E2 (dL 11 d_Token) d_Token) (fun a => preref4_Quote a.1 a.2) d_Token
set_option maxRecDepth 100000 in
set_option maxHeartbeats 4000000 in
theorem preref4_Quote_ok : PureOk Try.prog 27 pf_preref4_Quote := by
  refine xF mixed [] [] trivial trivial Try.func27 ?_
  rintro ⟨a0, a1⟩ out H
  have G := True.intro
  have Y := xZ y_3 <| xZ y_4 <| xZ y_9 <| xZ y_30 <| xZ y_45 <| xZ Try.results27 <| xZ d_Call.eq_1 <| d_Token.eq_1
  simp only [preref4_Quote] at H
  refine xS ?_
  refine xr ?_
  refine xr ?_
  refine xr ?_
  refine w_loop (preref4_Quote_b1 a0 a1) (fun s => [(3, .c (.pt 1 0)), (4, .c (.pt 2 0)), (5, .c (.d (.v (str s.1)))), (10, .c (.d (.sl 11 (List.map d_Token a0)))), (11, .c (.d (.v (.int .i64 s.2.1)))), (12, .c (.d (.v (.int .i64 s.2.2.1))))]) (fun s => [[.d (.v (.int .i64 a1.Kind)), .d (.v (str a1.Text)), .d (.v (.bool a1.Space)), .d (.v (.bool a1.First)), .d (.v (.int .i64 a1.File)), .d (.v (.int .i64 a1.At)), .d (.v (.int .i64 a1.End)), .d (.v (.int .i64 a1.Line)), .d (.sl 1 (List.map dS a1.Hide)), .d (.sl 3 (List.map d_Call a1.Calls)), .d (.v (.int .i64 a1.Made))], [.d (.v (.int .i64 0)), .d (.v (str s.2.2.2)), .d (.v (.bool false)), .d (.v (.bool false)), .d (.v (.int .i64 0)), .d (.v (.int .i64 0)), .d (.v (.int .i64 0)), .d (.v (.int .i64 0)), .sl 1 [] 0, .sl 3 [] 0, .d (.v (.int .i64 0))]]) [] H (xK ⟨[1,2], []⟩) ?_
  rintro n1 ⟨x1, x2, x3, x4⟩ o1 H hF1
  rw [preref4_Quote_b1] at H
  refine xS ?_
  refine xr ?_
  rcases bsplit H with ⟨hp1, H⟩ | ⟨hp1, H⟩
  · obtain ⟨F, G, hq1⟩ := xH Y G hp1
    refine xT ?_
    obtain ⟨hg1, H⟩ := gsplit H
    have F := xZ Y (map_getD d_Token a0 x3.toNat default default (by omega))
    refine xR0 ?_
    refine then_normal ?_
    refine w_cut (preref4_Quote_j2 x2 x3 x4) (fun s => [(3, .c (.pt 1 0)), (4, .c (.pt 2 0)), (5, .c (.d (.v (str s.1)))), (7, .c (.pt 3 0)), (10, .c (.d (.sl 11 (List.map d_Token a0)))), (11, .c (.d (.v (.int .i64 x2)))), (12, .c (.d (.v (.int .i64 x3))))]) (fun s => [[.d (.v (.int .i64 a1.Kind)), .d (.v (str a1.Text)), .d (.v (.bool a1.Space)), .d (.v (.bool a1.First)), .d (.v (.int .i64 a1.File)), .d (.v (.int .i64 a1.At)), .d (.v (.int .i64 a1.End)), .d (.v (.int .i64 a1.Line)), .d (.sl 1 (List.map dS a1.Hide)), .d (.sl 3 (List.map d_Call a1.Calls)), .d (.v (.int .i64 a1.Made))], [.d (.v (.int .i64 0)), .d (.v (str x4)), .d (.v (.bool false)), .d (.v (.bool false)), .d (.v (.int .i64 0)), .d (.v (.int .i64 0)), .d (.v (.int .i64 0)), .d (.v (.int .i64 0)), .sl 1 [] 0, .sl 3 [] 0, .d (.v (.int .i64 0))], [.d (.v (.int .i64 s.2.1)), .d (.v (str s.2.2.1)), .d (.v (.bool s.2.2.2.1)), .d (.v (.bool s.2.2.2.2.1)), .d (.v (.int .i64 s.2.2.2.2.2.1)), .d (.v (.int .i64 s.2.2.2.2.2.2.1)), .d (.v (.int .i64 s.2.2.2.2.2.2.2.1)), .d (.v (.int .i64 s.2.2.2.2.2.2.2.2.1)), .d (.sl 1 (List.map dS s.2.2.2.2.2.2.2.2.2.1)), .d (.sl 3 (List.map d_Call s.2.2.2.2.2.2.2.2.2.2.1)), .d (.v (.int .i64 s.2.2.2.2.2.2.2.2.2.2.2))]]) [] o1 ?_ ?_
    · refine w_cut (preref4_Quote_j6 x1 x2 x3 x4) (fun s => [(3, .c (.pt 1 0)), (4, .c (.pt 2 0)), (5, .c (.d (.v (str x1)))), (7, .c (.pt 3 0)), (10, .c (.d (.sl 11 (List.map d_Token a0)))), (11, .c (.d (.v (.int .i64 x2)))), (12, .c (.d (.v (.int .i64 x3)))), (22, .c (.d (.v (.bool s.1))))]) (fun s => [[.d (.v (.int .i64 a1.Kind)), .d (.v (str a1.Text)), .d (.v (.bool a1.Space)), .d (.v (.bool a1.First)), .d (.v (.int .i64 a1.File)), .d (.v (.int .i64 a1.At)), .d (.v (.int .i64 a1.End)), .d (.v (.int .i64 a1.Line)), .d (.sl 1 (List.map dS a1.Hide)), .d (.sl 3 (List.map d_Call a1.Calls)), .d (.v (.int .i64 a1.Made))], [.d (.v (.int .i64 0)), .d (.v (str x4)), .d (.v (.bool false)), .d (.v (.bool false)), .d (.v (.int .i64 0)), .d (.v (.int .i64 0)), .d (.v (.int .i64 0)), .d (.v (.int .i64 0)), .sl 1 [] 0, .sl 3 [] 0, .d (.v (.int .i64 0))], [.d (.v (.int .i64 s.2.1)), .d (.v (str s.2.2.1)), .d (.v (.bool s.2.2.2.1)), .d (.v (.bool s.2.2.2.2.1)), .d (.v (.int .i64 s.2.2.2.2.2.1)), .d (.v (.int .i64 s.2.2.2.2.2.2.1)), .d (.v (.int .i64 s.2.2.2.2.2.2.2.1)), .d (.v (.int .i64 s.2.2.2.2.2.2.2.2.1)), .d (.sl 1 (List.map dS s.2.2.2.2.2.2.2.2.2.1)), .d (.sl 3 (List.map d_Call s.2.2.2.2.2.2.2.2.2.2.1)), .d (.v (.int .i64 s.2.2.2.2.2.2.2.2.2.2.2))]]) [] o1 ?_ ?_
      · rcases bsplit H with ⟨hp9, H⟩ | ⟨hp9, H⟩
        · obtain ⟨F, G, hq9⟩ := xH Y G hp9
          refine xR ?_
          exact cut_at H (xK ⟨[1,2,3], []⟩)
        · obtain ⟨F, G, hq9⟩ := xH Y G hp9
          refine xR ?_
          exact cut_at H (xK ⟨[1,2,3], []⟩)
      · rintro ⟨x23, x24, x25, x26, x27, x28, x29, x30, x31, x32, x33, x34⟩ H
        rw [preref4_Quote_j6] at H
        rcases bsplit H with ⟨hp8, H⟩ | ⟨hp8, H⟩
        · obtain ⟨F, G, hq8⟩ := xH Y G hp8
          refine xT ?_
          obtain ⟨hg5, H⟩ := gsplit H
          refine xr ?_
          exact cut_at H (xK ⟨[1,2,3], []⟩)
        · obtain ⟨F, G, hq8⟩ := xH Y G hp8
          refine xE ?_
          exact cut_at H (xK ⟨[1,2,3], []⟩)
    · rintro ⟨x5, x6, x7, x8, x9, x10, x11, x12, x13, x14, x15, x16⟩ H
      rw [preref4_Quote_j2] at H
      refine xS ?_
      refine xr ?_
      refine w_loop (preref4_Quote_b3 x2 x3 x4 x6 x7) (fun s => [(3, .c (.pt 1 0)), (4, .c (.pt 2 0)), (5, .c (.d (.v (str s.1)))), (7, .c (.pt 3 0)), (10, .c (.d (.sl 11 (List.map d_Token a0)))), (11, .c (.d (.v (.int .i64 x2)))), (12, .c (.d (.v (.int .i64 x3)))), (27, .c (.d (.v (.int .i64 s.2.1)))), (28, .c (.d (.v (.int .i64 s.2.2))))]) (fun s => [[.d (.v (.int .i64 a1.Kind)), .d (.v (str a1.Text)), .d (.v (.bool a1.Space)), .d (.v (.bool a1.First)), .d (.v (.int .i64 a1.File)), .d (.v (.int .i64 a1.At)), .d (.v (.int .i64 a1.End)), .d (.v (.int .i64 a1.Line)), .d (.sl 1 (List.map dS a1.Hide)), .d (.sl 3 (List.map d_Call a1.Calls)), .d (.v (.int .i64 a1.Made))], [.d (.v (.int .i64 0)), .d (.v (str x4)), .d (.v (.bool false)), .d (.v (.bool false)), .d (.v (.int .i64 0)), .d (.v (.int .i64 0)), .d (.v (.int .i64 0)), .d (.v (.int .i64 0)), .sl 1 [] 0, .sl 3 [] 0, .d (.v (.int .i64 0))], [.d (.v (.int .i64 x6)), .d (.v (str x7)), .d (.v (.bool x8)), .d (.v (.bool x9)), .d (.v (.int .i64 x10)), .d (.v (.int .i64 x11)), .d (.v (.int .i64 x12)), .d (.v (.int .i64 x13)), .d (.sl 1 (List.map dS x14)), .d (.sl 3 (List.map d_Call x15)), .d (.v (.int .i64 x16))]]) [] H (xK ⟨[1,2,3], []⟩) ?_
      rintro n2 ⟨x17, x18, x19⟩ o2 H hF2
      rw [preref4_Quote_b3] at H
      refine xS ?_
      refine xr ?_
      rcases bsplit H with ⟨hp2, H⟩ | ⟨hp2, H⟩
      · obtain ⟨F, G, hq2⟩ := xH Y G hp2
        refine xT ?_
        refine xr ?_
        obtain ⟨hg2, H⟩ := gsplit H
        refine xr0 ?_
        refine then_normal ?_
        refine w_cut (preref4_Quote_j4 x17 x18 x19) (fun s => [(3, .c (.pt 1 0)), (4, .c (.pt 2 0)), (5, .c (.d (.v (str x17)))), (7, .c (.pt 3 0)), (9, .c (.d (.v (str s)))), (10, .c (.d (.sl 11 (List.map d_Token a0)))), (11, .c (.d (.v (.int .i64 x2)))), (12, .c (.d (.v (.int .i64 x3)))), (27, .c (.d (.v (.int .i64 x18)))), (28, .c (.d (.v (.int .i64 x19))))]) (fun s => [[.d (.v (.int .i64 a1.Kind)), .d (.v (str a1.Text)), .d (.v (.bool a1.Space)), .d (.v (.bool a1.First)), .d (.v (.int .i64 a1.File)), .d (.v (.int .i64 a1.At)), .d (.v (.int .i64 a1.End)), .d (.v (.int .i64 a1.Line)), .d (.sl 1 (List.map dS a1.Hide)), .d (.sl 3 (List.map d_Call a1.Calls)), .d (.v (.int .i64 a1.Made))], [.d (.v (.int .i64 0)), .d (.v (str x4)), .d (.v (.bool false)), .d (.v (.bool false)), .d (.v (.int .i64 0)), .d (.v (.int .i64 0)), .d (.v (.int .i64 0)), .d (.v (.int .i64 0)), .sl 1 [] 0, .sl 3 [] 0, .d (.v (.int .i64 0))], [.d (.v (.int .i64 x6)), .d (.v (str x7)), .d (.v (.bool x8)), .d (.v (.bool x9)), .d (.v (.int .i64 x10)), .d (.v (.int .i64 x11)), .d (.v (.int .i64 x12)), .d (.v (.int .i64 x13)), .d (.sl 1 (List.map dS x14)), .d (.sl 3 (List.map d_Call x15)), .d (.v (.int .i64 x16))]]) [] o2 ?_ ?_
        · refine w_cut (preref4_Quote_j5 x17 x18 x19) (fun s => [(3, .c (.pt 1 0)), (4, .c (.pt 2 0)), (5, .c (.d (.v (str x17)))), (7, .c (.pt 3 0)), (9, .c (.d (.v (str s.1)))), (10, .c (.d (.sl 11 (List.map d_Token a0)))), (11, .c (.d (.v (.int .i64 x2)))), (12, .c (.d (.v (.int .i64 x3)))), (27, .c (.d (.v (.int .i64 x18)))), (28, .c (.d (.v (.int .i64 x19)))), (52, .c (.d (.v (.bool s.2))))]) (fun s => [[.d (.v (.int .i64 a1.Kind)), .d (.v (str a1.Text)), .d (.v (.bool a1.Space)), .d (.v (.bool a1.First)), .d (.v (.int .i64 a1.File)), .d (.v (.int .i64 a1.At)), .d (.v (.int .i64 a1.End)), .d (.v (.int .i64 a1.Line)), .d (.sl 1 (List.map dS a1.Hide)), .d (.sl 3 (List.map d_Call a1.Calls)), .d (.v (.int .i64 a1.Made))], [.d (.v (.int .i64 0)), .d (.v (str x4)), .d (.v (.bool false)), .d (.v (.bool false)), .d (.v (.int .i64 0)), .d (.v (.int .i64 0)), .d (.v (.int .i64 0)), .d (.v (.int .i64 0)), .sl 1 [] 0, .sl 3 [] 0, .d (.v (.int .i64 0))], [.d (.v (.int .i64 x6)), .d (.v (str x7)), .d (.v (.bool x8)), .d (.v (.bool x9)), .d (.v (.int .i64 x10)), .d (.v (.int .i64 x11)), .d (.v (.int .i64 x12)), .d (.v (.int .i64 x13)), .d (.sl 1 (List.map dS x14)), .d (.sl 3 (List.map d_Call x15)), .d (.v (.int .i64 x16))]]) [] o2 ?_ ?_
          · rcases bsplit H with ⟨hp4, H⟩ | ⟨hp4, H⟩
            · obtain ⟨F, G, hq4⟩ := xH Y G hp4
              rcases bsplit H with ⟨hp5, H⟩ | ⟨hp5, H⟩
              · obtain ⟨F, G, hq5⟩ := xH F G hp5
                refine xR ?_
                exact cut_at H (xK ⟨[1,2,3], []⟩)
              · obtain ⟨F, G, hq5⟩ := xH F G hp5
                refine xR ?_
                exact cut_at H (xK ⟨[1,2,3], []⟩)
            · obtain ⟨F, G, hq4⟩ := xH Y G hp4
              rcases bsplit H with ⟨hp6, H⟩ | ⟨hp6, H⟩
              · obtain ⟨F, G, hq6⟩ := xH F G hp6
                rcases bsplit H with ⟨hp7, H⟩ | ⟨hp7, H⟩
                · obtain ⟨F, G, hq7⟩ := xH F G hp7
                  refine xR ?_
                  exact cut_at H (xK ⟨[1,2,3], []⟩)
                · obtain ⟨F, G, hq7⟩ := xH F G hp7
                  refine xR ?_
                  exact cut_at H (xK ⟨[1,2,3], []⟩)
              · obtain ⟨F, G, hq6⟩ := xH F G hp6
                refine xR ?_
                exact cut_at H (xK ⟨[1,2,3], []⟩)
          · rintro ⟨x21, x22⟩ H
            rw [preref4_Quote_j5] at H
            rcases bsplit H with ⟨hp3, H⟩ | ⟨hp3, H⟩
            · obtain ⟨F, G, hq3⟩ := xH Y G hp3
              refine xT ?_
              obtain ⟨hg4, H⟩ := gsplit H
              refine xr ?_
              exact cut_at H (xK ⟨[1,2,3], []⟩)
            · obtain ⟨F, G, hq3⟩ := xH Y G hp3
              refine xE ?_
              exact cut_at H (xK ⟨[1,2,3], []⟩)
        · rintro x20 H
          rw [preref4_Quote_j4] at H
          obtain ⟨hg3, H⟩ := gsplit H
          refine xr ?_
          refine xr ?_
          exact round_at (inl_fin H hF2) (xK ⟨[1,2,3], []⟩)
      · obtain ⟨F, G, hq2⟩ := xH Y G hp2
        replace H := inrO_fin H hF2
        refine xE ?_
        refine xr ?_
        exact round_at (inl_fin H hF1) (xK ⟨[1,2], []⟩)
  · obtain ⟨F, G, hq1⟩ := xH Y G hp1
    replace H := inrO_fin H hF1
    refine xE ?_
    obtain ⟨hg6, H⟩ := gsplit H
    refine xr ?_
    replace H := Option.some.inj H
    refine xr ?_
    subst H
    exact xN
theorem preref4_Quote_c (a0 : List Token) (a1 : Token) (r : Token) (H : preref4_Quote a0 a1 = some r) : PC pf_preref4_Quote [(dL 11 d_Token) a0, d_Token a1] (d_Token r) := PF.c (a := (a0, a1)) H
end Go.Proofs.Ytkhcecpbbmfcaaa
