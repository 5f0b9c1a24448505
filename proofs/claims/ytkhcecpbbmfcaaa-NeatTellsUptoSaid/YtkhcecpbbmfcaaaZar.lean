/- Functions of data for functions of the program. Written by dec3.py. -/
import Derived.Test.YtkhcecpbbmfcaaaZai
import Derived.Test.YtkhcecpbbmfcaaaZak
import Derived.Test.YtkhcecpbbmfcaaaZam
import Derived.Test.YtkhcecpbbmfcaaaZan
import Derived.Test.YtkhcecpbbmfcaaaZap
set_option linter.unusedVariables false
set_option linter.unusedSimpArgs false
namespace Go.Proofs.Ytkhcecpbbmfcaaa
open Go.RowKit
noncomputable def strings_Builder_WriteString (a0 : List UInt8) (a1 : Bool) (a2 : List UInt8) : Option (Int × (List UInt8)) :=
  (strings_Builder_copyCheck a1 a2).bind fun r1 => if a2.length + a0.length ≤ 140737488355328 then some ((a0.length : Int), a2 ++ a0) else none
def g_strings_Builder_WriteString (a0 : List UInt8) (a1 : Bool) (a2 : List UInt8) (r : (Int × (List UInt8))) : GI :=
  ⟨[.c (.pt 1 0), .c (.d (.v (str a0)))], [[.op a1 1 0, .os 2 1 0 a2.length], [.bar a2]], [], .ret (.tu [(false, [.d (.v (.int .i64 r.1))]), (false, [.d (.v .nilIface)])]) [[.op true 1 0, .os 3 1 0 r.2.length], [], [.bar r.2]] []⟩
def S_strings_Builder_WriteString : GI → Prop := fun g => ∃ (a0 : List UInt8) (a1 : Bool) (a2 : List UInt8) (r : (Int × (List UInt8))), strings_Builder_WriteString a0 a1 a2 = some r ∧ g = g_strings_Builder_WriteString a0 a1 a2 r
theorem strings_Builder_WriteString_c (a0 : List UInt8) (a1 : Bool) (a2 : List UInt8) (r : (Int × (List UInt8))) (H : strings_Builder_WriteString a0 a1 a2 = some r) : S_strings_Builder_WriteString (g_strings_Builder_WriteString a0 a1 a2 r) := ⟨a0, a1, a2, r, H, rfl⟩
set_option maxRecDepth 100000 in
set_option maxHeartbeats 4000000 in
theorem strings_Builder_WriteString_ok : ∀ g, S_strings_Builder_WriteString g → GenOk Try.prog 34 g := by
  rintro _ ⟨a0, a1, a2, r, H, rfl⟩
  refine xGn mixed [] [(66, true, S_strings_Builder_copyCheck)] [] trivial ⟨strings_Builder_copyCheck_k, trivial⟩ trivial Try.func34 _ ?_
  have G := True.intro
  have Y := xZ y_5 <| xZ y_9 <| xZ y_57 <| xZ y_59 <| xZ Try.results34 <| xZ g_strings_Builder_copyCheck.eq_1 <| g_strings_Builder_WriteString.eq_1
  dsimp only [g_strings_Builder_WriteString]
  simp only [strings_Builder_WriteString] at H
  refine xS ?_
  refine xr ?_
  obtain ⟨r1, hr1, H⟩ := osplit H
  have F := Y
  refine xQ ?_
  refine xs 1 ?_
  refine xc ⟨[1, 2], []⟩ (tabG 0 (strings_Builder_copyCheck_c a1 a2 r1 hr1)) ?_
  refine xl ?_
  refine xS ?_
  obtain ⟨hg1, H⟩ := gsplit H
  refine xr ?_
  replace H := Option.some.inj H
  refine xr ?_
  subst H
  refine xOr ?_
  refine qDf [] ?_
  exact xO ⟨[1, 2, 5], []⟩
theorem strings_Builder_WriteString_k : Callable Try.prog 34 ∧ (∀ g, S_strings_Builder_WriteString g → GenOk Try.prog 34 g) ∧ (true = true → ∀ g, S_strings_Builder_WriteString g → ∃ val bs ts, g.out = .ret val bs ts) :=
  ⟨call_34, strings_Builder_WriteString_ok, fun _ => by rintro _ ⟨_, _, _, _, _, rfl⟩; exact ⟨_, _, _, rfl⟩⟩
noncomputable def strings_Builder_Len (a0 : Bool) (a1 : List UInt8) : Option Int :=
  some ((a1.length : Nat) : Int)
def g_strings_Builder_Len (a0 : Bool) (a1 : List UInt8) (r : Int) : GI :=
  ⟨[.c (.pt 1 0)], [[.op a0 1 0, .os 2 1 0 a1.length], [.bar a1]], [], .ret (.c (.d (.v (.int .i64 r)))) [[.op a0 1 0, .os 2 1 0 a1.length], [.bar a1]] []⟩
def S_strings_Builder_Len : GI → Prop := fun g => ∃ (a0 : Bool) (a1 : List UInt8) (r : Int), strings_Builder_Len a0 a1 = some r ∧ g = g_strings_Builder_Len a0 a1 r
theorem strings_Builder_Len_c (a0 : Bool) (a1 : List UInt8) (r : Int) (H : strings_Builder_Len a0 a1 = some r) : S_strings_Builder_Len (g_strings_Builder_Len a0 a1 r) := ⟨a0, a1, r, H, rfl⟩
set_option maxRecDepth 100000 in
set_option maxHeartbeats 4000000 in
theorem strings_Builder_Len_ok : ∀ g, S_strings_Builder_Len g → GenOk Try.prog 38 g := by
  rintro _ ⟨a0, a1, r, H, rfl⟩
  refine xGn mixed [] [] [] trivial trivial trivial Try.func38 _ ?_
  have G := True.intro
  have Y := xZ y_5 <| xZ y_57 <| xZ y_59 <| xZ Try.results38 <| g_strings_Builder_Len.eq_1
  dsimp only [g_strings_Builder_Len]
  simp only [strings_Builder_Len] at H
  refine xS ?_
  refine xr ?_
  replace H := Option.some.inj H
  refine xr ?_
  subst H
  refine xOr ?_
  refine qDf [] ?_
  exact xO ⟨[1, 2], []⟩
theorem strings_Builder_Len_k : Callable Try.prog 38 ∧ (∀ g, S_strings_Builder_Len g → GenOk Try.prog 38 g) ∧ (true = true → ∀ g, S_strings_Builder_Len g → ∃ val bs ts, g.out = .ret val bs ts) :=
  ⟨call_38, strings_Builder_Len_ok, fun _ => by rintro _ ⟨_, _, _, _, rfl⟩; exact ⟨_, _, _, rfl⟩⟩
noncomputable def strings_Builder_Len_v2 (a0 : Bool) : Option Int :=
  some (([] : List UInt8).length : Int)
def g_strings_Builder_Len_v2 (a0 : Bool) (r : Int) : GI :=
  ⟨[.c (.pt 1 0)], [[.op a0 1 0, .ex (.slice none 0 0) (.sl 1 [])]], [], .ret (.c (.d (.v (.int .i64 r)))) [[.op a0 1 0, .ex (.slice none 0 0) (.sl 1 [])]] []⟩
def S_strings_Builder_Len_v2 : GI → Prop := fun g => ∃ (a0 : Bool) (r : Int), strings_Builder_Len_v2 a0 = some r ∧ g = g_strings_Builder_Len_v2 a0 r
theorem strings_Builder_Len_v2_c (a0 : Bool) (r : Int) (H : strings_Builder_Len_v2 a0 = some r) : S_strings_Builder_Len_v2 (g_strings_Builder_Len_v2 a0 r) := ⟨a0, r, H, rfl⟩
set_option maxRecDepth 100000 in
set_option maxHeartbeats 4000000 in
theorem strings_Builder_Len_v2_ok : ∀ g, S_strings_Builder_Len_v2 g → GenOk Try.prog 38 g := by
  rintro _ ⟨a0, r, H, rfl⟩
  refine xGn mixed [] [] [] trivial trivial trivial Try.func38 _ ?_
  have G := True.intro
  have Y := xZ y_5 <| xZ y_57 <| xZ y_59 <| xZ Try.results38 <| g_strings_Builder_Len_v2.eq_1
  dsimp only [g_strings_Builder_Len_v2]
  simp only [strings_Builder_Len_v2] at H
  refine xS ?_
  refine xr ?_
  replace H := Option.some.inj H
  refine xr ?_
  subst H
  refine xOr ?_
  refine qDf [] ?_
  exact xO ⟨[1], []⟩
theorem strings_Builder_Len_v2_k : Callable Try.prog 38 ∧ (∀ g, S_strings_Builder_Len_v2 g → GenOk Try.prog 38 g) ∧ (true = true → ∀ g, S_strings_Builder_Len_v2 g → ∃ val bs ts, g.out = .ret val bs ts) :=
  ⟨call_38, strings_Builder_Len_v2_ok, fun _ => by rintro _ ⟨_, _, _, rfl⟩; exact ⟨_, _, _, rfl⟩⟩
noncomputable def neat_Text_j4 (x8 : List Token) (x9 : List Token) (x10 : Int) (x11 : Int) : Int → Option ((Int × (List Token) × (List Token) × Int × Int) ⊕ ((Int × Int × Int × Bool × (List UInt8)) ⊕ ((List UInt8) × Fault)))
  | x12 => some (.inl (x12, x8, x9, x10, IntKind.i64.wrap (x11 + 1)))
noncomputable def neat_Text_j6 (x3 : Int) (x4 : Int) (x13 : Int) : (List UInt8) → Option ((Int × Int × Int × Bool × (List UInt8)) ⊕ ((List UInt8) × Fault))
  | x15 => (strings_Builder_WriteByte (10 : UInt8) true x15).bind fun r6 => some (.inl (x13, x3, IntKind.i64.wrap (x4 + 1), true, r6))
noncomputable def neat_Text_j5 (x3 : Int) (x4 : Int) (x5 : Bool) (x6 : List UInt8) (x8 : List Token) : (Int × Int) → Option ((Int × Int × Int × Bool × (List UInt8)) ⊕ ((List UInt8) × Fault))
  | (x13, x14) => (strings_Repeat [32, 32] x14).bind fun r3 => (lex_Join x8).bind fun r4 => if r3.length + r4.length ≤ 9223372036854775807 then (strings_Builder_WriteString (r3 ++ r4) x5 x6).bind fun r5 => if (0 : Int) ≤ (IntKind.i64.wrap ((x8.length : Int) - 1)) ∧ (IntKind.i64.wrap ((x8.length : Int) - 1)).toNat < x8.length then if (eqS ((x8.getD ((IntKind.i64.wrap ((x8.length : Int) - 1)).toNat) default).Text) [92]) = true then (strings_Builder_WriteByte (32 : UInt8) true r5.2).bind fun r7 => neat_Text_j6 x3 x4 x13 r7 else neat_Text_j6 x3 x4 x13 r5.2 else none else none
noncomputable def neat_Text_j8 (x2 : Int) (x3 : Int) (x4 : Int) (x5 : Bool) (x6 : List UInt8) (x7 : Int) (x8 : List Token) : Bool → Option ((Int × Int × Int × Bool × (List UInt8)) ⊕ ((List UInt8) × Fault))
  | x17 => if x17 = true then neat_Text_j5 x3 x4 x5 x6 x8 (x7, (if 0 > (IntKind.i64.wrap (x2 - 1)) then 0 else (IntKind.i64.wrap (x2 - 1)))) else neat_Text_j5 x3 x4 x5 x6 x8 (x7, x2)
noncomputable def neat_Text_j7 (x2 : Int) (x3 : Int) (x4 : Int) (x5 : Bool) (x6 : List UInt8) (x7 : Int) (x8 : List Token) : Bool → Option ((Int × Int × Int × Bool × (List UInt8)) ⊕ ((List UInt8) × Fault))
  | x16 => if x16 = true then neat_Text_j5 x3 x4 x5 x6 x8 (x2, 0) else if 0 < x8.length then if (eqS ((x8.getD 0 default).Text) [125]) = true then if 0 < x8.length then neat_Text_j8 x2 x3 x4 x5 x6 x7 x8 (eqI ((x8.getD 0 default).Kind) 5) else none else neat_Text_j8 x2 x3 x4 x5 x6 x7 x8 false else none
noncomputable def neat_Text_b3 (x2 : Int) (x3 : Int) (x4 : Int) (x5 : Bool) (x6 : List UInt8) : (Int × (List Token) × (List Token) × Int × Int) → Option ((Int × (List Token) × (List Token) × Int × Int) ⊕ ((Int × Int × Int × Bool × (List UInt8)) ⊕ ((List UInt8) × Fault)))
  | (x7, x8, x9, x10, x11) => if (ltI x11 x10) = true then if (0 : Int) ≤ x11 ∧ x11.toNat < x9.length then if (!eqI ((x9.getD x11.toNat default).Kind) 5) = true then neat_Text_j4 x8 x9 x10 x11 x7 else if (eqS ((x9.getD x11.toNat default).Text) [123]) = true then neat_Text_j4 x8 x9 x10 x11 (IntKind.i64.wrap (x7 + 1)) else if (eqS ((x9.getD x11.toNat default).Text) [125]) = true then neat_Text_j4 x8 x9 x10 x11 (if 0 > (IntKind.i64.wrap (x7 - 1)) then 0 else (IntKind.i64.wrap (x7 - 1))) else neat_Text_j4 x8 x9 x10 x11 x7 else none else inrO (if 0 < x8.length then if (eqS ((x8.getD 0 default).Text) [35]) = true then if 0 < x8.length then neat_Text_j7 x2 x3 x4 x5 x6 x7 x8 (eqI ((x8.getD 0 default).Kind) 5) else none else neat_Text_j7 x2 x3 x4 x5 x6 x7 x8 false else none)
noncomputable def neat_Text_b2 (r2 : (List (List Token))) : (Int × Int × Int × Bool × (List UInt8)) → Option ((Int × Int × Int × Bool × (List UInt8)) ⊕ ((List UInt8) × Fault))
  | (x2, x3, x4, x5, x6) => if (ltI x4 x3) = true then if (0 : Int) ≤ x4 ∧ x4.toNat < r2.length then loopO (neat_Text_b3 x2 x3 x4 x5 x6) (x2, (r2.getD x4.toNat default), (r2.getD x4.toNat default), ((r2.getD x4.toNat default).length : Int), 0) else none else inrO ((strings_Builder_Len x5 x6).bind fun r8 => if (ltI 3000 r8) = true then some ([], (⟨4, 0, 0⟩ : Fault)) else (strings_Builder_String x5 x6).bind fun r9 => some (x6, (⟨0, (-1), 0⟩ : Fault)))
noncomputable def neat_Text_j10 (x19 : List Token) (x20 : List Token) (x21 : Int) (x22 : Int) : Int → Option ((Int × (List Token) × (List Token) × Int × Int) ⊕ ((Int × Int × Int × Bool × (List UInt8)) ⊕ ((List UInt8) × Fault)))
  | x23 => some (.inl (x23, x19, x20, x21, IntKind.i64.wrap (x22 + 1)))
noncomputable def neat_Text_j12 (x1 : Int) (x24 : Int) : (List UInt8) → Option ((Int × Int × Int × Bool × (List UInt8)) ⊕ ((List UInt8) × Fault))
  | x26 => (strings_Builder_WriteByte (10 : UInt8) true x26).bind fun r13 => some (.inl (x24, x1, IntKind.i64.wrap (0 + 1), true, r13))
noncomputable def neat_Text_j11 (x1 : Int) (x19 : List Token) : (Int × Int) → Option ((Int × Int × Int × Bool × (List UInt8)) ⊕ ((List UInt8) × Fault))
  | (x24, x25) => (strings_Repeat [32, 32] x25).bind fun r10 => (lex_Join x19).bind fun r11 => if r10.length + r11.length ≤ 9223372036854775807 then (strings_Builder_WriteString (r10 ++ r11) false []).bind fun r12 => if (0 : Int) ≤ (IntKind.i64.wrap ((x19.length : Int) - 1)) ∧ (IntKind.i64.wrap ((x19.length : Int) - 1)).toNat < x19.length then if (eqS ((x19.getD ((IntKind.i64.wrap ((x19.length : Int) - 1)).toNat) default).Text) [92]) = true then (strings_Builder_WriteByte (32 : UInt8) true r12.2).bind fun r14 => neat_Text_j12 x1 x24 r14 else neat_Text_j12 x1 x24 r12.2 else none else none
noncomputable def neat_Text_j14 (x1 : Int) (x18 : Int) (x19 : List Token) : Bool → Option ((Int × Int × Int × Bool × (List UInt8)) ⊕ ((List UInt8) × Fault))
  | x28 => if x28 = true then neat_Text_j11 x1 x19 (x18, (if 0 > (IntKind.i64.wrap (0 - 1)) then 0 else (IntKind.i64.wrap (0 - 1)))) else neat_Text_j11 x1 x19 (x18, 0)
noncomputable def neat_Text_j13 (x1 : Int) (x18 : Int) (x19 : List Token) : Bool → Option ((Int × Int × Int × Bool × (List UInt8)) ⊕ ((List UInt8) × Fault))
  | x27 => if x27 = true then neat_Text_j11 x1 x19 (0, 0) else if 0 < x19.length then if (eqS ((x19.getD 0 default).Text) [125]) = true then if 0 < x19.length then neat_Text_j14 x1 x18 x19 (eqI ((x19.getD 0 default).Kind) 5) else none else neat_Text_j14 x1 x18 x19 false else none
noncomputable def neat_Text_b9 (x1 : Int) : (Int × (List Token) × (List Token) × Int × Int) → Option ((Int × (List Token) × (List Token) × Int × Int) ⊕ ((Int × Int × Int × Bool × (List UInt8)) ⊕ ((List UInt8) × Fault)))
  | (x18, x19, x20, x21, x22) => if (ltI x22 x21) = true then if (0 : Int) ≤ x22 ∧ x22.toNat < x20.length then if (!eqI ((x20.getD x22.toNat default).Kind) 5) = true then neat_Text_j10 x19 x20 x21 x22 x18 else if (eqS ((x20.getD x22.toNat default).Text) [123]) = true then neat_Text_j10 x19 x20 x21 x22 (IntKind.i64.wrap (x18 + 1)) else if (eqS ((x20.getD x22.toNat default).Text) [125]) = true then neat_Text_j10 x19 x20 x21 x22 (if 0 > (IntKind.i64.wrap (x18 - 1)) then 0 else (IntKind.i64.wrap (x18 - 1))) else neat_Text_j10 x19 x20 x21 x22 x18 else none else inrO (if 0 < x19.length then if (eqS ((x19.getD 0 default).Text) [35]) = true then if 0 < x19.length then neat_Text_j13 x1 x18 x19 (eqI ((x19.getD 0 default).Kind) 5) else none else neat_Text_j13 x1 x18 x19 false else none)
noncomputable def neat_Text_p1 (r2 : (List (List Token))) : Int → Option ((Int × Int × Int × Bool × (List UInt8)) ⊕ ((List UInt8) × Fault))
  | x1 => if (ltI 0 x1) = true then if 0 < r2.length then loopO (neat_Text_b9 x1) (0, (r2.getD 0 default), (r2.getD 0 default), ((r2.getD 0 default).length : Int), 0) else none else inrO ((strings_Builder_Len_v2 false).bind fun r15 => if (ltI 3000 r15) = true then some ([], (⟨4, 0, 0⟩ : Fault)) else (strings_Builder_String_v2 false).bind fun r16 => some ([], (⟨0, (-1), 0⟩ : Fault)))
noncomputable def neat_Text (a0 : List UInt8) : Option ((List UInt8) × Fault) :=
  (lex_Tokens 0 a0).bind fun r1 => if (!eqI r1.2.Err 0) = true then some ([], r1.2) else (lex_Lines r1.1).bind fun r2 => peelO (neat_Text_b2 r2) (neat_Text_p1 r2 (r2.length : Int))
noncomputable def pf_neat_Text : PF := PF.of (E1 dS) (fun a => neat_Text a) (T2 dS d_Fault)
set_option maxRecDepth 100000 in
set_option maxHeartbeats 4000000 in
theorem neat_Text_ok : PureOk Try.prog 8 pf_neat_Text := by
  refine xF mixed [(32, pf_lex_Tokens), (33, pf_lex_Lines), (35, pf_strings_Repeat), (36, pf_lex_Join)] [(34, true, S_strings_Builder_WriteString), (37, true, S_strings_Builder_WriteByte), (38, true, S_strings_Builder_Len), (39, true, S_strings_Builder_String), (38, true, S_strings_Builder_Len_v2), (39, true, S_strings_Builder_String_v2)] ⟨⟨call_32, lex_Tokens_ok⟩, ⟨call_33, lex_Lines_ok⟩, ⟨call_35, strings_Repeat_ok⟩, ⟨call_36, lex_Join_ok⟩, trivial⟩ ⟨strings_Builder_WriteString_k, strings_Builder_WriteByte_k, strings_Builder_Len_k, strings_Builder_String_k, strings_Builder_Len_v2_k, strings_Builder_String_v2_k, trivial⟩ Try.func8 ?_
  rintro a0 out H
  have G := True.intro
  have Y := xZ y_3 <| xZ y_9 <| xZ y_22 <| xZ y_24 <| xZ y_30 <| xZ y_45 <| xZ y_59 <| xZ y_60 <| xZ Try.results8 <| xZ d_Call.eq_1 <| xZ d_Token.eq_1 <| xZ d_Fault.eq_1 <| xZ g_strings_Builder_WriteString.eq_1 <| xZ g_strings_Builder_WriteByte.eq_1 <| xZ g_strings_Builder_Len.eq_1 <| xZ g_strings_Builder_String.eq_1 <| xZ g_strings_Builder_Len_v2.eq_1 <| g_strings_Builder_String_v2.eq_1
  simp only [neat_Text] at H
  refine xS ?_
  refine xr ?_
  obtain ⟨r1, hr1, H⟩ := osplit H
  have F := xC Y (lex_Tokens_c 0 a0 r1 hr1)
  refine xR ?_
  refine xr ?_
  rcases bsplit H with ⟨hp1, H⟩ | ⟨hp1, H⟩
  · obtain ⟨F, G, hq1⟩ := xH Y G hp1
    refine xT ?_
    replace H := Option.some.inj H
    refine xr ?_
    subst H
    exact xN
  · obtain ⟨F, G, hq1⟩ := xH Y G hp1
    refine xE ?_
    refine xr ?_
    refine xr ?_
    obtain ⟨r2, hr2, H⟩ := osplit H
    have F := xC Y (lex_Lines_c r1.1 r2 hr2)
    refine xR ?_
    refine w_peel (neat_Text_b2 r2) (fun s => [(3, .c (.pt 1 0)), (6, .c (.pt 2 0)), (7, .c (.d (.v (.int .i64 s.1)))), (23, .c (.d (.sl 1 (List.map (dL 11 d_Token) r2)))), (24, .c (.d (.v (.int .i64 s.2.1)))), (25, .c (.d (.v (.int .i64 s.2.2.1))))]) (fun s => [[.d (.v (.int .i64 0)), .d (.v (.int .i64 0)), .d (.v (.int .i64 0))], [.op s.2.2.2.1 2 0, .os 3 1 0 s.2.2.2.2.length], [.bar s.2.2.2.2]]) [] (neat_Text_p1 r2) (fun s => [(3, .c (.pt 1 0)), (6, .c (.pt 2 0)), (7, .c (.d (.v (.int .i64 0)))), (23, .c (.d (.sl 1 (List.map (dL 11 d_Token) r2)))), (24, .c (.d (.v (.int .i64 s)))), (25, .c (.d (.v (.int .i64 0))))]) (fun s => [[.d (.v (.int .i64 0)), .d (.v (.int .i64 0)), .d (.v (.int .i64 0))], [.op false 2 0, .ex (.slice none 0 0) (.sl 1 [])]]) [] H (xK ⟨[1,3], []⟩) ?_ ?_
    · rintro n2 x1 o2 H hF2
      rw [neat_Text_p1] at H
      refine xS ?_
      refine xr ?_
      rcases bsplit H with ⟨hp13, H⟩ | ⟨hp13, H⟩
      · obtain ⟨F, G, hq13⟩ := xH Y G hp13
        refine xT ?_
        obtain ⟨hg9, H⟩ := gsplit H
        have F := xZ Y (map_getD (dL 11 d_Token) r2 0 default default (by omega))
        refine xR ?_
        refine xr ?_
        refine xr ?_
        refine w_loop (neat_Text_b9 x1) (fun s => [(3, .c (.pt 1 0)), (6, .c (.pt 2 0)), (7, .c (.d (.v (.int .i64 s.1)))), (9, .c (.d (.sl 11 (List.map d_Token s.2.1)))), (10, .c (.d (.v (.int .i64 0)))), (23, .c (.d (.sl 1 (List.map (dL 11 d_Token) r2)))), (24, .c (.d (.v (.int .i64 x1)))), (25, .c (.d (.v (.int .i64 0)))), (30, .c (.d (.sl 11 (List.map d_Token s.2.2.1)))), (31, .c (.d (.v (.int .i64 s.2.2.2.1)))), (32, .c (.d (.v (.int .i64 s.2.2.2.2))))]) (fun s => [[.d (.v (.int .i64 0)), .d (.v (.int .i64 0)), .d (.v (.int .i64 0))], [.op false 2 0, .ex (.slice none 0 0) (.sl 1 [])]]) [] H (xK ⟨[1,2], []⟩) ?_
        rintro n4 ⟨x18, x19, x20, x21, x22⟩ o4 H hF4
        rw [neat_Text_b9] at H
        refine xS ?_
        refine xr ?_
        rcases bsplit H with ⟨hp14, H⟩ | ⟨hp14, H⟩
        · obtain ⟨F, G, hq14⟩ := xH Y G hp14
          refine xT0 ?_
          refine w_skip ?_
          refine then_normal ?_
          refine w_cut (neat_Text_j10 x19 x20 x21 x22) (fun s => [(3, .c (.pt 1 0)), (6, .c (.pt 2 0)), (7, .c (.d (.v (.int .i64 s)))), (9, .c (.d (.sl 11 (List.map d_Token x19)))), (10, .c (.d (.v (.int .i64 0)))), (23, .c (.d (.sl 1 (List.map (dL 11 d_Token) r2)))), (24, .c (.d (.v (.int .i64 x1)))), (25, .c (.d (.v (.int .i64 0)))), (30, .c (.d (.sl 11 (List.map d_Token x20)))), (31, .c (.d (.v (.int .i64 x21)))), (32, .c (.d (.v (.int .i64 x22))))]) (fun s => [[.d (.v (.int .i64 0)), .d (.v (.int .i64 0)), .d (.v (.int .i64 0))], [.op false 2 0, .ex (.slice none 0 0) (.sl 1 [])]]) [] o4 ?_ ?_
          · refine xS ?_
            obtain ⟨hg10, H⟩ := gsplit H
            have F := xZ Y (map_getD d_Token x20 x22.toNat default default (by omega))
            refine xR ?_
            refine xr ?_
            rcases bsplit H with ⟨hp15, H⟩ | ⟨hp15, H⟩
            · obtain ⟨F, G, hq15⟩ := xH Y G hp15
              refine xT ?_
              exact cut_at H (xK ⟨[1,2], []⟩)
            · obtain ⟨F, G, hq15⟩ := xH Y G hp15
              refine xE ?_
              refine xr ?_
              refine xr ?_
              rcases bsplit H with ⟨hp16, H⟩ | ⟨hp16, H⟩
              · obtain ⟨F, G, hq16⟩ := xH Y G hp16
                refine xT ?_
                refine xr ?_
                exact cut_at H (xK ⟨[1,2], []⟩)
              · obtain ⟨F, G, hq16⟩ := xH Y G hp16
                refine xE ?_
                refine xr ?_
                rcases bsplit H with ⟨hp17, H⟩ | ⟨hp17, H⟩
                · obtain ⟨F, G, hq17⟩ := xH Y G hp17
                  refine xT ?_
                  refine xr ?_
                  exact cut_at H (xK ⟨[1,2], []⟩)
                · obtain ⟨F, G, hq17⟩ := xH Y G hp17
                  refine xE ?_
                  exact cut_at H (xK ⟨[1,2], []⟩)
          · rintro x23 H
            rw [neat_Text_j10] at H
            refine xr ?_
            exact round_at (inl_fin H hF4) (xK ⟨[1,2], []⟩)
        · obtain ⟨F, G, hq14⟩ := xH Y G hp14
          replace H := inrO_fin H hF4
          refine xE0 ?_
          refine w_exit ?_
          refine then_exit ?_
          refine round_exit ?_
          refine block_exit ?_
          refine then_normal ?_
          refine w_cut (neat_Text_j11 x1 x19) (fun s => [(3, .c (.pt 1 0)), (6, .c (.pt 2 0)), (7, .c (.d (.v (.int .i64 s.1)))), (9, .c (.d (.sl 11 (List.map d_Token x19)))), (10, .c (.d (.v (.int .i64 s.2)))), (23, .c (.d (.sl 1 (List.map (dL 11 d_Token) r2)))), (24, .c (.d (.v (.int .i64 x1)))), (25, .c (.d (.v (.int .i64 0))))]) (fun s => [[.d (.v (.int .i64 0)), .d (.v (.int .i64 0)), .d (.v (.int .i64 0))], [.op false 2 0, .ex (.slice none 0 0) (.sl 1 [])]]) [] o2 ?_ ?_
          · refine w_block ?_
            refine w_cut (neat_Text_j13 x1 x18 x19) (fun s => [(3, .c (.pt 1 0)), (6, .c (.pt 2 0)), (7, .c (.d (.v (.int .i64 x18)))), (9, .c (.d (.sl 11 (List.map d_Token x19)))), (10, .c (.d (.v (.int .i64 0)))), (23, .c (.d (.sl 1 (List.map (dL 11 d_Token) r2)))), (24, .c (.d (.v (.int .i64 x1)))), (25, .c (.d (.v (.int .i64 0)))), (51, .c (.d (.v (.bool s))))]) (fun s => [[.d (.v (.int .i64 0)), .d (.v (.int .i64 0)), .d (.v (.int .i64 0))], [.op false 2 0, .ex (.slice none 0 0) (.sl 1 [])]]) [] o2 ?_ ?_
            · obtain ⟨hg15, H⟩ := gsplit H
              have F := xZ Y (map_getD d_Token x19 0 default default (by omega))
              rcases bsplit H with ⟨hp22, H⟩ | ⟨hp22, H⟩
              · obtain ⟨F, G, hq22⟩ := xH F G hp22
                obtain ⟨hg16, H⟩ := gsplit H
                have F := xZ F (map_getD d_Token x19 0 default default (by omega))
                refine xR ?_
                exact cut_at H (xK ⟨[1,2], []⟩)
              · obtain ⟨F, G, hq22⟩ := xH F G hp22
                refine xR ?_
                exact cut_at H (xK ⟨[1,2], []⟩)
            · rintro x27 H
              rw [neat_Text_j13] at H
              rcases bsplit H with ⟨hp19, H⟩ | ⟨hp19, H⟩
              · obtain ⟨F, G, hq19⟩ := xH Y G hp19
                refine xT ?_
                refine xr ?_
                exact cut_at H (xK ⟨[1,2], []⟩)
              · obtain ⟨F, G, hq19⟩ := xH Y G hp19
                refine xE0 ?_
                refine w_cut (neat_Text_j14 x1 x18 x19) (fun s => [(3, .c (.pt 1 0)), (6, .c (.pt 2 0)), (7, .c (.d (.v (.int .i64 x18)))), (9, .c (.d (.sl 11 (List.map d_Token x19)))), (10, .c (.d (.v (.int .i64 0)))), (23, .c (.d (.sl 1 (List.map (dL 11 d_Token) r2)))), (24, .c (.d (.v (.int .i64 x1)))), (25, .c (.d (.v (.int .i64 0)))), (65, .c (.d (.v (.bool s))))]) (fun s => [[.d (.v (.int .i64 0)), .d (.v (.int .i64 0)), .d (.v (.int .i64 0))], [.op false 2 0, .ex (.slice none 0 0) (.sl 1 [])]]) [] o2 ?_ ?_
                · obtain ⟨hg13, H⟩ := gsplit H
                  have F := xZ Y (map_getD d_Token x19 0 default default (by omega))
                  rcases bsplit H with ⟨hp21, H⟩ | ⟨hp21, H⟩
                  · obtain ⟨F, G, hq21⟩ := xH F G hp21
                    obtain ⟨hg14, H⟩ := gsplit H
                    have F := xZ F (map_getD d_Token x19 0 default default (by omega))
                    refine xR ?_
                    exact cut_at H (xK ⟨[1,2], []⟩)
                  · obtain ⟨F, G, hq21⟩ := xH F G hp21
                    refine xR ?_
                    exact cut_at H (xK ⟨[1,2], []⟩)
                · rintro x28 H
                  rw [neat_Text_j14] at H
                  rcases bsplit H with ⟨hp20, H⟩ | ⟨hp20, H⟩
                  · obtain ⟨F, G, hq20⟩ := xH Y G hp20
                    refine xT ?_
                    refine xr ?_
                    exact cut_at H (xK ⟨[1,2], []⟩)
                  · obtain ⟨F, G, hq20⟩ := xH Y G hp20
                    refine xE ?_
                    exact cut_at H (xK ⟨[1,2], []⟩)
          · rintro ⟨x24, x25⟩ H
            rw [neat_Text_j11] at H
            refine xS ?_
            obtain ⟨r10, hr10, H⟩ := osplit H
            have F := xC Y (strings_Repeat_c [32, 32] x25 r10 hr10)
            obtain ⟨r11, hr11, H⟩ := osplit H
            have F := xCf F (lex_Join_c x19 r11 hr11)
            obtain ⟨hg11, H⟩ := gsplit H
            obtain ⟨r12, hr12, H⟩ := osplit H
            have F := F
            refine xQ ?_
            refine xs 5 ?_
            refine xc ⟨[2, 0], []⟩ (tabG 0 (strings_Builder_WriteString_c (r10 ++ r11) false [] r12 hr12)) ?_
            refine xl ?_
            refine  ?_
            refine then_normal ?_
            refine w_cut (neat_Text_j12 x1 x24) (fun s => [(3, .c (.pt 1 0)), (6, .c (.pt 2 0)), (7, .c (.d (.v (.int .i64 x24)))), (23, .c (.d (.sl 1 (List.map (dL 11 d_Token) r2)))), (24, .c (.d (.v (.int .i64 x1)))), (25, .c (.d (.v (.int .i64 0))))]) (fun s => [[.d (.v (.int .i64 0)), .d (.v (.int .i64 0)), .d (.v (.int .i64 0))], [.op true 2 0, .os 3 1 0 s.length], [.bar s]]) [] o2 ?_ ?_
            · refine xS ?_
              obtain ⟨hg12, H⟩ := gsplit H
              have F := xZ Y (map_getD d_Token x19 ((IntKind.i64.wrap ((x19.length : Int) - 1)).toNat) default default (by omega))
              refine xR ?_
              rcases bsplit H with ⟨hp18, H⟩ | ⟨hp18, H⟩
              · obtain ⟨F, G, hq18⟩ := xH Y G hp18
                refine xT ?_
                obtain ⟨r14, hr14, H⟩ := osplit H
                have F := Y
                refine xQ ?_
                refine xc ⟨[2, 5], []⟩ (tabG 1 (strings_Builder_WriteByte_c (32 : UInt8) true r12.2 r14 hr14)) ?_
                refine xl ?_
                refine xS ?_
                exact cut_at H (xK ⟨[1,2,8], []⟩)
              · obtain ⟨F, G, hq18⟩ := xH Y G hp18
                refine xE ?_
                exact cut_at H (xK ⟨[1,2,5], []⟩)
            · rintro x26 H
              rw [neat_Text_j12] at H
              obtain ⟨r13, hr13, H⟩ := osplit H
              have F := Y
              refine xQ ?_
              refine xc ⟨[2, 3], []⟩ (tabG 1 (strings_Builder_WriteByte_c (10 : UInt8) true x26 r13 hr13)) ?_
              refine xl ?_
              refine xS ?_
              refine xr ?_
              exact round_at (inl_fin H hF2) (xK ⟨[1,2,6], []⟩)
      · obtain ⟨F, G, hq13⟩ := xH Y G hp13
        replace H := inrO_fin H hF2
        refine xE ?_
        obtain ⟨r15, hr15, H⟩ := osplit H
        have F := Y
        refine xQ ?_
        refine xc ⟨[2], []⟩ (tabG 4 (strings_Builder_Len_v2_c false r15 hr15)) ?_
        refine xs 1 ?_
        refine xl ?_
        refine xS ?_
        rcases bsplit H with ⟨hp23, H⟩ | ⟨hp23, H⟩
        · obtain ⟨F, G, hq23⟩ := xH Y G hp23
          refine xT ?_
          replace H := Option.some.inj H
          refine xr ?_
          subst H
          exact xN
        · obtain ⟨F, G, hq23⟩ := xH Y G hp23
          refine xE ?_
          obtain ⟨r16, hr16, H⟩ := osplit H
          have F := Y
          refine xQ ?_
          refine xc ⟨[2], []⟩ (tabG 5 (strings_Builder_String_v2_c false r16 hr16)) ?_
          refine xs 3 ?_
          refine xl ?_
          replace H := Option.some.inj H
          refine xS ?_
          subst H
          exact xN
    · rintro n1 ⟨x2, x3, x4, x5, x6⟩ o1 H hF1
      rw [neat_Text_b2] at H
      refine xS ?_
      refine xr ?_
      rcases bsplit H with ⟨hp2, H⟩ | ⟨hp2, H⟩
      · obtain ⟨F, G, hq2⟩ := xH Y G hp2
        refine xT ?_
        obtain ⟨hg1, H⟩ := gsplit H
        have F := xZ Y (map_getD (dL 11 d_Token) r2 x4.toNat default default (by omega))
        refine xR ?_
        refine xr ?_
        refine xr ?_
        refine w_loop (neat_Text_b3 x2 x3 x4 x5 x6) (fun s => [(3, .c (.pt 1 0)), (6, .c (.pt 2 0)), (7, .c (.d (.v (.int .i64 s.1)))), (9, .c (.d (.sl 11 (List.map d_Token s.2.1)))), (10, .c (.d (.v (.int .i64 x2)))), (23, .c (.d (.sl 1 (List.map (dL 11 d_Token) r2)))), (24, .c (.d (.v (.int .i64 x3)))), (25, .c (.d (.v (.int .i64 x4)))), (30, .c (.d (.sl 11 (List.map d_Token s.2.2.1)))), (31, .c (.d (.v (.int .i64 s.2.2.2.1)))), (32, .c (.d (.v (.int .i64 s.2.2.2.2))))]) (fun s => [[.d (.v (.int .i64 0)), .d (.v (.int .i64 0)), .d (.v (.int .i64 0))], [.op x5 2 0, .os 3 1 0 x6.length], [.bar x6]]) [] H (xK ⟨[1,2,3], []⟩) ?_
        rintro n3 ⟨x7, x8, x9, x10, x11⟩ o3 H hF3
        rw [neat_Text_b3] at H
        refine xS ?_
        refine xr ?_
        rcases bsplit H with ⟨hp3, H⟩ | ⟨hp3, H⟩
        · obtain ⟨F, G, hq3⟩ := xH Y G hp3
          refine xT0 ?_
          refine w_skip ?_
          refine then_normal ?_
          refine w_cut (neat_Text_j4 x8 x9 x10 x11) (fun s => [(3, .c (.pt 1 0)), (6, .c (.pt 2 0)), (7, .c (.d (.v (.int .i64 s)))), (9, .c (.d (.sl 11 (List.map d_Token x8)))), (10, .c (.d (.v (.int .i64 x2)))), (23, .c (.d (.sl 1 (List.map (dL 11 d_Token) r2)))), (24, .c (.d (.v (.int .i64 x3)))), (25, .c (.d (.v (.int .i64 x4)))), (30, .c (.d (.sl 11 (List.map d_Token x9)))), (31, .c (.d (.v (.int .i64 x10)))), (32, .c (.d (.v (.int .i64 x11))))]) (fun s => [[.d (.v (.int .i64 0)), .d (.v (.int .i64 0)), .d (.v (.int .i64 0))], [.op x5 2 0, .os 3 1 0 x6.length], [.bar x6]]) [] o3 ?_ ?_
          · refine xS ?_
            obtain ⟨hg2, H⟩ := gsplit H
            have F := xZ Y (map_getD d_Token x9 x11.toNat default default (by omega))
            refine xR ?_
            refine xr ?_
            rcases bsplit H with ⟨hp4, H⟩ | ⟨hp4, H⟩
            · obtain ⟨F, G, hq4⟩ := xH Y G hp4
              refine xT ?_
              exact cut_at H (xK ⟨[1,2,3], []⟩)
            · obtain ⟨F, G, hq4⟩ := xH Y G hp4
              refine xE ?_
              refine xr ?_
              refine xr ?_
              rcases bsplit H with ⟨hp5, H⟩ | ⟨hp5, H⟩
              · obtain ⟨F, G, hq5⟩ := xH Y G hp5
                refine xT ?_
                refine xr ?_
                exact cut_at H (xK ⟨[1,2,3], []⟩)
              · obtain ⟨F, G, hq5⟩ := xH Y G hp5
                refine xE ?_
                refine xr ?_
                rcases bsplit H with ⟨hp6, H⟩ | ⟨hp6, H⟩
                · obtain ⟨F, G, hq6⟩ := xH Y G hp6
                  refine xT ?_
                  refine xr ?_
                  exact cut_at H (xK ⟨[1,2,3], []⟩)
                · obtain ⟨F, G, hq6⟩ := xH Y G hp6
                  refine xE ?_
                  exact cut_at H (xK ⟨[1,2,3], []⟩)
          · rintro x12 H
            rw [neat_Text_j4] at H
            refine xr ?_
            exact round_at (inl_fin H hF3) (xK ⟨[1,2,3], []⟩)
        · obtain ⟨F, G, hq3⟩ := xH Y G hp3
          replace H := inrO_fin H hF3
          refine xE0 ?_
          refine w_exit ?_
          refine then_exit ?_
          refine round_exit ?_
          refine block_exit ?_
          refine then_normal ?_
          refine w_cut (neat_Text_j5 x3 x4 x5 x6 x8) (fun s => [(3, .c (.pt 1 0)), (6, .c (.pt 2 0)), (7, .c (.d (.v (.int .i64 s.1)))), (9, .c (.d (.sl 11 (List.map d_Token x8)))), (10, .c (.d (.v (.int .i64 s.2)))), (23, .c (.d (.sl 1 (List.map (dL 11 d_Token) r2)))), (24, .c (.d (.v (.int .i64 x3)))), (25, .c (.d (.v (.int .i64 x4))))]) (fun s => [[.d (.v (.int .i64 0)), .d (.v (.int .i64 0)), .d (.v (.int .i64 0))], [.op x5 2 0, .os 3 1 0 x6.length], [.bar x6]]) [] o1 ?_ ?_
          · refine w_block ?_
            refine w_cut (neat_Text_j7 x2 x3 x4 x5 x6 x7 x8) (fun s => [(3, .c (.pt 1 0)), (6, .c (.pt 2 0)), (7, .c (.d (.v (.int .i64 x7)))), (9, .c (.d (.sl 11 (List.map d_Token x8)))), (10, .c (.d (.v (.int .i64 x2)))), (23, .c (.d (.sl 1 (List.map (dL 11 d_Token) r2)))), (24, .c (.d (.v (.int .i64 x3)))), (25, .c (.d (.v (.int .i64 x4)))), (51, .c (.d (.v (.bool s))))]) (fun s => [[.d (.v (.int .i64 0)), .d (.v (.int .i64 0)), .d (.v (.int .i64 0))], [.op x5 2 0, .os 3 1 0 x6.length], [.bar x6]]) [] o1 ?_ ?_
            · obtain ⟨hg7, H⟩ := gsplit H
              have F := xZ Y (map_getD d_Token x8 0 default default (by omega))
              rcases bsplit H with ⟨hp11, H⟩ | ⟨hp11, H⟩
              · obtain ⟨F, G, hq11⟩ := xH F G hp11
                obtain ⟨hg8, H⟩ := gsplit H
                have F := xZ F (map_getD d_Token x8 0 default default (by omega))
                refine xR ?_
                exact cut_at H (xK ⟨[1,2,3], []⟩)
              · obtain ⟨F, G, hq11⟩ := xH F G hp11
                refine xR ?_
                exact cut_at H (xK ⟨[1,2,3], []⟩)
            · rintro x16 H
              rw [neat_Text_j7] at H
              rcases bsplit H with ⟨hp8, H⟩ | ⟨hp8, H⟩
              · obtain ⟨F, G, hq8⟩ := xH Y G hp8
                refine xT ?_
                refine xr ?_
                exact cut_at H (xK ⟨[1,2,3], []⟩)
              · obtain ⟨F, G, hq8⟩ := xH Y G hp8
                refine xE0 ?_
                refine w_cut (neat_Text_j8 x2 x3 x4 x5 x6 x7 x8) (fun s => [(3, .c (.pt 1 0)), (6, .c (.pt 2 0)), (7, .c (.d (.v (.int .i64 x7)))), (9, .c (.d (.sl 11 (List.map d_Token x8)))), (10, .c (.d (.v (.int .i64 x2)))), (23, .c (.d (.sl 1 (List.map (dL 11 d_Token) r2)))), (24, .c (.d (.v (.int .i64 x3)))), (25, .c (.d (.v (.int .i64 x4)))), (65, .c (.d (.v (.bool s))))]) (fun s => [[.d (.v (.int .i64 0)), .d (.v (.int .i64 0)), .d (.v (.int .i64 0))], [.op x5 2 0, .os 3 1 0 x6.length], [.bar x6]]) [] o1 ?_ ?_
                · obtain ⟨hg5, H⟩ := gsplit H
                  have F := xZ Y (map_getD d_Token x8 0 default default (by omega))
                  rcases bsplit H with ⟨hp10, H⟩ | ⟨hp10, H⟩
                  · obtain ⟨F, G, hq10⟩ := xH F G hp10
                    obtain ⟨hg6, H⟩ := gsplit H
                    have F := xZ F (map_getD d_Token x8 0 default default (by omega))
                    refine xR ?_
                    exact cut_at H (xK ⟨[1,2,3], []⟩)
                  · obtain ⟨F, G, hq10⟩ := xH F G hp10
                    refine xR ?_
                    exact cut_at H (xK ⟨[1,2,3], []⟩)
                · rintro x17 H
                  rw [neat_Text_j8] at H
                  rcases bsplit H with ⟨hp9, H⟩ | ⟨hp9, H⟩
                  · obtain ⟨F, G, hq9⟩ := xH Y G hp9
                    refine xT ?_
                    refine xr ?_
                    exact cut_at H (xK ⟨[1,2,3], []⟩)
                  · obtain ⟨F, G, hq9⟩ := xH Y G hp9
                    refine xE ?_
                    exact cut_at H (xK ⟨[1,2,3], []⟩)
          · rintro ⟨x13, x14⟩ H
            rw [neat_Text_j5] at H
            refine xS ?_
            obtain ⟨r3, hr3, H⟩ := osplit H
            have F := xC Y (strings_Repeat_c [32, 32] x14 r3 hr3)
            obtain ⟨r4, hr4, H⟩ := osplit H
            have F := xCf F (lex_Join_c x8 r4 hr4)
            obtain ⟨hg3, H⟩ := gsplit H
            obtain ⟨r5, hr5, H⟩ := osplit H
            have F := F
            refine xQ ?_
            refine xs 5 ?_
            refine xc ⟨[2, 3], []⟩ (tabG 0 (strings_Builder_WriteString_c (r3 ++ r4) x5 x6 r5 hr5)) ?_
            refine xl ?_
            refine  ?_
            refine then_normal ?_
            refine w_cut (neat_Text_j6 x3 x4 x13) (fun s => [(3, .c (.pt 1 0)), (6, .c (.pt 2 0)), (7, .c (.d (.v (.int .i64 x13)))), (23, .c (.d (.sl 1 (List.map (dL 11 d_Token) r2)))), (24, .c (.d (.v (.int .i64 x3)))), (25, .c (.d (.v (.int .i64 x4))))]) (fun s => [[.d (.v (.int .i64 0)), .d (.v (.int .i64 0)), .d (.v (.int .i64 0))], [.op true 2 0, .os 3 1 0 s.length], [.bar s]]) [] o1 ?_ ?_
            · refine xS ?_
              obtain ⟨hg4, H⟩ := gsplit H
              have F := xZ Y (map_getD d_Token x8 ((IntKind.i64.wrap ((x8.length : Int) - 1)).toNat) default default (by omega))
              refine xR ?_
              rcases bsplit H with ⟨hp7, H⟩ | ⟨hp7, H⟩
              · obtain ⟨F, G, hq7⟩ := xH Y G hp7
                refine xT ?_
                obtain ⟨r7, hr7, H⟩ := osplit H
                have F := Y
                refine xQ ?_
                refine xc ⟨[2, 6], []⟩ (tabG 1 (strings_Builder_WriteByte_c (32 : UInt8) true r5.2 r7 hr7)) ?_
                refine xl ?_
                refine xS ?_
                exact cut_at H (xK ⟨[1,2,9], []⟩)
              · obtain ⟨F, G, hq7⟩ := xH Y G hp7
                refine xE ?_
                exact cut_at H (xK ⟨[1,2,6], []⟩)
            · rintro x15 H
              rw [neat_Text_j6] at H
              obtain ⟨r6, hr6, H⟩ := osplit H
              have F := Y
              refine xQ ?_
              refine xc ⟨[2, 3], []⟩ (tabG 1 (strings_Builder_WriteByte_c (10 : UInt8) true x15 r6 hr6)) ?_
              refine xl ?_
              refine xS ?_
              refine xr ?_
              exact round_at (inl_fin H hF1) (xK ⟨[1,2,6], []⟩)
      · obtain ⟨F, G, hq2⟩ := xH Y G hp2
        replace H := inrO_fin H hF1
        refine xE ?_
        obtain ⟨r8, hr8, H⟩ := osplit H
        have F := Y
        refine xQ ?_
        refine xc ⟨[2, 3], []⟩ (tabG 2 (strings_Builder_Len_c x5 x6 r8 hr8)) ?_
        refine xs 1 ?_
        refine xl ?_
        refine xS ?_
        rcases bsplit H with ⟨hp12, H⟩ | ⟨hp12, H⟩
        · obtain ⟨F, G, hq12⟩ := xH Y G hp12
          refine xT ?_
          replace H := Option.some.inj H
          refine xr ?_
          subst H
          exact xN
        · obtain ⟨F, G, hq12⟩ := xH Y G hp12
          refine xE ?_
          obtain ⟨r9, hr9, H⟩ := osplit H
          have F := Y
          refine xQ ?_
          refine xc ⟨[2, 3], []⟩ (tabG 3 (strings_Builder_String_c x5 x6 r9 hr9)) ?_
          refine xs 3 ?_
          refine xl ?_
          replace H := Option.some.inj H
          refine xS ?_
          subst H
          exact xN
theorem neat_Text_c (a0 : List UInt8) (r : (List UInt8) × Fault) (H : neat_Text a0 = some r) : PC pf_neat_Text [dS a0] (T2 dS d_Fault r) := PF.c (a := a0) H
end Go.Proofs.Ytkhcecpbbmfcaaa
