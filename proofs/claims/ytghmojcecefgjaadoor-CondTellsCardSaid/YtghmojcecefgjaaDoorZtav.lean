/- Functions of data for functions of the program. Written by dec3.py. -/
import Derived.Test.YtghmojcecefgjaaDoorZtah
import Derived.Test.YtghmojcecefgjaaDoorZtat
set_option linter.unusedVariables false
set_option linter.unusedSimpArgs false
namespace Go.Proofs.YtghmojcecefgjaaDoor
open Go.RowKit
noncomputable def preref4_At (a0 : List Token) (a1 : Int) (a2 : Int) : Option Fault :=
  if (ltI a1 (a0.length : Int)) = true then if (0 : Int) ≤ a1 ∧ a1.toNat < a0.length then if (0 : Int) ≤ a1 ∧ a1.toNat < a0.length then some (⟨a2, (a0.getD a1.toNat default).File, (a0.getD a1.toNat default).At⟩ : Fault) else none else none else if (ltI 0 (a0.length : Int)) = true then if (0 : Int) ≤ (IntKind.i64.wrap ((a0.length : Int) - 1)) ∧ (IntKind.i64.wrap ((a0.length : Int) - 1)).toNat < a0.length then some (⟨a2, (a0.getD ((IntKind.i64.wrap ((a0.length : Int) - 1)).toNat) default).File, (a0.getD ((IntKind.i64.wrap ((a0.length : Int) - 1)).toNat) default).End⟩ : Fault) else none else some (⟨a2, (-1), 0⟩ : Fault)
noncomputable def pf_preref4_At : PF := PF.of (E3 (dL 11 d_Token) dI dI) (fun a => preref4_At a.1 a.2.1 a.2.2) d_Fault
set_option maxRecDepth 100000 in
set_option maxHeartbeats 4000000 in
theorem preref4_At_ok : PureOk Tryd.prog 38 pf_preref4_At := by
  refine xF mixed [] [] trivial trivial Tryd.func38 ?_
  rintro ⟨a0, a1, a2⟩ out H
  have G := True.intro
  have Y := xZ y_3 <| xZ y_22 <| xZ y_23 <| xZ y_25 <| xZ y_47 <| xZ Tryd.results38 <| xZ d_Call.eq_1 <| xZ d_Token.eq_1 <| d_Fault.eq_1
  simp only [preref4_At] at H
  refine xS ?_
  refine xr ?_
  refine xr ?_
  rcases bsplit H with ⟨hp1, H⟩ | ⟨hp1, H⟩
  · obtain ⟨F, G, hq1⟩ := xH Y G hp1
    refine xT ?_
    obtain ⟨hg1, H⟩ := gsplit H
    have F := xZ Y (map_getD d_Token a0 a1.toNat default default (by omega))
    obtain ⟨hg2, H⟩ := gsplit H
    have F := xZ F (map_getD d_Token a0 a1.toNat default default (by omega))
    replace H := Option.some.inj H
    refine xR ?_
    subst H
    exact xN
  · obtain ⟨F, G, hq1⟩ := xH Y G hp1
    refine xE ?_
    refine xr ?_
    rcases bsplit H with ⟨hp2, H⟩ | ⟨hp2, H⟩
    · obtain ⟨F, G, hq2⟩ := xH Y G hp2
      refine xT ?_
      obtain ⟨hg3, H⟩ := gsplit H
      have F := xZ Y (map_getD d_Token a0 ((IntKind.i64.wrap ((a0.length : Int) - 1)).toNat) default default (by omega))
      refine xR ?_
      replace H := Option.some.inj H
      refine xr ?_
      subst H
      exact xN
    · obtain ⟨F, G, hq2⟩ := xH Y G hp2
      refine xE ?_
      replace H := Option.some.inj H
      refine xr ?_
      subst H
      exact xN
theorem preref4_At_c (a0 : List Token) (a1 : Int) (a2 : Int) (r : Fault) (H : preref4_At a0 a1 a2 = some r) : PC pf_preref4_At [(dL 11 d_Token) a0, dI a1, dI a2] (d_Fault r) := PF.c (a := (a0, a1, a2)) H
noncomputable def preref4_C_Stop (a0 : Int) (a1 : Int) (a2 : List Token) (a3 : Int) (a4 : Int) (a5 : Int) (a6 : Int) (a7 : Int) : Option (Int × Int × Int) :=
  if (!eqI a3 0) = true then some (a3, a4, a5) else (preref4_At a2 a0 a1).bind fun r1 => some (r1.Err, r1.File, r1.At)
def g_preref4_C_Stop (a0 : Int) (a1 : Int) (a2 : List Token) (a3 : Int) (a4 : Int) (a5 : Int) (a6 : Int) (a7 : Int) (r : (Int × Int × Int)) : GI :=
  ⟨[.c (.pt 1 0), .c (.d (.v (.int .i64 a0))), .c (.d (.v (.int .i64 a1)))], [[.d (.sl 11 (List.map d_Token a2)), .d (.v (.int .i64 a3)), .d (.v (.int .i64 a4)), .d (.v (.int .i64 a5)), .d (.v (.int .i64 a6)), .d (.v (.int .i64 a7))]], [], .ret (.tu []) [[.d (.sl 11 (List.map d_Token a2)), .d (.v (.int .i64 r.1)), .d (.v (.int .i64 r.2.1)), .d (.v (.int .i64 r.2.2)), .d (.v (.int .i64 a6)), .d (.v (.int .i64 a7))]] []⟩
def S_preref4_C_Stop : GI → Prop := fun g => ∃ (a0 : Int) (a1 : Int) (a2 : List Token) (a3 : Int) (a4 : Int) (a5 : Int) (a6 : Int) (a7 : Int) (r : (Int × Int × Int)), preref4_C_Stop a0 a1 a2 a3 a4 a5 a6 a7 = some r ∧ g = g_preref4_C_Stop a0 a1 a2 a3 a4 a5 a6 a7 r
theorem preref4_C_Stop_c (a0 : Int) (a1 : Int) (a2 : List Token) (a3 : Int) (a4 : Int) (a5 : Int) (a6 : Int) (a7 : Int) (r : (Int × Int × Int)) (H : preref4_C_Stop a0 a1 a2 a3 a4 a5 a6 a7 = some r) : S_preref4_C_Stop (g_preref4_C_Stop a0 a1 a2 a3 a4 a5 a6 a7 r) := ⟨a0, a1, a2, a3, a4, a5, a6, a7, r, H, rfl⟩
set_option maxRecDepth 100000 in
set_option maxHeartbeats 4000000 in
theorem preref4_C_Stop_ok : ∀ g, S_preref4_C_Stop g → GenOk Tryd.prog 26 g := by
  rintro _ ⟨a0, a1, a2, a3, a4, a5, a6, a7, r, H, rfl⟩
  refine xGn mixed [(38, pf_preref4_At)] [] [] ⟨⟨call_38, preref4_At_ok⟩, trivial⟩ trivial trivial Tryd.func26 _ ?_
  have G := True.intro
  have Y := xZ y_22 <| xZ y_23 <| xZ y_25 <| xZ y_60 <| xZ Tryd.results26 <| xZ d_Call.eq_1 <| xZ d_Token.eq_1 <| xZ d_Fault.eq_1 <| g_preref4_C_Stop.eq_1
  dsimp only [g_preref4_C_Stop]
  simp only [preref4_C_Stop] at H
  refine xS ?_
  refine xr ?_
  rcases bsplit H with ⟨hp1, H⟩ | ⟨hp1, H⟩
  · obtain ⟨F, G, hq1⟩ := xH Y G hp1
    replace H := Option.some.inj H
    refine xT ?_
    subst H
    refine xOr ?_
    refine qDf [] ?_
    exact xO ⟨[1], []⟩
  · obtain ⟨F, G, hq1⟩ := xH Y G hp1
    refine xE ?_
    obtain ⟨r1, hr1, H⟩ := osplit H
    have F := xC Y (preref4_At_c a2 a0 a1 r1 hr1)
    replace H := Option.some.inj H
    refine xR ?_
    subst H
    refine xOn ?_
    refine qDf [] ?_
    exact xO ⟨[1], []⟩
theorem preref4_C_Stop_k : Callable Tryd.prog 26 ∧ (∀ g, S_preref4_C_Stop g → GenOk Tryd.prog 26 g) ∧ (true = true → ∀ g, S_preref4_C_Stop g → ∃ val bs ts, g.out = .ret val bs ts) :=
  ⟨call_26, preref4_C_Stop_ok, fun _ => by rintro _ ⟨_, _, _, _, _, _, _, _, _, _, rfl⟩; exact ⟨_, _, _, rfl⟩⟩
end Go.Proofs.YtghmojcecefgjaaDoor
