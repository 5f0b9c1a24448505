/- Functions of data for functions of the program: JbO (by hand: it appends to its result's last element). -/
import Derived.Test.YtfkhlbhjhdpkoaaGreatDoorZcal
set_option linter.unusedVariables false
set_option linter.unusedSimpArgs false
set_option maxHeartbeats 4000000
set_option maxRecDepth 100000
namespace Go.Proofs.YtfkhlbhjhdpkoaaGreatDoor
open Go.RowKit
abbrev LinesS := Option (YR × List Token)
def linesLen : LinesS → Nat
 | none => 0
 | some (x, _) => x.length + 1
def linesOut : LinesS → List (List Token)
 | none => []
 | some (x, m) => x ++ [m]
def linesL (a0 : List Token) (x2 x3 : Int) : LinesS → List (Nat × AV)
 | none => [(3, .c (.os 1 1 0 0)), (6, .c (.d (.sl 11 (List.map d_Token a0)))), (7, cI x2), (8, cI x3)]
 | some (x, _) => [(3, .c (.os 1 1 0 (x.length + 1))), (6, .c (.d (.sl 11 (List.map d_Token a0)))), (7, cI x2), (8, cI x3)]
def linesB : LinesS → List (List C)
 | none => [[.arr 1 []]]
 | some (x, m) => [[.arr 1 (List.map (dL 11 d_Token) x), .os 2 11 0 m.length], [.arr 11 (List.map d_Token m)]]
noncomputable def VO (a0 : List Token) (x2 x3 : Int) : LinesS → Option ((LinesS × Int × Int) ⊕ YR)
 | none => none
 | some (x, m) => if x.length < 4611686018427387904 then
   if (m.length + [a0.getD x3.toNat default].length) * 120 ≤ 140737488355328 then some (.inl (some (x, m ++ [a0.getD x3.toNat default]), x2, IntKind.i64.wrap (x3 + 1))) else none else none
noncomputable def ZX (a0 : List Token) (x2 x3 : Int) : LinesS → Bool → Option ((LinesS × Int × Int) ⊕ YR)
 | s, b => if b = true then if (linesLen s + 1) * 24 ≤ 140737488355328 then VO a0 x2 x3 (some (linesOut s, [])) else none else VO a0 x2 x3 s
noncomputable def Jdb (a0 : List Token) : (LinesS × Int × Int) → Option ((LinesS × Int × Int) ⊕ YR)
 | (s, x2, x3) => if (ltI x3 x2) = true then if (0 : Int) ≤ x3 ∧ x3.toNat < a0.length then
   if (a0.getD x3.toNat default).First = true then ZX a0 x2 x3 s true else ZX a0 x2 x3 s (eqI x3 0) else none else inrO (some (linesOut s))
noncomputable def JbO (a0 : List Token) : Option YR :=
 loopO (Jdb a0) (none, (a0.length : Int), 0)
noncomputable def Jdc : PF := PF.of (E1 (dL 11 d_Token)) (fun a => JbO a) (dL 1 (dL 11 d_Token))
theorem lin_at (n : Nat) (h : n < 4611686018427387904) : IntKind.i64.wrap (((n + 1 : Nat) : Int) - 1) = (n : Int) := by
 rw [show ((n + 1 : Nat) : Int) - 1 = n by omega]
 exact IntWalk.i64_in _ (by omega)
theorem sn1 (x : List (List Token)) (m : List Token) : (List.map (dL 11 d_Token) x ++ [D.sl 11 (List.map d_Token m)]).length = x.length + 1 := by simp
theorem sn3 (x : List (List Token)) (m : List Token) : List.take (x.length + 1) (List.map (dL 11 d_Token) x ++ [D.sl 11 (List.map d_Token m)]) = List.map (dL 11 d_Token) x ++ [D.sl 11 (List.map d_Token m)] := List.take_of_length_le (by simp)
theorem sn2 (x : List (List Token)) (m : List Token) : (x ++ [m]).length = x.length + 1 := by simp
theorem w0 : IntKind.i64.wrap 0 = 0 := rfl
theorem then_frz {t : Tab} {σ : Nat → AV} {h : Hp} {Q : APost} {b : Code} {n sz : Nat} {l : List D} {cs : List C} (hH : h.H n = some (.arr sz l :: cs)) (hD : cs.all C.isD = true) (h1D : (cs.map C.toD).all D.one = true)
  (hh : aC t b (fun i => frzA n (.sl sz (l ++ cs.map C.toD)) (l.length + cs.length) (σ i)) (frzH n (.sl sz (l ++ cs.map C.toD)) (l.length + cs.length) h) Q) : Then t b Q .normal σ h := ⟨_, _, wk_freeze hH hD h1D, ⟨fun _ => hh⟩⟩
theorem Jga : PureOk Tryz.prog 34 Jdc := by
 refine xF mixed [] [] trivial trivial Tryz.func34 ?_
 rintro a0 out H
 have G := True.intro
 have Y := xZ y_3 <| xZ y_4 <| xZ y_24 <| xZ y_44 <| xZ y_81 <| xZ Tryz.results34 <| xZ d_Call.eq_1 <| xZ d_Token.eq_1 <| xZ linesL.eq_1 <| xZ linesL.eq_2 <| xZ linesB.eq_1 <| xZ linesB.eq_2 <| xZ linesOut.eq_1 <| linesOut.eq_2
 simp only [JbO] at H
 refine xS ?_
 refine xr ?_
 refine xr ?_
 refine xr ?_
 refine w_loop (Jdb a0) (fun s => linesL a0 s.2.1 s.2.2 s.1) (fun s => linesB s.1) [] H (by exact xK ⟨[0], []⟩) ?_
 rintro n1 ⟨s, x2, x3⟩ o1 H hF1
 rw [Jdb] at H
 refine xS ?_
 cases s with
 | none =>
  simp only [linesL, linesB]
  refine xr ?_
  rcases bsplit H with ⟨hp1, H⟩ | ⟨hp1, H⟩
  ·obtain ⟨F, G, hq1⟩ := xH Y G hp1
   refine xT ?_
   obtain ⟨g, H⟩ := gsplit H
   have F := xZ Y (map_getD d_Token a0 x3.toNat default default (by omega))
   refine xR ?_
   rcases bsplit H with ⟨hp2, H⟩ | ⟨hp2, H⟩
   ·obtain ⟨F, G, hq2⟩ := xH Y G hp2
    refine xR ?_
    simp only [ZX, if_true] at H
    obtain ⟨hg2, H⟩ := gsplit H
    simp only [linesLen, Nat.zero_add] at hg2
    refine xt ?_
    refine xr ?_
    simp only [linesOut, VO] at H
    obtain ⟨hg3, H⟩ := gsplit H
    obtain ⟨g, H⟩ := gsplit H
    have F := xZ Y <| xZ w0 (all_map one_Token [a0.getD x3.toNat default])
    refine xR ?_
    refine xr ?_
    have Y := xZ Y hp2
    exact round_at (inl_fin H hF1) (xK ⟨[3, 4], []⟩)
   obtain ⟨F, G, hq2⟩ := xH Y G hp2
   refine xR ?_
   simp only [ZX] at H
   rcases bsplit H with ⟨hp3, H⟩ | ⟨hp3, H⟩
   ·obtain ⟨F, G, hq3⟩ := xH Y G hp3
    refine xT ?_
    obtain ⟨hg2, H⟩ := gsplit H
    simp only [linesLen, Nat.zero_add] at hg2
    refine xr ?_
    simp only [linesOut, VO] at H
    obtain ⟨hg3, H⟩ := gsplit H
    obtain ⟨g, H⟩ := gsplit H
    have F := xZ Y <| xZ w0 (all_map one_Token [a0.getD x3.toNat default])
    refine xR ?_
    refine xr ?_
    have Y := xZ Y hp2
    exact round_at (inl_fin H hF1) (xK ⟨[3, 4], []⟩)
   simp [VO] at H
  obtain ⟨F, G, hq1⟩ := xH Y G hp1
  replace H := inrO_fin H hF1
  refine xE0 ?_
  refine w_exit ?_
  refine then_exit ?_
  refine round_exit ?_
  refine block_exit ?_
  refine then_frz (n := 1) (sz := 1) (l := []) (cs := []) rfl rfl rfl ?_
  refine xS ?_
  refine xr ?_
  cases H
  exact xN
 | some xm =>
  obtain ⟨x, m⟩ := xm
  simp only [linesL, linesB]
  refine xr ?_
  rcases bsplit H with ⟨hp1, H⟩ | ⟨hp1, H⟩
  ·obtain ⟨F, G, hq1⟩ := xH Y G hp1
   refine xT ?_
   obtain ⟨g, H⟩ := gsplit H
   have F := xZ Y (map_getD d_Token a0 x3.toNat default default (by omega))
   refine xR ?_
   rcases bsplit H with ⟨hp2, H⟩ | ⟨hp2, H⟩
   ·obtain ⟨F, G, hq2⟩ := xH Y G hp2
    refine xR ?_
    simp only [ZX, if_true] at H
    obtain ⟨hg2, H⟩ := gsplit H
    simp only [linesLen, Nat.zero_add] at hg2
    refine xt ?_
    refine xfz 2 11 (List.map d_Token m) [] ?_
    refine xr ?_
    simp only [linesOut, VO] at H
    obtain ⟨hg3, H⟩ := gsplit H
    obtain ⟨g, H⟩ := gsplit H
    have F := xZ Y <| xZ (lin_at (x.length + 1) (by simpa using hg3)) <| xZ (sn1 x m) <| xZ (sn3 x m) (all_map one_Token [a0.getD x3.toNat default])
    refine xR ?_
    refine xr ?_
    have Y := xZ Y <| xZ (sn3 x m) (sn2 x m)
    exact round_at (inl_fin H hF1) (xK ⟨[4, 5], []⟩)
   obtain ⟨F, G, hq2⟩ := xH Y G hp2
   refine xR ?_
   simp only [ZX] at H
   rcases bsplit H with ⟨hp3, H⟩ | ⟨hp3, H⟩
   ·obtain ⟨F, G, hq3⟩ := xH Y G hp3
    refine xT ?_
    obtain ⟨hg2, H⟩ := gsplit H
    simp only [linesLen, Nat.zero_add] at hg2
    refine xfz 2 11 (List.map d_Token m) [] ?_
    refine xr ?_
    simp only [linesOut, VO] at H
    obtain ⟨hg3, H⟩ := gsplit H
    obtain ⟨g, H⟩ := gsplit H
    have F := xZ Y <| xZ (lin_at (x.length + 1) (by simpa using hg3)) <| xZ (sn1 x m) <| xZ (sn3 x m) (all_map one_Token [a0.getD x3.toNat default])
    refine xR ?_
    refine xr ?_
    have Y := xZ Y <| xZ (sn3 x m) (sn2 x m)
    exact round_at (inl_fin H hF1) (xK ⟨[4, 5], []⟩)
   obtain ⟨F, G, hq3⟩ := xH Y G hp3
   refine xE ?_
   simp only [linesOut, VO] at H
   obtain ⟨hg3, H⟩ := gsplit H
   obtain ⟨g, H⟩ := gsplit H
   have F := xZ Y <| xZ (lin_at x.length hg3) (all_map one_Token [a0.getD x3.toNat default])
   refine xR ?_
   refine xr ?_
   have Y := xZ Y hp2
   exact round_at (inl_fin H hF1) (xK ⟨[1, 4], []⟩)
  obtain ⟨F, G, hq1⟩ := xH Y G hp1
  replace H := inrO_fin H hF1
  refine xE0 ?_
  refine w_exit ?_
  refine then_exit ?_
  refine round_exit ?_
  refine block_exit ?_
  refine then_frz (n := 2) (sz := 11) (l := List.map d_Token m) (cs := []) rfl rfl rfl ?_
  refine xS ?_
  refine xfz 1 1 (List.map (dL 11 d_Token) x) [.d (.sl 11 (List.map d_Token m))] ?_
  refine xr ?_
  cases H
  exact xN
theorem Jgh (a0 : List Token) (r : List (List Token)) (H : JbO a0 = some r) : PC Jdc [dL 11 d_Token a0] (dL 1 (dL 11 d_Token) r) := PF.c (a := a0) H
end Go.Proofs.YtfkhlbhjhdpkoaaGreatDoor
