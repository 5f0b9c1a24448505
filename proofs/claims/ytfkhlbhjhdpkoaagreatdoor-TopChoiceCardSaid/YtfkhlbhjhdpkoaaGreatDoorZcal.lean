/- The program's structures, as data. Written by dec3.py. -/
import Derived.Test.YtfkhlbhjhdpkoaaGreatDoorZcaj
set_option linter.unusedVariables false
set_option linter.unusedSimpArgs false
namespace Go.Proofs.YtfkhlbhjhdpkoaaGreatDoor
open Go.RowKit
structure Source where
 Path : List UInt8
 Text : List UInt8
 deriving Inhabited, DecidableEq
def d_Source (x : Source) : D := .ag [.v (str x.Path), .v (str x.Text)]
theorem d_Source_inj (x y : Source) (h : d_Source x = d_Source y) : x = y := by
 rcases x with ⟨_, _⟩; rcases y with ⟨_, _⟩
 simp only [d_Source, D.ag.injEq, List.cons.injEq, and_true] at h
 obtain ⟨h0, h1⟩ := h
 have h0 := dS_inj _ _ h0
 have h1 := dS_inj _ _ h1
 subst_vars
 rfl
theorem d_Source_sinj (x y : Source) (h : strip1 (d_Source x) = strip1 (d_Source y)) : x = y := by
 rcases x with ⟨_, _⟩; rcases y with ⟨_, _⟩
 simp only [d_Source, strip1, strip0, List.map_cons, List.map_nil, D.ag.injEq, List.cons.injEq, and_true] at h
 obtain ⟨h0, h1⟩ := h
 have h0 := dS_inj _ _ h0
 have h1 := dS_inj _ _ h1
 subst_vars
 rfl
instance : DInj d_Source := ⟨d_Source_sinj, d_Source_inj⟩
structure Limits where
 Fuel : Int
 Out : Int
 Deep : Int
 deriving Inhabited, DecidableEq
def d_Limits (x : Limits) : D := .ag [.v (.int .i64 x.Fuel), .v (.int .i64 x.Out), .v (.int .i64 x.Deep)]
theorem d_Limits_inj (x y : Limits) (h : d_Limits x = d_Limits y) : x = y := by
 rcases x with ⟨_, _, _⟩; rcases y with ⟨_, _, _⟩
 simp only [d_Limits, D.ag.injEq, List.cons.injEq, and_true] at h
 obtain ⟨h0, h1, h2⟩ := h
 have h0 := dI_inj _ _ h0
 have h1 := dI_inj _ _ h1
 have h2 := dI_inj _ _ h2
 subst_vars
 rfl
theorem d_Limits_sinj (x y : Limits) (h : strip1 (d_Limits x) = strip1 (d_Limits y)) : x = y := by
 rcases x with ⟨_, _, _⟩; rcases y with ⟨_, _, _⟩
 simp only [d_Limits, strip1, strip0, List.map_cons, List.map_nil, D.ag.injEq, List.cons.injEq, and_true] at h
 obtain ⟨h0, h1, h2⟩ := h
 have h0 := dI_inj _ _ h0
 have h1 := dI_inj _ _ h1
 have h2 := dI_inj _ _ h2
 subst_vars
 rfl
instance : DInj d_Limits := ⟨d_Limits_sinj, d_Limits_inj⟩
structure Call where
 Name : List UInt8
 File : Int
 At : Int
 deriving Inhabited, DecidableEq
def d_Call (x : Call) : D := .ag [.v (str x.Name), .v (.int .i64 x.File), .v (.int .i64 x.At)]
theorem d_Call_inj (x y : Call) (h : d_Call x = d_Call y) : x = y := by
 rcases x with ⟨_, _, _⟩; rcases y with ⟨_, _, _⟩
 simp only [d_Call, D.ag.injEq, List.cons.injEq, and_true] at h
 obtain ⟨h0, h1, h2⟩ := h
 have h0 := dS_inj _ _ h0
 have h1 := dI_inj _ _ h1
 have h2 := dI_inj _ _ h2
 subst_vars
 rfl
theorem d_Call_sinj (x y : Call) (h : strip1 (d_Call x) = strip1 (d_Call y)) : x = y := by
 rcases x with ⟨_, _, _⟩; rcases y with ⟨_, _, _⟩
 simp only [d_Call, strip1, strip0, List.map_cons, List.map_nil, D.ag.injEq, List.cons.injEq, and_true] at h
 obtain ⟨h0, h1, h2⟩ := h
 have h0 := dS_inj _ _ h0
 have h1 := dI_inj _ _ h1
 have h2 := dI_inj _ _ h2
 subst_vars
 rfl
theorem one_Call (x : Call) : (d_Call x).cells.all D.one = true := rfl
instance : DInj d_Call := ⟨d_Call_sinj, d_Call_inj⟩
structure Token where
 Kind : Int
 Text : List UInt8
 Space : Bool
 First : Bool
 File : Int
 At : Int
 End : Int
 Line : Int
 Hide : List (List UInt8)
 Calls : List Call
 Made : Int
 deriving Inhabited, DecidableEq
def d_Token (x : Token) : D := .ag [.v (.int .i64 x.Kind), .v (str x.Text), .v (.bool x.Space), .v (.bool x.First), .v (.int .i64 x.File), .v (.int .i64 x.At), .v (.int .i64 x.End), .v (.int .i64 x.Line), .sl 1 (List.map dS x.Hide), .sl 3 (List.map d_Call x.Calls), .v (.int .i64 x.Made)]
theorem d_Token_inj (x y : Token) (h : d_Token x = d_Token y) : x = y := by
 rcases x with ⟨_, _, _, _, _, _, _, _, _, _, _⟩; rcases y with ⟨_, _, _, _, _, _, _, _, _, _, _⟩
 simp only [d_Token, D.ag.injEq, List.cons.injEq, and_true] at h
 obtain ⟨h0, h1, h2, h3, h4, h5, h6, h7, h8, h9, h10⟩ := h
 have h0 := dI_inj _ _ h0
 have h1 := dS_inj _ _ h1
 have h2 := dB_inj _ _ h2
 have h3 := dB_inj _ _ h3
 have h4 := dI_inj _ _ h4
 have h5 := dI_inj _ _ h5
 have h6 := dI_inj _ _ h6
 have h7 := dI_inj _ _ h7
 have h8 := dL_inj (sz := 1) dS_inj _ _ h8
 have h9 := dL_inj (sz := 3) d_Call_inj _ _ h9
 have h10 := dI_inj _ _ h10
 subst_vars
 rfl
theorem d_Token_sinj (x y : Token) (h : strip1 (d_Token x) = strip1 (d_Token y)) : x = y := by
 rcases x with ⟨_, _, _, _, _, _, _, _, _, _, _⟩; rcases y with ⟨_, _, _, _, _, _, _, _, _, _, _⟩
 simp only [d_Token, strip1, strip0, List.map_cons, List.map_nil, D.ag.injEq, List.cons.injEq, and_true] at h
 obtain ⟨h0, h1, h2, h3, h4, h5, h6, h7, h8, h9, h10⟩ := h
 have h0 := dI_inj _ _ h0
 have h1 := dS_inj _ _ h1
 have h2 := dB_inj _ _ h2
 have h3 := dB_inj _ _ h3
 have h4 := dI_inj _ _ h4
 have h5 := dI_inj _ _ h5
 have h6 := dI_inj _ _ h6
 have h7 := dI_inj _ _ h7
 have h8 := dL_inj (sz := 0) dS_inj _ _ h8
 have h9 := dL_inj (sz := 0) d_Call_inj _ _ h9
 have h10 := dI_inj _ _ h10
 subst_vars
 rfl
theorem one_Token (x : Token) : (d_Token x).cells.all D.one = true := rfl
instance : DInj d_Token := ⟨d_Token_sinj, d_Token_inj⟩
structure Macro where
 Name : List UInt8
 Call : Bool
 Params : List (List UInt8)
 More : Bool
 Body : List Token
 deriving Inhabited, DecidableEq
def d_Macro (x : Macro) : D := .ag [.v (str x.Name), .v (.bool x.Call), .sl 1 (List.map dS x.Params), .v (.bool x.More), .sl 11 (List.map d_Token x.Body)]
theorem d_Macro_inj (x y : Macro) (h : d_Macro x = d_Macro y) : x = y := by
 rcases x with ⟨_, _, _, _, _⟩; rcases y with ⟨_, _, _, _, _⟩
 simp only [d_Macro, D.ag.injEq, List.cons.injEq, and_true] at h
 obtain ⟨h0, h1, h2, h3, h4⟩ := h
 have h0 := dS_inj _ _ h0
 have h1 := dB_inj _ _ h1
 have h2 := dL_inj (sz := 1) dS_inj _ _ h2
 have h3 := dB_inj _ _ h3
 have h4 := dL_inj (sz := 11) d_Token_inj _ _ h4
 subst_vars
 rfl
theorem d_Macro_sinj (x y : Macro) (h : strip1 (d_Macro x) = strip1 (d_Macro y)) : x = y := by
 rcases x with ⟨_, _, _, _, _⟩; rcases y with ⟨_, _, _, _, _⟩
 simp only [d_Macro, strip1, strip0, List.map_cons, List.map_nil, D.ag.injEq, List.cons.injEq, and_true] at h
 obtain ⟨h0, h1, h2, h3, h4⟩ := h
 have h0 := dS_inj _ _ h0
 have h1 := dB_inj _ _ h1
 have h2 := dL_inj (sz := 0) dS_inj _ _ h2
 have h3 := dB_inj _ _ h3
 have h4 := dL_inj (sz := 0) d_Token_inj _ _ h4
 subst_vars
 rfl
theorem one_Macro (x : Macro) : (d_Macro x).cells.all D.one = true := rfl
instance : DInj d_Macro := ⟨d_Macro_sinj, d_Macro_inj⟩
structure Fault where
 Err : Int
 File : Int
 At : Int
 deriving Inhabited, DecidableEq
def d_Fault (x : Fault) : D := .ag [.v (.int .i64 x.Err), .v (.int .i64 x.File), .v (.int .i64 x.At)]
theorem d_Fault_inj (x y : Fault) (h : d_Fault x = d_Fault y) : x = y := by
 rcases x with ⟨_, _, _⟩; rcases y with ⟨_, _, _⟩
 simp only [d_Fault, D.ag.injEq, List.cons.injEq, and_true] at h
 obtain ⟨h0, h1, h2⟩ := h
 have h0 := dI_inj _ _ h0
 have h1 := dI_inj _ _ h1
 have h2 := dI_inj _ _ h2
 subst_vars
 rfl
theorem d_Fault_sinj (x y : Fault) (h : strip1 (d_Fault x) = strip1 (d_Fault y)) : x = y := by
 rcases x with ⟨_, _, _⟩; rcases y with ⟨_, _, _⟩
 simp only [d_Fault, strip1, strip0, List.map_cons, List.map_nil, D.ag.injEq, List.cons.injEq, and_true] at h
 obtain ⟨h0, h1, h2⟩ := h
 have h0 := dI_inj _ _ h0
 have h1 := dI_inj _ _ h1
 have h2 := dI_inj _ _ h2
 subst_vars
 rfl
instance : DInj d_Fault := ⟨d_Fault_sinj, d_Fault_inj⟩
structure Spliced where
 Text : List UInt8
 At : List Int
 deriving Inhabited, DecidableEq
def d_Spliced (x : Spliced) : D := .ag [.v (str x.Text), .sl 1 (List.map dI x.At)]
theorem d_Spliced_inj (x y : Spliced) (h : d_Spliced x = d_Spliced y) : x = y := by
 rcases x with ⟨_, _⟩; rcases y with ⟨_, _⟩
 simp only [d_Spliced, D.ag.injEq, List.cons.injEq, and_true] at h
 obtain ⟨h0, h1⟩ := h
 have h0 := dS_inj _ _ h0
 have h1 := dL_inj (sz := 1) dI_inj _ _ h1
 subst_vars
 rfl
theorem d_Spliced_sinj (x y : Spliced) (h : strip1 (d_Spliced x) = strip1 (d_Spliced y)) : x = y := by
 rcases x with ⟨_, _⟩; rcases y with ⟨_, _⟩
 simp only [d_Spliced, strip1, strip0, List.map_cons, List.map_nil, D.ag.injEq, List.cons.injEq, and_true] at h
 obtain ⟨h0, h1⟩ := h
 have h0 := dS_inj _ _ h0
 have h1 := dL_inj (sz := 0) dI_inj _ _ h1
 subst_vars
 rfl
instance : DInj d_Spliced := ⟨d_Spliced_sinj, d_Spliced_inj⟩
structure drive_group where
 on_ : Bool
 had_ : Bool
 last_ : Bool
 at_ : Token
 deriving Inhabited, DecidableEq
abbrev YU := UInt8 × Bool
abbrev YT := Int × Int × Int
abbrev YS := List drive_group
abbrev YR := List (List Token)
abbrev YQ := (Int × Int) ⊕ Int
abbrev YP := List (List UInt8)
abbrev YO := (Int × Int) ⊕ Unit
abbrev YN := (List UInt8) × Int
abbrev YM := (List Token) × Int
abbrev YL := Nat × (List Token)
abbrev YK := (Int × Int) ⊕ Bool
abbrev YJ := Int × (List Token)
abbrev YI := (UInt8 × Int) ⊕ Int
abbrev YH := Int × Int × Int × Int
abbrev YG := Nat × List (List UInt8)
abbrev YF := Unit ⊕ YT
abbrev YE := Bool × Bool × Bool × Int
abbrev YD := YN ⊕ Bool
abbrev YC := Int × Int × YP
abbrev YB := Int × (List UInt8) × Int × Bool
abbrev YA := YJ ⊕ (List Token)
abbrev Yz := Int × Int × Int × Int × (List Token)
abbrev Yy := (List Token) × Int × Int × Int × Int
abbrev Yx := Nat × Bool × Int × YS
abbrev Yw := (List UInt8) × (List UInt8) × Int × Int
abbrev Yv := GR YH (Bool × Int)
abbrev Yu := (List Token) × (List Int) × (List Macro)
abbrev Yt := ((List UInt8) × Int × Int) ⊕ (List UInt8)
abbrev Ys := YJ ⊕ ((List Token) × Fault)
abbrev Yr := Int → List UInt8 → Option ((List Token) × Fault)
abbrev Yq := Yw ⊕ Bool
abbrev Yp := (Bool × Int × Int × (List Token)) ⊕ (List Token)
abbrev Yo := (Bool × Bool × Int) ⊕ YE
abbrev Yn := Int ⊕ Yo
abbrev Ym := (List Token) × (List Int) × (List Macro) × Int × Int × Int
abbrev Yl := ((List UInt8) × (List Int) × Int × (List UInt8)) ⊕ Spliced
abbrev Yk := ((List Token) × Int × Int × (List Token)) ⊕ (Macro × Fault)
abbrev Yj := Int × (List Macro) × (List Int) × (List Int) × Int × (List Token)
abbrev Yi := GR YH Yx
abbrev Yh := Int × Int × Int × Int × (List Macro) × (List Int) × (List Int) × Int × (List Token)
abbrev Yg := (Int × Nat × (List Token) × (List Token)) ⊕ (GR YH YM)
abbrev Yf := Int × (List UInt8) × Bool × Bool × Int × Int × Int × Int × YP × (List Call) × Int × Nat
abbrev Ye := Bool × Int × (List UInt8) × Bool × Bool × Int × Int × Int × Int × YP × (List Call) × Int
abbrev Yd := GR Yh Yj
abbrev Yc := Int → (List Source) → Int → Int → Int → (List Macro) → (List Int) → (List Int) → Int → (List Token) → Option Yd
abbrev Yb := (List Token) → (List Source) → Int → Int → Int → (List Macro) → (List Int) → (List Int) → Int → (List Token) → Option Yd
abbrev Ya := (Nat × Int × Int × Int × (List Macro) × (List Int) × (List Int) × Int × YS × (List Token) × (List Token)) ⊕ Yd
def Ja (x : drive_group) : D := .ag [.v (.bool x.on_), .v (.bool x.had_), .v (.bool x.last_), .v (.int .i64 x.at_.Kind), .v (str x.at_.Text), .v (.bool x.at_.Space), .v (.bool x.at_.First), .v (.int .i64 x.at_.File), .v (.int .i64 x.at_.At), .v (.int .i64 x.at_.End), .v (.int .i64 x.at_.Line), .sl 1 (List.map dS x.at_.Hide), .sl 3 (List.map d_Call x.at_.Calls), .v (.int .i64 x.at_.Made)]
theorem Je0 (x y : drive_group) (h : Ja x = Ja y) : x = y := by
 rcases x with ⟨_, _, _, ⟨_, _, _, _, _, _, _, _, _, _, _⟩⟩; rcases y with ⟨_, _, _, ⟨_, _, _, _, _, _, _, _, _, _, _⟩⟩
 simp only [Ja, D.ag.injEq, List.cons.injEq, and_true] at h
 obtain ⟨h0, h1, h2, h3, h4, h5, h6, h7, h8, h9, h10, h11, h12, h13⟩ := h
 have h0 := dB_inj _ _ h0
 have h1 := dB_inj _ _ h1
 have h2 := dB_inj _ _ h2
 have h3 := dI_inj _ _ h3
 have h4 := dS_inj _ _ h4
 have h5 := dB_inj _ _ h5
 have h6 := dB_inj _ _ h6
 have h7 := dI_inj _ _ h7
 have h8 := dI_inj _ _ h8
 have h9 := dI_inj _ _ h9
 have h10 := dI_inj _ _ h10
 have h11 := dL_inj (sz := 1) dS_inj _ _ h11
 have h12 := dL_inj (sz := 3) d_Call_inj _ _ h12
 have h13 := dI_inj _ _ h13
 subst_vars
 rfl
theorem JeJ (x y : drive_group) (h : strip1 (Ja x) = strip1 (Ja y)) : x = y := by
 rcases x with ⟨_, _, _, ⟨_, _, _, _, _, _, _, _, _, _, _⟩⟩; rcases y with ⟨_, _, _, ⟨_, _, _, _, _, _, _, _, _, _, _⟩⟩
 simp only [Ja, strip1, strip0, List.map_cons, List.map_nil, D.ag.injEq, List.cons.injEq, and_true] at h
 obtain ⟨h0, h1, h2, h3, h4, h5, h6, h7, h8, h9, h10, h11, h12, h13⟩ := h
 have h0 := dB_inj _ _ h0
 have h1 := dB_inj _ _ h1
 have h2 := dB_inj _ _ h2
 have h3 := dI_inj _ _ h3
 have h4 := dS_inj _ _ h4
 have h5 := dB_inj _ _ h5
 have h6 := dB_inj _ _ h6
 have h7 := dI_inj _ _ h7
 have h8 := dI_inj _ _ h8
 have h9 := dI_inj _ _ h9
 have h10 := dI_inj _ _ h10
 have h11 := dL_inj (sz := 0) dS_inj _ _ h11
 have h12 := dL_inj (sz := 0) d_Call_inj _ _ h12
 have h13 := dI_inj _ _ h13
 subst_vars
 rfl
theorem Jfd (x : drive_group) : (Ja x).cells.all D.one = true := rfl
instance : DInj Ja := ⟨JeJ, Je0⟩
end Go.Proofs.YtfkhlbhjhdpkoaaGreatDoor
