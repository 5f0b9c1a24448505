/- The program's structures, as data. Written by dec3.py. -/
import Derived.Test.YtppomhjhokbacaaZbai
set_option linter.unusedVariables false
set_option linter.unusedSimpArgs false
namespace Go.Proofs.Ytppomhjhokbacaa
open Go.RowKit
structure Call where
  Name : List UInt8
  File : Int
  At : Int
  deriving Inhabited, DecidableEq
def d_Call (x : Call) : D := .ag [.v (str x.Name), .v (.int .i64 x.File), .v (.int .i64 x.At)]
theorem d_Call_inj (x y : Call) (h : d_Call x = d_Call y) : x = y := by
  rcases x with ⟨_, _, _⟩; rcases y with ⟨_, _, _⟩
  simp only [d_Call, D.ag.injEq, List.cons.injEq, and_true] at h
  obtain ⟨h0, h1, h2⟩ := h
  have h0 := dS_inj _ _ h0
  have h1 := dI_inj _ _ h1
  have h2 := dI_inj _ _ h2
  subst_vars
  rfl
theorem d_Call_sinj (x y : Call) (h : strip1 (d_Call x) = strip1 (d_Call y)) : x = y := by
  rcases x with ⟨_, _, _⟩; rcases y with ⟨_, _, _⟩
  simp only [d_Call, strip1, strip0, List.map_cons, List.map_nil, D.ag.injEq, List.cons.injEq, and_true] at h
  obtain ⟨h0, h1, h2⟩ := h
  have h0 := dS_inj _ _ h0
  have h1 := dI_inj _ _ h1
  have h2 := dI_inj _ _ h2
  subst_vars
  rfl
instance : DInj d_Call := ⟨d_Call_sinj, d_Call_inj⟩
structure Token where
  Kind : Int
  Text : List UInt8
  Space : Bool
  First : Bool
  File : Int
  At : Int
  End : Int
  Line : Int
  Hide : List (List UInt8)
  Calls : List Call
  Made : Int
  deriving Inhabited, DecidableEq
def d_Token (x : Token) : D := .ag [.v (.int .i64 x.Kind), .v (str x.Text), .v (.bool x.Space), .v (.bool x.First), .v (.int .i64 x.File), .v (.int .i64 x.At), .v (.int .i64 x.End), .v (.int .i64 x.Line), .sl 1 (List.map dS x.Hide), .sl 3 (List.map d_Call x.Calls), .v (.int .i64 x.Made)]
theorem d_Token_inj (x y : Token) (h : d_Token x = d_Token y) : x = y := by
  rcases x with ⟨_, _, _, _, _, _, _, _, _, _, _⟩; rcases y with ⟨_, _, _, _, _, _, _, _, _, _, _⟩
  simp only [d_Token, D.ag.injEq, List.cons.injEq, and_true] at h
  obtain ⟨h0, h1, h2, h3, h4, h5, h6, h7, h8, h9, h10⟩ := h
  have h0 := dI_inj _ _ h0
  have h1 := dS_inj _ _ h1
  have h2 := dB_inj _ _ h2
  have h3 := dB_inj _ _ h3
  have h4 := dI_inj _ _ h4
  have h5 := dI_inj _ _ h5
  have h6 := dI_inj _ _ h6
  have h7 := dI_inj _ _ h7
  have h8 := dL_inj (sz := 1) dS_inj _ _ h8
  have h9 := dL_inj (sz := 3) d_Call_inj _ _ h9
  have h10 := dI_inj _ _ h10
  subst_vars
  rfl
theorem d_Token_sinj (x y : Token) (h : strip1 (d_Token x) = strip1 (d_Token y)) : x = y := by
  rcases x with ⟨_, _, _, _, _, _, _, _, _, _, _⟩; rcases y with ⟨_, _, _, _, _, _, _, _, _, _, _⟩
  simp only [d_Token, strip1, strip0, List.map_cons, List.map_nil, D.ag.injEq, List.cons.injEq, and_true] at h
  obtain ⟨h0, h1, h2, h3, h4, h5, h6, h7, h8, h9, h10⟩ := h
  have h0 := dI_inj _ _ h0
  have h1 := dS_inj _ _ h1
  have h2 := dB_inj _ _ h2
  have h3 := dB_inj _ _ h3
  have h4 := dI_inj _ _ h4
  have h5 := dI_inj _ _ h5
  have h6 := dI_inj _ _ h6
  have h7 := dI_inj _ _ h7
  have h8 := dL_inj (sz := 0) dS_inj _ _ h8
  have h9 := dL_inj (sz := 0) d_Call_inj _ _ h9
  have h10 := dI_inj _ _ h10
  subst_vars
  rfl
theorem one_Token (x : Token) : (d_Token x).cells.all D.one = true := rfl
instance : DInj d_Token := ⟨d_Token_sinj, d_Token_inj⟩
structure Spliced where
  Text : List UInt8
  At : List Int
  deriving Inhabited, DecidableEq
def d_Spliced (x : Spliced) : D := .ag [.v (str x.Text), .sl 1 (List.map dI x.At)]
theorem d_Spliced_inj (x y : Spliced) (h : d_Spliced x = d_Spliced y) : x = y := by
  rcases x with ⟨_, _⟩; rcases y with ⟨_, _⟩
  simp only [d_Spliced, D.ag.injEq, List.cons.injEq, and_true] at h
  obtain ⟨h0, h1⟩ := h
  have h0 := dS_inj _ _ h0
  have h1 := dL_inj (sz := 1) dI_inj _ _ h1
  subst_vars
  rfl
theorem d_Spliced_sinj (x y : Spliced) (h : strip1 (d_Spliced x) = strip1 (d_Spliced y)) : x = y := by
  rcases x with ⟨_, _⟩; rcases y with ⟨_, _⟩
  simp only [d_Spliced, strip1, strip0, List.map_cons, List.map_nil, D.ag.injEq, List.cons.injEq, and_true] at h
  obtain ⟨h0, h1⟩ := h
  have h0 := dS_inj _ _ h0
  have h1 := dL_inj (sz := 0) dI_inj _ _ h1
  subst_vars
  rfl
instance : DInj d_Spliced := ⟨d_Spliced_sinj, d_Spliced_inj⟩
structure Fault where
  Err : Int
  File : Int
  At : Int
  deriving Inhabited, DecidableEq
def d_Fault (x : Fault) : D := .ag [.v (.int .i64 x.Err), .v (.int .i64 x.File), .v (.int .i64 x.At)]
theorem d_Fault_inj (x y : Fault) (h : d_Fault x = d_Fault y) : x = y := by
  rcases x with ⟨_, _, _⟩; rcases y with ⟨_, _, _⟩
  simp only [d_Fault, D.ag.injEq, List.cons.injEq, and_true] at h
  obtain ⟨h0, h1, h2⟩ := h
  have h0 := dI_inj _ _ h0
  have h1 := dI_inj _ _ h1
  have h2 := dI_inj _ _ h2
  subst_vars
  rfl
theorem d_Fault_sinj (x y : Fault) (h : strip1 (d_Fault x) = strip1 (d_Fault y)) : x = y := by
  rcases x with ⟨_, _, _⟩; rcases y with ⟨_, _, _⟩
  simp only [d_Fault, strip1, strip0, List.map_cons, List.map_nil, D.ag.injEq, List.cons.injEq, and_true] at h
  obtain ⟨h0, h1, h2⟩ := h
  have h0 := dI_inj _ _ h0
  have h1 := dI_inj _ _ h1
  have h2 := dI_inj _ _ h2
  subst_vars
  rfl
instance : DInj d_Fault := ⟨d_Fault_sinj, d_Fault_inj⟩
end Go.Proofs.Ytppomhjhokbacaa
