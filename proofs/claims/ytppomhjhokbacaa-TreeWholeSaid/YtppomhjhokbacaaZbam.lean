/- A tree's node: a struct that holds slices of itself. -/
import Derived.Test.YtppomhjhokbacaaZbah
import Derived.Test.YtppomhjhokbacaaZbak
set_option linter.unusedVariables false
set_option linter.unusedSimpArgs false
namespace Go.Proofs.Ytppomhjhokbacaa
open Go.RowKit
structure Node where
  Kind : Int
  Tok : Int
  Kids : List Node
  deriving Inhabited
mutual
def d_Node : Node → D
  | ⟨k, t, ks⟩ => .ag [.v (.int .i64 k), .v (.int .i64 t), .sl 3 (d_Nodes ks)]
def d_Nodes : List Node → List D
  | [] => []
  | x :: r => d_Node x :: d_Nodes r
end
theorem d_Nodes_map : ∀ l, d_Nodes l = List.map d_Node l
  | [] => by simp [d_Nodes]
  | x :: r => by simp [d_Nodes, d_Nodes_map r]
theorem dq_Node (x : Node) : d_Node x = .ag [.v (.int .i64 x.Kind), .v (.int .i64 x.Tok), .sl 3 (List.map d_Node x.Kids)] := by
  obtain ⟨k, t, ks⟩ := x
  rw [d_Node, d_Nodes_map]
mutual
theorem d_Node_inj : ∀ x y : Node, d_Node x = d_Node y → x = y
  | ⟨k, t, ks⟩, ⟨k', t', ks'⟩, h => by
    simp only [d_Node, D.ag.injEq, List.cons.injEq, D.v.injEq, D.sl.injEq, Value.int.injEq, true_and, and_true] at h
    obtain ⟨rfl, rfl, h2⟩ := h
    rw [d_Nodes_inj ks ks' h2]
theorem d_Nodes_inj : ∀ l m : List Node, d_Nodes l = d_Nodes m → l = m
  | [], [], _ => rfl
  | x :: l, y :: m, h => by
    simp only [d_Nodes, List.cons.injEq] at h
    rw [d_Node_inj x y h.1, d_Nodes_inj l m h.2]
  | [], _ :: _, h => by simp [d_Nodes] at h
  | _ :: _, [], h => by simp [d_Nodes] at h
end
theorem d_Node_sinj (x y : Node) (h : strip1 (d_Node x) = strip1 (d_Node y)) : x = y := by
  refine d_Node_inj x y ?_
  rw [dq_Node, dq_Node] at h ⊢
  simp only [strip1, strip0, List.map_cons, List.map_nil, D.ag.injEq, List.cons.injEq, D.v.injEq, D.sl.injEq, Value.int.injEq, true_and, and_true] at h
  obtain ⟨h0, h1, h2⟩ := h
  rw [h0, h1, h2]
theorem one_Node (x : Node) : (d_Node x).cells.all D.one = true := by rw [dq_Node]; rfl
instance : DInj d_Node := ⟨d_Node_sinj, d_Node_inj⟩
abbrev KD := List (List UInt8 × Bool)
def cvK (l : KD) : ME := l.map fun p => (p.1, .bool p.2)
abbrev KSK (L : List KD) : KP := KS Try.prog 9 48 (L.map cvK)
def bGet : KD → List UInt8 → Option Bool
  | [], _ => none
  | (k, v) :: r, s => if s = k then some v else bGet r s
def kPut (K : List KD) (s : List UInt8) (b : Bool) : List KD := K.set (K.length - 1) ((s, b) :: K.getD (K.length - 1) [])
def kTop (K : List KD) : KD := K.getD (K.length - 1) []
def kHas (K : List KD) (i : Int) (s : List UInt8) : Bool := (bGet (K.getD i.toNat []) s).isSome
def kVal (K : List KD) (i : Int) (s : List UInt8) : Bool := (bGet (K.getD i.toNat []) s).getD false
theorem cvK_get (s : List UInt8) : ∀ l, mGet (cvK l) s = (bGet l s).map .bool
  | [] => rfl
  | (k, v) :: r => by
    show (if s = k then some (Lit.bool v) else mGet (cvK r) s) = ((if s = k then some v else bGet r s) : Option Bool).map .bool
    split
    · rfl
    · exact cvK_get s r
end Go.Proofs.Ytppomhjhokbacaa
