/- (*preref4.C).Op's regions with maps, walked by hand. -/
import Derived.Test.YtghmojcecefgjaaDoorZtar
import Derived.Test.YtghmojcecefgjaaDoorZtav
import Derived.Test.YtghmojcecefgjaaDoorZtaw
set_option linter.unusedVariables false
set_option linter.unusedSimpArgs false
namespace Go.Proofs.YtghmojcecefgjaaDoor
open Go.RowKit Go.Maps
def ops23 : Array Oper := #[{ dst := some 62, op := Go.Op.makeMap 36 none, type := 36, pos := "ref.go:188", after := #[], guard := none }, { dst := some 63, op := Go.Op.move (Go.Operand.tmp 2), type := 3, pos := "ref.go:188", after := #[], guard := none }, { dst := some 64, op := Go.Op.unOp Go.UnOp.neg 3 (Go.Operand.tmp 63), type := 3, pos := "ref.go:188", after := #[{ on := 1, ground := Go.Ground.data }], guard := none }, { dst := none, op := Go.Op.insert 36 (Go.Operand.tmp 62) (Go.Operand.const (Go.Value.string { data := #[47] })) (Go.Operand.tmp 64), type := 0, pos := "ref.go:188", after := #[{ on := 0, ground := Go.Ground.data }, { on := 2, ground := Go.Ground.data }], guard := none }, { dst := some 65, op := Go.Op.move (Go.Operand.tmp 62), type := 36, pos := "ref.go:188", after := #[{ on := 0, ground := Go.Ground.data }, { on := 1, ground := Go.Ground.data }, { on := 2, ground := Go.Ground.data }, { on := 3, ground := Go.Ground.data }], guard := none }, { dst := some 66, op := Go.Op.move (Go.Operand.tmp 9), type := 9, pos := "ref.go:188", after := #[], guard := none }, { dst := some 67, op := Go.Op.lookup 36 (Go.Operand.tmp 65) (Go.Operand.tmp 66) false, type := 3, pos := "ref.go:188", after := #[{ on := 4, ground := Go.Ground.data }, { on := 5, ground := Go.Ground.data }], guard := none }, { dst := some 8, op := Go.Op.assign (Go.Operand.tmp 67), type := 3, pos := "ref.go:188", after := #[{ on := 6, ground := Go.Ground.data }, { on := 0, ground := Go.Ground.phase }, { on := 1, ground := Go.Ground.phase }, { on := 2, ground := Go.Ground.phase }, { on := 3, ground := Go.Ground.phase }, { on := 4, ground := Go.Ground.phase }, { on := 5, ground := Go.Ground.phase }, { on := 6, ground := Go.Ground.phase }], guard := none }]
def dst23 : List Nat := [62, 63, 64, 65, 66, 67, 8]
def ops24 : Array Oper := #[{ dst := some 68, op := Go.Op.makeMap 36 none, type := 36, pos := "ref.go:190", after := #[], guard := none }, { dst := some 69, op := Go.Op.move (Go.Operand.tmp 2), type := 3, pos := "ref.go:190", after := #[], guard := none }, { dst := some 70, op := Go.Op.move (Go.Operand.tmp 3), type := 3, pos := "ref.go:190", after := #[], guard := none }, { dst := some 71, op := Go.Op.binOp Go.BinOp.quo 3 (Go.Operand.tmp 69) (Go.Operand.tmp 70) 3, type := 3, pos := "ref.go:190", after := #[{ on := 1, ground := Go.Ground.data }, { on := 2, ground := Go.Ground.data }], guard := none }, { dst := none, op := Go.Op.insert 36 (Go.Operand.tmp 68) (Go.Operand.const (Go.Value.string { data := #[47] })) (Go.Operand.tmp 71), type := 0, pos := "ref.go:190", after := #[{ on := 0, ground := Go.Ground.data }, { on := 3, ground := Go.Ground.data }], guard := none }, { dst := some 72, op := Go.Op.move (Go.Operand.tmp 2), type := 3, pos := "ref.go:190", after := #[], guard := none }, { dst := some 73, op := Go.Op.move (Go.Operand.tmp 3), type := 3, pos := "ref.go:190", after := #[], guard := none }, { dst := some 74, op := Go.Op.binOp Go.BinOp.rem 3 (Go.Operand.tmp 72) (Go.Operand.tmp 73) 3, type := 3, pos := "ref.go:190", after := #[{ on := 5, ground := Go.Ground.data }, { on := 6, ground := Go.Ground.data }], guard := none }, { dst := none, op := Go.Op.insert 36 (Go.Operand.tmp 68) (Go.Operand.const (Go.Value.string { data := #[37] })) (Go.Operand.tmp 74), type := 0, pos := "ref.go:190", after := #[{ on := 0, ground := Go.Ground.data }, { on := 7, ground := Go.Ground.data }], guard := none }, { dst := some 75, op := Go.Op.move (Go.Operand.tmp 68), type := 36, pos := "ref.go:190", after := #[{ on := 0, ground := Go.Ground.data }, { on := 1, ground := Go.Ground.data }, { on := 2, ground := Go.Ground.data }, { on := 3, ground := Go.Ground.data }, { on := 4, ground := Go.Ground.data }, { on := 5, ground := Go.Ground.data }, { on := 6, ground := Go.Ground.data }, { on := 7, ground := Go.Ground.data }, { on := 8, ground := Go.Ground.data }], guard := none }, { dst := some 76, op := Go.Op.move (Go.Operand.tmp 9), type := 9, pos := "ref.go:190", after := #[], guard := none }, { dst := some 77, op := Go.Op.lookup 36 (Go.Operand.tmp 75) (Go.Operand.tmp 76) false, type := 3, pos := "ref.go:190", after := #[{ on := 9, ground := Go.Ground.data }, { on := 10, ground := Go.Ground.data }], guard := none }, { dst := some 8, op := Go.Op.assign (Go.Operand.tmp 77), type := 3, pos := "ref.go:190", after := #[{ on := 11, ground := Go.Ground.data }, { on := 0, ground := Go.Ground.phase }, { on := 1, ground := Go.Ground.phase }, { on := 2, ground := Go.Ground.phase }, { on := 3, ground := Go.Ground.phase }, { on := 4, ground := Go.Ground.phase }, { on := 5, ground := Go.Ground.phase }, { on := 6, ground := Go.Ground.phase }, { on := 7, ground := Go.Ground.phase }, { on := 8, ground := Go.Ground.phase }, { on := 9, ground := Go.Ground.phase }, { on := 10, ground := Go.Ground.phase }, { on := 11, ground := Go.Ground.phase }], guard := none }]
def dst24 : List Nat := [68, 69, 70, 71, 72, 73, 74, 75, 76, 77, 8]
def ops25 : Array Oper := #[{ dst := some 78, op := Go.Op.makeMap 36 none, type := 36, pos := "ref.go:192", after := #[], guard := none }, { dst := some 79, op := Go.Op.move (Go.Operand.tmp 2), type := 3, pos := "ref.go:192", after := #[], guard := none }, { dst := some 80, op := Go.Op.move (Go.Operand.tmp 3), type := 3, pos := "ref.go:192", after := #[], guard := none }, { dst := some 81, op := Go.Op.binOp Go.BinOp.or 3 (Go.Operand.tmp 79) (Go.Operand.tmp 80) 3, type := 3, pos := "ref.go:192", after := #[{ on := 1, ground := Go.Ground.data }, { on := 2, ground := Go.Ground.data }], guard := none }, { dst := none, op := Go.Op.insert 36 (Go.Operand.tmp 78) (Go.Operand.const (Go.Value.string { data := #[124] })) (Go.Operand.tmp 81), type := 0, pos := "ref.go:192", after := #[{ on := 0, ground := Go.Ground.data }, { on := 3, ground := Go.Ground.data }], guard := none }, { dst := some 82, op := Go.Op.move (Go.Operand.tmp 2), type := 3, pos := "ref.go:192", after := #[], guard := none }, { dst := some 83, op := Go.Op.move (Go.Operand.tmp 3), type := 3, pos := "ref.go:192", after := #[], guard := none }, { dst := some 84, op := Go.Op.binOp Go.BinOp.xor 3 (Go.Operand.tmp 82) (Go.Operand.tmp 83) 3, type := 3, pos := "ref.go:192", after := #[{ on := 5, ground := Go.Ground.data }, { on := 6, ground := Go.Ground.data }], guard := none }, { dst := none, op := Go.Op.insert 36 (Go.Operand.tmp 78) (Go.Operand.const (Go.Value.string { data := #[94] })) (Go.Operand.tmp 84), type := 0, pos := "ref.go:192", after := #[{ on := 0, ground := Go.Ground.data }, { on := 7, ground := Go.Ground.data }], guard := none }, { dst := some 85, op := Go.Op.move (Go.Operand.tmp 2), type := 3, pos := "ref.go:192", after := #[], guard := none }, { dst := some 86, op := Go.Op.move (Go.Operand.tmp 3), type := 3, pos := "ref.go:192", after := #[], guard := none }, { dst := some 87, op := Go.Op.binOp Go.BinOp.and 3 (Go.Operand.tmp 85) (Go.Operand.tmp 86) 3, type := 3, pos := "ref.go:192", after := #[{ on := 9, ground := Go.Ground.data }, { on := 10, ground := Go.Ground.data }], guard := none }, { dst := none, op := Go.Op.insert 36 (Go.Operand.tmp 78) (Go.Operand.const (Go.Value.string { data := #[38] })) (Go.Operand.tmp 87), type := 0, pos := "ref.go:192", after := #[{ on := 0, ground := Go.Ground.data }, { on := 11, ground := Go.Ground.data }], guard := none }, { dst := some 88, op := Go.Op.move (Go.Operand.tmp 2), type := 3, pos := "ref.go:192", after := #[], guard := none }, { dst := some 89, op := Go.Op.move (Go.Operand.tmp 3), type := 3, pos := "ref.go:192", after := #[], guard := none }, { dst := some 90, op := Go.Op.binOp Go.BinOp.eql 3 (Go.Operand.tmp 88) (Go.Operand.tmp 89) 3, type := 4, pos := "ref.go:192", after := #[{ on := 13, ground := Go.Ground.data }, { on := 14, ground := Go.Ground.data }], guard := none }, { dst := some 91, op := Go.Op.call { callee := Go.Callee.value (Go.Operand.func 50), args := #[Go.Operand.tmp 90], argTypes := #[4] }, type := 3, pos := "ref.go:192", after := #[{ on := 15, ground := Go.Ground.data }], guard := none }, { dst := none, op := Go.Op.insert 36 (Go.Operand.tmp 78) (Go.Operand.const (Go.Value.string { data := #[61, 61] })) (Go.Operand.tmp 91), type := 0, pos := "ref.go:192", after := #[{ on := 0, ground := Go.Ground.data }, { on := 16, ground := Go.Ground.data }], guard := none }, { dst := some 92, op := Go.Op.move (Go.Operand.tmp 2), type := 3, pos := "ref.go:192", after := #[], guard := none }, { dst := some 93, op := Go.Op.move (Go.Operand.tmp 3), type := 3, pos := "ref.go:192", after := #[], guard := none }, { dst := some 94, op := Go.Op.binOp Go.BinOp.neq 3 (Go.Operand.tmp 92) (Go.Operand.tmp 93) 3, type := 4, pos := "ref.go:192", after := #[{ on := 18, ground := Go.Ground.data }, { on := 19, ground := Go.Ground.data }], guard := none }, { dst := some 95, op := Go.Op.call { callee := Go.Callee.value (Go.Operand.func 50), args := #[Go.Operand.tmp 94], argTypes := #[4] }, type := 3, pos := "ref.go:192", after := #[{ on := 20, ground := Go.Ground.data }, { on := 16, ground := Go.Ground.chain }], guard := none }, { dst := none, op := Go.Op.insert 36 (Go.Operand.tmp 78) (Go.Operand.const (Go.Value.string { data := #[33, 61] })) (Go.Operand.tmp 95), type := 0, pos := "ref.go:192", after := #[{ on := 0, ground := Go.Ground.data }, { on := 21, ground := Go.Ground.data }], guard := none }, { dst := some 96, op := Go.Op.move (Go.Operand.tmp 2), type := 3, pos := "ref.go:192", after := #[], guard := none }, { dst := some 97, op := Go.Op.move (Go.Operand.tmp 3), type := 3, pos := "ref.go:192", after := #[], guard := none }, { dst := some 98, op := Go.Op.binOp Go.BinOp.lss 3 (Go.Operand.tmp 96) (Go.Operand.tmp 97) 3, type := 4, pos := "ref.go:192", after := #[{ on := 23, ground := Go.Ground.data }, { on := 24, ground := Go.Ground.data }], guard := none }, { dst := some 99, op := Go.Op.call { callee := Go.Callee.value (Go.Operand.func 50), args := #[Go.Operand.tmp 98], argTypes := #[4] }, type := 3, pos := "ref.go:192", after := #[{ on := 25, ground := Go.Ground.data }, { on := 21, ground := Go.Ground.chain }], guard := none }, { dst := none, op := Go.Op.insert 36 (Go.Operand.tmp 78) (Go.Operand.const (Go.Value.string { data := #[60] })) (Go.Operand.tmp 99), type := 0, pos := "ref.go:192", after := #[{ on := 0, ground := Go.Ground.data }, { on := 26, ground := Go.Ground.data }], guard := none }, { dst := some 100, op := Go.Op.move (Go.Operand.tmp 2), type := 3, pos := "ref.go:192", after := #[], guard := none }, { dst := some 101, op := Go.Op.move (Go.Operand.tmp 3), type := 3, pos := "ref.go:192", after := #[], guard := none }, { dst := some 102, op := Go.Op.binOp Go.BinOp.gtr 3 (Go.Operand.tmp 100) (Go.Operand.tmp 101) 3, type := 4, pos := "ref.go:192", after := #[{ on := 28, ground := Go.Ground.data }, { on := 29, ground := Go.Ground.data }], guard := none }, { dst := some 103, op := Go.Op.call { callee := Go.Callee.value (Go.Operand.func 50), args := #[Go.Operand.tmp 102], argTypes := #[4] }, type := 3, pos := "ref.go:192", after := #[{ on := 30, ground := Go.Ground.data }, { on := 26, ground := Go.Ground.chain }], guard := none }, { dst := none, op := Go.Op.insert 36 (Go.Operand.tmp 78) (Go.Operand.const (Go.Value.string { data := #[62] })) (Go.Operand.tmp 103), type := 0, pos := "ref.go:192", after := #[{ on := 0, ground := Go.Ground.data }, { on := 31, ground := Go.Ground.data }], guard := none }, { dst := some 104, op := Go.Op.move (Go.Operand.tmp 2), type := 3, pos := "ref.go:192", after := #[], guard := none }, { dst := some 105, op := Go.Op.move (Go.Operand.tmp 3), type := 3, pos := "ref.go:192", after := #[], guard := none }, { dst := some 106, op := Go.Op.binOp Go.BinOp.leq 3 (Go.Operand.tmp 104) (Go.Operand.tmp 105) 3, type := 4, pos := "ref.go:192", after := #[{ on := 33, ground := Go.Ground.data }, { on := 34, ground := Go.Ground.data }], guard := none }, { dst := some 107, op := Go.Op.call { callee := Go.Callee.value (Go.Operand.func 50), args := #[Go.Operand.tmp 106], argTypes := #[4] }, type := 3, pos := "ref.go:192", after := #[{ on := 35, ground := Go.Ground.data }, { on := 31, ground := Go.Ground.chain }], guard := none }, { dst := none, op := Go.Op.insert 36 (Go.Operand.tmp 78) (Go.Operand.const (Go.Value.string { data := #[60, 61] })) (Go.Operand.tmp 107), type := 0, pos := "ref.go:192", after := #[{ on := 0, ground := Go.Ground.data }, { on := 36, ground := Go.Ground.data }], guard := none }, { dst := some 108, op := Go.Op.move (Go.Operand.tmp 2), type := 3, pos := "ref.go:192", after := #[], guard := none }, { dst := some 109, op := Go.Op.move (Go.Operand.tmp 3), type := 3, pos := "ref.go:192", after := #[], guard := none }, { dst := some 110, op := Go.Op.binOp Go.BinOp.geq 3 (Go.Operand.tmp 108) (Go.Operand.tmp 109) 3, type := 4, pos := "ref.go:192", after := #[{ on := 38, ground := Go.Ground.data }, { on := 39, ground := Go.Ground.data }], guard := none }, { dst := some 111, op := Go.Op.call { callee := Go.Callee.value (Go.Operand.func 50), args := #[Go.Operand.tmp 110], argTypes := #[4] }, type := 3, pos := "ref.go:192", after := #[{ on := 40, ground := Go.Ground.data }, { on := 36, ground := Go.Ground.chain }], guard := none }, { dst := none, op := Go.Op.insert 36 (Go.Operand.tmp 78) (Go.Operand.const (Go.Value.string { data := #[62, 61] })) (Go.Operand.tmp 111), type := 0, pos := "ref.go:192", after := #[{ on := 0, ground := Go.Ground.data }, { on := 41, ground := Go.Ground.data }], guard := none }, { dst := some 112, op := Go.Op.move (Go.Operand.tmp 2), type := 3, pos := "ref.go:192", after := #[], guard := none }, { dst := some 113, op := Go.Op.move (Go.Operand.tmp 3), type := 3, pos := "ref.go:192", after := #[], guard := none }, { dst := some 114, op := Go.Op.binOp Go.BinOp.add 3 (Go.Operand.tmp 112) (Go.Operand.tmp 113) 3, type := 3, pos := "ref.go:192", after := #[{ on := 43, ground := Go.Ground.data }, { on := 44, ground := Go.Ground.data }], guard := none }, { dst := none, op := Go.Op.insert 36 (Go.Operand.tmp 78) (Go.Operand.const (Go.Value.string { data := #[43] })) (Go.Operand.tmp 114), type := 0, pos := "ref.go:192", after := #[{ on := 0, ground := Go.Ground.data }, { on := 45, ground := Go.Ground.data }], guard := none }, { dst := some 115, op := Go.Op.move (Go.Operand.tmp 2), type := 3, pos := "ref.go:192", after := #[], guard := none }, { dst := some 116, op := Go.Op.move (Go.Operand.tmp 3), type := 3, pos := "ref.go:192", after := #[], guard := none }, { dst := some 117, op := Go.Op.binOp Go.BinOp.sub 3 (Go.Operand.tmp 115) (Go.Operand.tmp 116) 3, type := 3, pos := "ref.go:192", after := #[{ on := 47, ground := Go.Ground.data }, { on := 48, ground := Go.Ground.data }], guard := none }, { dst := none, op := Go.Op.insert 36 (Go.Operand.tmp 78) (Go.Operand.const (Go.Value.string { data := #[45] })) (Go.Operand.tmp 117), type := 0, pos := "ref.go:192", after := #[{ on := 0, ground := Go.Ground.data }, { on := 49, ground := Go.Ground.data }], guard := none }, { dst := some 118, op := Go.Op.move (Go.Operand.tmp 2), type := 3, pos := "ref.go:192", after := #[], guard := none }, { dst := some 119, op := Go.Op.move (Go.Operand.tmp 3), type := 3, pos := "ref.go:192", after := #[], guard := none }, { dst := some 120, op := Go.Op.binOp Go.BinOp.mul 3 (Go.Operand.tmp 118) (Go.Operand.tmp 119) 3, type := 3, pos := "ref.go:192", after := #[{ on := 51, ground := Go.Ground.data }, { on := 52, ground := Go.Ground.data }], guard := none }, { dst := none, op := Go.Op.insert 36 (Go.Operand.tmp 78) (Go.Operand.const (Go.Value.string { data := #[42] })) (Go.Operand.tmp 120), type := 0, pos := "ref.go:192", after := #[{ on := 0, ground := Go.Ground.data }, { on := 53, ground := Go.Ground.data }], guard := none }, { dst := some 121, op := Go.Op.move (Go.Operand.tmp 78), type := 36, pos := "ref.go:192", after := #[{ on := 0, ground := Go.Ground.data }, { on := 1, ground := Go.Ground.data }, { on := 2, ground := Go.Ground.data }, { on := 3, ground := Go.Ground.data }, { on := 4, ground := Go.Ground.data }, { on := 5, ground := Go.Ground.data }, { on := 6, ground := Go.Ground.data }, { on := 7, ground := Go.Ground.data }, { on := 8, ground := Go.Ground.data }, { on := 9, ground := Go.Ground.data }, { on := 10, ground := Go.Ground.data }, { on := 11, ground := Go.Ground.data }, { on := 12, ground := Go.Ground.data }, { on := 13, ground := Go.Ground.data }, { on := 14, ground := Go.Ground.data }, { on := 15, ground := Go.Ground.data }, { on := 16, ground := Go.Ground.data }, { on := 17, ground := Go.Ground.data }, { on := 18, ground := Go.Ground.data }, { on := 19, ground := Go.Ground.data }, { on := 20, ground := Go.Ground.data }, { on := 21, ground := Go.Ground.data }, { on := 22, ground := Go.Ground.data }, { on := 23, ground := Go.Ground.data }, { on := 24, ground := Go.Ground.data }, { on := 25, ground := Go.Ground.data }, { on := 26, ground := Go.Ground.data }, { on := 27, ground := Go.Ground.data }, { on := 28, ground := Go.Ground.data }, { on := 29, ground := Go.Ground.data }, { on := 30, ground := Go.Ground.data }, { on := 31, ground := Go.Ground.data }, { on := 32, ground := Go.Ground.data }, { on := 33, ground := Go.Ground.data }, { on := 34, ground := Go.Ground.data }, { on := 35, ground := Go.Ground.data }, { on := 36, ground := Go.Ground.data }, { on := 37, ground := Go.Ground.data }, { on := 38, ground := Go.Ground.data }, { on := 39, ground := Go.Ground.data }, { on := 40, ground := Go.Ground.data }, { on := 41, ground := Go.Ground.data }, { on := 42, ground := Go.Ground.data }, { on := 43, ground := Go.Ground.data }, { on := 44, ground := Go.Ground.data }, { on := 45, ground := Go.Ground.data }, { on := 46, ground := Go.Ground.data }, { on := 47, ground := Go.Ground.data }, { on := 48, ground := Go.Ground.data }, { on := 49, ground := Go.Ground.data }, { on := 50, ground := Go.Ground.data }, { on := 51, ground := Go.Ground.data }, { on := 52, ground := Go.Ground.data }, { on := 53, ground := Go.Ground.data }, { on := 54, ground := Go.Ground.data }], guard := none }, { dst := some 122, op := Go.Op.move (Go.Operand.tmp 9), type := 9, pos := "ref.go:192", after := #[], guard := none }, { dst := some 123, op := Go.Op.lookup 36 (Go.Operand.tmp 121) (Go.Operand.tmp 122) false, type := 3, pos := "ref.go:192", after := #[{ on := 55, ground := Go.Ground.data }, { on := 56, ground := Go.Ground.data }], guard := none }, { dst := some 8, op := Go.Op.assign (Go.Operand.tmp 123), type := 3, pos := "ref.go:192", after := #[{ on := 57, ground := Go.Ground.data }, { on := 41, ground := Go.Ground.chain }, { on := 0, ground := Go.Ground.phase }, { on := 1, ground := Go.Ground.phase }, { on := 2, ground := Go.Ground.phase }, { on := 3, ground := Go.Ground.phase }, { on := 4, ground := Go.Ground.phase }, { on := 5, ground := Go.Ground.phase }, { on := 6, ground := Go.Ground.phase }, { on := 7, ground := Go.Ground.phase }, { on := 8, ground := Go.Ground.phase }, { on := 9, ground := Go.Ground.phase }, { on := 10, ground := Go.Ground.phase }, { on := 11, ground := Go.Ground.phase }, { on := 12, ground := Go.Ground.phase }, { on := 13, ground := Go.Ground.phase }, { on := 14, ground := Go.Ground.phase }, { on := 15, ground := Go.Ground.phase }, { on := 16, ground := Go.Ground.phase }, { on := 17, ground := Go.Ground.phase }, { on := 18, ground := Go.Ground.phase }, { on := 19, ground := Go.Ground.phase }, { on := 20, ground := Go.Ground.phase }, { on := 21, ground := Go.Ground.phase }, { on := 22, ground := Go.Ground.phase }, { on := 23, ground := Go.Ground.phase }, { on := 24, ground := Go.Ground.phase }, { on := 25, ground := Go.Ground.phase }, { on := 26, ground := Go.Ground.phase }, { on := 27, ground := Go.Ground.phase }, { on := 28, ground := Go.Ground.phase }, { on := 29, ground := Go.Ground.phase }, { on := 30, ground := Go.Ground.phase }, { on := 31, ground := Go.Ground.phase }, { on := 32, ground := Go.Ground.phase }, { on := 33, ground := Go.Ground.phase }, { on := 34, ground := Go.Ground.phase }, { on := 35, ground := Go.Ground.phase }, { on := 36, ground := Go.Ground.phase }, { on := 37, ground := Go.Ground.phase }, { on := 38, ground := Go.Ground.phase }, { on := 39, ground := Go.Ground.phase }, { on := 40, ground := Go.Ground.phase }, { on := 41, ground := Go.Ground.phase }, { on := 42, ground := Go.Ground.phase }, { on := 43, ground := Go.Ground.phase }, { on := 44, ground := Go.Ground.phase }, { on := 45, ground := Go.Ground.phase }, { on := 46, ground := Go.Ground.phase }, { on := 47, ground := Go.Ground.phase }, { on := 48, ground := Go.Ground.phase }, { on := 49, ground := Go.Ground.phase }, { on := 50, ground := Go.Ground.phase }, { on := 51, ground := Go.Ground.phase }, { on := 52, ground := Go.Ground.phase }, { on := 53, ground := Go.Ground.phase }, { on := 54, ground := Go.Ground.phase }, { on := 55, ground := Go.Ground.phase }, { on := 56, ground := Go.Ground.phase }, { on := 57, ground := Go.Ground.phase }], guard := none }]
def dst25 : List Nat := [78, 79, 80, 81, 82, 83, 84, 85, 86, 87, 88, 89, 90, 91, 92, 93, 94, 95, 96, 97, 98, 99, 100, 101, 102, 103, 104, 105, 106, 107, 108, 109, 110, 111, 112, 113, 114, 115, 116, 117, 118, 119, 120, 121, 122, 123, 8]
def acts (f : Nat → Value) (ds : List Deferred) : Act := ⟨#[f 0, f 1, f 2, f 3, f 4, f 5, f 6, f 7, f 8, f 9, f 10, f 11, f 12, f 13, f 14, f 15, f 16, f 17, f 18, f 19, f 20, f 21, f 22, f 23, f 24, f 25, f 26, f 27, f 28, f 29, f 30, f 31, f 32, f 33, f 34, f 35, f 36, f 37, f 38, f 39, f 40, f 41, f 42, f 43, f 44, f 45, f 46, f 47, f 48, f 49, f 50, f 51, f 52, f 53, f 54, f 55, f 56, f 57, f 58, f 59, f 60, f 61, f 62, f 63, f 64, f 65, f 66, f 67, f 68, f 69, f 70, f 71, f 72, f 73, f 74, f 75, f 76, f 77, f 78, f 79, f 80, f 81, f 82, f 83, f 84, f 85, f 86, f 87, f 88, f 89, f 90, f 91, f 92, f 93, f 94, f 95, f 96, f 97, f 98, f 99, f 100, f 101, f 102, f 103, f 104, f 105, f 106, f 107, f 108, f 109, f 110, f 111, f 112, f 113, f 114, f 115, f 116, f 117, f 118, f 119, f 120, f 121, f 122, f 123], ds⟩
set_option maxRecDepth 100000 in
theorem range_lit (f : Nat → Value) : ((List.range 124).map f).toArray = #[f 0, f 1, f 2, f 3, f 4, f 5, f 6, f 7, f 8, f 9, f 10, f 11, f 12, f 13, f 14, f 15, f 16, f 17, f 18, f 19, f 20, f 21, f 22, f 23, f 24, f 25, f 26, f 27, f 28, f 29, f 30, f 31, f 32, f 33, f 34, f 35, f 36, f 37, f 38, f 39, f 40, f 41, f 42, f 43, f 44, f 45, f 46, f 47, f 48, f 49, f 50, f 51, f 52, f 53, f 54, f 55, f 56, f 57, f 58, f 59, f 60, f 61, f 62, f 63, f 64, f 65, f 66, f 67, f 68, f 69, f 70, f 71, f 72, f 73, f 74, f 75, f 76, f 77, f 78, f 79, f 80, f 81, f 82, f 83, f 84, f 85, f 86, f 87, f 88, f 89, f 90, f 91, f 92, f 93, f 94, f 95, f 96, f 97, f 98, f 99, f 100, f 101, f 102, f 103, f 104, f 105, f 106, f 107, f 108, f 109, f 110, f 111, f 112, f 113, f 114, f 115, f 116, f 117, f 118, f 119, f 120, f 121, f 122, f 123] := rfl
theorem acts_of (a : Act) (h : a.tmps.size = 124) : a = acts (fun i => a.tmps.getD i undef) a.defers := by
  obtain ⟨t, d⟩ := a
  refine congrArg (fun t => (⟨t, d⟩ : Act)) ?_
  have h : t.size = 124 := h
  refine Eq.trans ?_ (range_lit (fun i => t.getD i undef))
  refine Array.ext (by simp [h]) fun i h1 h2 => ?_
  simp [h1]
def lookL : List (List UInt8 × Int) → List UInt8 → Int
  | [], _ => 0
  | (k, v) :: r, s => if s = k then v else lookL r s
theorem look_at (s : List UInt8) : ∀ L, (putAll L).atKey (.string s) (.lit (.int .i64 0)) = .lit (.int .i64 (lookL L s))
  | [] => rfl
  | (k, v) :: r => by
    by_cases e : s = k
    · subst e
      rw [lookL, if_pos rfl]
      exact Maps.atKey_put_same (k := .string s) (putAll_map r) True.intro _ _
    · have hne : Lit.string s ≠ Lit.string k := fun q => e (by cases q; rfl)
      rw [lookL, if_neg e]
      exact (Maps.atKey_put_other hne _ _).trans (look_at s r)
def anyI : Value → Option (DataW Unit × List MemPlace)
  | .int .i64 a => some (.lit (.int .i64 a), [])
  | _ => none
theorem anyI_inv {v : Value} {D : DataW Unit} {ps : List MemPlace} (h : anyI v = some (D, ps)) : ∃ c, v = .int .i64 c ∧ D = .lit (.int .i64 c) := by
  unfold anyI at h
  split at h
  · simp only [Option.some.injEq, Prod.mk.injEq] at h
    exact ⟨_, rfl, h.1.symm⟩
  · cases h
theorem upon_ins {P : Program} {o : Oper} {a : Act} {x : Act → World → Prop} {Q : Exit → Act → World → Prop} {f : Unit → World → Result Next} {W : World} (t k e : TypeId) (K : Keyed P k) (ht : P.underlying t = some (.map k e))
    {b n : Nat} {D : DataW Unit} (hown : W.ownsMap P k anyI b n D) (hn : n < maxLen) {key : Value} {z : Int} {kl : Lit} (hkey : keyOf P k key = some kl)
    (h : ∀ w', w'.ownsMap P k anyI b (n + 1) (D.put kl (.lit (.int .i64 z))) → W.grownBy w' (some b) → Oper.upon P o a x Q ((Result.ok () w').andThen f)) :
    Oper.upon P o a x Q (((Instr.mapUpdate t (.map (some b)) key (.int .i64 z)).run P W).andThen f) := by
  obtain ⟨w', hrun, h1, h2⟩ := hown.update K ht hn hkey (val := .int .i64 z) rfl
  rw [hrun]
  exact h w' h1 h2
theorem look_any {P : Program} {W : World} {t k e : TypeId} (K : Keyed P k) (ht : P.underlying t = some (.map k e)) (hz : (zeroValue e).run P W = .ok (.int .i64 0) W) {b n : Nat} {D : DataW Unit} (hown : W.ownsMap P k anyI b n D) {key : Value} {kl : Lit} (hkey : keyOf P k key = some kl) :
    ∃ c, (Instr.lookup t (.map (some b)) key false).run P W = .ok (.int .i64 c) W ∧ D.atKey kl (.lit (.int .i64 0)) = .lit (.int .i64 c) := by
  obtain ⟨v, ps, hrun, hv⟩ := hown.lookup K ht hz (zd := .lit (.int .i64 0)) (zp := []) rfl hkey
  obtain ⟨c, rfl, hc⟩ := anyI_inv hv
  exact ⟨c, hrun, hc⟩
theorem upon_look {P : Program} {o : Oper} {a : Act} {x : Act → World → Prop} {Q : Exit → Act → World → Prop} {f : Value → World → Result Next} {W : World} (t k e : TypeId) (K : Keyed P k) (ht : P.underlying t = some (.map k e)) (hz : (zeroValue e).run P W = .ok (.int .i64 0) W)
    {b n : Nat} {D : DataW Unit} (hown : W.ownsMap P k anyI b n D) {key : Value} {kl : Lit} (hkey : keyOf P k key = some kl)
    (h : ∀ c, D.atKey kl (.lit (.int .i64 0)) = .lit (.int .i64 c) → Oper.upon P o a x Q ((Result.ok (.int .i64 c) W).andThen f)) :
    Oper.upon P o a x Q (((Instr.lookup t (.map (some b)) key false).run P W).andThen f) := by
  obtain ⟨c, hrun, hc⟩ := look_any K ht hz hown hkey
  rw [hrun]
  exact h c hc
theorem wpList_look {P : Program} (w : World) {ops : Array Oper} {rest : List Oper} {o : Oper} {a : Act} {Q : Exit → Act → World → Prop} (hg : o.guard = none) (m x : Operand) (t : TypeId) (hop : o.op = Op.lookup t m x false)
    (k e : TypeId) (K : Keyed P k) (ht : P.underlying t = some (.map k e)) (hz : (zeroValue e).run P w = .ok (.int .i64 0) w) (b n : Nat) (D : DataW Unit) (hm : a.eval m = .map (some b)) (hown : w.ownsMap P k anyI b n D) (key : Value) (kl : Lit) (hx : a.eval x = key) (hkey : keyOf P k key = some kl)
    (hK : ∀ c : Int, D.atKey kl (.lit (.int .i64 0)) = .lit (.int .i64 c) → wpList P ops Q rest (a.put o.dst (.int .i64 c)) w) : wpList P ops Q (o :: rest) a w := by
  refine wpList_plain hg fun K' hK' => ?_
  obtain ⟨c, hrun, hat⟩ := look_any K ht hz hown hkey
  unfold Oper.wp
  simp [execOp, hop, hm, hx, hrun, Result.andThen]
  exact hK' _ _ (hK c hat)
theorem i64_0 (w : World) : (zeroValue 3).run Tryd.prog w = .ok (.int .i64 0) w := zero3' w
set_option maxRecDepth 100000 in
theorem one50_calls (p : Bool) (w : World) : Calls Tryd.prog 50 #[.bool p] w fun e w' => e = .returned (.int .i64 (oneV p)) ∧ w' = w := by
  cases p with
  | true =>
    go_enter Tryd.func50, Tryd.ntmps50
    go_wp2
    go_ret
    exact ⟨rfl, rfl⟩
  | false =>
    go_enter Tryd.func50, Tryd.ntmps50
    go_wp2
    go_ret
    exact ⟨rfl, rfl⟩
def LA (a : Int) : List (List UInt8 × Int) := [([47], wrap64 (-a))]
def LB (a b : Int) : List (List UInt8 × Int) := [([37], a.tmod b), ([47], IntKind.i64.wrap (a.tdiv b))]
def LB' (a b : Int) : List (List UInt8 × Int) := [([47], IntKind.i64.wrap (a.tdiv b)), ([37], a.tmod b)]
theorem lb_swap (a b : Int) (s : List UInt8) : lookL (LB' a b) s = lookL (LB a b) s := by
  unfold LB LB' lookL lookL lookL
  by_cases h : s = [37]
  · subst h; rfl
  · rw [if_neg h, if_neg h]
def LC (a b : Int) : List (List UInt8 × Int) :=
  [([42], wrap64 (a * b)), ([45], wrap64 (a - b)), ([43], wrap64 (a + b)), ([62, 61], oneV (decide (b ≤ a))), ([60, 61], oneV (decide (a ≤ b))), ([62], oneV (decide (b < a))), ([60], oneV (decide (a < b))),
   ([33, 61], oneV (a != b)), ([61, 61], oneV (a == b)), ([38], bits .and .i64 a b), ([94], bits .xor .i64 a b), ([124], bits .or .i64 a b)]
def RegP (dst : List Nat) (f : Nat → Value) (ds : List Deferred) (w : World) (v : Int) : Exit → Act → World → Prop := fun ex a' w' => match ex with
  | .normal => Below w.heap.size w w' ∧ (∃ g : Nat → Value, a' = acts g ds ∧ g 8 = .int .i64 v ∧ ∀ i, i < 124 → dst.contains i = false → g i = f i)
  | _ => False
theorem regP_mk {dst : List Nat} {f : Nat → Value} {ds : List Deferred} {w w' : World} {v : Int} {t : Array Value} (hB : Below w.heap.size w w') (hsz : t.size = 124) (h8 : t.getD 8 undef = .int .i64 v)
    (hk : ∀ i, i < 124 → dst.contains i = false → t.getD i undef = f i) : RegP dst f ds w v .normal ⟨t, ds⟩ w' := ⟨hB, _, acts_of _ hsz, h8, hk⟩
set_option maxRecDepth 100000 in
set_option maxHeartbeats 4000000 in
theorem reg23 (f : Nat → Value) (ds : List Deferred) (a : Int) (s : ByteArray) (w : World) (hs : s.size ≤ maxLen) (h2 : f 2 = .int .i64 a) (h9 : f 9 = .string s) :
    (Code.region 23 ops23 false).wp Tryd.prog (RegP dst23 f ds w (lookL (LA a) s.data.toList)) (acts f ds) w := by
  have hmm := @run_makeMap Tryd.prog
  have hmk := World.ownsMap_made (H := Unit) w Tryd.prog 9 anyI
  have hB : Below w.heap.size w (w.alloc (.map #[] 0)) := (Below.refl _ _).alloc (Nat.le_refl _) _
  have st : ∀ {X Y : World}, Below w.heap.size w X → X.grownBy Y (some w.heap.size) → Below w.heap.size w Y := fun h g => h.grown g h.size (fun j hj => by cases hj; exact Nat.le_refl _)
  unfold ops23 acts
  rw [h2, h9]
  go_wp2_with (first
    | (refine wpList_insert_own _ rfl _ _ _ 36 rfl 9 3 key9 Tryd.underlying36 _ w.heap.size _ _ rfl (by assumption) (by unfold maxLen; omega) _ _ _ rfl rfl (keyOf_str (by decide)) _ [] rfl ?_; intro w1 hown1 hgrow1; replace hB := st hB hgrow1)
    | (go_at_fn 50; refine (one50_calls _ _).mono ?_; rintro e w' ⟨rfl, rfl⟩)
    | (refine upon_ins 36 9 3 key9 Tryd.underlying36 (by assumption) (by unfold maxLen; omega) (keyOf_str (by decide)) ?_; intro w1 hown1 hgrow1; replace hB := st hB hgrow1)
    | (at_lookup; refine wpList_look _ rfl _ _ 36 rfl 9 3 key9 Tryd.underlying36 (i64_0 _) w.heap.size _ _ rfl (by assumption) _ _ rfl (keyOf_str hs) ?_; intro cc hat)
    | go_in)
  all_goals clear hmm hmk
  have e3 := congrArg litI ((look_at s.data.toList (LA a)).symm.trans hat)
  refine regP_mk hB rfl ?_ ?_
  · exact congrArg (fun z => Value.int .i64 z) e3.symm
  · exact fun
  | 0, _, _ => rfl
  | 1, _, _ => rfl
  | 2, _, _ => h2.symm
  | 3, _, _ => rfl
  | 4, _, _ => rfl
  | 5, _, _ => rfl
  | 6, _, _ => rfl
  | 7, _, _ => rfl
  | 8, _, h => absurd h (by decide)
  | 9, _, _ => h9.symm
  | 10, _, _ => rfl
  | 11, _, _ => rfl
  | 12, _, _ => rfl
  | 13, _, _ => rfl
  | 14, _, _ => rfl
  | 15, _, _ => rfl
  | 16, _, _ => rfl
  | 17, _, _ => rfl
  | 18, _, _ => rfl
  | 19, _, _ => rfl
  | 20, _, _ => rfl
  | 21, _, _ => rfl
  | 22, _, _ => rfl
  | 23, _, _ => rfl
  | 24, _, _ => rfl
  | 25, _, _ => rfl
  | 26, _, _ => rfl
  | 27, _, _ => rfl
  | 28, _, _ => rfl
  | 29, _, _ => rfl
  | 30, _, _ => rfl
  | 31, _, _ => rfl
  | 32, _, _ => rfl
  | 33, _, _ => rfl
  | 34, _, _ => rfl
  | 35, _, _ => rfl
  | 36, _, _ => rfl
  | 37, _, _ => rfl
  | 38, _, _ => rfl
  | 39, _, _ => rfl
  | 40, _, _ => rfl
  | 41, _, _ => rfl
  | 42, _, _ => rfl
  | 43, _, _ => rfl
  | 44, _, _ => rfl
  | 45, _, _ => rfl
  | 46, _, _ => rfl
  | 47, _, _ => rfl
  | 48, _, _ => rfl
  | 49, _, _ => rfl
  | 50, _, _ => rfl
  | 51, _, _ => rfl
  | 52, _, _ => rfl
  | 53, _, _ => rfl
  | 54, _, _ => rfl
  | 55, _, _ => rfl
  | 56, _, _ => rfl
  | 57, _, _ => rfl
  | 58, _, _ => rfl
  | 59, _, _ => rfl
  | 60, _, _ => rfl
  | 61, _, _ => rfl
  | 62, _, h => absurd h (by decide)
  | 63, _, h => absurd h (by decide)
  | 64, _, h => absurd h (by decide)
  | 65, _, h => absurd h (by decide)
  | 66, _, h => absurd h (by decide)
  | 67, _, h => absurd h (by decide)
  | 68, _, _ => rfl
  | 69, _, _ => rfl
  | 70, _, _ => rfl
  | 71, _, _ => rfl
  | 72, _, _ => rfl
  | 73, _, _ => rfl
  | 74, _, _ => rfl
  | 75, _, _ => rfl
  | 76, _, _ => rfl
  | 77, _, _ => rfl
  | 78, _, _ => rfl
  | 79, _, _ => rfl
  | 80, _, _ => rfl
  | 81, _, _ => rfl
  | 82, _, _ => rfl
  | 83, _, _ => rfl
  | 84, _, _ => rfl
  | 85, _, _ => rfl
  | 86, _, _ => rfl
  | 87, _, _ => rfl
  | 88, _, _ => rfl
  | 89, _, _ => rfl
  | 90, _, _ => rfl
  | 91, _, _ => rfl
  | 92, _, _ => rfl
  | 93, _, _ => rfl
  | 94, _, _ => rfl
  | 95, _, _ => rfl
  | 96, _, _ => rfl
  | 97, _, _ => rfl
  | 98, _, _ => rfl
  | 99, _, _ => rfl
  | 100, _, _ => rfl
  | 101, _, _ => rfl
  | 102, _, _ => rfl
  | 103, _, _ => rfl
  | 104, _, _ => rfl
  | 105, _, _ => rfl
  | 106, _, _ => rfl
  | 107, _, _ => rfl
  | 108, _, _ => rfl
  | 109, _, _ => rfl
  | 110, _, _ => rfl
  | 111, _, _ => rfl
  | 112, _, _ => rfl
  | 113, _, _ => rfl
  | 114, _, _ => rfl
  | 115, _, _ => rfl
  | 116, _, _ => rfl
  | 117, _, _ => rfl
  | 118, _, _ => rfl
  | 119, _, _ => rfl
  | 120, _, _ => rfl
  | 121, _, _ => rfl
  | 122, _, _ => rfl
  | 123, _, _ => rfl
  | n + 124, h, _ => absurd h (by omega)
set_option maxRecDepth 100000 in
set_option maxHeartbeats 4000000 in
theorem reg25 (f : Nat → Value) (ds : List Deferred) (a b : Int) (s : ByteArray) (w : World) (hs : s.size ≤ maxLen) (h2 : f 2 = .int .i64 a) (h3 : f 3 = .int .i64 b) (h9 : f 9 = .string s) :
    (Code.region 25 ops25 false).wp Tryd.prog (RegP dst25 f ds w (lookL (LC a b) s.data.toList)) (acts f ds) w := by
  have hmm := @run_makeMap Tryd.prog
  have hmk := World.ownsMap_made (H := Unit) w Tryd.prog 9 anyI
  have hB : Below w.heap.size w (w.alloc (.map #[] 0)) := (Below.refl _ _).alloc (Nat.le_refl _) _
  have st : ∀ {X Y : World}, Below w.heap.size w X → X.grownBy Y (some w.heap.size) → Below w.heap.size w Y := fun h g => h.grown g h.size (fun j hj => by cases hj; exact Nat.le_refl _)
  unfold ops25 acts
  have e50 : ∀ args w, (callFunc 50 args).run Tryd.prog w = .ok (.enter 50 args) w := enters_of Tryd.func50 (by kernel_rfl) rfl
  rw [h2, h3, h9]
  go_wp2_with (first
    | (refine wpList_insert_own _ rfl _ _ _ 36 rfl 9 3 key9 Tryd.underlying36 _ w.heap.size _ _ rfl (by assumption) (by unfold maxLen; omega) _ _ _ rfl rfl (keyOf_str (by decide)) _ [] rfl ?_; intro w1 hown1 hgrow1; replace hB := st hB hgrow1)
    | (go_at_fn 50; refine (one50_calls _ _).mono ?_; rintro e w' ⟨rfl, rfl⟩)
    | (refine upon_ins 36 9 3 key9 Tryd.underlying36 (by assumption) (by unfold maxLen; omega) (keyOf_str (by decide)) ?_; intro w1 hown1 hgrow1; replace hB := st hB hgrow1)
    | (at_lookup; refine wpList_look _ rfl _ _ 36 rfl 9 3 key9 Tryd.underlying36 (i64_0 _) w.heap.size _ _ rfl (by assumption) _ _ rfl (keyOf_str hs) ?_; intro cc hat)
    | go_in)
  all_goals clear hmm hmk
  have e3 := congrArg litI ((look_at s.data.toList (LC a b)).symm.trans hat)
  refine regP_mk hB rfl ?_ ?_
  · exact congrArg (fun z => Value.int .i64 z) e3.symm
  · exact fun
  | 0, _, _ => rfl
  | 1, _, _ => rfl
  | 2, _, _ => h2.symm
  | 3, _, _ => h3.symm
  | 4, _, _ => rfl
  | 5, _, _ => rfl
  | 6, _, _ => rfl
  | 7, _, _ => rfl
  | 8, _, h => absurd h (by decide)
  | 9, _, _ => h9.symm
  | 10, _, _ => rfl
  | 11, _, _ => rfl
  | 12, _, _ => rfl
  | 13, _, _ => rfl
  | 14, _, _ => rfl
  | 15, _, _ => rfl
  | 16, _, _ => rfl
  | 17, _, _ => rfl
  | 18, _, _ => rfl
  | 19, _, _ => rfl
  | 20, _, _ => rfl
  | 21, _, _ => rfl
  | 22, _, _ => rfl
  | 23, _, _ => rfl
  | 24, _, _ => rfl
  | 25, _, _ => rfl
  | 26, _, _ => rfl
  | 27, _, _ => rfl
  | 28, _, _ => rfl
  | 29, _, _ => rfl
  | 30, _, _ => rfl
  | 31, _, _ => rfl
  | 32, _, _ => rfl
  | 33, _, _ => rfl
  | 34, _, _ => rfl
  | 35, _, _ => rfl
  | 36, _, _ => rfl
  | 37, _, _ => rfl
  | 38, _, _ => rfl
  | 39, _, _ => rfl
  | 40, _, _ => rfl
  | 41, _, _ => rfl
  | 42, _, _ => rfl
  | 43, _, _ => rfl
  | 44, _, _ => rfl
  | 45, _, _ => rfl
  | 46, _, _ => rfl
  | 47, _, _ => rfl
  | 48, _, _ => rfl
  | 49, _, _ => rfl
  | 50, _, _ => rfl
  | 51, _, _ => rfl
  | 52, _, _ => rfl
  | 53, _, _ => rfl
  | 54, _, _ => rfl
  | 55, _, _ => rfl
  | 56, _, _ => rfl
  | 57, _, _ => rfl
  | 58, _, _ => rfl
  | 59, _, _ => rfl
  | 60, _, _ => rfl
  | 61, _, _ => rfl
  | 62, _, _ => rfl
  | 63, _, _ => rfl
  | 64, _, _ => rfl
  | 65, _, _ => rfl
  | 66, _, _ => rfl
  | 67, _, _ => rfl
  | 68, _, _ => rfl
  | 69, _, _ => rfl
  | 70, _, _ => rfl
  | 71, _, _ => rfl
  | 72, _, _ => rfl
  | 73, _, _ => rfl
  | 74, _, _ => rfl
  | 75, _, _ => rfl
  | 76, _, _ => rfl
  | 77, _, _ => rfl
  | 78, _, h => absurd h (by decide)
  | 79, _, h => absurd h (by decide)
  | 80, _, h => absurd h (by decide)
  | 81, _, h => absurd h (by decide)
  | 82, _, h => absurd h (by decide)
  | 83, _, h => absurd h (by decide)
  | 84, _, h => absurd h (by decide)
  | 85, _, h => absurd h (by decide)
  | 86, _, h => absurd h (by decide)
  | 87, _, h => absurd h (by decide)
  | 88, _, h => absurd h (by decide)
  | 89, _, h => absurd h (by decide)
  | 90, _, h => absurd h (by decide)
  | 91, _, h => absurd h (by decide)
  | 92, _, h => absurd h (by decide)
  | 93, _, h => absurd h (by decide)
  | 94, _, h => absurd h (by decide)
  | 95, _, h => absurd h (by decide)
  | 96, _, h => absurd h (by decide)
  | 97, _, h => absurd h (by decide)
  | 98, _, h => absurd h (by decide)
  | 99, _, h => absurd h (by decide)
  | 100, _, h => absurd h (by decide)
  | 101, _, h => absurd h (by decide)
  | 102, _, h => absurd h (by decide)
  | 103, _, h => absurd h (by decide)
  | 104, _, h => absurd h (by decide)
  | 105, _, h => absurd h (by decide)
  | 106, _, h => absurd h (by decide)
  | 107, _, h => absurd h (by decide)
  | 108, _, h => absurd h (by decide)
  | 109, _, h => absurd h (by decide)
  | 110, _, h => absurd h (by decide)
  | 111, _, h => absurd h (by decide)
  | 112, _, h => absurd h (by decide)
  | 113, _, h => absurd h (by decide)
  | 114, _, h => absurd h (by decide)
  | 115, _, h => absurd h (by decide)
  | 116, _, h => absurd h (by decide)
  | 117, _, h => absurd h (by decide)
  | 118, _, h => absurd h (by decide)
  | 119, _, h => absurd h (by decide)
  | 120, _, h => absurd h (by decide)
  | 121, _, h => absurd h (by decide)
  | 122, _, h => absurd h (by decide)
  | 123, _, h => absurd h (by decide)
  | n + 124, h, _ => absurd h (by omega)
set_option maxRecDepth 100000 in
set_option maxHeartbeats 4000000 in
theorem reg24 (f : Nat → Value) (ds : List Deferred) (a b : Int) (s : ByteArray) (w : World) (hs : s.size ≤ maxLen) (hb : b ≠ 0) (h2 : f 2 = .int .i64 a) (h3 : f 3 = .int .i64 b) (h9 : f 9 = .string s) :
    (Code.region 24 ops24 true).wp Tryd.prog (RegP dst24 f ds w (lookL (LB a b) s.data.toList)) (acts f ds) w := by
  have hmm := @run_makeMap Tryd.prog
  have hmk : (w.alloc (.map #[] 0)).drew.ownsMap Tryd.prog 9 anyI w.heap.size 0 (.map []) := World.ownsMap_made (H := Unit) w Tryd.prog 9 anyI
  have hB : Below w.heap.size w (w.alloc (.map #[] 0)).drew := (Below.refl _ _).alloc (Nat.le_refl _) _ |>.drew
  have st : ∀ {X Y : World}, Below w.heap.size w X → X.grownBy Y (some w.heap.size) → Below w.heap.size w Y := fun h g => h.grown g h.size (fun j hj => by cases hj; exact Nat.le_refl _)
  unfold ops24 acts
  rw [h2, h3, h9]
  go_region_with (first
    | (refine upon_ins 36 9 3 key9 Tryd.underlying36 (by assumption) (by unfold maxLen; omega) (keyOf_str (by decide)) ?_; intro w1 hown1 hgrow1; replace hB := st hB hgrow1; go_simp)
    | (refine upon_look 36 9 3 key9 Tryd.underlying36 (i64_0 _) (by assumption) (keyOf_str hs) ?_; intro cc hat; go_simp))
  all_goals clear hmm hmk
  · have e3 := congrArg litI ((look_at s.data.toList (LB a b)).symm.trans hat)
    refine regP_mk hB rfl ?_ ?_
    · exact congrArg (fun z => Value.int .i64 z) e3.symm
    · exact fun
  | 0, _, _ => rfl
  | 1, _, _ => rfl
  | 2, _, _ => h2.symm
  | 3, _, _ => h3.symm
  | 4, _, _ => rfl
  | 5, _, _ => rfl
  | 6, _, _ => rfl
  | 7, _, _ => rfl
  | 8, _, h => absurd h (by decide)
  | 9, _, _ => h9.symm
  | 10, _, _ => rfl
  | 11, _, _ => rfl
  | 12, _, _ => rfl
  | 13, _, _ => rfl
  | 14, _, _ => rfl
  | 15, _, _ => rfl
  | 16, _, _ => rfl
  | 17, _, _ => rfl
  | 18, _, _ => rfl
  | 19, _, _ => rfl
  | 20, _, _ => rfl
  | 21, _, _ => rfl
  | 22, _, _ => rfl
  | 23, _, _ => rfl
  | 24, _, _ => rfl
  | 25, _, _ => rfl
  | 26, _, _ => rfl
  | 27, _, _ => rfl
  | 28, _, _ => rfl
  | 29, _, _ => rfl
  | 30, _, _ => rfl
  | 31, _, _ => rfl
  | 32, _, _ => rfl
  | 33, _, _ => rfl
  | 34, _, _ => rfl
  | 35, _, _ => rfl
  | 36, _, _ => rfl
  | 37, _, _ => rfl
  | 38, _, _ => rfl
  | 39, _, _ => rfl
  | 40, _, _ => rfl
  | 41, _, _ => rfl
  | 42, _, _ => rfl
  | 43, _, _ => rfl
  | 44, _, _ => rfl
  | 45, _, _ => rfl
  | 46, _, _ => rfl
  | 47, _, _ => rfl
  | 48, _, _ => rfl
  | 49, _, _ => rfl
  | 50, _, _ => rfl
  | 51, _, _ => rfl
  | 52, _, _ => rfl
  | 53, _, _ => rfl
  | 54, _, _ => rfl
  | 55, _, _ => rfl
  | 56, _, _ => rfl
  | 57, _, _ => rfl
  | 58, _, _ => rfl
  | 59, _, _ => rfl
  | 60, _, _ => rfl
  | 61, _, _ => rfl
  | 62, _, _ => rfl
  | 63, _, _ => rfl
  | 64, _, _ => rfl
  | 65, _, _ => rfl
  | 66, _, _ => rfl
  | 67, _, _ => rfl
  | 68, _, h => absurd h (by decide)
  | 69, _, h => absurd h (by decide)
  | 70, _, h => absurd h (by decide)
  | 71, _, h => absurd h (by decide)
  | 72, _, h => absurd h (by decide)
  | 73, _, h => absurd h (by decide)
  | 74, _, h => absurd h (by decide)
  | 75, _, h => absurd h (by decide)
  | 76, _, h => absurd h (by decide)
  | 77, _, h => absurd h (by decide)
  | 78, _, _ => rfl
  | 79, _, _ => rfl
  | 80, _, _ => rfl
  | 81, _, _ => rfl
  | 82, _, _ => rfl
  | 83, _, _ => rfl
  | 84, _, _ => rfl
  | 85, _, _ => rfl
  | 86, _, _ => rfl
  | 87, _, _ => rfl
  | 88, _, _ => rfl
  | 89, _, _ => rfl
  | 90, _, _ => rfl
  | 91, _, _ => rfl
  | 92, _, _ => rfl
  | 93, _, _ => rfl
  | 94, _, _ => rfl
  | 95, _, _ => rfl
  | 96, _, _ => rfl
  | 97, _, _ => rfl
  | 98, _, _ => rfl
  | 99, _, _ => rfl
  | 100, _, _ => rfl
  | 101, _, _ => rfl
  | 102, _, _ => rfl
  | 103, _, _ => rfl
  | 104, _, _ => rfl
  | 105, _, _ => rfl
  | 106, _, _ => rfl
  | 107, _, _ => rfl
  | 108, _, _ => rfl
  | 109, _, _ => rfl
  | 110, _, _ => rfl
  | 111, _, _ => rfl
  | 112, _, _ => rfl
  | 113, _, _ => rfl
  | 114, _, _ => rfl
  | 115, _, _ => rfl
  | 116, _, _ => rfl
  | 117, _, _ => rfl
  | 118, _, _ => rfl
  | 119, _, _ => rfl
  | 120, _, _ => rfl
  | 121, _, _ => rfl
  | 122, _, _ => rfl
  | 123, _, _ => rfl
  | n + 124, h, _ => absurd h (by omega)
  · have e3 := congrArg litI ((look_at s.data.toList (LB' a b)).symm.trans hat)
    rw [lb_swap] at e3
    refine regP_mk hB rfl ?_ ?_
    · exact congrArg (fun z => Value.int .i64 z) e3.symm
    · exact fun
  | 0, _, _ => rfl
  | 1, _, _ => rfl
  | 2, _, _ => h2.symm
  | 3, _, _ => h3.symm
  | 4, _, _ => rfl
  | 5, _, _ => rfl
  | 6, _, _ => rfl
  | 7, _, _ => rfl
  | 8, _, h => absurd h (by decide)
  | 9, _, _ => h9.symm
  | 10, _, _ => rfl
  | 11, _, _ => rfl
  | 12, _, _ => rfl
  | 13, _, _ => rfl
  | 14, _, _ => rfl
  | 15, _, _ => rfl
  | 16, _, _ => rfl
  | 17, _, _ => rfl
  | 18, _, _ => rfl
  | 19, _, _ => rfl
  | 20, _, _ => rfl
  | 21, _, _ => rfl
  | 22, _, _ => rfl
  | 23, _, _ => rfl
  | 24, _, _ => rfl
  | 25, _, _ => rfl
  | 26, _, _ => rfl
  | 27, _, _ => rfl
  | 28, _, _ => rfl
  | 29, _, _ => rfl
  | 30, _, _ => rfl
  | 31, _, _ => rfl
  | 32, _, _ => rfl
  | 33, _, _ => rfl
  | 34, _, _ => rfl
  | 35, _, _ => rfl
  | 36, _, _ => rfl
  | 37, _, _ => rfl
  | 38, _, _ => rfl
  | 39, _, _ => rfl
  | 40, _, _ => rfl
  | 41, _, _ => rfl
  | 42, _, _ => rfl
  | 43, _, _ => rfl
  | 44, _, _ => rfl
  | 45, _, _ => rfl
  | 46, _, _ => rfl
  | 47, _, _ => rfl
  | 48, _, _ => rfl
  | 49, _, _ => rfl
  | 50, _, _ => rfl
  | 51, _, _ => rfl
  | 52, _, _ => rfl
  | 53, _, _ => rfl
  | 54, _, _ => rfl
  | 55, _, _ => rfl
  | 56, _, _ => rfl
  | 57, _, _ => rfl
  | 58, _, _ => rfl
  | 59, _, _ => rfl
  | 60, _, _ => rfl
  | 61, _, _ => rfl
  | 62, _, _ => rfl
  | 63, _, _ => rfl
  | 64, _, _ => rfl
  | 65, _, _ => rfl
  | 66, _, _ => rfl
  | 67, _, _ => rfl
  | 68, _, h => absurd h (by decide)
  | 69, _, h => absurd h (by decide)
  | 70, _, h => absurd h (by decide)
  | 71, _, h => absurd h (by decide)
  | 72, _, h => absurd h (by decide)
  | 73, _, h => absurd h (by decide)
  | 74, _, h => absurd h (by decide)
  | 75, _, h => absurd h (by decide)
  | 76, _, h => absurd h (by decide)
  | 77, _, h => absurd h (by decide)
  | 78, _, _ => rfl
  | 79, _, _ => rfl
  | 80, _, _ => rfl
  | 81, _, _ => rfl
  | 82, _, _ => rfl
  | 83, _, _ => rfl
  | 84, _, _ => rfl
  | 85, _, _ => rfl
  | 86, _, _ => rfl
  | 87, _, _ => rfl
  | 88, _, _ => rfl
  | 89, _, _ => rfl
  | 90, _, _ => rfl
  | 91, _, _ => rfl
  | 92, _, _ => rfl
  | 93, _, _ => rfl
  | 94, _, _ => rfl
  | 95, _, _ => rfl
  | 96, _, _ => rfl
  | 97, _, _ => rfl
  | 98, _, _ => rfl
  | 99, _, _ => rfl
  | 100, _, _ => rfl
  | 101, _, _ => rfl
  | 102, _, _ => rfl
  | 103, _, _ => rfl
  | 104, _, _ => rfl
  | 105, _, _ => rfl
  | 106, _, _ => rfl
  | 107, _, _ => rfl
  | 108, _, _ => rfl
  | 109, _, _ => rfl
  | 110, _, _ => rfl
  | 111, _, _ => rfl
  | 112, _, _ => rfl
  | 113, _, _ => rfl
  | 114, _, _ => rfl
  | 115, _, _ => rfl
  | 116, _, _ => rfl
  | 117, _, _ => rfl
  | 118, _, _ => rfl
  | 119, _, _ => rfl
  | 120, _, _ => rfl
  | 121, _, _ => rfl
  | 122, _, _ => rfl
  | 123, _, _ => rfl
  | n + 124, h, _ => absurd h (by omega)
theorem acts_get (g : Nat → Value) (ds : List Deferred) {i : Nat} (h : i < 124) : (acts g ds).tmps.getD i undef = g i := by
  rw [show (acts g ds).tmps = ((List.range 124).map g).toArray from (range_lit g).symm]
  simp [h]
theorem hand_of {id : Nat} {ops : Array Oper} {draw : Bool} {dst : List Nat} {v : Int} {lk : List Nat} {σ : Nat → AV} {h : Hp} (hlk : lk.contains 1000124 = true) (hdst : dst.contains DS = false)
    (hreg : ∀ (f : Nat → Value) (ds : List Deferred) (e : Env), (∀ i, i < 124 → RA e (σ i) (f i)) → (Code.region id ops draw).wp Tryd.prog (RegP dst f ds e.w v) (acts f ds) e.w) :
    HandR Tryd.prog lk id ops draw σ h (upd (fgt dst σ) 8 (.c (.d (.v (.int .i64 v))))) h := by
  intro Γ a e hP hnt hs hw
  have hsz : a.tmps.size = 124 := hs.1.trans (hnt 124 hlk)
  have hn : Γ.nt = 124 := hnt 124 hlk
  have hr := hreg (fun i => a.tmps.getD i undef) a.defers e (fun i hi => hs.2.2 i (by omega))
  rw [← acts_of a hsz] at hr
  refine Code.wp_mono (fun ex a' w' hq => ?_) hr
  cases ex with
  | normal =>
    obtain ⟨hB, g, rfl, h8, hk⟩ := hq
    have hg : Grows e.w w' := ⟨hB.os, hB.tape, hB.output, hB.size, hB.block⟩
    obtain ⟨w1, l1⟩ := hw.quiet hg
    refine ⟨rfl, { e with w := w' }, rfl, ⟨hn ▸ rfl, ⟨?_, hs.2.1.2⟩, fun i hi => ?_⟩, w1⟩
    · have e1 : upd (fgt dst σ) 8 (.c (.d (.v (.int .i64 v)))) DS = σ DS := by
        rw [upd_ne _ _ _ _ (by decide), fgt_at, hdst]; rfl
      rw [e1]
      exact hs.2.1.1.mono l1
    · have hi : i < 124 := by omega
      rw [acts_get g _ hi]
      by_cases h : i = 8
      · subst h
        rw [upd_same, h8]
        exact .v _
      · rw [upd_ne _ _ _ _ h, fgt_at]
        by_cases hc : dst.contains i = true
        · rw [if_pos hc]; trivial
        · rw [if_neg hc, hk i hi (by simpa using hc)]
          exact (hs.2.2 i (by omega)).mono l1
  | exit _ => exact hq.elim
  | goto _ => exact hq.elim
  | ret => exact hq.elim
  | panic _ => exact hq.elim
  | outgrown => exact hq.elim
theorem RA_v {e : Env} {x : AV} {v y : Value} (h : RA e x y) (hx : x = .c (.d (.v v))) : y = v := by
  subst hx
  exact R1.vInv h
noncomputable def valA (a : Int) (s : List UInt8) : Int := lookL (LA a) s
noncomputable def valB (a b : Int) (s : List UInt8) : Int := lookL (LB a b) s
noncomputable def valC (a b : Int) (s : List UInt8) : Int := lookL (LC a b) s
variable {t : Tab} {σ : Nat → AV} {h : Hp} {Q : APost}
theorem hand23 (a : Int) (s : List UInt8)  (hs : s.length ≤ 9223372036854775807) {ops : Array Oper} (x : Q .normal (upd (fgt [62, 63, 64, 65, 66, 67, 8] σ) 8 (.c (.d (.v (.int .i64 (valA a s)))))) h)
    (h2 : σ 2 = .c (.d (.v (.int .i64 a))) := by simp -implicitDefEqProofs only [goR, ↓upd_at, goS, ↓reduceIte, reduceCtorEq, seval, Y]) (h9 : σ 9 = .c (.d (.v (.string ⟨s.toArray⟩))) := by simp -implicitDefEqProofs only [goR, ↓upd_at, goS, ↓reduceIte, reduceCtorEq, seval, Y]) (hP : t.P = Tryd.prog := by rfl) (hlk : t.lk.contains 1000124 = true := by rfl) (ho : ops = ops23 := by rfl) : aC t (.region 23 ops false) σ h Q := by
  subst ho
  refine ⟨σ, h, Wk.refl _ _ _, .inr ⟨_, h, ?_, x⟩⟩
  rw [hP]
  refine hand_of hlk (by decide) fun f ds e hf => ?_
  exact reg23 f ds a ⟨s.toArray⟩ e.w (by show s.toArray.size ≤ maxLen; simpa [maxLen] using hs)  (RA_v (hf 2 (by omega)) h2) (RA_v (hf 9 (by omega)) h9)
theorem hand24 (a : Int) (b : Int) (s : List UInt8) (hb : b ≠ 0) (hs : s.length ≤ 9223372036854775807) {ops : Array Oper} (x : Q .normal (upd (fgt [68, 69, 70, 71, 72, 73, 74, 75, 76, 77, 8] σ) 8 (.c (.d (.v (.int .i64 (valB a b s)))))) h)
    (h2 : σ 2 = .c (.d (.v (.int .i64 a))) := by simp -implicitDefEqProofs only [goR, ↓upd_at, goS, ↓reduceIte, reduceCtorEq, seval, Y]) (h3 : σ 3 = .c (.d (.v (.int .i64 b))) := by simp -implicitDefEqProofs only [goR, ↓upd_at, goS, ↓reduceIte, reduceCtorEq, seval, Y]) (h9 : σ 9 = .c (.d (.v (.string ⟨s.toArray⟩))) := by simp -implicitDefEqProofs only [goR, ↓upd_at, goS, ↓reduceIte, reduceCtorEq, seval, Y]) (hP : t.P = Tryd.prog := by rfl) (hlk : t.lk.contains 1000124 = true := by rfl) (ho : ops = ops24 := by rfl) : aC t (.region 24 ops true) σ h Q := by
  subst ho
  refine ⟨σ, h, Wk.refl _ _ _, .inr ⟨_, h, ?_, x⟩⟩
  rw [hP]
  refine hand_of hlk (by decide) fun f ds e hf => ?_
  exact reg24 f ds a b ⟨s.toArray⟩ e.w (by show s.toArray.size ≤ maxLen; simpa [maxLen] using hs) hb (RA_v (hf 2 (by omega)) h2) (RA_v (hf 3 (by omega)) h3) (RA_v (hf 9 (by omega)) h9)
theorem hand25 (a : Int) (b : Int) (s : List UInt8)  (hs : s.length ≤ 9223372036854775807) {ops : Array Oper} (x : Q .normal (upd (fgt [78, 79, 80, 81, 82, 83, 84, 85, 86, 87, 88, 89, 90, 91, 92, 93, 94, 95, 96, 97, 98, 99, 100, 101, 102, 103, 104, 105, 106, 107, 108, 109, 110, 111, 112, 113, 114, 115, 116, 117, 118, 119, 120, 121, 122, 123, 8] σ) 8 (.c (.d (.v (.int .i64 (valC a b s)))))) h)
    (h2 : σ 2 = .c (.d (.v (.int .i64 a))) := by simp -implicitDefEqProofs only [goR, ↓upd_at, goS, ↓reduceIte, reduceCtorEq, seval, Y]) (h3 : σ 3 = .c (.d (.v (.int .i64 b))) := by simp -implicitDefEqProofs only [goR, ↓upd_at, goS, ↓reduceIte, reduceCtorEq, seval, Y]) (h9 : σ 9 = .c (.d (.v (.string ⟨s.toArray⟩))) := by simp -implicitDefEqProofs only [goR, ↓upd_at, goS, ↓reduceIte, reduceCtorEq, seval, Y]) (hP : t.P = Tryd.prog := by rfl) (hlk : t.lk.contains 1000124 = true := by rfl) (ho : ops = ops25 := by rfl) : aC t (.region 25 ops false) σ h Q := by
  subst ho
  refine ⟨σ, h, Wk.refl _ _ _, .inr ⟨_, h, ?_, x⟩⟩
  rw [hP]
  refine hand_of hlk (by decide) fun f ds e hf => ?_
  exact reg25 f ds a b ⟨s.toArray⟩ e.w (by show s.toArray.size ≤ maxLen; simpa [maxLen] using hs)  (RA_v (hf 2 (by omega)) h2) (RA_v (hf 3 (by omega)) h3) (RA_v (hf 9 (by omega)) h9)
end Go.Proofs.YtghmojcecefgjaaDoor
