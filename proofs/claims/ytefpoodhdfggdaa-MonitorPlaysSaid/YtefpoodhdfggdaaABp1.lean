/- Parts of the proof: what functions of the program compute, on plain values. -/
import Derived.Test.YtefpoodhdfggdaaABx4
import Derived.Test.YtefpoodhdfggdaaProg
import Derived.KernelRfl
set_option linter.unusedVariables false
set_option linter.unusedSimpArgs false
set_option maxRecDepth 100000
set_option maxHeartbeats 2000000
namespace Go.Proofs.Ytefpoodhdfggdaa.AB
open Go
def tt : TT := [
 ⟨.other, 0, 0, .undef, .unit, false, false⟩,
 ⟨.func, 1, 8, .nilf, .unit, true, false⟩,
 ⟨.int .i64, 1, 8, (.int .i64 (0 : Int)), (.int .i64), true, true⟩,
 ⟨.int .i64, 1, 8, (.int .i64 (0 : Int)), (.int .i64), true, true⟩,
 ⟨.bool, 1, 1, .ff, .bool, true, true⟩,
 ⟨.int .u8, 1, 1, (.int .u8 (0 : Int)), (.int .u8), true, true⟩,
 ⟨.int .u8, 1, 1, (.int .u8 (0 : Int)), (.int .u8), true, true⟩,
 ⟨.strct [(0, 2), (1, 3), (2, 4), (3, 6)], 4, 24, (.agg [(.int .i64 (0 : Int)), (.int .i64 (0 : Int)), .ff, (.int .u8 (0 : Int))]), (.pair (.int .i64) (.pair (.int .i64) (.pair .bool (.int .u8)))), true, true⟩,
 ⟨.strct [(0, 2), (1, 3), (2, 4), (3, 6)], 4, 24, (.agg [(.int .i64 (0 : Int)), (.int .i64 (0 : Int)), .ff, (.int .u8 (0 : Int))]), (.pair (.int .i64) (.pair (.int .i64) (.pair .bool (.int .u8)))), true, true⟩,
 ⟨.str, 1, 16, (.str ([] : List UInt8)), .str, true, true⟩,
 ⟨.str, 1, 16, (.str ([] : List UInt8)), .str, true, true⟩,
 ⟨.str, 1, 16, (.str ([] : List UInt8)), .str, true, true⟩,
 ⟨.int .u64, 1, 8, (.int .u64 (0 : Int)), (.int .u64), true, true⟩,
 ⟨.strct [(0, 9), (1, 12)], 2, 24, (.agg [(.str ([] : List UInt8)), (.int .u64 (0 : Int))]), (.pair .str (.int .u64)), true, true⟩,
 ⟨.strct [(0, 9), (1, 12)], 2, 24, (.agg [(.str ([] : List UInt8)), (.int .u64 (0 : Int))]), (.pair .str (.int .u64)), true, true⟩,
 ⟨.ptr 154, 1, 8, .nilp, .unit, true, false⟩,
 ⟨.ptr 157, 1, 8, .nilp, .unit, true, false⟩,
 ⟨.ptr 166, 1, 8, .nilp, .unit, true, false⟩,
 ⟨.strct [(0, 17)], 1, 8, (.agg [.nilp]), .unit, true, false⟩,
 ⟨.strct [(0, 17)], 1, 8, (.agg [.nilp]), .unit, true, false⟩,
 ⟨.iface, 1, 16, .nili, .unit, true, false⟩,
 ⟨.int .i32, 1, 4, (.int .i32 (0 : Int)), (.int .i32), true, true⟩,
 ⟨.slice 3, 1, 24, (.list (.int .i64) ([] : List Int) .exact), (.slice (.int .i64)), true, true⟩,
 ⟨.func, 1, 8, .nilf, .unit, true, false⟩,
 ⟨.func, 1, 8, .nilf, .unit, true, false⟩,
 ⟨.ptr 76, 1, 8, .nilp, .unit, true, false⟩,
 ⟨.int .i64, 1, 8, (.int .i64 (0 : Int)), (.int .i64), true, true⟩,
 ⟨.other, 0, 0, .undef, .unit, false, false⟩,
 ⟨.func, 1, 8, .nilf, .unit, true, false⟩,
 ⟨.other, 0, 0, .undef, .unit, false, false⟩,
 ⟨.func, 1, 8, .nilf, .unit, true, false⟩,
 ⟨.func, 1, 8, .nilf, .unit, true, false⟩,
 ⟨.other, 0, 0, .undef, .unit, false, false⟩,
 ⟨.func, 1, 8, .nilf, .unit, true, false⟩,
 ⟨.other, 0, 0, .undef, .unit, false, false⟩,
 ⟨.func, 1, 8, .nilf, .unit, true, false⟩,
 ⟨.func, 1, 8, .nilf, .unit, true, false⟩,
 ⟨.func, 1, 8, .nilf, .unit, true, false⟩,
 ⟨.slice 40, 1, 24, (.list (.pair (.int .i64) (.pair (.int .i64) (.pair (.int .i64) (.pair (.int .i64) .bool)))) (([] : List (Int × (Int × (Int × (Int × Bool)))))) .exact), (.slice (.pair (.int .i64) (.pair (.int .i64) (.pair (.int .i64) (.pair (.int .i64) .bool))))), true, true⟩,
 ⟨.strct [(0, 3), (1, 3), (2, 3), (3, 3), (4, 4)], 5, 40, (.agg [(.int .i64 (0 : Int)), (.int .i64 (0 : Int)), (.int .i64 (0 : Int)), (.int .i64 (0 : Int)), .ff]), (.pair (.int .i64) (.pair (.int .i64) (.pair (.int .i64) (.pair (.int .i64) .bool)))), true, true⟩,
 ⟨.strct [(0, 3), (1, 3), (2, 3), (3, 3), (4, 4)], 5, 40, (.agg [(.int .i64 (0 : Int)), (.int .i64 (0 : Int)), (.int .i64 (0 : Int)), (.int .i64 (0 : Int)), .ff]), (.pair (.int .i64) (.pair (.int .i64) (.pair (.int .i64) (.pair (.int .i64) .bool)))), true, true⟩,
 ⟨.func, 1, 8, .nilf, .unit, true, false⟩,
 ⟨.func, 1, 8, .nilf, .unit, true, false⟩,
 ⟨.ptr 88, 1, 8, .nilp, .unit, true, false⟩,
 ⟨.func, 1, 8, .nilf, .unit, true, false⟩,
 ⟨.func, 1, 8, .nilf, .unit, true, false⟩,
 ⟨.func, 1, 8, .nilf, .unit, true, false⟩,
 ⟨.slice 50, 1, 24, (.list (.pair (.int .i64) (.slice (.int .i64))) (([] : List (Int × (List Int)))) .exact), (.slice (.pair (.int .i64) (.slice (.int .i64)))), true, true⟩,
 ⟨.func, 1, 8, .nilf, .unit, true, false⟩,
 ⟨.strct [(0, 3), (1, 22)], 2, 32, (.agg [(.int .i64 (0 : Int)), (.list (.int .i64) ([] : List Int) .exact)]), (.pair (.int .i64) (.slice (.int .i64))), true, true⟩,
 ⟨.strct [(0, 3), (1, 22)], 2, 32, (.agg [(.int .i64 (0 : Int)), (.list (.int .i64) ([] : List Int) .exact)]), (.pair (.int .i64) (.slice (.int .i64))), true, true⟩,
 ⟨.func, 1, 8, .nilf, .unit, true, false⟩,
 ⟨.func, 1, 8, .nilf, .unit, true, false⟩,
 ⟨.func, 1, 8, .nilf, .unit, true, false⟩,
 ⟨.slice 62, 1, 24, (.list (.pair (.int .i64) (.pair (.int .i64) (.int .i64))) (([] : List (Int × (Int × Int)))) .exact), (.slice (.pair (.int .i64) (.pair (.int .i64) (.int .i64)))), true, true⟩,
 ⟨.ptr 91, 1, 8, .nilp, .unit, true, false⟩,
 ⟨.func, 1, 8, .nilf, .unit, true, false⟩,
 ⟨.ptr 60, 1, 8, .nilp, .unit, true, false⟩,
 ⟨.slice 101, 1, 24, (.list (.pair (.int .i64) (.pair (.int .i64) (.pair (.int .i64) (.pair (.int .i64) (.slice (.int .i64)))))) (([] : List (Int × (Int × (Int × (Int × (List Int))))))) .exact), (.slice (.pair (.int .i64) (.pair (.int .i64) (.pair (.int .i64) (.pair (.int .i64) (.slice (.int .i64))))))), true, true⟩,
 ⟨.strct [(0, 58), (1, 3)], 2, 32, (.agg [(.list (.pair (.int .i64) (.pair (.int .i64) (.pair (.int .i64) (.pair (.int .i64) (.slice (.int .i64)))))) (([] : List (Int × (Int × (Int × (Int × (List Int))))))) .exact), (.int .i64 (0 : Int))]), (.pair (.slice (.pair (.int .i64) (.pair (.int .i64) (.pair (.int .i64) (.pair (.int .i64) (.slice (.int .i64))))))) (.int .i64)), true, true⟩,
 ⟨.strct [(0, 58), (1, 3)], 2, 32, (.agg [(.list (.pair (.int .i64) (.pair (.int .i64) (.pair (.int .i64) (.pair (.int .i64) (.slice (.int .i64)))))) (([] : List (Int × (Int × (Int × (Int × (List Int))))))) .exact), (.int .i64 (0 : Int))]), (.pair (.slice (.pair (.int .i64) (.pair (.int .i64) (.pair (.int .i64) (.pair (.int .i64) (.slice (.int .i64))))))) (.int .i64)), true, true⟩,
 ⟨.strct [(0, 3), (1, 3), (2, 3)], 3, 24, (.agg [(.int .i64 (0 : Int)), (.int .i64 (0 : Int)), (.int .i64 (0 : Int))]), (.pair (.int .i64) (.pair (.int .i64) (.int .i64))), true, true⟩,
 ⟨.strct [(0, 3), (1, 3), (2, 3)], 3, 24, (.agg [(.int .i64 (0 : Int)), (.int .i64 (0 : Int)), (.int .i64 (0 : Int))]), (.pair (.int .i64) (.pair (.int .i64) (.int .i64))), true, true⟩,
 ⟨.other, 0, 0, .undef, .unit, false, false⟩,
 ⟨.func, 1, 8, .nilf, .unit, true, false⟩,
 ⟨.func, 1, 8, .nilf, .unit, true, false⟩,
 ⟨.func, 1, 8, .nilf, .unit, true, false⟩,
 ⟨.func, 1, 8, .nilf, .unit, true, false⟩,
 ⟨.func, 1, 8, .nilf, .unit, true, false⟩,
 ⟨.func, 1, 8, .nilf, .unit, true, false⟩,
 ⟨.func, 1, 8, .nilf, .unit, true, false⟩,
 ⟨.func, 1, 8, .nilf, .unit, true, false⟩,
 ⟨.map 3 3, 1, 8, .nilm, .unit, true, false⟩,
 ⟨.slice 79, 1, 24, (.list (.pair (.int .i64) (.int .i64)) (([] : List (Int × Int))) .exact), (.slice (.pair (.int .i64) (.int .i64))), true, true⟩,
 ⟨.arr 22 73, 22, 528, (V.agg (List.cons (.list (.pair (.int .i64) (.int .i64)) (([] : List (Int × Int))) .exact) (List.cons (.list (.pair (.int .i64) (.int .i64)) (([] : List (Int × Int))) .exact) (List.cons (.list (.pair (.int .i64) (.int .i64)) (([] : List (Int × Int))) .exact) (List.cons (.list (.pair (.int .i64) (.int .i64)) (([] : List (Int × Int))) .exact) (List.cons (.list (.pair (.int .i64) (.int .i64)) (([] : List (Int × Int))) .exact) (List.cons (.list (.pair (.int .i64) (.int .i64)) (([] : List (Int × Int))) .exact) (List.cons (.list (.pair (.int .i64) (.int .i64)) (([] : List (Int × Int))) .exact) (List.cons (.list (.pair (.int .i64) (.int .i64)) (([] : List (Int × Int))) .exact) (List.cons (.list (.pair (.int .i64) (.int .i64)) (([] : List (Int × Int))) .exact) (List.cons (.list (.pair (.int .i64) (.int .i64)) (([] : List (Int × Int))) .exact) (List.cons (.list (.pair (.int .i64) (.int .i64)) (([] : List (Int × Int))) .exact) (List.cons (.list (.pair (.int .i64) (.int .i64)) (([] : List (Int × Int))) .exact) (List.cons (.list (.pair (.int .i64) (.int .i64)) (([] : List (Int × Int))) .exact) (List.cons (.list (.pair (.int .i64) (.int .i64)) (([] : List (Int × Int))) .exact) (List.cons (.list (.pair (.int .i64) (.int .i64)) (([] : List (Int × Int))) .exact) (List.cons (.list (.pair (.int .i64) (.int .i64)) (([] : List (Int × Int))) .exact) (List.cons (.list (.pair (.int .i64) (.int .i64)) (([] : List (Int × Int))) .exact) (List.cons (.list (.pair (.int .i64) (.int .i64)) (([] : List (Int × Int))) .exact) (List.cons (.list (.pair (.int .i64) (.int .i64)) (([] : List (Int × Int))) .exact) (List.cons (.list (.pair (.int .i64) (.int .i64)) (([] : List (Int × Int))) .exact) (List.cons (.list (.pair (.int .i64) (.int .i64)) (([] : List (Int × Int))) .exact) (List.cons (.list (.pair (.int .i64) (.int .i64)) (([] : List (Int × Int))) .exact) ([] : List V)))))))))))))))))))))))), .unit, true, false⟩,
 ⟨.strct [(0, 22), (1, 74), (23, 72), (24, 72), (25, 3)], 26, 576, (V.agg (List.cons (.list (.int .i64) ([] : List Int) .exact) (List.cons (.list (.pair (.int .i64) (.int .i64)) (([] : List (Int × Int))) .exact) (List.cons (.list (.pair (.int .i64) (.int .i64)) (([] : List (Int × Int))) .exact) (List.cons (.list (.pair (.int .i64) (.int .i64)) (([] : List (Int × Int))) .exact) (List.cons (.list (.pair (.int .i64) (.int .i64)) (([] : List (Int × Int))) .exact) (List.cons (.list (.pair (.int .i64) (.int .i64)) (([] : List (Int × Int))) .exact) (List.cons (.list (.pair (.int .i64) (.int .i64)) (([] : List (Int × Int))) .exact) (List.cons (.list (.pair (.int .i64) (.int .i64)) (([] : List (Int × Int))) .exact) (List.cons (.list (.pair (.int .i64) (.int .i64)) (([] : List (Int × Int))) .exact) (List.cons (.list (.pair (.int .i64) (.int .i64)) (([] : List (Int × Int))) .exact) (List.cons (.list (.pair (.int .i64) (.int .i64)) (([] : List (Int × Int))) .exact) (List.cons (.list (.pair (.int .i64) (.int .i64)) (([] : List (Int × Int))) .exact) (List.cons (.list (.pair (.int .i64) (.int .i64)) (([] : List (Int × Int))) .exact) (List.cons (.list (.pair (.int .i64) (.int .i64)) (([] : List (Int × Int))) .exact) (List.cons (.list (.pair (.int .i64) (.int .i64)) (([] : List (Int × Int))) .exact) (List.cons (.list (.pair (.int .i64) (.int .i64)) (([] : List (Int × Int))) .exact) (List.cons (.list (.pair (.int .i64) (.int .i64)) (([] : List (Int × Int))) .exact) (List.cons (.list (.pair (.int .i64) (.int .i64)) (([] : List (Int × Int))) .exact) (List.cons (.list (.pair (.int .i64) (.int .i64)) (([] : List (Int × Int))) .exact) (List.cons (.list (.pair (.int .i64) (.int .i64)) (([] : List (Int × Int))) .exact) (List.cons (.list (.pair (.int .i64) (.int .i64)) (([] : List (Int × Int))) .exact) (List.cons (.list (.pair (.int .i64) (.int .i64)) (([] : List (Int × Int))) .exact) (List.cons (.list (.pair (.int .i64) (.int .i64)) (([] : List (Int × Int))) .exact) (List.cons .nilm (List.cons .nilm (List.cons (V.int IntKind.i64 (0 : Int)) ([] : List V)))))))))))))))))))))))))))), .unit, true, false⟩,
 ⟨.strct [(0, 22), (1, 74), (23, 72), (24, 72), (25, 3)], 26, 576, (V.agg (List.cons (.list (.int .i64) ([] : List Int) .exact) (List.cons (.list (.pair (.int .i64) (.int .i64)) (([] : List (Int × Int))) .exact) (List.cons (.list (.pair (.int .i64) (.int .i64)) (([] : List (Int × Int))) .exact) (List.cons (.list (.pair (.int .i64) (.int .i64)) (([] : List (Int × Int))) .exact) (List.cons (.list (.pair (.int .i64) (.int .i64)) (([] : List (Int × Int))) .exact) (List.cons (.list (.pair (.int .i64) (.int .i64)) (([] : List (Int × Int))) .exact) (List.cons (.list (.pair (.int .i64) (.int .i64)) (([] : List (Int × Int))) .exact) (List.cons (.list (.pair (.int .i64) (.int .i64)) (([] : List (Int × Int))) .exact) (List.cons (.list (.pair (.int .i64) (.int .i64)) (([] : List (Int × Int))) .exact) (List.cons (.list (.pair (.int .i64) (.int .i64)) (([] : List (Int × Int))) .exact) (List.cons (.list (.pair (.int .i64) (.int .i64)) (([] : List (Int × Int))) .exact) (List.cons (.list (.pair (.int .i64) (.int .i64)) (([] : List (Int × Int))) .exact) (List.cons (.list (.pair (.int .i64) (.int .i64)) (([] : List (Int × Int))) .exact) (List.cons (.list (.pair (.int .i64) (.int .i64)) (([] : List (Int × Int))) .exact) (List.cons (.list (.pair (.int .i64) (.int .i64)) (([] : List (Int × Int))) .exact) (List.cons (.list (.pair (.int .i64) (.int .i64)) (([] : List (Int × Int))) .exact) (List.cons (.list (.pair (.int .i64) (.int .i64)) (([] : List (Int × Int))) .exact) (List.cons (.list (.pair (.int .i64) (.int .i64)) (([] : List (Int × Int))) .exact) (List.cons (.list (.pair (.int .i64) (.int .i64)) (([] : List (Int × Int))) .exact) (List.cons (.list (.pair (.int .i64) (.int .i64)) (([] : List (Int × Int))) .exact) (List.cons (.list (.pair (.int .i64) (.int .i64)) (([] : List (Int × Int))) .exact) (List.cons (.list (.pair (.int .i64) (.int .i64)) (([] : List (Int × Int))) .exact) (List.cons (.list (.pair (.int .i64) (.int .i64)) (([] : List (Int × Int))) .exact) (List.cons .nilm (List.cons .nilm (List.cons (V.int IntKind.i64 (0 : Int)) ([] : List V)))))))))))))))))))))))))))), .unit, true, false⟩,
 ⟨.func, 1, 8, .nilf, .unit, true, false⟩,
 ⟨.strct [(0, 3), (1, 3)], 2, 16, (.agg [(.int .i64 (0 : Int)), (.int .i64 (0 : Int))]), (.pair (.int .i64) (.int .i64)), true, true⟩,
 ⟨.strct [(0, 3), (1, 3)], 2, 16, (.agg [(.int .i64 (0 : Int)), (.int .i64 (0 : Int))]), (.pair (.int .i64) (.int .i64)), true, true⟩,
 ⟨.func, 1, 8, .nilf, .unit, true, false⟩,
 ⟨.other, 0, 0, .undef, .unit, false, false⟩,
 ⟨.func, 1, 8, .nilf, .unit, true, false⟩,
 ⟨.func, 1, 8, .nilf, .unit, true, false⟩,
 ⟨.func, 1, 8, .nilf, .unit, true, false⟩,
 ⟨.func, 1, 8, .nilf, .unit, true, false⟩,
 ⟨.func, 1, 8, .nilf, .unit, true, false⟩,
 ⟨.strct [(0, 22)], 1, 24, (.agg [(.list (.int .i64) ([] : List Int) .exact)]), (.pair (.slice (.int .i64)) .unit), true, true⟩,
 ⟨.strct [(0, 22)], 1, 24, (.agg [(.list (.int .i64) ([] : List Int) .exact)]), (.pair (.slice (.int .i64)) .unit), true, true⟩,
 ⟨.map 3 92, 1, 8, .nilm, .unit, true, false⟩,
 ⟨.strct [(0, 89), (1, 72), (2, 3)], 3, 24, (.agg [.nilm, .nilm, (.int .i64 (0 : Int))]), .unit, true, false⟩,
 ⟨.strct [(0, 89), (1, 72), (2, 3)], 3, 24, (.agg [.nilm, .nilm, (.int .i64 (0 : Int))]), .unit, true, false⟩,
 ⟨.ptr 96, 1, 8, .nilp, .unit, true, false⟩,
 ⟨.strct [(0, 22)], 1, 24, (.agg [(.list (.int .i64) ([] : List Int) .exact)]), (.pair (.slice (.int .i64)) .unit), true, true⟩,
 ⟨.strct [(0, 22)], 1, 24, (.agg [(.list (.int .i64) ([] : List Int) .exact)]), (.pair (.slice (.int .i64)) .unit), true, true⟩,
 ⟨.strct [(0, 3), (1, 3), (2, 3), (3, 94)], 4, 48, (.agg [(.int .i64 (0 : Int)), (.int .i64 (0 : Int)), (.int .i64 (0 : Int)), (.list (.int .i64) ([] : List Int) .exact)]), (.pair (.int .i64) (.pair (.int .i64) (.pair (.int .i64) (.pair (.slice (.int .i64)) .unit)))), true, true⟩,
 ⟨.strct [(0, 3), (1, 3), (2, 3), (3, 94)], 4, 48, (.agg [(.int .i64 (0 : Int)), (.int .i64 (0 : Int)), (.int .i64 (0 : Int)), (.list (.int .i64) ([] : List Int) .exact)]), (.pair (.int .i64) (.pair (.int .i64) (.pair (.int .i64) (.pair (.slice (.int .i64)) .unit)))), true, true⟩,
 ⟨.func, 1, 8, .nilf, .unit, true, false⟩,
 ⟨.func, 1, 8, .nilf, .unit, true, false⟩,
 ⟨.func, 1, 8, .nilf, .unit, true, false⟩,
 ⟨.strct [(0, 3), (1, 3), (2, 3), (3, 3), (4, 22)], 5, 56, (.agg [(.int .i64 (0 : Int)), (.int .i64 (0 : Int)), (.int .i64 (0 : Int)), (.int .i64 (0 : Int)), (.list (.int .i64) ([] : List Int) .exact)]), (.pair (.int .i64) (.pair (.int .i64) (.pair (.int .i64) (.pair (.int .i64) (.slice (.int .i64)))))), true, true⟩,
 ⟨.strct [(0, 3), (1, 3), (2, 3), (3, 3), (4, 22)], 5, 56, (.agg [(.int .i64 (0 : Int)), (.int .i64 (0 : Int)), (.int .i64 (0 : Int)), (.int .i64 (0 : Int)), (.list (.int .i64) ([] : List Int) .exact)]), (.pair (.int .i64) (.pair (.int .i64) (.pair (.int .i64) (.pair (.int .i64) (.slice (.int .i64)))))), true, true⟩,
 ⟨.func, 1, 8, .nilf, .unit, true, false⟩,
 ⟨.func, 1, 8, .nilf, .unit, true, false⟩,
 ⟨.func, 1, 8, .nilf, .unit, true, false⟩,
 ⟨.func, 1, 8, .nilf, .unit, true, false⟩,
 ⟨.ptr 73, 1, 8, .nilp, .unit, true, false⟩,
 ⟨.func, 1, 8, .nilf, .unit, true, false⟩,
 ⟨.int .u64, 1, 8, (.int .u64 (0 : Int)), (.int .u64), true, true⟩,
 ⟨.func, 1, 8, .nilf, .unit, true, false⟩,
 ⟨.func, 1, 8, .nilf, .unit, true, false⟩,
 ⟨.func, 1, 8, .nilf, .unit, true, false⟩,
 ⟨.func, 1, 8, .nilf, .unit, true, false⟩,
 ⟨.func, 1, 8, .nilf, .unit, true, false⟩,
 ⟨.ptr 94, 1, 8, .nilp, .unit, true, false⟩,
 ⟨.func, 1, 8, .nilf, .unit, true, false⟩,
 ⟨.func, 1, 8, .nilf, .unit, true, false⟩,
 ⟨.func, 1, 8, .nilf, .unit, true, false⟩,
 ⟨.func, 1, 8, .nilf, .unit, true, false⟩,
 ⟨.int .u32, 1, 4, (.int .u32 (0 : Int)), (.int .u32), true, true⟩,
 ⟨.func, 1, 8, .nilf, .unit, true, false⟩,
 ⟨.int .u64, 1, 8, (.int .u64 (0 : Int)), (.int .u64), true, true⟩,
 ⟨.func, 1, 8, .nilf, .unit, true, false⟩,
 ⟨.func, 1, 8, .nilf, .unit, true, false⟩,
 ⟨.func, 1, 8, .nilf, .unit, true, false⟩,
 ⟨.func, 1, 8, .nilf, .unit, true, false⟩,
 ⟨.func, 1, 8, .nilf, .unit, true, false⟩,
 ⟨.func, 1, 8, .nilf, .unit, true, false⟩,
 ⟨.int .i64, 1, 8, (.int .i64 (0 : Int)), (.int .i64), true, true⟩,
 ⟨.other, 0, 0, .undef, .unit, false, false⟩,
 ⟨.func, 1, 8, .nilf, .unit, true, false⟩,
 ⟨.func, 1, 8, .nilf, .unit, true, false⟩,
 ⟨.func, 1, 8, .nilf, .unit, true, false⟩,
 ⟨.func, 1, 8, .nilf, .unit, true, false⟩,
 ⟨.func, 1, 8, .nilf, .unit, true, false⟩,
 ⟨.func, 1, 8, .nilf, .unit, true, false⟩,
 ⟨.func, 1, 8, .nilf, .unit, true, false⟩,
 ⟨.func, 1, 8, .nilf, .unit, true, false⟩,
 ⟨.func, 1, 8, .nilf, .unit, true, false⟩,
 ⟨.func, 1, 8, .nilf, .unit, true, false⟩,
 ⟨.int .u64, 1, 8, (.int .u64 (0 : Int)), (.int .u64), true, true⟩,
 ⟨.func, 1, 8, .nilf, .unit, true, false⟩,
 ⟨.func, 1, 8, .nilf, .unit, true, false⟩,
 ⟨.func, 1, 8, .nilf, .unit, true, false⟩,
 ⟨.ptr 3, 1, 8, .nilp, .unit, true, false⟩,
 ⟨.func, 1, 8, .nilf, .unit, true, false⟩,
 ⟨.func, 1, 8, .nilf, .unit, true, false⟩,
 ⟨.func, 1, 8, .nilf, .unit, true, false⟩,
 ⟨.func, 1, 8, .nilf, .unit, true, false⟩,
 ⟨.ptr 140, 1, 8, .nilp, .unit, true, false⟩,
 ⟨.func, 1, 8, .nilf, .unit, true, false⟩,
 ⟨.func, 1, 8, .nilf, .unit, true, false⟩,
 ⟨.func, 1, 8, .nilf, .unit, true, false⟩,
 ⟨.strct [(0, 17), (1, 17), (2, 17), (3, 9)], 4, 40, (.agg [.nilp, .nilp, .nilp, (.str ([] : List UInt8))]), .unit, true, false⟩,
 ⟨.strct [(0, 17), (1, 17), (2, 17), (3, 9)], 4, 40, (.agg [.nilp, .nilp, .nilp, (.str ([] : List UInt8))]), .unit, true, false⟩,
 ⟨.arr 0 16, 0, 0, (.agg []), .unit, true, false⟩,
 ⟨.strct [(0, 155)], 0, 0, (.agg []), .unit, true, false⟩,
 ⟨.strct [(0, 155)], 0, 0, (.agg []), .unit, true, false⟩,
 ⟨.func, 1, 8, .nilf, .unit, true, false⟩,
 ⟨.int .u8, 1, 1, (.int .u8 (0 : Int)), (.int .u8), true, true⟩,
 ⟨.int .u8, 1, 1, (.int .u8 (0 : Int)), (.int .u8), true, true⟩,
 ⟨.func, 1, 8, .nilf, .unit, true, false⟩,
 ⟨.ptr 5, 1, 8, .nilp, .unit, true, false⟩,
 ⟨.int .i32, 1, 4, (.int .i32 (0 : Int)), (.int .i32), true, true⟩,
 ⟨.int .i32, 1, 4, (.int .i32 (0 : Int)), (.int .i32), true, true⟩,
 ⟨.strct [(0, 12), (1, 12), (2, 119), (3, 159), (4, 5), (5, 5), (6, 160), (7, 161), (8, 162), (9, 163), (10, 164)], 11, 48, (.agg [(.int .u64 (0 : Int)), (.int .u64 (0 : Int)), (.int .u32 (0 : Int)), (.int .u8 (0 : Int)), (.int .u8 (0 : Int)), (.int .u8 (0 : Int)), (.int .u8 (0 : Int)), .nilf, .nilp, (.int .i32 (0 : Int)), (.int .i32 (0 : Int))]), .unit, true, false⟩,
 ⟨.strct [(0, 12), (1, 12), (2, 119), (3, 159), (4, 5), (5, 5), (6, 160), (7, 161), (8, 162), (9, 163), (10, 164)], 11, 48, (.agg [(.int .u64 (0 : Int)), (.int .u64 (0 : Int)), (.int .u32 (0 : Int)), (.int .u8 (0 : Int)), (.int .u8 (0 : Int)), (.int .u8 (0 : Int)), (.int .u8 (0 : Int)), .nilf, .nilp, (.int .i32 (0 : Int)), (.int .i32 (0 : Int))]), .unit, true, false⟩,
 ⟨.other, 0, 0, .undef, .unit, false, false⟩]
theorem tt_ok : TTOK Try.prog tt := ttok_of (by kernel_rfl)
abbrev yZ4 : Xd := (.pair (.sl (.pure (.int .i64))) (.pure .unit))
abbrev yZ3 : Xd := (.pair (.pure (.int .i64)) (.pair (.pure (.int .i64)) (.pair (.pure (.int .i64)) yZ4)))
abbrev yZ0 : Xd := (.pair (.pure (.int .i64)) (.pair (.pure (.int .i64)) (.pair (.pure (.int .i64)) (.pair (.pure (.int .i64)) (.sl (.pure (.int .i64)))))))
abbrev yZ1 : Xd := (.pair (.sl yZ0) (.pure (.int .i64)))
abbrev yZ2 : Xd := (.pair (.mp (.int .i64) (.ref yZ3)) (.pair (.mp (.int .i64) (.pure (.int .i64))) (.pure (.int .i64))))
end Go.Proofs.Ytefpoodhdfggdaa.AB

namespace Go.Proofs.Ytefpoodhdfggdaa.AB
open Go

theorem mix : Try.prog.follows .mixedOrders = true := by kernel_rfl

theorem pcOf {X : Cx} (hX : X.tt = tt) (hfn : fnsB Try.prog X.fns) {d : Nat} {f : FuncId} {fn : Func} (hf : Try.prog.funcs[f]? = some fn) (hname : fn.name ≠ "runtime.NumGoroutine") {args : List V} {r : V}
  (h : fnK X.tt (callN Try.prog X d) (X.md f) (X.mk1 f) fn (args.map .v) ⟨[], [], ⟨0, []⟩⟩ (topK fun v => v.norm = r ∧ r.nt = true)) : PC Try.prog f args r := by
 have htt : TTOK Try.prog X.tt := by rw [hX]; exact tt_ok
 exact PC.of htt (callN_sound htt mix (fun f fn => fnsB_spec hfn f fn) d) (callN_det d) mix hf hname h

theorem lawOf {X : Cx} (hX : X.tt = tt) (hfn : fnsB Try.prog X.fns) {d : Nat} {f : FuncId} {fn : Func} (hf : Try.prog.funcs[f]? = some fn) (hname : fn.name ≠ "runtime.NumGoroutine") {args : List V} {r : V}
  (h : fnK X.tt (callN Try.prog X d) (X.md f) (X.mk1 f) fn (args.map .v) ⟨[], [some (.heap XH.none)], ⟨0, []⟩⟩ (topK fun v => v.norm = r ∧ r.nt = true)) : PC Try.prog f args r := by
 have htt : TTOK Try.prog X.tt := by rw [hX]; exact tt_ok
 exact PC.ofX htt (callN_sound htt mix (fun f fn => fnsB_spec hfn f fn) d) (callN_det d) mix hf hname h

theorem xcOf {X : Cx} (hX : X.tt = tt) (hfn : fnsB Try.prog X.fns) {d : Nat} {f : FuncId} {fn : Func} (hf : Try.prog.funcs[f]? = some fn) (hname : fn.name ≠ "runtime.NumGoroutine") {cs : List Xd} {args : List TV} {H : XH}
  {Q : xresT cs → XH → Prop} (h : fnK X.tt (callN Try.prog X d) (X.md f) (X.mk1 f) fn args ⟨[], [some (.heap H)], ⟨0, []⟩⟩ (xfin cs Q)) : XC Try.prog f cs args H Q := by
 have htt : TTOK Try.prog X.tt := by rw [hX]; exact tt_ok
 exact XC.of htt (callN_sound htt mix (fun f fn => fnsB_spec hfn f fn) d) (callN_det d) mix hf hname h

theorem wrap64 {x : Int} (h1 : -9223372036854775808 ≤ x) (h2 : x ≤ 9223372036854775807) : IntKind.wrap .i64 x = x := by
 have e : IntKind.wrap .i64 x = (if 9223372036854775808 ≤ x % 18446744073709551616 then x % 18446744073709551616 - 18446744073709551616 else x % 18446744073709551616) := by
  simp [IntKind.wrap, IntKind.bits, IntKind.signed]
 rw [e]
 split <;> omega

theorem take_succ_eq {α : Type} [DecidableEq α] {a b : List α} {n : Nat} {d : α} (h : a.take n = b.take n) (hn : n < a.length) (hm : n < b.length) (he : a.getD n d = b.getD n d) : a.take (n + 1) = b.take (n + 1) := by
 rw [List.take_succ_eq_append_getElem hn, List.take_succ_eq_append_getElem hm, h]
 simp only [List.getD, List.getElem?_eq_getElem hn, List.getElem?_eq_getElem hm, Option.getD_some] at he
 rw [he]

def Tok.fresh (t : Tok) (T : Toks) : Prop :=
 match t with
 | .no => False
 | .exact => True
 | .tk n => n ∈ T.l ∧ n < T.n

def Tok.ne (t u : Tok) : Prop :=
 match t, u with
 | .tk a, .tk b => a ≠ b
 | _, _ => True

theorem Tok.fresh.own {t : Tok} {T : Toks} (h : t.fresh T) : t.own T.l := by
 cases t with
 | no => exact h
 | exact => trivial
 | tk n => exact h.1

theorem Tok.fresh.up {t : Tok} {n m : Nat} {l : List Nat} (h : t.fresh ⟨n, l⟩) (hm : n ≤ m) : t.fresh ⟨m, l⟩ := by
 cases t with
 | no => exact h
 | exact => trivial
 | tk k => exact ⟨h.1, Nat.lt_of_lt_of_le h.2 hm⟩

theorem Tok.fresh_new (n : Nat) (l : List Nat) : (Tok.tk n).fresh ⟨n + 1, n :: l⟩ := ⟨by simp, Nat.lt_succ_self _⟩

theorem Tok.fresh.keep {t u : Tok} {T : Toks} (h : t.fresh T) (hne : u.ne t) : t.fresh ⟨T.n + 1, T.n :: u.drop T.l⟩ := by
 cases t with
 | no => exact h
 | exact => trivial
 | tk n =>
  refine ⟨List.mem_cons_of_mem _ ?_, Nat.lt_succ_of_lt h.2⟩
  cases u with
  | no => exact h.1
  | exact => exact h.1
  | tk m =>
   show n ∈ List.filter _ _
   rw [List.mem_filter]
   exact ⟨h.1, by simpa using fun e : n = m => hne e.symm⟩

theorem Tok.fresh.ne_new {t : Tok} {T : Toks} (h : t.fresh T) : t.ne (.tk T.n) := by
 cases t with
 | no => exact h.elim
 | exact => trivial
 | tk n => exact Nat.ne_of_lt h.2

theorem Tok.fresh.new_ne {t : Tok} {T : Toks} (h : t.fresh T) : (Tok.tk T.n).ne t := by
 cases t with
 | no => exact h.elim
 | exact => trivial
 | tk n => exact Nat.ne_of_gt h.2

def FrT (ts : Nat → Tok) (T : Toks) : Prop := (∀ j, (ts j).fresh T) ∧ ∀ i j, i ≠ j → (ts i).ne (ts j)

theorem FrT.exact (T : Toks) : FrT (fun _ => .exact) T := ⟨fun _ => trivial, fun _ _ _ => trivial⟩

theorem FrT.upd {ts : Nat → Tok} {T : Toks} (h : FrT ts T) (i : Nat) : FrT (fun j => if j = i then .tk T.n else ts j) ⟨T.n + 1, T.n :: (ts i).drop T.l⟩ := by
 refine ⟨fun j => ?_, fun j k hjk => ?_⟩
 ·by_cases e : j = i
  ·simp only [e, if_true]; exact Tok.fresh_new _ _
  ·simp only [e, if_false]; exact (h.1 j).keep (h.2 i j (fun e' => e e'.symm))
 ·by_cases e : j = i
  ·by_cases e' : k = i
   ·exact absurd (e.trans e'.symm) hjk
   ·simp only [e, e', if_true, if_false]; exact (h.1 k).new_ne
  ·by_cases e' : k = i
   ·simp only [e, e', if_true, if_false]; exact (h.1 j).ne_new
   ·simp only [e, e', if_false]; exact h.2 j k hjk

end Go.Proofs.Ytefpoodhdfggdaa.AB

namespace Go.Proofs.Ytefpoodhdfggdaa.AB
open Go

section
variable {P : Program} {tt : TT} {Mine : Mn} {G : Gh} {hp : Hp} {T : Toks} {w w' : World} {X : XH}

theorem Inv.xnew (h : Inv Mine G hp T w) (h0 : hp[0]? = some (some (.heap X))) {w1 : World} {b0 : Nat} (hb0 : w.heap.size ≤ b0) (hb1 : b0 < w1.heap.size) (hw1 : ∀ k, k < w.heap.size → w1.heap[k]? = w.heap[k]?) (hst : Stp Mine w w1) (o : XO) (sz ct : Nat)
  (ho : XR Mine (G.setLoc 0 X.n (some b0, sz, ct)) w1 X.n o) :
  Inv Mine (G.setLoc 0 X.n (some b0, sz, ct)) (hp.set 0 (some (.heap (X.add o)))) T w1 ∧ Fz G (G.setLoc 0 X.n (some b0, sz, ct)) ∧
   Lc hp.length G (G.setLoc 0 X.n (some b0, sz, ct)) ∧ Stp Mine w w1 := by
 obtain ⟨-, h1, h2, h3⟩ := h.xor h0
 have h0l : 0 < hp.length := (List.getElem?_eq_some_iff.1 h0).1
 have hnone : G.loc 0 X.n = none := (h1 X.n (Nat.le_refl _)).2
 have hf : Fz G (G.setLoc 0 X.n (some b0, sz, ct)) := ⟨fun _ _ _ y => y, fun _ _ y => y, fun _ _ y => y, fun _ _ _ _ _ y => y⟩
 have hl : Lc hp.length G (G.setLoc 0 X.n (some b0, sz, ct)) := by
  intro j hj g y hy
  simp only [Gh.setLoc]
  rw [if_neg (fun e => by obtain ⟨rfl, rfl⟩ := e; rw [hnone] at hy; cases hy)]; exact hy
 have hlo : ∀ j g, j ≠ 0 → (G.setLoc 0 X.n (some b0, sz, ct)).loc j g = G.loc j g := by
  intro j g hj; simp only [Gh.setLoc]; rw [if_neg (fun e => hj e.1)]
 have hlg : ∀ g, g ≠ X.n → (G.setLoc 0 X.n (some b0, sz, ct)).loc 0 g = G.loc 0 g := by
  intro g hg; simp only [Gh.setLoc]; rw [if_neg (fun e => hg e.2)]
 have hln : (G.setLoc 0 X.n (some b0, sz, ct)).loc 0 X.n = some (some b0, sz, ct) := by simp [Gh.setLoc]
 have hnew : ∀ j p, (hp.set 0 (some (.heap (X.add o))))[j]? = some (some p) → (j ≠ 0 ∧ hp[j]? = some (some p)) ∨ (j = 0 ∧ p = .heap (X.add o)) := by
  intro j p hj
  rw [List.getElem?_set] at hj
  split at hj
  ·rename_i e
   first
    | (rw [if_pos (by omega)] at hj; cases hj; exact .inr ⟨e.symm, rfl⟩)
    | (cases hj; exact .inr ⟨e.symm, rfl⟩)
  ·rename_i e
   exact .inl ⟨fun e' => e e'.symm, hj⟩
 have hoth : ∀ j p b, j ≠ 0 → Owns (G.setLoc 0 X.n (some b0, sz, ct)) j p b → Owns G j p b := by
  rintro j p b hj ⟨g, s, c, k1, k2⟩
  exact ⟨g, s, c, k1, by rw [hlo _ _ hj] at k2; exact k2⟩
 have hown : ∀ b, Owns (G.setLoc 0 X.n (some b0, sz, ct)) 0 (.heap (X.add o)) b → b = b0 ∨ Owns G 0 (.heap X) b := by
  rintro b ⟨g, s, c, k1, k2⟩
  by_cases e : g = X.n
  ·subst e; rw [hln] at k2; cases k2; exact .inl rfl
  ·rw [hlg g e] at k2
   refine .inr ⟨g, s, c, ?_, k2⟩
   simpa [O.has, XH.add, e] using k1
 have hXb : ∀ k p, X.f k = some p → k ≠ X.n := by
  intro k p hk e; subst e; rw [(h1 X.n (Nat.le_refl _)).1] at hk; cases hk
 refine ⟨⟨?_, ?_, ?_, ?_, ?_, ?_, h.tinj, ?_, ?_, h.tfin, ?_, h.old⟩, hf, hl, ?_⟩
 ·intro b o' v hc
  rw [cell_of_heap (w := w) (by exact hw1 _ (h.cell_lt hc))]
  exact h.cells b o' v hc
 ·intro r es hr
  rw [hw1 _ (h.mp_lt hr)]
  exact h.mps r es hr
 ·intro j p hj
  rcases hnew j p hj with ⟨k1, k2⟩ | ⟨rfl, rfl⟩
  ·exact (h.objs j p k2).keep h.lb hf hl (fun b hb => ⟨hw1 _ ((h.objs j p k2).blk hb).2.2, id⟩) (fun _ _ g _ => hlo j g k1)
  ·refine ⟨rfl, fun k hk => ⟨?_, ?_⟩, fun k p hk => ?_, fun k k' b s c s' c' hne n1 n2 l1 l2 => ?_⟩
   ·simp only [XH.add] at hk ⊢
    rw [if_neg (by omega)]; exact (h1 k (by omega)).1
   ·simp only [XH.add] at hk
    rw [hlg k (by omega)]; exact (h1 k (by omega)).2
   ·simp only [XH.add] at hk
    split at hk
    ·rename_i e; subst e; cases hk; exact ho
    ·exact (h2 k p hk).keep h.lb hf hl fun b s c hb => ⟨hw1 _ ((h2 k p hk).blk hb).2.2, id⟩
   ·have small : ∀ k b s c, k ≠ X.n → (X.add o).f k ≠ none → (G.setLoc 0 X.n (some b0, sz, ct)).loc 0 k = some (some b, s, c) → b < w.heap.size := by
     intro k b s c e n1 l1
     rw [hlg k e] at l1
     simp only [XH.add, if_neg e] at n1
     cases hk : X.f k with
     | none => exact absurd hk n1
     | some p => exact ((h2 k p hk).blk l1).2.2
    by_cases e : k = X.n
    ·have e' : k' ≠ X.n := fun q => hne (e.trans q.symm)
     subst e
     have := small k' b s' c' e' n2 l2
     rw [hln] at l1; cases l1; omega
    ·by_cases e' : k' = X.n
     ·subst e'
      have := small k b s c e n1 l1
      rw [hln] at l2; cases l2; omega
     ·rw [hlg k e] at l1; rw [hlg k' e'] at l2
      simp only [XH.add, if_neg e] at n1
      simp only [XH.add, if_neg e'] at n2
      exact h3 k k' b s c s' c' hne n1 n2 l1 l2
 ·intro i j oi oj b hij hi hj li lj
  have main : ∀ j p, j ≠ 0 → hp[j]? = some (some p) → ∀ b, Owns G j p b → Owns (G.setLoc 0 X.n (some b0, sz, ct)) 0 (.heap (X.add o)) b → False := by
   intro j p hj hjp b l1 l2
   rcases hown b l2 with e | l2
   ·have := ((h.objs j p hjp).blk l1).2.2; omega
   ·exact h.inj j 0 p _ b hj hjp h0 l1 l2
  rcases hnew i oi hi with ⟨k1, k2⟩ | ⟨e1, e2⟩
  ·rcases hnew j oj hj with ⟨q1, q2⟩ | ⟨e3, e4⟩
   ·exact h.inj i j oi oj b hij k2 q2 (hoth _ _ _ k1 li) (hoth _ _ _ q1 lj)
   ·subst e3 e4; exact main i oi k1 k2 b (hoth _ _ _ k1 li) lj
  ·subst e1 e2
   rcases hnew j oj hj with ⟨q1, q2⟩ | ⟨e3, e4⟩
   ·exact main j oj q1 q2 b (hoth _ _ _ q1 lj) li
   ·exact hij e3.symm
 ·intro t ht
  obtain ⟨bo, e, c, k1, k2⟩ := h.toks t ht
  refine ⟨bo, e, c, k1, fun b hb => ?_⟩
  obtain ⟨q1, ⟨cur, el, q2, q3⟩, q4⟩ := k2 b hb
  exact ⟨q1, ⟨cur, el, by rw [hw1 _ (heap_lt q2)]; exact q2, q3⟩, q4⟩
 ·intro t ht i p b e c k1 hi' hl'
  rcases hnew i p hi' with ⟨q1, q2⟩ | ⟨e1, e2⟩
  ·exact h.tobj t ht i p b e c k1 q2 (hoth _ _ _ q1 hl')
  ·subst e1 e2
   rcases hown b hl' with e' | hl'
   ·obtain ⟨bo, e3, c3, q1, q2⟩ := h.toks t ht
    rw [show (G.setLoc _ _ _).tok t = G.tok t from rfl] at k1
    rw [k1] at q1; cases q1
    obtain ⟨_, ⟨cur, el, q3, _⟩, _⟩ := q2 b rfl
    have := heap_lt q3
    omega
   ·exact h.tobj t ht 0 _ b e c k1 h0 hl'
 ·intro i g hig
  simp only [List.length_set] at hig
  rw [hlo i g (by omega)]; exact h.lb i g hig
 ·intro i p g hi' hg
  rcases hnew i p hi' with ⟨q1, q2⟩ | ⟨e1, e2⟩
  ·rw [hlo i g q1]; exact h.gens i p g q2 hg
  ·subst e1 e2
   simp only [O.gen, XH.add] at hg
   rw [hlg g (by omega)]; exact (h1 g (by omega)).2
 ·intro b hb
  exact h.mine b (by omega)
 ·exact hst


end
end Go.Proofs.Ytefpoodhdfggdaa.AB

namespace Go.Proofs.Ytefpoodhdfggdaa.AB
open Go


abbrev cT : Xd := yZ2
abbrev cL : Xd := yZ3
abbrev cN : Xd := .pure (.int .i64)
abbrev eqN (k : Int) : Int → Bool := Cd.keq (.int .i64) k

theorem eqN_iff {a b : Int} : eqN a b = true ↔ a = b := by
 show Cd.keq (.int .i64) a b = true ↔ _
 simp [Cd.keq]

abbrev PL := Int × Int × Int × List Int

structure PD where
 es : List (Int × PL)
 ws : List (Int × Int)
 turn : Int

structure MD where
 hH : Nat
 hW : Nat
 p : PD
 h : Int → Nat
 sl : Int → Option SlH

def MD.tv (d : MD) : cT.T := (some d.hH, some d.hW, d.p.turn)
def lvOf (s : Option SlH) (l : PL) : cL.T := (l.1, l.2.1, l.2.2.1, s, ())
def MD.hes (d : MD) : List (Int × Option Nat) := d.p.es.map fun e => (e.1, some (d.h e.1))

def MD.hs (d : MD) (t : Nat) : List Nat := t :: d.hH :: d.hW :: d.p.es.flatMap fun e => d.h e.1 :: hl (d.sl e.1)

structure MRep (X : XH) (t : Nat) (d : MD) : Prop where
 box : Box X cT t d.tv
 mh : X.at d.hH = some (.map (.int .i64) (.ref cL) d.hes)
 mw : X.at d.hW = some (.map (.int .i64) cN d.p.ws)
 lk : ∀ e ∈ d.p.es, Box X cL (d.h e.1) (lvOf (d.sl e.1) e.2) ∧ SlAt X cN (d.sl e.1) e.2.2.2.2
 nd : (d.p.es.map (·.1)).Nodup
 n1 : t ≠ d.hH ∧ t ≠ d.hW ∧ d.hH ≠ d.hW
 n2 : ∀ e ∈ d.p.es, d.h e.1 ≠ t ∧ d.h e.1 ≠ d.hH ∧ d.h e.1 ≠ d.hW
 n3 : ∀ e ∈ d.p.es, ∀ k ∈ hl (d.sl e.1), k ≠ t ∧ k ≠ d.hH ∧ k ≠ d.hW ∧ ∀ e' ∈ d.p.es, k ≠ d.h e'.1
 n4 : ∀ e ∈ d.p.es, ∀ e' ∈ d.p.es, e.1 ≠ e'.1 → d.h e.1 ≠ d.h e'.1 ∧ ∀ k ∈ hl (d.sl e.1), k ∉ hl (d.sl e'.1)

variable {X X' : XH} {t : Nat} {d : MD}

theorem mem_mhs {k : Nat} : k ∈ d.hs t ↔ k = t ∨ k = d.hH ∨ k = d.hW ∨ ∃ e ∈ d.p.es, k = d.h e.1 ∨ k ∈ hl (d.sl e.1) := by
 simp [MD.hs, List.mem_flatMap]

theorem MRep.lt (h : MRep X t d) : ∀ k ∈ d.hs t, k < X.n := by
 intro k hk
 rcases mem_mhs.1 hk with rfl | rfl | rfl | ⟨e, he, rfl | hk⟩
 ·exact h.box.lt
 ·exact at_lt h.mh
 ·exact at_lt h.mw
 ·exact (h.lk e he).1.lt
 ·exact (h.lk e he).2.lt k hk

theorem MRep.keep (h : MRep X t d) (e : ∀ k ∈ d.hs t, X'.at k = X.at k) : MRep X' t d :=
 ⟨h.box.keep (e _ (mem_mhs.2 (.inl rfl))), (e _ (mem_mhs.2 (.inr (.inl rfl)))).trans h.mh, (e _ (mem_mhs.2 (.inr (.inr (.inl rfl))))).trans h.mw,
  fun x hx => ⟨(h.lk x hx).1.keep (e _ (mem_mhs.2 (.inr (.inr (.inr ⟨x, hx, .inl rfl⟩))))), (h.lk x hx).2.keep fun j hj => e _ (mem_mhs.2 (.inr (.inr (.inr ⟨x, hx, .inr hj⟩))))⟩, h.nd, h.n1, h.n2, h.n3, h.n4⟩

theorem MRep.mv {S S' : List Nat} (h : MRep X t d) (m : Mv X S X' S') (hd : ∀ k ∈ d.hs t, k ∉ S) : MRep X' t d := h.keep fun k hk => m.keep k (h.lt k hk) (hd k hk)

theorem mfind_mem {α : Type} : ∀ {es : List (Int × α)} {o : Int} {a : α}, mfind (eqN o) es = some a → (o, a) ∈ es
 | (k, b) :: r, o, a, h => by
  unfold mfind at h
  cases hk : eqN o k with
  | true =>
   rw [hk] at h
   have := eqN_iff.1 hk
   subst this
   simp only [Option.some.injEq] at h
   subst h
   exact List.mem_cons_self ..
  | false =>
   rw [hk] at h
   exact List.mem_cons_of_mem _ (mfind_mem h)

theorem mfind_none {α : Type} : ∀ {es : List (Int × α)} {o : Int}, mfind (eqN o) es = none → ∀ e ∈ es, e.1 ≠ o
 | (k, b) :: r, o, h, e, he => by
  unfold mfind at h
  cases hk : eqN o k with
  | true => rw [hk] at h; cases h
  | false =>
   rw [hk] at h
   rcases List.mem_cons.1 he with rfl | he
   ·rintro rfl
    rw [eqN_iff.2 rfl] at hk; cases hk
   ·exact mfind_none h e he

theorem mfind_of {α : Type} : ∀ {es : List (Int × α)} {o : Int} {a : α}, (es.map (·.1)).Nodup → (o, a) ∈ es → mfind (eqN o) es = some a
 | (k, b) :: r, o, a, hn, h => by
  rw [List.map_cons, List.nodup_cons] at hn
  unfold mfind
  rcases List.mem_cons.1 h with h1 | h1
  ·cases h1
   rw [eqN_iff.2 rfl]
  ·have : eqN o k = false := by
    cases hk : eqN o k with
    | false => rfl
    | true => exact absurd (List.mem_map.2 ⟨_, h1, (eqN_iff.1 hk)⟩) hn.1
   rw [this]
   exact mfind_of hn.2 h1

theorem mfind_map {α β : Type} (f : Int → β) : ∀ (es : List (Int × α)) (o : Int), mfind (eqN o) (es.map fun e => (e.1, f e.1)) = (mfind (eqN o) es).map fun _ => f o
 | [], o => rfl
 | (k, b) :: r, o => by
  simp only [List.map_cons]
  unfold mfind
  cases hk : eqN o k with
  | true =>
   have := eqN_iff.1 hk
   subst this
   rfl
  | false => exact mfind_map f r o

theorem mset_absent {α : Type} {es : List (Int × α)} {o : Int} {a : α} (h : mfind (eqN o) es = none) : mset (eqN o) o a es = es ++ [(o, a)] :=
 mset_none fun e he => by
  cases hk : eqN o e.1 with
  | false => rfl
  | true => exact absurd (eqN_iff.1 hk).symm (mfind_none h e he)

theorem mdel_eq {α : Type} : ∀ (es : List (Int × α)) (o : Int), (es.map (·.1)).Nodup → mdel (eqN o) es = es.filter fun e => !(eqN o e.1)
 | [], o, _ => rfl
 | (k, b) :: r, o, hn => by
  rw [List.map_cons, List.nodup_cons] at hn
  unfold mdel
  rw [List.filter_cons]
  cases hk : eqN o k with
  | true =>
   have := eqN_iff.1 hk
   subst this
   simp only [hk, Bool.not_true, Bool.false_eq_true, if_false]
   symm
   rw [List.filter_eq_self]
   intro e he
   cases hk2 : eqN o e.1 with
   | false => rfl
   | true => exact absurd (List.mem_map.2 ⟨e, he, (eqN_iff.1 hk2).symm⟩) hn.1
  | false =>
   simp only [hk, Bool.not_false, if_true]
   rw [mdel_eq r o hn.2]

theorem MRep.find (h : MRep X t d) (o : Int) : mfind (eqN o) d.hes = (mfind (eqN o) d.p.es).map fun _ => some (d.h o) := mfind_map (fun k => some (d.h k)) d.p.es o

def updK (es : List (Int × PL)) (o : Int) (l : PL) : List (Int × PL) := es.map fun e => if e.1 = o then (o, l) else e

theorem updK_keys (es : List (Int × PL)) (o : Int) (l : PL) : (updK es o l).map (·.1) = es.map (·.1) := by
 unfold updK
 rw [List.map_map]
 refine List.map_congr_left fun e _ => ?_
 simp only [Function.comp]
 split
 ·rename_i h; exact h.symm
 ·rfl

theorem updK_mem {es : List (Int × PL)} {o : Int} {l : PL} {e : Int × PL} (h : e ∈ updK es o l) : (e = (o, l) ∧ ∃ l0, (o, l0) ∈ es) ∨ (e.1 ≠ o ∧ e ∈ es) := by
 unfold updK at h
 obtain ⟨x, hx, rfl⟩ := List.mem_map.1 h
 split
 ·rename_i hq
  subst hq
  exact .inl ⟨rfl, x.2, hx⟩
 ·rename_i hq; exact .inr ⟨hq, hx⟩

theorem updK_find {es : List (Int × PL)} {o : Int} {l l0 : PL} (h : mfind (eqN o) es = some l0) (q : Int) : mfind (eqN q) (updK es o l) = if q = o then some l else mfind (eqN q) es := by
 unfold updK
 induction es with
 | nil => simp [mfind] at h
 | cons x r ih =>
  obtain ⟨k, b⟩ := x
  simp only [List.map_cons]
  unfold mfind at h ⊢
  by_cases hk : k = o
  ·subst hk
   simp only [↓reduceIte]
   by_cases hq : q = k
   ·subst hq; simp only [eqN_iff.2 rfl, ↓reduceIte]
   ·have : eqN q k = false := by
     cases hc : eqN q k with
     | false => rfl
     | true => exact absurd (eqN_iff.1 hc) hq
    simp only [this, if_neg hq]
    have hmap : ∀ r : List (Int × PL), mfind (eqN q) (r.map fun e => if e.1 = k then (k, l) else e) = mfind (eqN q) r := by
     intro r
     induction r with
     | nil => rfl
     | cons y r ih =>
      simp only [List.map_cons]
      unfold mfind
      by_cases hy : y.1 = k
      ·obtain ⟨y1, y2⟩ := y
       simp only at hy
       subst hy
       simp only [↓reduceIte, this]
       exact ih
      ·simp only [if_neg hy]
       rw [ih]
    exact hmap r
  ·have hok : eqN o k = false := by
    cases hc : eqN o k with
    | false => rfl
    | true => exact absurd (eqN_iff.1 hc).symm hk
   simp only [hok] at h
   simp only [if_neg hk]
   cases hqk : eqN q k with
   | true =>
    have := eqN_iff.1 hqk
    subst this
    rw [if_neg hk]
   | false => exact ih h

theorem MRep.lock (h : MRep X t d) {o : Int} {l l' : PL} (ho : mfind (eqN o) d.p.es = some l) {s' : Option SlH} (hs : SlAt X' cN s' l'.2.2.2) (m : Mv X (hl (d.sl o)) X' (hl s')) :
  MRep (X'.set (d.h o) (.arr cL [lvOf s' l'])) t { d with p := { d.p with es := updK d.p.es o l' }, sl := fun k => if k = o then s' else d.sl k } ∧
   Mv X (d.hs t) (X'.set (d.h o) (.arr cL [lvOf s' l'])) (MD.hs { d with p := { d.p with es := updK d.p.es o l' }, sl := fun k => if k = o then s' else d.sl k } t) := by
 have hmem := mfind_mem ho
 obtain ⟨a1, a2, a3⟩ := h.n1
 obtain ⟨b1, b2, b3⟩ := h.n2 _ hmem
 simp only at b1 b2 b3
 -- what the slice's handles are none of
 have notIn : ∀ k ∈ d.hs t, k ∉ hl (d.sl o) → X'.at k = X.at k := fun k hk hn => m.keep k (h.lt k hk) hn
 have hsnew : ∀ k ∈ hl s', k ∈ hl (d.sl o) ∨ X.n ≤ k := m.own
 have hho : X'.at (d.h o) = X.at (d.h o) := notIn _ (mem_mhs.2 (.inr (.inr (.inr ⟨_, hmem, .inl rfl⟩)))) fun q => (h.n3 _ hmem _ q).2.2.2 _ hmem rfl
 have hbo : Box X' cL (d.h o) (lvOf (d.sl o) l) := (h.lk _ hmem).1.keep hho
 have key : ∀ {e : Int × PL}, e ∈ updK d.p.es o l' → ∃ x ∈ d.p.es, x.1 = e.1 := by
  intro e he
  rcases updK_mem he with ⟨rfl, l0, hl0⟩ | ⟨_, he⟩
  ·exact ⟨_, hl0, rfl⟩
  ·exact ⟨e, he, rfl⟩
 have hsn : ∀ k ∈ hl s', k ≠ t ∧ k ≠ d.hH ∧ k ≠ d.hW ∧ ∀ e' ∈ d.p.es, k ≠ d.h e'.1 := by
  intro k hk
  rcases hsnew k hk with hk | hk
  ·exact h.n3 _ hmem k hk
  ·have l1 := h.box.lt
   have l2 := at_lt h.mh
   have l3 := at_lt h.mw
   refine ⟨by omega, by omega, by omega, fun e' he' => ?_⟩
   have := (h.lk e' he').1.lt
   omega
 refine ⟨⟨?_, ?_, ?_, fun e he => ?_, by rw [updK_keys]; exact h.nd, h.n1, fun e he => ?_, fun e he k hk => ?_, fun e he e' he' hne => ?_⟩, ?_⟩
 ·exact h.box.keep ((at_set_ne b1.symm).trans (notIn _ (mem_mhs.2 (.inl rfl)) fun q => (h.n3 _ hmem _ q).1 rfl))
 ·rw [at_set_ne b2.symm, notIn _ (mem_mhs.2 (.inr (.inl rfl))) fun q => (h.n3 _ hmem _ q).2.1 rfl, h.mh]
  congr 2
  show d.hes = (updK d.p.es o l').map fun e => (e.1, some (d.h e.1))
  unfold MD.hes
  have : ∀ es : List (Int × PL), es.map (fun e => (e.1, some (d.h e.1))) = (es.map (·.1)).map fun k => (k, some (d.h k)) := fun es => by rw [List.map_map]; rfl
  rw [this, this (updK d.p.es o l'), updK_keys]
 ·exact (at_set_ne b3.symm).trans ((notIn _ (mem_mhs.2 (.inr (.inr (.inl rfl)))) fun q => (h.n3 _ hmem _ q).2.2.1 rfl).trans h.mw)
 ·rcases updK_mem he with ⟨rfl, l0, hl0⟩ | ⟨hne, he⟩
  ·simp only [↓reduceIte]
   refine ⟨hbo.set, hs.keep fun k hk => at_set_ne ?_⟩
   exact (hsn k hk).2.2.2 _ hmem
  ·simp only [if_neg hne]
   obtain ⟨c1, c2⟩ := h.n4 e he _ hmem hne
   refine ⟨(h.lk e he).1.keep ((at_set_ne c1).trans (notIn _ (mem_mhs.2 (.inr (.inr (.inr ⟨e, he, .inl rfl⟩)))) fun q => (h.n3 _ hmem _ q).2.2.2 e he rfl)), (h.lk e he).2.keep fun k hk => ?_⟩
   exact (at_set_ne ((h.n3 e he k hk).2.2.2 _ hmem)).trans (notIn _ (mem_mhs.2 (.inr (.inr (.inr ⟨e, he, .inr hk⟩)))) (c2 k hk))
 ·obtain ⟨x, hx, hxe⟩ := key he
  have := h.n2 x hx
  rw [hxe] at this
  exact this
 ·have hall : ∀ e' ∈ updK d.p.es o l', ∃ x ∈ d.p.es, x.1 = e'.1 := fun e' he' => key he'
  rcases updK_mem he with ⟨rfl, l0, hl0⟩ | ⟨hne, he⟩
  ·simp only [↓reduceIte] at hk
   obtain ⟨c1, c2, c3, c4⟩ := hsn k hk
   refine ⟨c1, c2, c3, fun e' he' => ?_⟩
   obtain ⟨x, hx, hxe⟩ := hall e' he'
   rw [← hxe]; exact c4 x hx
  ·simp only [if_neg hne] at hk
   obtain ⟨c1, c2, c3, c4⟩ := h.n3 e he k hk
   refine ⟨c1, c2, c3, fun e' he' => ?_⟩
   obtain ⟨x, hx, hxe⟩ := hall e' he'
   rw [← hxe]; exact c4 x hx
 ·have newOld : ∀ y ∈ d.p.es, y.1 ≠ o → ∀ k ∈ hl s', k ∉ hl (d.sl y.1) := by
   intro y hy hyo k hk q
   rcases hsnew k hk with hk | hk
   ·exact (h.n4 _ hmem y hy (Ne.symm hyo)).2 k hk q
   ·exact absurd ((h.lk y hy).2.lt k q) (by omega)
  rcases updK_mem he with ⟨rfl, l0, hl0⟩ | ⟨hne1, he⟩
  ·rcases updK_mem he' with ⟨rfl, _, _⟩ | ⟨hne2, he'⟩
   ·exact absurd rfl hne
   ·simp only [↓reduceIte, if_neg hne2]
    exact ⟨(h.n4 _ hmem e' he' (Ne.symm hne2)).1, newOld e' he' hne2⟩
  ·rcases updK_mem he' with ⟨rfl, _, _⟩ | ⟨hne2, he'⟩
   ·simp only [↓reduceIte, if_neg hne1]
    exact ⟨(h.n4 e he _ hmem hne1).1, fun k hk q => newOld e he hne1 k q hk⟩
   ·simp only [if_neg hne1, if_neg hne2]
    exact h.n4 e he e' he' hne
 ·have m2 : Mv X (d.hs t) X' (MD.hs { d with p := { d.p with es := updK d.p.es o l' }, sl := fun k => if k = o then s' else d.sl k } t) := by
   refine ⟨m.n, fun k hk hn => m.keep k hk fun q => hn (mem_mhs.2 (.inr (.inr (.inr ⟨_, hmem, .inr q⟩)))), fun k hk => ?_⟩
   rcases mem_mhs.1 hk with rfl | rfl | rfl | ⟨e, he, hk⟩
   ·exact .inl (mem_mhs.2 (.inl rfl))
   ·exact .inl (mem_mhs.2 (.inr (.inl rfl)))
   ·exact .inl (mem_mhs.2 (.inr (.inr (.inl rfl))))
   ·rcases updK_mem he with ⟨rfl, l0, hl0⟩ | ⟨hne, he⟩
    ·simp only [↓reduceIte] at hk
     rcases hk with rfl | hk
     ·exact .inl (mem_mhs.2 (.inr (.inr (.inr ⟨_, hmem, .inl rfl⟩))))
     ·exact (hsnew k hk).imp (fun q => mem_mhs.2 (.inr (.inr (.inr ⟨_, hmem, .inr q⟩)))) id
    ·simp only [if_neg hne] at hk
     exact .inl (mem_mhs.2 (.inr (.inr (.inr ⟨e, he, hk⟩))))
  refine m2.trans (Mv.set (mem_mhs.2 (.inr (.inr (.inr ?_)))))
  have hk : o ∈ (updK d.p.es o l').map (·.1) := by rw [updK_keys]; exact List.mem_map.2 ⟨_, hmem, rfl⟩
  obtain ⟨e, he, hee⟩ := List.mem_map.1 hk
  exact ⟨e, he, .inl (by rw [hee])⟩

theorem MRep.turn (h : MRep X t d) (n : Int) : MRep (X.set t (.arr cT [(some d.hH, some d.hW, n)])) t { d with p := { d.p with turn := n } } ∧ Mv X (d.hs t) (X.set t (.arr cT [(some d.hH, some d.hW, n)])) (MD.hs { d with p := { d.p with turn := n } } t) := by
 obtain ⟨a1, a2, a3⟩ := h.n1
 exact ⟨⟨h.box.set, (at_set_ne a1.symm).trans h.mh, (at_set_ne a2.symm).trans h.mw, fun e he => ⟨(h.lk e he).1.keep (at_set_ne (h.n2 e he).1), (h.lk e he).2.keep fun k hk => at_set_ne (h.n3 e he k hk).1⟩, h.nd, h.n1, h.n2, h.n3, h.n4⟩, Mv.set (mem_mhs.2 (.inl rfl))⟩

theorem MRep.waits (h : MRep X t d) (ws : List (Int × Int)) : MRep (X.set d.hW (.map (.int .i64) cN ws)) t { d with p := { d.p with ws := ws } } ∧ Mv X (d.hs t) (X.set d.hW (.map (.int .i64) cN ws)) (MD.hs { d with p := { d.p with ws := ws } } t) := by
 obtain ⟨a1, a2, a3⟩ := h.n1
 exact ⟨⟨h.box.keep (at_set_ne a2), (at_set_ne a3).trans h.mh, at_set_self h.mw, fun e he => ⟨(h.lk e he).1.keep (at_set_ne (h.n2 e he).2.2), (h.lk e he).2.keep fun k hk => at_set_ne (h.n3 e he k hk).2.2.1⟩, h.nd, h.n1, h.n2, h.n3, h.n4⟩, Mv.set (mem_mhs.2 (.inr (.inr (.inl rfl))))⟩

theorem MRep.drop (h : MRep X t d) (o : Int) : MRep (X.set d.hH (.map (.int .i64) (.ref cL) (mdel (eqN o) d.hes))) t { d with p := { d.p with es := mdel (eqN o) d.p.es } } ∧
  Mv X (d.hs t) (X.set d.hH (.map (.int .i64) (.ref cL) (mdel (eqN o) d.hes))) (MD.hs { d with p := { d.p with es := mdel (eqN o) d.p.es } } t) := by
 obtain ⟨a1, a2, a3⟩ := h.n1
 have he : mdel (eqN o) d.p.es = d.p.es.filter fun e => !(eqN o e.1) := mdel_eq _ _ h.nd
 have hk : d.hes.map (·.1) = d.p.es.map (·.1) := by unfold MD.hes; rw [List.map_map]; rfl
 have hhe : mdel (eqN o) d.hes = (mdel (eqN o) d.p.es).map fun e => (e.1, some (d.h e.1)) := by
  rw [mdel_eq _ _ (by rw [hk]; exact h.nd), he]
  unfold MD.hes
  rw [List.filter_map]
  rfl
 have hin : ∀ e ∈ mdel (eqN o) d.p.es, e ∈ d.p.es := fun e hx => by rw [he] at hx; exact (List.mem_filter.1 hx).1
 refine ⟨⟨h.box.keep (at_set_ne a1), ?_, (at_set_ne a3.symm).trans h.mw, fun e hx => ⟨(h.lk e (hin e hx)).1.keep (at_set_ne (h.n2 e (hin e hx)).2.1), (h.lk e (hin e hx)).2.keep fun k hk => at_set_ne (h.n3 e (hin e hx) k hk).2.1⟩, ?_, h.n1, fun e hx => h.n2 e (hin e hx),
  fun e hx k hk => ⟨(h.n3 e (hin e hx) k hk).1, (h.n3 e (hin e hx) k hk).2.1, (h.n3 e (hin e hx) k hk).2.2.1, fun e' hx' => (h.n3 e (hin e hx) k hk).2.2.2 e' (hin e' hx')⟩, fun e hx e' hx' => h.n4 e (hin e hx) e' (hin e' hx')⟩, ?_⟩
 ·rw [at_set_self h.mh, hhe]; rfl
 ·show ((mdel (eqN o) d.p.es).map (·.1)).Nodup
  rw [he]
  exact h.nd.sublist (List.filter_sublist.map _)
 ·refine (Mv.set (mem_mhs.2 (.inr (.inl rfl)))).weak (fun k hk => hk) fun k hk => .inr ?_
  rcases mem_mhs.1 hk with rfl | rfl | rfl | ⟨e, hx, hk⟩
  ·exact mem_mhs.2 (.inl rfl)
  ·exact mem_mhs.2 (.inr (.inl rfl))
  ·exact mem_mhs.2 (.inr (.inr (.inl rfl)))
  ·exact mem_mhs.2 (.inr (.inr (.inr ⟨e, hin e hx, hk⟩)))

theorem MRep.fresh (h : MRep X t d) {o : Int} (ho : mfind (eqN o) d.p.es = none) (l : PL) (hl0 : l.2.2.2 = []) :
  MRep ((X.add (.arr cL [lvOf none l])).set d.hH (.map (.int .i64) (.ref cL) (mset (eqN o) o (some X.n) d.hes))) t
   { d with p := { d.p with es := d.p.es ++ [(o, l)] }, h := fun k => if k = o then X.n else d.h k, sl := fun k => if k = o then none else d.sl k } ∧
  Mv X (d.hs t) ((X.add (.arr cL [lvOf none l])).set d.hH (.map (.int .i64) (.ref cL) (mset (eqN o) o (some X.n) d.hes)))
   (MD.hs { d with p := { d.p with es := d.p.es ++ [(o, l)] }, h := fun k => if k = o then X.n else d.h k, sl := fun k => if k = o then none else d.sl k } t) := by
 obtain ⟨a1, a2, a3⟩ := h.n1
 have hno := mfind_none ho
 have l1 := h.box.lt
 have l2 := at_lt h.mh
 have l3 := at_lt h.mw
 have hfo : mfind (eqN o) d.hes = none := by rw [h.find, ho]; rfl
 have hes' : mset (eqN o) o (some X.n) d.hes = (d.p.es ++ [(o, l)]).map fun e => (e.1, some (if e.1 = o then X.n else d.h e.1)) := by
  rw [mset_absent hfo, List.map_append]
  congr 1
  ·unfold MD.hes
   refine List.map_congr_left fun e he => ?_
   rw [if_neg (hno e he)]
  ·simp
 have old : ∀ k ∈ d.hs t, k ≠ d.hH → ((X.add (.arr cL [lvOf none l])).set d.hH (.map (.int .i64) (.ref cL) (mset (eqN o) o (some X.n) d.hes))).at k = X.at k := fun k hk hne => by
  rw [at_set_ne hne, at_add_old (h.lt k hk)]
 have isnew : ∀ {e : Int × PL}, e ∈ d.p.es ++ [(o, l)] → (e ∈ d.p.es ∧ e.1 ≠ o) ∨ e = (o, l) := by
  intro e he
  rcases List.mem_append.1 he with he | he
  ·exact .inl ⟨he, hno e he⟩
  ·exact .inr (List.mem_singleton.1 he)
 refine ⟨⟨?_, ?_, ?_, fun e he => ?_, ?_, h.n1, fun e he => ?_, fun e he k hk => ?_, fun e he e' he' hne => ?_⟩, ?_⟩
 ·exact h.box.keep (old _ (mem_mhs.2 (.inl rfl)) a1)
 ·show ((X.add (.arr cL [lvOf none l])).set d.hH (.map (.int .i64) (.ref cL) (mset (eqN o) o (some X.n) d.hes))).at d.hH = _
  have : (X.add (.arr cL [lvOf none l])).at d.hH = some (.map (.int .i64) (.ref cL) d.hes) := by rw [at_add_old l2]; exact h.mh
  rw [at_set_self this, hes']; rfl
 ·exact (old _ (mem_mhs.2 (.inr (.inr (.inl rfl)))) a3.symm).trans h.mw
 ·rcases isnew he with ⟨he, hne⟩ | rfl
  ·simp only [if_neg hne]
   exact ⟨(h.lk e he).1.keep (old _ (mem_mhs.2 (.inr (.inr (.inr ⟨e, he, .inl rfl⟩)))) (h.n2 e he).2.1), (h.lk e he).2.keep fun k hk => old _ (mem_mhs.2 (.inr (.inr (.inr ⟨e, he, .inr hk⟩)))) (h.n3 e he k hk).2.1⟩
  ·simp only [↓reduceIte]
   refine ⟨?_, hl0⟩
   show ((X.add (.arr cL [lvOf none l])).set d.hH _).at X.n = _
   rw [at_set_ne (by omega)]; exact at_add_new _ _
 ·show ((d.p.es ++ [(o, l)]).map (·.1)).Nodup
  rw [List.map_append, List.nodup_append]
  refine ⟨h.nd, by simp, fun a ha b hb => ?_⟩
  simp only [List.map_cons, List.map_nil, List.mem_singleton] at hb
  subst hb
  obtain ⟨e, he, rfl⟩ := List.mem_map.1 ha
  exact hno e he
 ·rcases isnew he with ⟨he, hne⟩ | rfl
  ·simp only [if_neg hne]; exact h.n2 e he
  ·simp only [↓reduceIte]
   exact ⟨by omega, by omega, by omega⟩
 ·rcases isnew he with ⟨he, hne⟩ | rfl
  ·simp only [if_neg hne] at hk
   obtain ⟨c1, c2, c3, c4⟩ := h.n3 e he k hk
   refine ⟨c1, c2, c3, fun e' he' => ?_⟩
   have hkl := (h.lk e he).2.lt k hk
   rcases isnew he' with ⟨he', hne'⟩ | rfl
   ·simp only [if_neg hne']; exact c4 e' he'
   ·simp only [↓reduceIte]; omega
  ·simp only [↓reduceIte] at hk
   cases hk
 ·rcases isnew he with ⟨he, hne1⟩ | rfl
  ·rcases isnew he' with ⟨he', hne2⟩ | rfl
   ·simp only [if_neg hne1, if_neg hne2]; exact h.n4 e he e' he' hne
   ·simp only [↓reduceIte, if_neg hne1]
    have := (h.lk e he).1.lt
    exact ⟨by omega, fun k hk q => by cases q⟩
  ·rcases isnew he' with ⟨he', hne2⟩ | rfl
   ·simp only [↓reduceIte, if_neg hne2]
    have := (h.lk e' he').1.lt
    exact ⟨by omega, fun k hk => by cases hk⟩
   ·exact absurd rfl hne
 ·refine ⟨by show X.n ≤ X.n + 1; omega, fun k hk hn => ?_, fun k hk => ?_⟩
  ·rw [at_set_ne (fun q : k = d.hH => hn (mem_mhs.2 (.inr (.inl q)))), at_add_old hk]
  ·rcases mem_mhs.1 hk with rfl | rfl | rfl | ⟨e, he, hk⟩
   ·exact .inl (mem_mhs.2 (.inl rfl))
   ·exact .inl (mem_mhs.2 (.inr (.inl rfl)))
   ·exact .inl (mem_mhs.2 (.inr (.inr (.inl rfl))))
   ·rcases isnew he with ⟨he, hne⟩ | rfl
    ·simp only [if_neg hne] at hk
     exact .inl (mem_mhs.2 (.inr (.inr (.inr ⟨e, he, hk⟩))))
    ·simp only [↓reduceIte] at hk
     rcases hk with rfl | hk
     ·exact .inr (Nat.le_refl _)
     ·cases hk

end Go.Proofs.Ytefpoodhdfggdaa.AB

namespace Go.Proofs.Ytefpoodhdfggdaa.AB
open Go

variable {X X' : XH} {c : Xd} {l : List c.T}

theorem SlAt.cut {s : SlH} (h : SlAt X c (some s) l) {p q m : Nat} (h1 : p ≤ q) (h2 : q ≤ m) (h3 : m ≤ s.cap) (h4 : q ≤ s.len) : SlAt X c (slCut (some s) p q m) ((l.take q).drop p) := by
 obtain ⟨a, ha, hb, hc, hl⟩ := h
 refine ⟨a, ha, ?_, ?_, ?_⟩
 ·dsimp only; omega
 ·dsimp only; omega
 ·dsimp only
  refine List.ext_getElem? fun i => ?_
  rw [List.getElem?_drop, List.getElem?_take, List.getElem?_take, List.getElem?_drop, hl, List.getElem?_take, List.getElem?_drop]
  by_cases e : p + i < q
  ·rw [if_pos e, if_pos (by omega), if_pos (by omega)]; congr 1; omega
  ·rw [if_neg e, if_neg (by omega)]

theorem SlAt.behind {s : SlH} (h : SlAt X c (some s) l) {k : Nat} {l' : List c.T} (hk : s.len ≤ k) (hl' : k + l'.length ≤ s.cap) {a : List c.T} (ha : X.at s.h = some (.arr c a)) :
  SlAt (X.set s.h (.arr c (AB.over a (s.off + k) l'))) c (some s) l := by
 obtain ⟨a', ha', hb, hc, hl⟩ := h
 rw [ha] at ha'
 cases ha'
 refine ⟨_, at_set_self ha, ?_, hc, ?_⟩
 ·rw [over_length (by omega)]; exact hb
 ·rw [hl]
  refine List.ext_getElem? fun i => ?_
  rw [List.getElem?_take, List.getElem?_take]
  by_cases e : i < s.len
  ·rw [if_pos e, if_pos e, List.getElem?_drop, List.getElem?_drop, over_get (by omega), if_neg (by omega)]
  ·rw [if_neg e, if_neg e]

theorem SlAt.over {s : SlH} (h : SlAt X c (some s) l) {k : Nat} {l' : List c.T} (hk : k + l'.length ≤ s.len) : SlAt (X.over c (some s) k l') c (some s) (AB.over l k l') ∧ Mv X (hl (some s)) (X.over c (some s) k l') (hl (some s)) := by
 obtain ⟨a, ha, hb, hc, hl⟩ := h
 rw [XH.over_eq ha]
 refine ⟨⟨_, at_set_self ha, ?_, hc, ?_⟩, Mv.set (by simp [AB.hl])⟩
 ·rw [over_length (by omega)]; exact hb
 ·have hll : l.length = s.len := by rw [hl]; simp; omega
  refine List.ext_getElem? fun i => ?_
  rw [List.getElem?_take, over_get (by omega), List.getElem?_drop, over_get (by omega)]
  by_cases e : i < s.len
  ·rw [if_pos e]
   by_cases e2 : k ≤ i ∧ i < k + l'.length
   ·rw [if_pos e2, if_pos (by omega)]
    congr 1; omega
   ·rw [if_neg e2, if_neg (by omega), hl, List.getElem?_take, if_pos e, List.getElem?_drop]
  ·rw [if_neg e, if_neg (by omega), List.getElem?_eq_none (by omega)]

end Go.Proofs.Ytefpoodhdfggdaa.AB

set_option maxRecDepth 100000
set_option maxHeartbeats 2000000
namespace Go.Proofs.Ytefpoodhdfggdaa.AB
open Go
noncomputable def X29 : Cx := ⟨tt, [], [], [(29, [(1, 0, .x (.mp (.int .i64) (.ref yZ3))), (1, 1, .x (.mp (.int .i64) (.pure (.int .i64)))), (1, 2, .x yZ2), (1, 3, .x yZ2)])], [], []⟩
theorem FN29 : fnsB Try.prog X29.fns := (show True from trivial)
theorem E29 (X : XH) {R : ((Option Nat)) → XH → Prop} (h : (∀ (X1 : XH), X1 = (XH.add X (.map (.int .i64) (.ref yZ3) [])) → (∀ (X2 : XH), X2 = (XH.add X1 (.map (.int .i64) (.pure (.int .i64)) [])) → (∀ (X3 : XH), X3 = (XH.add X2 (.arr yZ2 [((some X.n), ((some X1.n), (0 : Int)))])) → R (some X2.n) X3)))) :
 fnK X29.tt (callN Try.prog X29 0) (X29.md 29) (X29.mk1 29) Try.f29 [] ⟨[], [some (.heap X)], ⟨0, []⟩⟩ (xfin [(.ref yZ2)] R) := Eq.mp (by kernel_rfl) h
end Go.Proofs.Ytefpoodhdfggdaa.AB

set_option maxRecDepth 100000
set_option maxHeartbeats 2000000
namespace Go.Proofs.Ytefpoodhdfggdaa.AB
open Go
noncomputable def X31 : Cx := ⟨tt, [], [(61, []), (62, [])], [(31, [(6, 4, .xc), (10, 5, .x yZ3), (10, 6, .x yZ3), (11, 8, .xc)])], [], []⟩
theorem FN31 : fnsB Try.prog X31.fns := (show True from trivial)
theorem E31 (X : XH) (t0 : Nat) (object1 : Int) (thread2 : Int) {R : (Bool × Int) → XH → Prop} (h : (((decide ((if thread2 < object1 then thread2 else object1) < (1 : Int))) = true → R (false, (1 : Int)) X) ∧
 ((decide ((if thread2 < object1 then thread2 else object1) < (1 : Int))) = false → (∃ (a1 : ((Option Nat) × ((Option Nat) × Int))), XH.el X yZ2 t0 0 = some a1 ∧ (∃ (es2 : List (Int × Int)), XH.vmp X (.int .i64) (.pure (.int .i64)) a1.2.1 = some es2 ∧ (∀ (v3 : Int), mfind (Cd.keq (.int .i64) thread2) es2 = some v3 → (((decide (v3 > (0 : Int))) = true → R (false, (25 : Int)) X) ∧
 ((decide (v3 > (0 : Int))) = false → (∃ (a4 : ((Option Nat) × ((Option Nat) × Int))), XH.el X yZ2 t0 0 = some a4 ∧ (∃ (es5 : List (Int × (Option Nat))), XH.vmp X (.int .i64) (.ref yZ3) a4.1 = some es5 ∧ (∀ (v6 : (Option Nat)), mfind (Cd.keq (.int .i64) object1) es5 = some v6 → (((Option.isNone v6) = true → (∃ (a7 : ((Option Nat) × ((Option Nat) × Int))), XH.el X yZ2 t0 0 = some a7 ∧ (∀ (X8 : XH), X8 = (XH.add X (.arr yZ3 [((0 : Int), ((0 : Int), ((0 : Int), (none, ()))))])) → (∃ (h9 : Nat) (es10 : List (Int × (Option Nat))), a7.1 = some h9 ∧ XH.mp X8 (.int .i64) (.ref yZ3) h9 = some es10 ∧ (∀ (X11 : XH), X11 = (XH.set X8 h9 (.map (.int .i64) (.ref yZ3) (mset (Cd.keq (.int .i64) object1) object1 (some X.n) es10))) → (∃ (a12 : ((Option Nat) × ((Option Nat) × Int))), XH.el X11 yZ2 t0 0 = some a12 ∧ (∃ (es13 : List (Int × (Option Nat))), XH.vmp X11 (.int .i64) (.ref yZ3) a12.1 = some es13 ∧ (∀ (v14 : (Option Nat)), mfind (Cd.keq (.int .i64) object1) es13 = some v14 → (XC Try.prog 61 [] [(.ref (some t0) yZ2 0 []), (.ref v14 yZ3 0 []), (.v (.int .i64 thread2))] X11 (fun (p15 : Unit) (X16 : XH) => R (true, (0 : Int)) X16))) ∧ (mfind (Cd.keq (.int .i64) object1) es13 = none → (XC Try.prog 61 [] [(.ref (some t0) yZ2 0 []), (.ref none yZ3 0 []), (.v (.int .i64 thread2))] X11 (fun (p17 : Unit) (X18 : XH) => R (true, (0 : Int)) X18)))))))))) ∧
 ((Option.isNone v6) = false → (refK v6 (fun (h19 : Nat) => (∃ (a20 : (Int × (Int × (Int × ((Option SlH) × Unit))))), XH.el X yZ3 h19 0 = some a20 ∧ (((a20.1 == thread2) = true → (refK v6 (fun (h21 : Nat) => (∃ (a22 : (Int × (Int × (Int × ((Option SlH) × Unit))))), XH.el X yZ3 h21 0 = some a22 ∧ (refK v6 (fun (h23 : Nat) => (∃ (a24 : (Int × (Int × (Int × ((Option SlH) × Unit))))), XH.el X yZ3 h23 0 = some a24 ∧ (∀ (X25 : XH), X25 = (XH.setEl X yZ3 h23 0 ((a24.1, ((IntKind.wrap .i64 (a22.2.1 + (1 : Int))), a24.2.2)))) → R (true, (0 : Int)) X25)))))))) ∧
 ((a20.1 == thread2) = false → (refK v6 (fun (h26 : Nat) => (XC Try.prog 62 [] [(.ref (some h26) yZ3 0 [.snd, .snd, .snd]), (.v (.int .i64 thread2))] X (fun (p27 : Unit) (X28 : XH) => (∃ (a29 : ((Option Nat) × ((Option Nat) × Int))), XH.el X28 yZ2 t0 0 = some a29 ∧ (∃ (h30 : Nat) (es31 : List (Int × Int)), a29.2.1 = some h30 ∧ XH.mp X28 (.int .i64) (.pure (.int .i64)) h30 = some es31 ∧ (∀ (X32 : XH), X32 = (XH.set X28 h30 (.map (.int .i64) (.pure (.int .i64)) (mset (Cd.keq (.int .i64) thread2) thread2 object1 es31))) → R (false, (0 : Int)) X32))))))))))))))) ∧ (mfind (Cd.keq (.int .i64) object1) es5 = none → ((true = true → (∃ (a33 : ((Option Nat) × ((Option Nat) × Int))), XH.el X yZ2 t0 0 = some a33 ∧ (∀ (X34 : XH), X34 = (XH.add X (.arr yZ3 [((0 : Int), ((0 : Int), ((0 : Int), (none, ()))))])) → (∃ (h35 : Nat) (es36 : List (Int × (Option Nat))), a33.1 = some h35 ∧ XH.mp X34 (.int .i64) (.ref yZ3) h35 = some es36 ∧ (∀ (X37 : XH), X37 = (XH.set X34 h35 (.map (.int .i64) (.ref yZ3) (mset (Cd.keq (.int .i64) object1) object1 (some X.n) es36))) → (∃ (a38 : ((Option Nat) × ((Option Nat) × Int))), XH.el X37 yZ2 t0 0 = some a38 ∧ (∃ (es39 : List (Int × (Option Nat))), XH.vmp X37 (.int .i64) (.ref yZ3) a38.1 = some es39 ∧ (∀ (v40 : (Option Nat)), mfind (Cd.keq (.int .i64) object1) es39 = some v40 → (XC Try.prog 61 [] [(.ref (some t0) yZ2 0 []), (.ref v40 yZ3 0 []), (.v (.int .i64 thread2))] X37 (fun (p41 : Unit) (X42 : XH) => R (true, (0 : Int)) X42))) ∧ (mfind (Cd.keq (.int .i64) object1) es39 = none → (XC Try.prog 61 [] [(.ref (some t0) yZ2 0 []), (.ref none yZ3 0 []), (.v (.int .i64 thread2))] X37 (fun (p43 : Unit) (X44 : XH) => R (true, (0 : Int)) X44)))))))))) ∧
 (true = false → False)))))))) ∧ (mfind (Cd.keq (.int .i64) thread2) es2 = none → (((decide ((0 : Int) > (0 : Int))) = true → R (false, (25 : Int)) X) ∧
 ((decide ((0 : Int) > (0 : Int))) = false → (∃ (a45 : ((Option Nat) × ((Option Nat) × Int))), XH.el X yZ2 t0 0 = some a45 ∧ (∃ (es46 : List (Int × (Option Nat))), XH.vmp X (.int .i64) (.ref yZ3) a45.1 = some es46 ∧ (∀ (v47 : (Option Nat)), mfind (Cd.keq (.int .i64) object1) es46 = some v47 → (((Option.isNone v47) = true → (∃ (a48 : ((Option Nat) × ((Option Nat) × Int))), XH.el X yZ2 t0 0 = some a48 ∧ (∀ (X49 : XH), X49 = (XH.add X (.arr yZ3 [((0 : Int), ((0 : Int), ((0 : Int), (none, ()))))])) → (∃ (h50 : Nat) (es51 : List (Int × (Option Nat))), a48.1 = some h50 ∧ XH.mp X49 (.int .i64) (.ref yZ3) h50 = some es51 ∧ (∀ (X52 : XH), X52 = (XH.set X49 h50 (.map (.int .i64) (.ref yZ3) (mset (Cd.keq (.int .i64) object1) object1 (some X.n) es51))) → (∃ (a53 : ((Option Nat) × ((Option Nat) × Int))), XH.el X52 yZ2 t0 0 = some a53 ∧ (∃ (es54 : List (Int × (Option Nat))), XH.vmp X52 (.int .i64) (.ref yZ3) a53.1 = some es54 ∧ (∀ (v55 : (Option Nat)), mfind (Cd.keq (.int .i64) object1) es54 = some v55 → (XC Try.prog 61 [] [(.ref (some t0) yZ2 0 []), (.ref v55 yZ3 0 []), (.v (.int .i64 thread2))] X52 (fun (p56 : Unit) (X57 : XH) => R (true, (0 : Int)) X57))) ∧ (mfind (Cd.keq (.int .i64) object1) es54 = none → (XC Try.prog 61 [] [(.ref (some t0) yZ2 0 []), (.ref none yZ3 0 []), (.v (.int .i64 thread2))] X52 (fun (p58 : Unit) (X59 : XH) => R (true, (0 : Int)) X59)))))))))) ∧
 ((Option.isNone v47) = false → (refK v47 (fun (h60 : Nat) => (∃ (a61 : (Int × (Int × (Int × ((Option SlH) × Unit))))), XH.el X yZ3 h60 0 = some a61 ∧ (((a61.1 == thread2) = true → (refK v47 (fun (h62 : Nat) => (∃ (a63 : (Int × (Int × (Int × ((Option SlH) × Unit))))), XH.el X yZ3 h62 0 = some a63 ∧ (refK v47 (fun (h64 : Nat) => (∃ (a65 : (Int × (Int × (Int × ((Option SlH) × Unit))))), XH.el X yZ3 h64 0 = some a65 ∧ (∀ (X66 : XH), X66 = (XH.setEl X yZ3 h64 0 ((a65.1, ((IntKind.wrap .i64 (a63.2.1 + (1 : Int))), a65.2.2)))) → R (true, (0 : Int)) X66)))))))) ∧
 ((a61.1 == thread2) = false → (refK v47 (fun (h67 : Nat) => (XC Try.prog 62 [] [(.ref (some h67) yZ3 0 [.snd, .snd, .snd]), (.v (.int .i64 thread2))] X (fun (p68 : Unit) (X69 : XH) => (∃ (a70 : ((Option Nat) × ((Option Nat) × Int))), XH.el X69 yZ2 t0 0 = some a70 ∧ (∃ (h71 : Nat) (es72 : List (Int × Int)), a70.2.1 = some h71 ∧ XH.mp X69 (.int .i64) (.pure (.int .i64)) h71 = some es72 ∧ (∀ (X73 : XH), X73 = (XH.set X69 h71 (.map (.int .i64) (.pure (.int .i64)) (mset (Cd.keq (.int .i64) thread2) thread2 object1 es72))) → R (false, (0 : Int)) X73))))))))))))))) ∧ (mfind (Cd.keq (.int .i64) object1) es46 = none → ((true = true → (∃ (a74 : ((Option Nat) × ((Option Nat) × Int))), XH.el X yZ2 t0 0 = some a74 ∧ (∀ (X75 : XH), X75 = (XH.add X (.arr yZ3 [((0 : Int), ((0 : Int), ((0 : Int), (none, ()))))])) → (∃ (h76 : Nat) (es77 : List (Int × (Option Nat))), a74.1 = some h76 ∧ XH.mp X75 (.int .i64) (.ref yZ3) h76 = some es77 ∧ (∀ (X78 : XH), X78 = (XH.set X75 h76 (.map (.int .i64) (.ref yZ3) (mset (Cd.keq (.int .i64) object1) object1 (some X.n) es77))) → (∃ (a79 : ((Option Nat) × ((Option Nat) × Int))), XH.el X78 yZ2 t0 0 = some a79 ∧ (∃ (es80 : List (Int × (Option Nat))), XH.vmp X78 (.int .i64) (.ref yZ3) a79.1 = some es80 ∧ (∀ (v81 : (Option Nat)), mfind (Cd.keq (.int .i64) object1) es80 = some v81 → (XC Try.prog 61 [] [(.ref (some t0) yZ2 0 []), (.ref v81 yZ3 0 []), (.v (.int .i64 thread2))] X78 (fun (p82 : Unit) (X83 : XH) => R (true, (0 : Int)) X83))) ∧ (mfind (Cd.keq (.int .i64) object1) es80 = none → (XC Try.prog 61 [] [(.ref (some t0) yZ2 0 []), (.ref none yZ3 0 []), (.v (.int .i64 thread2))] X78 (fun (p84 : Unit) (X85 : XH) => R (true, (0 : Int)) X85)))))))))) ∧
 (true = false → False))))))))))))) :
  fnK X31.tt (callN Try.prog X31 0) (X31.md 31) (X31.mk1 31) Try.f31 [(.ref (some t0) yZ2 0 []), (.v (.int .i64 object1)), (.v (.int .i64 thread2))] ⟨[], [some (.heap X)], ⟨0, []⟩⟩ (xfin [(.pure .bool), (.pure (.int .i64))] R) := Eq.mp (by kernel_rfl) h
end Go.Proofs.Ytefpoodhdfggdaa.AB

set_option maxRecDepth 100000
set_option maxHeartbeats 2000000
namespace Go.Proofs.Ytefpoodhdfggdaa.AB
open Go
noncomputable def X33 : Cx := ⟨tt, [], [(65, [(.pure (.int .i64))])], [(33, [(9, 2, .xc)])], [], []⟩
theorem FN33 : fnsB Try.prog X33.fns := (show True from trivial)
theorem E33 (X : XH) (t0 : Nat) (object1 : Int) (thread2 : Int) {R : (Int × Int) → XH → Prop} (h : (((decide ((if thread2 < object1 then thread2 else object1) < (1 : Int))) = true → R ((0 : Int), (1 : Int)) X) ∧
 ((decide ((if thread2 < object1 then thread2 else object1) < (1 : Int))) = false → (∃ (a1 : ((Option Nat) × ((Option Nat) × Int))), XH.el X yZ2 t0 0 = some a1 ∧ (∃ (es2 : List (Int × (Option Nat))), XH.vmp X (.int .i64) (.ref yZ3) a1.1 = some es2 ∧ (∀ (v3 : (Option Nat)), mfind (Cd.keq (.int .i64) object1) es2 = some v3 → (((Option.isNone v3) = true → R ((0 : Int), (25 : Int)) X) ∧ ((Option.isNone v3) = false → (refK v3 (fun (h4 : Nat) => (∃ (a5 : (Int × (Int × (Int × ((Option SlH) × Unit))))), XH.el X yZ3 h4 0 = some a5 ∧ (((a5.1 != thread2) = true → R ((0 : Int), (25 : Int)) X) ∧
 ((a5.1 != thread2) = false → (refK v3 (fun (h6 : Nat) => (∃ (a7 : (Int × (Int × (Int × ((Option SlH) × Unit))))), XH.el X yZ3 h6 0 = some a7 ∧ (refK v3 (fun (h8 : Nat) => (∃ (a9 : (Int × (Int × (Int × ((Option SlH) × Unit))))), XH.el X yZ3 h8 0 = some a9 ∧ (∀ (X10 : XH), X10 = (XH.setEl X yZ3 h8 0 ((a9.1, ((IntKind.wrap .i64 (a7.2.1 - (1 : Int))), a9.2.2)))) → (refK v3 (fun (h11 : Nat) => (∃ (a12 : (Int × (Int × (Int × ((Option SlH) × Unit))))), XH.el X10 yZ3 h11 0 = some a12 ∧ (((decide (a12.2.1 > (0 : Int))) = true → R ((0 : Int), (0 : Int)) X10) ∧
 ((decide (a12.2.1 > (0 : Int))) = false → (XC Try.prog 65 [(.pure (.int .i64))] [(.ref (some t0) yZ2 0 []), (.v (.int .i64 object1))] X10 (fun (p13 : Int) (X14 : XH) => R (p13, (0 : Int)) X14)))))))))))))))))))))) ∧ (mfind (Cd.keq (.int .i64) object1) es2 = none → ((true = true → R ((0 : Int), (25 : Int)) X) ∧ (true = false → False)))))))) :
  fnK X33.tt (callN Try.prog X33 0) (X33.md 33) (X33.mk1 33) Try.f33 [(.ref (some t0) yZ2 0 []), (.v (.int .i64 object1)), (.v (.int .i64 thread2))] ⟨[], [some (.heap X)], ⟨0, []⟩⟩ (xfin [(.pure (.int .i64)), (.pure (.int .i64))] R) := Eq.mp (by kernel_rfl) h
end Go.Proofs.Ytefpoodhdfggdaa.AB

set_option maxRecDepth 100000
set_option maxHeartbeats 2000000
namespace Go.Proofs.Ytefpoodhdfggdaa.AB
open Go
noncomputable def X38 : Cx := ⟨tt, [], [], [], [], []⟩
theorem FN38 : fnsB Try.prog X38.fns := (show True from trivial)
theorem E38 (X : XH) (t0 : Nat) (object1 : Int) {R : (Int × Int) → XH → Prop} (h : (∃ (a1 : ((Option Nat) × ((Option Nat) × Int))), XH.el X yZ2 t0 0 = some a1 ∧ (∃ (es2 : List (Int × (Option Nat))), XH.vmp X (.int .i64) (.ref yZ3) a1.1 = some es2 ∧ (∀ (v3 : (Option Nat)), mfind (Cd.keq (.int .i64) object1) es2 = some v3 → (((!(Option.isNone v3)) = true → (refK v3 (fun (h4 : Nat) => (∃ (a5 : (Int × (Int × (Int × ((Option SlH) × Unit))))), XH.el X yZ3 h4 0 = some a5 ∧ (refK v3 (fun (h6 : Nat) => (∃ (a7 : (Int × (Int × (Int × ((Option SlH) × Unit))))), XH.el X yZ3 h6 0 = some a7 ∧ R (a5.1, a7.2.1) X))))))) ∧
 ((!(Option.isNone v3)) = false → R ((0 : Int), (0 : Int)) X))) ∧ (mfind (Cd.keq (.int .i64) object1) es2 = none → (((!true) = true → False) ∧
 ((!true) = false → R ((0 : Int), (0 : Int)) X)))))) :
  fnK X38.tt (callN Try.prog X38 0) (X38.md 38) (X38.mk1 38) Try.f38 [(.ref (some t0) yZ2 0 []), (.v (.int .i64 object1))] ⟨[], [some (.heap X)], ⟨0, []⟩⟩ (xfin [(.pure (.int .i64)), (.pure (.int .i64))] R) := Eq.mp (by kernel_rfl) h
end Go.Proofs.Ytefpoodhdfggdaa.AB

set_option maxRecDepth 100000
set_option maxHeartbeats 2000000
namespace Go.Proofs.Ytefpoodhdfggdaa.AB
open Go
noncomputable def X40 : Cx := ⟨tt, [], [(73, [(.pure (.slice (.int .i64)))])], [(40, [(3, 5, .rd)])], [], []⟩
theorem FN40 : fnsB Try.prog X40.fns := (show True from trivial)
theorem E40 (X : XH) (t0 : Nat) (object1 : Int) {R : ((List Int)) → XH → Prop} (h : (∃ (a1 : ((Option Nat) × ((Option Nat) × Int))), XH.el X yZ2 t0 0 = some a1 ∧ (∃ (es2 : List (Int × (Option Nat))), XH.vmp X (.int .i64) (.ref yZ3) a1.1 = some es2 ∧ (∀ (v3 : (Option Nat)), mfind (Cd.keq (.int .i64) object1) es2 = some v3 → (((!(Option.isNone v3)) = true → (refK v3 (fun (h4 : Nat) => (∃ (a5 : (Int × (Int × (Int × ((Option SlH) × Unit))))), XH.el X yZ3 h4 0 = some a5 ∧ (∃ (p6 : (List Int)), RC Try.prog 73 [(.pure (.slice (.int .i64)))] [(.sl (.pure (.int .i64)) a5.2.2.2.1)] X p6 ∧ R p6 X))))) ∧
 ((!(Option.isNone v3)) = false → R ([] : List Int) X))) ∧ (mfind (Cd.keq (.int .i64) object1) es2 = none → (((!true) = true → False) ∧
 ((!true) = false → R ([] : List Int) X)))))) :
  fnK X40.tt (callN Try.prog X40 0) (X40.md 40) (X40.mk1 40) Try.f40 [(.ref (some t0) yZ2 0 []), (.v (.int .i64 object1))] ⟨[], [some (.heap X)], ⟨0, []⟩⟩ (xfin [(.pure (.slice (.int .i64)))] R) := Eq.mp (by kernel_rfl) h
end Go.Proofs.Ytefpoodhdfggdaa.AB

set_option maxRecDepth 100000
set_option maxHeartbeats 2000000
namespace Go.Proofs.Ytefpoodhdfggdaa.AB
open Go
noncomputable def X61 : Cx := ⟨tt, [], [], [], [], []⟩
theorem FN61 : fnsB Try.prog X61.fns := (show True from trivial)
theorem E61 (X : XH) (t0 : Nat) (m1 : Nat) (thread2 : Int) {R : Unit → XH → Prop} (h : (∃ (a1 : ((Option Nat) × ((Option Nat) × Int))), XH.el X yZ2 t0 0 = some a1 ∧ (∃ (a2 : ((Option Nat) × ((Option Nat) × Int))), XH.el X yZ2 t0 0 = some a2 ∧ (∀ (X3 : XH), X3 = (XH.setEl X yZ2 t0 0 ((a2.1, (a2.2.1, (IntKind.wrap .i64 (a1.2.2 + (1 : Int))))))) → (∃ (a4 : ((Option Nat) × ((Option Nat) × Int))), XH.el X3 yZ2 t0 0 = some a4 ∧ (∃ (a5 : (Int × (Int × (Int × ((Option SlH) × Unit))))), XH.el X3 yZ3 m1 0 = some a5 ∧ (∀ (X6 : XH), X6 = (XH.setEl X3 yZ3 m1 0 (thread2, a5.2)) → (∃ (a7 : (Int × (Int × (Int × ((Option SlH) × Unit))))), XH.el X6 yZ3 m1 0 = some a7 ∧ (∀ (X8 : XH), X8 = (XH.setEl X6 yZ3 m1 0 ((a7.1, ((1 : Int), a7.2.2)))) → (∃ (a9 : (Int × (Int × (Int × ((Option SlH) × Unit))))), XH.el X8 yZ3 m1 0 = some a9 ∧ (∀ (X10 : XH), X10 = (XH.setEl X8 yZ3 m1 0 ((a9.1, (a9.2.1, (a4.2.2, a9.2.2.2))))) → R () X10))))))))))) :
 fnK X61.tt (callN Try.prog X61 0) (X61.md 61) (X61.mk1 61) Try.f61 [(.ref (some t0) yZ2 0 []), (.ref (some m1) yZ3 0 []), (.v (.int .i64 thread2))] ⟨[], [some (.heap X)], ⟨0, []⟩⟩ (xfin [] R) := Eq.mp (by kernel_rfl) h
end Go.Proofs.Ytefpoodhdfggdaa.AB

set_option maxRecDepth 100000
set_option maxHeartbeats 2000000
namespace Go.Proofs.Ytefpoodhdfggdaa.AB
open Go
noncomputable def X62 : Cx := ⟨tt, [], [], [(62, [(0, 7, .x (.pure (.int .i64)))])], [], []⟩
theorem FN62 : fnsB Try.prog X62.fns := (show True from trivial)
theorem E62 (X : XH) (q0 : Nat) (x1 : Int) {R : Unit → XH → Prop} (h : (∃ (a1 : (Int × (Int × (Int × ((Option SlH) × Unit))))), XH.el X yZ3 q0 0 = some a1 ∧ (∃ (l2 l3 : List Int), XH.view X (.pure (.int .i64)) a1.2.2.2.1 = some l2 ∧ (srcX X (.pure (.int .i64)) (.v (.list (.int .i64) ([x1] : List Int) .exact))) = some l3 ∧ ((slN a1.2.2.2.1) + (l3).length) * 8 ≤ room ∧ ∀ (X4 : XH) (s5 : Option SlH), XApp X (.pure (.int .i64)) (0 : Int) l2 l3 a1.2.2.2.1 X4 s5 → (∃ (a6 : (Int × (Int × (Int × ((Option SlH) × Unit))))), XH.el X4 yZ3 q0 0 = some a6 ∧ (∀ (X7 : XH), X7 = (XH.setEl X4 yZ3 q0 0 ((a6.1, (a6.2.1, (a6.2.2.1, (s5, a6.2.2.2.2)))))) → R () X7))))) :
 fnK X62.tt (callN Try.prog X62 0) (X62.md 62) (X62.mk1 62) Try.f62 [(.ref (some q0) yZ3 0 [.snd, .snd, .snd]), (.v (.int .i64 x1))] ⟨[], [some (.heap X)], ⟨0, []⟩⟩ (xfin [] R) := Eq.mp (by kernel_rfl) h
end Go.Proofs.Ytefpoodhdfggdaa.AB

set_option maxRecDepth 100000
set_option maxHeartbeats 2000000
namespace Go.Proofs.Ytefpoodhdfggdaa.AB
open Go
noncomputable def X65 : Cx := ⟨tt, [], [(61, []), (85, [(.pure (.int .i64)), (.pure .bool)])], [(65, [(2, 3, .xc), (7, 3, .xc)])], [], []⟩
theorem FN65 : fnsB Try.prog X65.fns := (show True from trivial)
theorem E65 (X : XH) (t0 : Nat) (object1 : Int) {R : (Int) → XH → Prop} (h : (∃ (a1 : ((Option Nat) × ((Option Nat) × Int))), XH.el X yZ2 t0 0 = some a1 ∧ (∃ (es2 : List (Int × (Option Nat))), XH.vmp X (.int .i64) (.ref yZ3) a1.1 = some es2 ∧ (∀ (v3 : (Option Nat)), mfind (Cd.keq (.int .i64) object1) es2 = some v3 → (refK v3 (fun (h4 : Nat) => (XC Try.prog 85 [(.pure (.int .i64)), (.pure .bool)] [(.ref (some h4) yZ3 0 [.snd, .snd, .snd])] X (fun (p5 : Int × Bool) (X6 : XH) => (((!p5.2) = true → (∃ (a7 : ((Option Nat) × ((Option Nat) × Int))), XH.el X6 yZ2 t0 0 = some a7 ∧ (∃ (h8 : Nat) (es9 : List (Int × (Option Nat))), a7.1 = some h8 ∧ XH.mp X6 (.int .i64) (.ref yZ3) h8 = some es9 ∧ (∀ (X10 : XH), X10 = (XH.set X6 h8 (.map (.int .i64) (.ref yZ3) (mdel (Cd.keq (.int .i64) object1) es9))) → R (0 : Int) X10)))) ∧
 ((!p5.2) = false → (∃ (a11 : ((Option Nat) × ((Option Nat) × Int))), XH.el X6 yZ2 t0 0 = some a11 ∧ (∃ (h12 : Nat) (es13 : List (Int × Int)), a11.2.1 = some h12 ∧ XH.mp X6 (.int .i64) (.pure (.int .i64)) h12 = some es13 ∧ (∀ (X14 : XH), X14 = (XH.set X6 h12 (.map (.int .i64) (.pure (.int .i64)) (mdel (Cd.keq (.int .i64) p5.1) es13))) → (XC Try.prog 61 [] [(.ref (some t0) yZ2 0 []), (.ref v3 yZ3 0 []), (.v (.int .i64 p5.1))] X14 (fun (p15 : Unit) (X16 : XH) => R p5.1 X16)))))))))))) ∧ (mfind (Cd.keq (.int .i64) object1) es2 = none → False)))) :
  fnK X65.tt (callN Try.prog X65 0) (X65.md 65) (X65.mk1 65) Try.f65 [(.ref (some t0) yZ2 0 []), (.v (.int .i64 object1))] ⟨[], [some (.heap X)], ⟨0, []⟩⟩ (xfin [(.pure (.int .i64))] R) := Eq.mp (by kernel_rfl) h
end Go.Proofs.Ytefpoodhdfggdaa.AB

set_option maxRecDepth 100000
set_option maxHeartbeats 2000000
namespace Go.Proofs.Ytefpoodhdfggdaa.AB
open Go
noncomputable def X73 : Cx := ⟨tt, [], [], [(73, [(1, 1, .lend)])], [], []⟩
theorem FN73 : fnsB Try.prog X73.fns := (show True from trivial)
theorem E73 (X : XH) (s0 : (Option SlH)) {R : ((List Int)) → XH → Prop} (h : (∀ (b1 : Bool), (b1 = true → s0 = none) → ((b1 = true → R ([] : List Int) X) ∧
 (b1 = false → (∃ (l2 : List Int), XH.view X (.pure (.int .i64)) s0 = some l2 ∧ Tok.own .exact ([]) ∧ ((([] : List Int)).length + (l2).length) * 8 ≤ room ∧ R ((([] : List Int) ++ l2)) X))))) :
  fnK X73.tt (callN Try.prog X73 0) (X73.md 73) (X73.mk1 73) Try.f73 [(.sl (.pure (.int .i64)) s0)] ⟨[], [some (.heap X)], ⟨0, []⟩⟩ (xfin [(.pure (.slice (.int .i64)))] R) := Eq.mp (by kernel_rfl) h
end Go.Proofs.Ytefpoodhdfggdaa.AB

set_option maxRecDepth 100000
set_option maxHeartbeats 2000000
namespace Go.Proofs.Ytefpoodhdfggdaa.AB
open Go
noncomputable def X85 : Cx := ⟨tt, [], [], [], [], []⟩
theorem FN85 : fnsB Try.prog X85.fns := (show True from trivial)
theorem E85 (X : XH) (q0 : Nat) {R : (Int × Bool) → XH → Prop} (h : (∃ (a1 : (Int × (Int × (Int × ((Option SlH) × Unit))))), XH.el X yZ3 q0 0 = some a1 ∧ ((((((slN a1.2.2.2.1) : Nat) : Int) == (0 : Int)) = true → R ((0 : Int), false) X) ∧
 (((((slN a1.2.2.2.1) : Nat) : Int) == (0 : Int)) = false → (∃ (a2 : (Int × (Int × (Int × ((Option SlH) × Unit))))), XH.el X yZ3 q0 0 = some a2 ∧ (∃ (u3 : SlH), a2.2.2.2.1 = some u3 ∧ 0 ≤ (0 : Int) ∧ (0 : Int) < ((u3.len : Nat) : Int) ∧ (∃ (a4 : Int), XH.el X (.pure (.int .i64)) u3.h ((u3.off + ((0 : Int)).toNat)) = some a4 ∧ (∃ (a5 : (Int × (Int × (Int × ((Option SlH) × Unit))))), XH.el X yZ3 q0 0 = some a5 ∧ (0 ≤ (1 : Int) ∧ (1 : Int) ≤ (((slN a5.2.2.2.1) : Nat) : Int) ∧ (∃ (a6 : (Int × (Int × (Int × ((Option SlH) × Unit))))), XH.el X yZ3 q0 0 = some a6 ∧ (∀ (X7 : XH), X7 = (XH.setEl X yZ3 q0 0 ((a6.1, (a6.2.1, (a6.2.2.1, ((slCut a5.2.2.2.1 (((1 : Int)).toNat) (slN a5.2.2.2.1) (slC a5.2.2.2.1)), a6.2.2.2.2)))))) → R (a4, true) X7))))))))))) :
  fnK X85.tt (callN Try.prog X85 0) (X85.md 85) (X85.mk1 85) Try.f85 [(.ref (some q0) yZ3 0 [.snd, .snd, .snd])] ⟨[], [some (.heap X)], ⟨0, []⟩⟩ (xfin [(.pure (.int .i64)), (.pure .bool)] R) := Eq.mp (by kernel_rfl) h
end Go.Proofs.Ytefpoodhdfggdaa.AB

namespace Go.Proofs.Ytefpoodhdfggdaa.AB
open Go

variable {X X' : XH} {t : Nat} {d : MD} {o : Int} {l : PL}

def nextT (p : PD) : Int := IntKind.wrap .i64 (p.turn + 1)

theorem xset_set (X : XH) (h : Nat) (a b : XO) : (X.set h a).set h b = X.set h b := by
 unfold XH.set
 congr 1
 funext k
 by_cases e : k = h <;> simp [e]

def short (p : PD) : Prop := ∀ e ∈ p.es, e.2.2.2.2.length ≤ 1000000

def MGoes (X : XH) (t : Nat) (d : MD) (X' : XH) (p : PD) : Prop := ∃ d', MRep X' t d' ∧ Mv X (d.hs t) X' (d'.hs t) ∧ d'.p = p

theorem MGoes.refl (h : MRep X t d) : MGoes X t d X d.p := ⟨d, h, .refl _ _, rfl⟩

theorem MRep.lbox (h : MRep X t d) (ho : mfind (eqN o) d.p.es = some l) : Box X cL (d.h o) (lvOf (d.sl o) l) ∧ SlAt X cN (d.sl o) l.2.2.2 := h.lk _ (mfind_mem ho)

theorem MRep.lock0 (h : MRep X t d) (ho : mfind (eqN o) d.p.es = some l) (l' : PL) (he : l'.2.2.2 = l.2.2.2) :
  MGoes X t d (X.set (d.h o) (.arr cL [lvOf (d.sl o) l'])) { d.p with es := updK d.p.es o l' } := by
 obtain ⟨a, b⟩ := h.lock (X' := X) ho (s' := d.sl o) (l' := l') (by rw [he]; exact (h.lbox ho).2) (.refl _ _)
 exact ⟨_, a, b, rfl⟩

theorem c61 (h : MRep X t d) (ho : mfind (eqN o) d.p.es = some l) (th : Int) : XC Try.prog 61 [] [.ref (some t) cT 0 [], .ref (some (d.h o)) cL 0 [], .v (.int .i64 th)] X
  fun _ X' => MGoes X t d X' { d.p with es := updK d.p.es o (th, 1, nextT d.p, l.2.2.2), turn := nextT d.p } := by
 refine xcOf (X := X61) rfl FN61 (by kernel_rfl) (by decide) (E61 X t (d.h o) th ⟨_, h.box.el, _, h.box.el, fun X3 e3 => ?_⟩)
 have e3 := e3.trans h.box.setEl
 obtain ⟨h3, m3⟩ := h.turn (nextT d.p)
 have e3 : X3 = X.set t (.arr cT [(some d.hH, some d.hW, nextT d.p)]) := e3
 rw [← e3] at h3 m3
 generalize hd3 : ({ d with p := { d.p with turn := nextT d.p } } : MD) = d3 at h3 m3
 have ho3 : mfind (eqN o) d3.p.es = some l := by rw [← hd3]; exact ho
 have hh3 : d3.h = d.h := by rw [← hd3]
 have hs3 : d3.sl = d.sl := by rw [← hd3]
 obtain ⟨hb, hs⟩ := h3.lbox ho3
 rw [hh3, hs3] at hb
 refine ⟨_, h3.box.el, _, hb.el, fun X6 e6 => ?_⟩
 have e6 := e6.trans hb.setEl
 have hb6 : Box X6 cL (d.h o) _ := e6 ▸ hb.set
 refine ⟨_, hb6.el, fun X8 e8 => ?_⟩
 have e8 := e8.trans hb6.setEl
 have hb8 : Box X8 cL (d.h o) _ := e8 ▸ hb6.set
 refine ⟨_, hb8.el, fun X10 e10 => ?_⟩
 have e10 := e10.trans hb8.setEl
 rw [e8, e6, xset_set, xset_set] at e10
 obtain ⟨d', r', m', hp'⟩ := h3.lock0 ho3 (th, 1, nextT d.p, l.2.2.2) rfl
 rw [hh3, hs3] at r' m'
 have e10 : X10 = X3.set (d.h o) (.arr cL [lvOf (d.sl o) (th, 1, nextT d.p, l.2.2.2)]) := by
  rw [e10]
  show X3.set (d.h o) (.arr cL [(th, 1, d3.tv.2.2, d.sl o, ())]) = _
  rw [← hd3]; rfl
 rw [← e10] at r' m'
 exact ⟨d', r', m3.trans m', by rw [hp', ← hd3]⟩

theorem c62 (h : MRep X t d) (ho : mfind (eqN o) d.p.es = some l) (x : Int) (hl : l.2.2.2.length ≤ 1000000) : XC Try.prog 62 [] [.ref (some (d.h o)) cL 0 [.snd, .snd, .snd], .v (.int .i64 x)] X
  fun _ X' => MGoes X t d X' { d.p with es := updK d.p.es o (l.1, l.2.1, l.2.2.1, l.2.2.2 ++ [x]) } := by
 obtain ⟨hb, hs⟩ := h.lbox ho
 have hlen := hs.len
 refine xcOf (X := X62) rfl FN62 (by kernel_rfl) (by decide) (E62 X (d.h o) x ⟨_, hb.el, l.2.2.2, [x], hs.view, rfl, ?_, fun X4 s5 hx => ?_⟩)
 ·show (slN (d.sl o) + 1) * 8 ≤ 140737488355328
  omega
 ·obtain ⟨sl4, m4⟩ := hx.spec hs
  have hb4 : Box X4 cL (d.h o) (lvOf (d.sl o) l) := hb.keep (m4.keep _ hb.lt fun q => (h.n3 _ (mfind_mem ho) _ q).2.2.2 _ (mfind_mem ho) rfl)
  refine ⟨_, hb4.el, fun X7 e7 => ?_⟩
  have e7 := e7.trans hb4.setEl
  obtain ⟨a, b⟩ := h.lock ho (l' := (l.1, l.2.1, l.2.2.1, l.2.2.2 ++ [x])) sl4 m4
  have e7 : X7 = X4.set (d.h o) (.arr cL [lvOf s5 (l.1, l.2.1, l.2.2.1, l.2.2.2 ++ [x])]) := e7
  rw [← e7] at a b
  exact ⟨_, a, b, rfl⟩

theorem c85 (h : MRep X t d) (ho : mfind (eqN o) d.p.es = some l) (hl : l.2.2.2.length ≤ 1000000) : XC Try.prog 85 [.pure (.int .i64), .pure .bool] [.ref (some (d.h o)) cL 0 [.snd, .snd, .snd]] X
  fun p X' => (l.2.2.2 = [] ∧ p = ((0, false) : Int × Bool) ∧ X' = X) ∨ ∃ x r, l.2.2.2 = x :: r ∧ p = ((x, true) : Int × Bool) ∧ ∃ d', MRep X' t d' ∧ Mv X (d.hs t) X' (d'.hs t) ∧ d'.p = { d.p with es := updK d.p.es o (l.1, l.2.1, l.2.2.1, r) } ∧ d'.h = d.h := by
 obtain ⟨hb, hs⟩ := h.lbox ho
 have hlen := hs.len
 have hle := hs.le
 refine xcOf (X := X85) rfl FN85 (by kernel_rfl) (by decide) (E85 X (d.h o) ⟨_, hb.el, fun e => ?_, fun e => ?_⟩)
 ·have e : slN (d.sl o) = 0 := by simpa [lvOf] using e
  refine .inl ⟨List.eq_nil_of_length_eq_zero (by omega), rfl, rfl⟩
 ·have e : ¬ slN (d.sl o) = 0 := by simpa [lvOf] using e
  obtain ⟨x, r, hxr⟩ : ∃ x r, l.2.2.2 = x :: r := by
   cases hc : l.2.2.2 with
   | nil => rw [hc] at hlen; simp at hlen; omega
   | cons x r => exact ⟨x, r, rfl⟩
  obtain ⟨s, hsl⟩ : ∃ s, d.sl o = some s := by
   cases hc : d.sl o with
   | none => rw [hc] at e; exact absurd rfl e
   | some s => exact ⟨s, rfl⟩
  rw [hsl] at hs hlen e hb hle
  rw [hxr] at hs hlen
  have hlen : s.len = (x :: r).length := hlen
  have hle : s.len ≤ s.cap := hle
  have hel := hs.el (i := 0) (by simp)
  refine ⟨_, hb.el, s, rfl, by decide, by simp at hlen; omega, x, hel, _, hb.el, by decide, by show (1 : Int) ≤ ((s.len : Nat) : Int); simp at hlen; omega, _, hb.el, fun X7 e7 => ?_⟩
  have e7 := e7.trans hb.setEl
  have hc := hs.cut (p := 1) (q := s.len) (m := s.cap) (by simp at hlen; omega) hle (Nat.le_refl _) (Nat.le_refl _)
  rw [List.take_of_length_le (by rw [hlen]; exact Nat.le_refl _)] at hc
  obtain ⟨a, b⟩ := h.lock (X' := X) ho (s' := slCut (some s) 1 s.len s.cap) (l' := (l.1, l.2.1, l.2.2.1, r)) hc (by rw [hsl]; exact ⟨Nat.le_refl _, fun _ _ _ => rfl, fun k hk => .inl hk⟩)
  have e7 : X7 = X.set (d.h o) (.arr cL [lvOf (slCut (some s) 1 s.len s.cap) (l.1, l.2.1, l.2.2.1, r)]) := e7
  rw [← e7] at a b
  exact .inr ⟨x, r, hxr, rfl, _, a, b, rfl, rfl⟩

theorem c73 {x : Option SlH} {w : List Int} (hs : SlAt X cN x w) (hl : w.length ≤ 1000000) : RC Try.prog 73 [.pure (.slice (.int .i64))] [.sl cN x] X w := by
 refine xcOf (X := X73) rfl FN73 (by kernel_rfl) (by decide) (E73 X x fun b hb => ⟨fun e => ?_, fun e => ⟨w, hs.view, trivial, ?_, ?_⟩⟩)
 ·have := hb e
  subst this
  have hs : w = [] := hs
  exact ⟨hs.symm, rfl⟩
 ·show (0 + w.length) * 8 ≤ 140737488355328; omega
 ·have e' : [] ++ w = w := List.nil_append w
  exact ⟨e', rfl⟩

def nextP (p : PD) (o : Int) : Int × PD :=
 match mfind (eqN o) p.es with
 | none => (0, p)
 | some l => match l.2.2.2 with
  | [] => (0, { p with es := mdel (eqN o) p.es })
  | x :: r => (x, { es := updK (updK p.es o (l.1, l.2.1, l.2.2.1, r)) o (x, 1, nextT p, r), ws := mdel (eqN x) p.ws, turn := nextT p })

theorem c65 (h : MRep X t d) (ho : mfind (eqN o) d.p.es = some l) (hl : l.2.2.2.length ≤ 1000000) : XC Try.prog 65 [.pure (.int .i64)] [.ref (some t) cT 0 [], .v (.int .i64 o)] X
  fun v X' => v = (nextP d.p o).1 ∧ MGoes X t d X' (nextP d.p o).2 := by
 have hf : mfind (eqN o) d.hes = some (some (d.h o)) := by rw [h.find, ho]; rfl
 refine xcOf (X := X65) rfl FN65 (by kernel_rfl) (by decide) (E65 X t o ⟨_, h.box.el, d.hes, mp_at.2 h.mh, fun v hv => ?_, fun hv => ?_⟩)
 rotate_left
 ·have hv : mfind (eqN o) d.hes = none := hv
  rw [hf] at hv; cases hv
 have hv : mfind (eqN o) d.hes = some v := hv
 rw [hf] at hv
 have hv := Option.some.inj hv
 subst hv
 refine refK_iff.2 ⟨_, rfl, (c85 h ho hl).mono ?_⟩
 rintro p X6 (⟨hw, rfl, rfl⟩ | ⟨x, r, hw, rfl, d', r', m', hp', hh'⟩)
 ·refine ⟨fun _ => ⟨_, h.box.el, d.hH, d.hes, rfl, mp_at.2 h.mh, fun X10 e10 => ?_⟩, fun e => (by cases e)⟩
  obtain ⟨a, b⟩ := h.drop o
  rw [← e10] at a b
  have hn : nextP d.p o = (0, { d.p with es := mdel (eqN o) d.p.es }) := by unfold nextP; rw [ho]; dsimp only; rw [hw]
  rw [hn]
  exact ⟨rfl, _, a, b, rfl⟩
 ·refine ⟨fun e => (by cases e), fun _ => ⟨_, r'.box.el, d'.hW, d'.p.ws, rfl, mp_at.2 r'.mw, fun X14 e14 => ?_⟩⟩
  obtain ⟨a, b⟩ := r'.waits (mdel (eqN x) d'.p.ws)
  rw [← e14] at a b
  have ho2 : mfind (eqN o) (updK d.p.es o (l.1, l.2.1, l.2.2.1, r)) = some (l.1, l.2.1, l.2.2.1, r) := by rw [updK_find ho, if_pos rfl]
  have ho' : mfind (eqN o) ({ d' with p := { d'.p with ws := mdel (eqN x) d'.p.ws } } : MD).p.es = some (l.1, l.2.1, l.2.2.1, r) := by
   show mfind (eqN o) d'.p.es = _
   rw [hp']; exact ho2
  rw [show d.h o = d'.h o by rw [hh']]
  refine (c61 a ho' x).mono ?_
  rintro _ X16 ⟨d2, r2, m2, hp2⟩
  have hn : nextP d.p o = (x, { es := updK (updK d.p.es o (l.1, l.2.1, l.2.2.1, r)) o (x, 1, nextT d.p, r), ws := mdel (eqN x) d.p.ws, turn := nextT d.p }) := by unfold nextP; rw [ho]; dsimp only; rw [hw]
  rw [hn]
  refine ⟨rfl, d2, r2, m'.trans (b.trans m2), ?_⟩
  rw [hp2]
  dsimp only
  rw [hp']
  rfl

end Go.Proofs.Ytefpoodhdfggdaa.AB

namespace Go.Proofs.Ytefpoodhdfggdaa.AB
open Go

variable {X X' : XH} {t : Nat} {d : MD} {o : Int} {l : PL}

theorem c29 : XC Try.prog 29 [.ref cT] [] X fun p X' => ∃ t d, p = (some t : Option Nat) ∧ MRep X' t d ∧ Mv X [] X' (d.hs t) ∧ d.p = ⟨[], [], 0⟩ := by
  refine xcOf (X := X29) rfl FN29 (by kernel_rfl) (by decide) (E29 X fun X1 e1 X2 e2 X3 e3 => ?_)
  have n1 : X1.n = X.n + 1 := by rw [e1]; rfl
  have n2 : X2.n = X.n + 2 := by rw [e2]; show X1.n + 1 = _; omega
  refine ⟨X2.n, ⟨X.n, X1.n, ⟨[], [], 0⟩, fun _ => 0, fun _ => none⟩, rfl, ⟨?_, ?_, ?_, fun e he => (by cases he), List.nodup_nil, ?_, fun e he => (by cases he), fun e he => (by cases he), fun e he => (by cases he)⟩, ?_, rfl⟩
  · show X3.at X2.n = _
    rw [e3]; exact at_add_new _ _
  · show X3.at X.n = some (.map (.int .i64) (.ref cL) [])
    rw [e3, at_add_old (by omega), e2, at_add_old (by omega), e1]; exact at_add_new _ _
  · show X3.at X1.n = some (.map (.int .i64) cN [])
    rw [e3, at_add_old (by omega), e2]; exact at_add_new _ _
  · show X2.n ≠ X.n ∧ X2.n ≠ X1.n ∧ X.n ≠ X1.n
    omega
  · refine ⟨by rw [e3]; show X.n ≤ X2.n + 1; omega, fun k hk _ => ?_, fun k hk => .inr ?_⟩
    · rw [e3, at_add_old (by omega), e2, at_add_old (by omega), e1, at_add_old hk]
    · rcases mem_mhs.1 hk with h | h | h | ⟨e, he, _⟩
      · omega
      · rw [h]; exact Nat.le_refl _
      · simp only at h; omega
      · cases he

def enterP (p : PD) (o th : Int) : (Bool × Int) × PD :=
  if o < 1 ∨ th < 1 then ((false, 1), p)
  else if (∃ v, mfind (eqN th) p.ws = some v ∧ 0 < v) then ((false, 25), p)
  else match mfind (eqN o) p.es with
    | none => ((true, 0), { p with es := updK (p.es ++ [(o, (0, 0, 0, []))]) o (th, 1, nextT p, []), turn := nextT p })
    | some l => if l.1 = th then ((true, 0), { p with es := updK p.es o (l.1, IntKind.wrap .i64 (l.2.1 + 1), l.2.2) })
      else ((false, 0), { p with es := updK p.es o (l.1, l.2.1, l.2.2.1, l.2.2.2 ++ [th]), ws := mset (eqN th) th o p.ws })

theorem min_lt {o th : Int} : decide ((if th < o then th else o) < (1 : Int)) = true ↔ (o < 1 ∨ th < 1) := by
  rw [decide_eq_true_eq]
  split <;> omega

theorem enter_new (h : MRep X t d) (ho : mfind (eqN o) d.p.es = none) (th : Int) {R : Bool × Int → XH → Prop}
    (hR : ∀ X', MGoes X t d X' { d.p with es := updK (d.p.es ++ [(o, (0, 0, 0, []))]) o (th, 1, nextT d.p, []), turn := nextT d.p } → R (true, 0) X') :
    ∃ a7 : Option Nat × Option Nat × Int, X.el cT t 0 = some a7 ∧ ∀ X8 : XH, X8 = X.add (.arr cL [((0 : Int), ((0 : Int), ((0 : Int), (none, ()))))]) → ∃ (h9 : Nat) (es10 : List (Int × Option Nat)), a7.1 = some h9 ∧ X8.mp (.int .i64) (.ref cL) h9 = some es10 ∧
      ∀ X11 : XH, X11 = X8.set h9 (.map (.int .i64) (.ref cL) (mset (Cd.keq (.int .i64) o) o (some X.n) es10)) → ∃ a12 : Option Nat × Option Nat × Int, X11.el cT t 0 = some a12 ∧ ∃ es13 : List (Int × Option Nat), X11.vmp (.int .i64) (.ref cL) a12.1 = some es13 ∧
        ((∀ v14 : Option Nat, mfind (Cd.keq (.int .i64) o) es13 = some v14 → XC Try.prog 61 [] [.ref (some t) cT 0 [], .ref v14 cL 0 [], .v (.int .i64 th)] X11 fun _ X16 => R (true, 0) X16) ∧
         (mfind (Cd.keq (.int .i64) o) es13 = none → XC Try.prog 61 [] [.ref (some t) cT 0 [], .ref none cL 0 [], .v (.int .i64 th)] X11 fun _ X18 => R (true, 0) X18)) := by
  refine ⟨_, h.box.el, fun X8 e8 => ⟨d.hH, d.hes, rfl, mp_at.2 (by rw [e8, at_add_old (at_lt h.mh)]; exact h.mh), fun X11 e11 => ?_⟩⟩
  obtain ⟨a, b⟩ := h.fresh ho (0, 0, 0, []) rfl
  rw [e8] at e11
  have e11 : X11 = (X.add (.arr cL [lvOf none (0, 0, 0, [])])).set d.hH (.map (.int .i64) (.ref cL) (mset (eqN o) o (some X.n) d.hes)) := e11
  rw [← e11] at a b
  obtain ⟨d2, hd2⟩ : ∃ d2 : MD, d2 = { d with p := { d.p with es := d.p.es ++ [(o, (0, 0, 0, []))] }, h := fun k => if k = o then X.n else d.h k, sl := fun k => if k = o then none else d.sl k } := ⟨_, rfl⟩
  rw [← hd2] at a b
  have ho2 : mfind (eqN o) d2.p.es = some (0, 0, 0, []) := mfind_of a.nd (by rw [hd2]; simp)
  have hf : mfind (eqN o) d2.hes = some (some (d2.h o)) := by rw [a.find, ho2]; rfl
  refine ⟨_, a.box.el, d2.hes, mp_at.2 a.mh, fun v hv => ?_, fun hv => ?_⟩
  · have hv : mfind (eqN o) d2.hes = some v := hv
    rw [hf] at hv
    have hv := Option.some.inj hv
    subst hv
    refine (c61 a ho2 th).mono ?_
    rintro _ X16 ⟨d3, r3, m3, hp3⟩
    refine hR X16 ⟨d3, r3, b.trans m3, ?_⟩
    rw [hp3, hd2]
    rfl
  · have hv : mfind (eqN o) d2.hes = none := hv
    rw [hf] at hv; cases hv

theorem c31 (h : MRep X t d) (hb : short d.p) (o th : Int) : XC Try.prog 31 [.pure .bool, .pure (.int .i64)] [.ref (some t) cT 0 [], .v (.int .i64 o), .v (.int .i64 th)] X
    fun p X' => p = (enterP d.p o th).1 ∧ MGoes X t d X' (enterP d.p o th).2 := by
  refine xcOf (X := X31) rfl FN31 (by kernel_rfl) (by decide) (E31 X t o th ⟨fun e => ?_, fun e => ?_⟩)
  · have e := min_lt.1 e
    have hn : enterP d.p o th = ((false, 1), d.p) := by unfold enterP; rw [if_pos e]
    rw [hn]; exact ⟨rfl, .refl h⟩
  have e : ¬ (o < 1 ∨ th < 1) := fun q => by rw [min_lt.2 q] at e; cases e
  -- it does not wait
  have rest : ∀ (hw : ¬ ∃ v, mfind (eqN th) d.p.ws = some v ∧ 0 < v), ∃ a4 : Option Nat × Option Nat × Int, X.el cT t 0 = some a4 ∧ ∃ es5 : List (Int × Option Nat), X.vmp (.int .i64) (.ref cL) a4.1 = some es5 ∧ True := fun _ => ⟨_, h.box.el, d.hes, mp_at.2 h.mh, trivial⟩
  have hn0 : ∀ (hw : ¬ ∃ v, mfind (eqN th) d.p.ws = some v ∧ 0 < v), mfind (eqN o) d.p.es = none → enterP d.p o th = ((true, 0), { d.p with es := updK (d.p.es ++ [(o, (0, 0, 0, []))]) o (th, 1, nextT d.p, []), turn := nextT d.p }) := fun hw ho => by
    unfold enterP; rw [if_neg e, if_neg hw, ho]
  have hn1 : ∀ (hw : ¬ ∃ v, mfind (eqN th) d.p.ws = some v ∧ 0 < v) (l : PL), mfind (eqN o) d.p.es = some l → enterP d.p o th = if l.1 = th then ((true, 0), { d.p with es := updK d.p.es o (l.1, IntKind.wrap .i64 (l.2.1 + 1), l.2.2) })
      else ((false, 0), { d.p with es := updK d.p.es o (l.1, l.2.1, l.2.2.1, l.2.2.2 ++ [th]), ws := mset (eqN th) th o d.p.ws }) := fun hw l ho => by
    unfold enterP; rw [if_neg e, if_neg hw, ho]
  have made : ∀ (hw : ¬ ∃ v, mfind (eqN th) d.p.ws = some v ∧ 0 < v) (ho : mfind (eqN o) d.p.es = none), ∀ X', MGoes X t d X' { d.p with es := updK (d.p.es ++ [(o, (0, 0, 0, []))]) o (th, 1, nextT d.p, []), turn := nextT d.p } →
      ((true, (0 : Int)) = (enterP d.p o th).1 ∧ MGoes X t d X' (enterP d.p o th).2) := fun hw ho X' hg => by rw [hn0 hw ho]; exact ⟨rfl, hg⟩
  have again : ∀ (hw : ¬ ∃ v, mfind (eqN th) d.p.ws = some v ∧ 0 < v) (l : PL) (ho : mfind (eqN o) d.p.es = some l) (ht : l.1 = th), ∀ X25, X25 = X.setEl cL (d.h o) 0 (l.1, IntKind.wrap .i64 (l.2.1 + 1), (lvOf (d.sl o) l).2.2) →
      ((true, (0 : Int)) = (enterP d.p o th).1 ∧ MGoes X t d X25 (enterP d.p o th).2) := fun hw l ho ht X25 e25 => by
    rw [hn1 hw l ho, if_pos ht]
    refine ⟨rfl, ?_⟩
    have hbx := (h.lbox ho).1
    have e25 := e25.trans hbx.setEl
    have := h.lock0 ho (l.1, IntKind.wrap .i64 (l.2.1 + 1), l.2.2) rfl
    have e25 : X25 = X.set (d.h o) (.arr cL [lvOf (d.sl o) (l.1, IntKind.wrap .i64 (l.2.1 + 1), l.2.2)]) := e25
    rw [← e25] at this
    exact this
  have line : ∀ (hw : ¬ ∃ v, mfind (eqN th) d.p.ws = some v ∧ 0 < v) (l : PL) (ho : mfind (eqN o) d.p.es = some l) (ht : l.1 ≠ th), XC Try.prog 62 [] [.ref (some (d.h o)) cL 0 [.snd, .snd, .snd], .v (.int .i64 th)] X fun _ X28 =>
      ∃ a29 : Option Nat × Option Nat × Int, X28.el cT t 0 = some a29 ∧ ∃ (h30 : Nat) (es31 : List (Int × Int)), a29.2.1 = some h30 ∧ X28.mp (.int .i64) cN h30 = some es31 ∧ ∀ X32 : XH, X32 = X28.set h30 (.map (.int .i64) cN (mset (Cd.keq (.int .i64) th) th o es31)) →
        ((false, (0 : Int)) = (enterP d.p o th).1 ∧ MGoes X t d X32 (enterP d.p o th).2) := fun hw l ho ht => by
    rw [hn1 hw l ho, if_neg ht]
    refine (c62 h ho th (hb _ (mfind_mem ho))).mono ?_
    rintro _ X28 ⟨d2, r2, m2, hp2⟩
    refine ⟨_, r2.box.el, d2.hW, d2.p.ws, rfl, mp_at.2 r2.mw, fun X32 e32 => ⟨rfl, ?_⟩⟩
    obtain ⟨a, b⟩ := r2.waits (mset (eqN th) th o d2.p.ws)
    rw [← e32] at a b
    refine ⟨_, a, m2.trans b, ?_⟩
    dsimp only
    rw [hp2]
  have hbranch : ∀ (hw : ¬ ∃ v, mfind (eqN th) d.p.ws = some v ∧ 0 < v), mfind (eqN o) d.hes = (mfind (eqN o) d.p.es).map fun _ => some (d.h o) := fun _ => h.find o
  refine ⟨_, h.box.el, d.p.ws, mp_at.2 h.mw, fun v hv => ⟨fun e3 => ?_, fun e3 => ?_⟩, fun hv => ⟨fun e3 => absurd e3 (by decide), fun _ => ?_⟩⟩
  · have hv : mfind (eqN th) d.p.ws = some v := hv
    have e3 := of_decide_eq_true e3
    have hn : enterP d.p o th = ((false, 25), d.p) := by unfold enterP; rw [if_neg e, if_pos ⟨v, hv, e3⟩]
    rw [hn]; exact ⟨rfl, .refl h⟩
  · have hv : mfind (eqN th) d.p.ws = some v := hv
    have e3 := of_decide_eq_false e3
    have hw : ¬ ∃ v, mfind (eqN th) d.p.ws = some v ∧ 0 < v := by
      rintro ⟨u, hu, hu0⟩
      rw [hv] at hu; cases hu
      exact e3 hu0
    refine ⟨_, h.box.el, d.hes, mp_at.2 h.mh, fun u hu => ?_, fun hu => ?_⟩
    · have hu : mfind (eqN o) d.hes = some u := hu
      rw [h.find] at hu
      cases ho : mfind (eqN o) d.p.es with
      | none => rw [ho] at hu; cases hu
      | some l =>
        rw [ho] at hu
        have hu : some (d.h o) = u := Option.some.inj hu
        subst hu
        have hbx := (h.lbox ho).1
        refine ⟨fun e => (by cases e), fun _ => refK_iff.2 ⟨_, rfl, _, hbx.el, fun e4 => refK_iff.2 ⟨_, rfl, _, hbx.el, refK_iff.2 ⟨_, rfl, _, hbx.el, fun X25 e25 => again hw l ho (by simpa [lvOf] using e4) X25 e25⟩⟩, fun e4 => refK_iff.2 ⟨_, rfl, line hw l ho (by simpa [lvOf] using e4)⟩⟩⟩
    · have hu : mfind (eqN o) d.hes = none := hu
      rw [h.find] at hu
      have ho : mfind (eqN o) d.p.es = none := by simpa using hu
      exact ⟨fun _ => enter_new h ho th (R := fun p X' => p = (enterP d.p o th).1 ∧ MGoes X t d X' (enterP d.p o th).2) (made hw ho), fun e => (by cases e)⟩
  · have hv : mfind (eqN th) d.p.ws = none := hv
    have hw : ¬ ∃ v, mfind (eqN th) d.p.ws = some v ∧ 0 < v := by
      rintro ⟨u, hu, hu0⟩
      rw [hv] at hu; cases hu
    refine ⟨_, h.box.el, d.hes, mp_at.2 h.mh, fun u hu => ?_, fun hu => ?_⟩
    · have hu : mfind (eqN o) d.hes = some u := hu
      rw [h.find] at hu
      cases ho : mfind (eqN o) d.p.es with
      | none => rw [ho] at hu; cases hu
      | some l =>
        rw [ho] at hu
        have hu : some (d.h o) = u := Option.some.inj hu
        subst hu
        have hbx := (h.lbox ho).1
        refine ⟨fun e => (by cases e), fun _ => refK_iff.2 ⟨_, rfl, _, hbx.el, fun e4 => refK_iff.2 ⟨_, rfl, _, hbx.el, refK_iff.2 ⟨_, rfl, _, hbx.el, fun X25 e25 => again hw l ho (by simpa [lvOf] using e4) X25 e25⟩⟩, fun e4 => refK_iff.2 ⟨_, rfl, line hw l ho (by simpa [lvOf] using e4)⟩⟩⟩
    · have hu : mfind (eqN o) d.hes = none := hu
      rw [h.find] at hu
      have ho : mfind (eqN o) d.p.es = none := by simpa using hu
      exact ⟨fun _ => enter_new h ho th (R := fun p X' => p = (enterP d.p o th).1 ∧ MGoes X t d X' (enterP d.p o th).2) (made hw ho), fun e => (by cases e)⟩

def exitP (p : PD) (o th : Int) : (Int × Int) × PD :=
  if o < 1 ∨ th < 1 then ((0, 1), p)
  else match mfind (eqN o) p.es with
    | none => ((0, 25), p)
    | some l => if l.1 ≠ th then ((0, 25), p)
      else if IntKind.wrap .i64 (l.2.1 - 1) > 0 then ((0, 0), { p with es := updK p.es o (l.1, IntKind.wrap .i64 (l.2.1 - 1), l.2.2) })
      else (((nextP { p with es := updK p.es o (l.1, IntKind.wrap .i64 (l.2.1 - 1), l.2.2) } o).1, 0), (nextP { p with es := updK p.es o (l.1, IntKind.wrap .i64 (l.2.1 - 1), l.2.2) } o).2)

theorem c33 (h : MRep X t d) (hb : short d.p) (o th : Int) : XC Try.prog 33 [.pure (.int .i64), .pure (.int .i64)] [.ref (some t) cT 0 [], .v (.int .i64 o), .v (.int .i64 th)] X
    fun p X' => p = (exitP d.p o th).1 ∧ MGoes X t d X' (exitP d.p o th).2 := by
  refine xcOf (X := X33) rfl FN33 (by kernel_rfl) (by decide) (E33 X t o th ⟨fun e => ?_, fun e => ?_⟩)
  · have e := min_lt.1 e
    have hn : exitP d.p o th = ((0, 1), d.p) := by unfold exitP; rw [if_pos e]
    rw [hn]; exact ⟨rfl, .refl h⟩
  have e : ¬ (o < 1 ∨ th < 1) := fun q => by rw [min_lt.2 q] at e; cases e
  refine ⟨_, h.box.el, d.hes, mp_at.2 h.mh, fun u hu => ?_, fun hu => ?_⟩
  · have hu : mfind (eqN o) d.hes = some u := hu
    rw [h.find] at hu
    cases ho : mfind (eqN o) d.p.es with
    | none => rw [ho] at hu; cases hu
    | some l =>
      rw [ho] at hu
      have hu : some (d.h o) = u := Option.some.inj hu
      subst hu
      have hbx := (h.lbox ho).1
      refine ⟨fun e => (by cases e), fun _ => refK_iff.2 ⟨_, rfl, _, hbx.el, fun e4 => ?_, fun e4 => refK_iff.2 ⟨_, rfl, _, hbx.el, refK_iff.2 ⟨_, rfl, _, hbx.el, fun X10 e10 => ?_⟩⟩⟩⟩
      · have e4 : l.1 ≠ th := by simpa [lvOf] using e4
        have hn : exitP d.p o th = ((0, 25), d.p) := by unfold exitP; rw [if_neg e, ho]; dsimp only; rw [if_pos e4]
        rw [hn]; exact ⟨rfl, .refl h⟩
      · have e4 : l.1 = th := by simpa [lvOf] using e4
        have e10 := e10.trans hbx.setEl
        obtain ⟨d2, r2, m2, hp2⟩ := h.lock0 ho (l.1, IntKind.wrap .i64 (l.2.1 - 1), l.2.2) rfl
        have e10 : X10 = X.set (d.h o) (.arr cL [lvOf (d.sl o) (l.1, IntKind.wrap .i64 (l.2.1 - 1), l.2.2)]) := e10
        rw [← e10] at r2 m2
        have hb10 : Box X10 cL (d.h o) (lvOf (d.sl o) (l.1, IntKind.wrap .i64 (l.2.1 - 1), l.2.2)) := by rw [e10]; exact hbx.set
        have ho2 : mfind (eqN o) d2.p.es = some (l.1, IntKind.wrap .i64 (l.2.1 - 1), l.2.2) := by rw [hp2]; dsimp only; rw [updK_find ho, if_pos rfl]
        refine refK_iff.2 ⟨_, rfl, _, hb10.el, fun e5 => ?_, fun e5 => ?_⟩
        · have e5 := of_decide_eq_true e5
          have e5 : IntKind.wrap .i64 (l.2.1 - 1) > 0 := e5
          have hn : exitP d.p o th = ((0, 0), { d.p with es := updK d.p.es o (l.1, IntKind.wrap .i64 (l.2.1 - 1), l.2.2) }) := by unfold exitP; rw [if_neg e, ho]; dsimp only; rw [if_neg (fun q => q e4), if_pos e5]
          rw [hn]; exact ⟨rfl, d2, r2, m2, hp2⟩
        · have e5 := of_decide_eq_false e5
          have e5 : ¬ IntKind.wrap .i64 (l.2.1 - 1) > 0 := e5
          have hn : exitP d.p o th = (((nextP d2.p o).1, 0), (nextP d2.p o).2) := by unfold exitP; rw [if_neg e, ho]; dsimp only; rw [if_neg (fun q => q e4), if_neg e5, hp2]
          rw [hn]
          refine (c65 r2 ho2 (hb _ (mfind_mem ho))).mono ?_
          rintro v X14 ⟨rfl, d3, r3, m3, hp3⟩
          exact ⟨rfl, d3, r3, m2.trans m3, hp3⟩
  · have hu : mfind (eqN o) d.hes = none := hu
    rw [h.find] at hu
    have ho : mfind (eqN o) d.p.es = none := by simpa using hu
    have hn : exitP d.p o th = ((0, 25), d.p) := by unfold exitP; rw [if_neg e, ho]
    rw [hn]
    exact ⟨fun _ => ⟨rfl, .refl h⟩, fun e => (by cases e)⟩

def ownerP (p : PD) (o : Int) : Int × Int :=
  match mfind (eqN o) p.es with
  | none => (0, 0)
  | some l => (l.1, l.2.1)

def waitsP (p : PD) (o : Int) : List Int :=
  match mfind (eqN o) p.es with
  | none => []
  | some l => l.2.2.2

theorem c38 (h : MRep X t d) (o : Int) : RC Try.prog 38 [.pure (.int .i64), .pure (.int .i64)] [.ref (some t) cT 0 [], .v (.int .i64 o)] X (ownerP d.p o) := by
  refine xcOf (X := X38) rfl FN38 (by kernel_rfl) (by decide) (E38 X t o ⟨_, h.box.el, d.hes, mp_at.2 h.mh, fun u hu => ?_, fun hu => ?_⟩)
  · have hu : mfind (eqN o) d.hes = some u := hu
    rw [h.find] at hu
    cases ho : mfind (eqN o) d.p.es with
    | none => rw [ho] at hu; cases hu
    | some l =>
      rw [ho] at hu
      have hu : some (d.h o) = u := Option.some.inj hu
      subst hu
      have hbx := (h.lbox ho).1
      have hn : ownerP d.p o = (l.1, l.2.1) := by unfold ownerP; rw [ho]
      rw [hn]
      exact ⟨fun _ => refK_iff.2 ⟨_, rfl, _, hbx.el, refK_iff.2 ⟨_, rfl, _, hbx.el, rfl, rfl⟩⟩, fun e => (by cases e)⟩
  · have hu : mfind (eqN o) d.hes = none := hu
    rw [h.find] at hu
    have ho : mfind (eqN o) d.p.es = none := by simpa using hu
    have hn : ownerP d.p o = (0, 0) := by unfold ownerP; rw [ho]
    rw [hn]
    exact ⟨fun e => (by cases e), fun _ => ⟨rfl, rfl⟩⟩

theorem c40 (h : MRep X t d) (hb : short d.p) (o : Int) : RC Try.prog 40 [.pure (.slice (.int .i64))] [.ref (some t) cT 0 [], .v (.int .i64 o)] X (waitsP d.p o) := by
  refine xcOf (X := X40) rfl FN40 (by kernel_rfl) (by decide) (E40 X t o ⟨_, h.box.el, d.hes, mp_at.2 h.mh, fun u hu => ?_, fun hu => ?_⟩)
  · have hu : mfind (eqN o) d.hes = some u := hu
    rw [h.find] at hu
    cases ho : mfind (eqN o) d.p.es with
    | none => rw [ho] at hu; cases hu
    | some l =>
      rw [ho] at hu
      have hu : some (d.h o) = u := Option.some.inj hu
      subst hu
      obtain ⟨hbx, hs⟩ := h.lbox ho
      have hn : waitsP d.p o = l.2.2.2 := by unfold waitsP; rw [ho]
      rw [hn]
      exact ⟨fun _ => refK_iff.2 ⟨_, rfl, _, hbx.el, _, c73 hs (hb _ (mfind_mem ho)), rfl, rfl⟩, fun e => (by cases e)⟩
  · have hu : mfind (eqN o) d.hes = none := hu
    rw [h.find] at hu
    have ho : mfind (eqN o) d.p.es = none := by simpa using hu
    have hn : waitsP d.p o = [] := by unfold waitsP; rw [ho]
    rw [hn]
    exact ⟨fun e => (by cases e), fun _ => ⟨rfl, rfl⟩⟩

end Go.Proofs.Ytefpoodhdfggdaa.AB

set_option maxRecDepth 100000
set_option maxHeartbeats 2000000
namespace Go.Proofs.Ytefpoodhdfggdaa.AB
open Go
noncomputable def X67 : Cx := ⟨tt, [], [(68, [(.sl (.pure (.int .i64)))])], [(67, [(0, 0, .x (.pure (.int .i64))), (1, 6, .xc)])], [], []⟩
theorem FN67 : fnsB Try.prog X67.fns := (show True from trivial)
theorem E67 (X : XH) (q0 : Nat) (x1 : Int) {R : Unit → XH → Prop} (h : (∀ (X1 : XH), X1 = (XH.add X (.arr (.pure (.int .i64)) [x1])) → (∃ (a2 : (Int × (Int × (Int × ((Option SlH) × Unit))))), XH.el X1 yZ3 q0 0 = some a2 ∧ (XC Try.prog 68 [(.sl (.pure (.int .i64)))] [(.sl (.pure (.int .i64)) a2.2.2.2.1), (.clo 86 [(.ref (some X.n) (.pure (.int .i64)) 0 [])])] X1 (fun (p3 : (Option SlH)) (X4 : XH) => (∃ (a5 : (Int × (Int × (Int × ((Option SlH) × Unit))))), XH.el X4 yZ3 q0 0 = some a5 ∧ (∀ (X6 : XH), X6 = (XH.setEl X4 yZ3 q0 0 ((a5.1, (a5.2.1, (a5.2.2.1, (p3, a5.2.2.2.2)))))) → R () X6))))))) :
 fnK X67.tt (callN Try.prog X67 0) (X67.md 67) (X67.mk1 67) Try.f67 [(.ref (some q0) yZ3 0 [.snd, .snd, .snd]), (.v (.int .i64 x1))] ⟨[], [some (.heap X)], ⟨0, []⟩⟩ (xfin [] R) := Eq.mp (by kernel_rfl) h
end Go.Proofs.Ytefpoodhdfggdaa.AB

set_option maxRecDepth 100000
set_option maxHeartbeats 2000000
namespace Go.Proofs.Ytefpoodhdfggdaa.AB
open Go
noncomputable def X68 : Cx := ⟨tt, [], [(86, [(.pure .bool)]), (87, [(.pure (.int .i64))])], [(68, [(0, 0, .x (.sl (.pure (.int .i64)))), (1, 2, .rd), (8, 2, .rd)])], [(68, [(0, mkM 42 0 [0, 1, 5, 6], 0)])], []⟩
theorem FN68 : fnsB Try.prog X68.fns := (show True from trivial)
def M68_0 : List Bool × Nat := (mkM 42 0 [0, 1, 5, 6], 1)
def S68_0 (s0 : Option SlH) (del1_0 : Nat) (i5 : Int) (j6 : Int) (hq0 : XH) (T : Toks) : St :=
  mkS 42 [(0, (.sl (.pure (.int .i64)) s0)), (1, (.clo 86 [(.ref (some del1_0) (.pure (.int .i64)) 0 [])])), (5, (.v (.int .i64 i5))), (6, (.v (.int .i64 j6)))] [(some (.heap hq0))] T
noncomputable def B68_0 : (Exit → St → Prop) → St → Prop := (awp X68.tt (callN Try.prog X68 0) (X68.md 68) 1 (X68.mk1 68) 0 (codeAt [1, 1, 1, 0, 1, 0, 0] (bd Try.f68)))
noncomputable def K68_0 (R : ((Option SlH)) → XH → Prop) : Exit → St → Prop := seqK ((awp X68.tt (callN Try.prog X68 0) (X68.md 68) 1 (X68.mk1 68) 0 (codeAt [1, 1, 1, 1] (bd Try.f68))) (retK tt Try.f68.results.toList fun x s' => xfin [(.sl (.pure (.int .i64)))] R x ⟨[], s'.hp, s'.T⟩)) (retK tt Try.f68.results.toList fun x s' => xfin [(.sl (.pure (.int .i64)))] R x ⟨[], s'.hp, s'.T⟩)
noncomputable def Q68_0 (R : ((Option SlH)) → XH → Prop) : Exit → St → Prop := (blockK 0 (K68_0 R))
theorem E68 (X : XH) (s0 : (Option SlH)) (del1c0 : Nat) {R : ((Option SlH)) → XH → Prop} (h : (∃ (p1 : Int), RC Try.prog 87 [(.pure (.int .i64))] [(.sl (.pure (.int .i64)) s0), (.clo 86 [(.ref (some del1c0) (.pure (.int .i64)) 0 [])])] X p1 ∧ (((p1 == (-1 : Int)) = true → R s0 X) ∧
 ((p1 == (-1 : Int)) = false → (Loops B68_0 M68_0 (Q68_0 R)
  (S68_0 s0 del1c0 p1 ((IntKind.wrap .i64 (p1 + (1 : Int)))) X ⟨0, []⟩)))))) :
  fnK X68.tt (callN Try.prog X68 0) (X68.md 68) (X68.mk1 68) Try.f68 [(.sl (.pure (.int .i64)) s0), (.clo 86 [(.ref (some del1c0) (.pure (.int .i64)) 0 [])])] ⟨[], [some (.heap X)], ⟨0, []⟩⟩ (xfin [(.sl (.pure (.int .i64)))] R) := Eq.mp (by kernel_rfl) h
theorem L68_0 (s0 : Option SlH) (del1_0 : Nat) (i5 : Int) (j6 : Int) (hq0 : XH) (T : Toks) {R : ((Option SlH)) → XH → Prop} {k0 : St → Prop}
 (h : (((decide (j6 < (((slN s0) : Nat) : Int))) = true → (∃ (u2 : SlH), s0 = some u2 ∧ 0 ≤ j6 ∧ j6 < ((u2.len : Nat) : Int) ∧ (∃ (a3 : Int), XH.el hq0 (.pure (.int .i64)) u2.h ((u2.off + (j6).toNat)) = some a3 ∧ (∃ (p4 : Bool), RC Try.prog 86 [(.pure .bool)] [(.v (.int .i64 a3)), (.ref (some del1_0) (.pure (.int .i64)) 0 [])] hq0 p4 ∧ (((!p4) = true → (∃ (u5 : SlH), s0 = some u5 ∧ 0 ≤ i5 ∧ i5 < ((u5.len : Nat) : Int) ∧ (∃ (a6 : Int), XH.el hq0 (.pure (.int .i64)) u5.h ((u5.off + (i5).toNat)) = some a6 ∧ (∀ (X7 : XH), X7 = (XH.setEl hq0 (.pure (.int .i64)) u5.h ((u5.off + (i5).toNat)) a3) → k0 (S68_0 s0 del1_0 ((IntKind.wrap .i64 (i5 + (1 : Int)))) ((IntKind.wrap .i64 (j6 + (1 : Int)))) X7 T))))) ∧
 ((!p4) = false → k0 (S68_0 s0 del1_0 i5 ((IntKind.wrap .i64 (j6 + (1 : Int)))) hq0 T))))))) ∧
 ((decide (j6 < (((slN s0) : Nat) : Int))) = false → (0 ≤ i5 ∧ i5 ≤ (((slN s0) : Nat) : Int) ∧ (∃ (d8 : List Int), XH.view hq0 (.pure (.int .i64)) (slCut s0 ((i5).toNat) (slN s0) (slC s0)) = some d8 ∧ (∀ (X9 : XH), X9 = (XH.over hq0 (.pure (.int .i64)) (slCut s0 ((i5).toNat) (slN s0) (slC s0)) 0 (List.replicate (slN ((slCut s0 ((i5).toNat) (slN s0) (slC s0)))) (0 : Int))) → (0 ≤ i5 ∧ i5 ≤ (((slC s0) : Nat) : Int) ∧ R ((slCut s0 0 ((i5).toNat) (slC s0))) X9))))))) :
  B68_0 (loopQ M68_0 k0 (Q68_0 R)) (S68_0 s0 del1_0 i5 j6 hq0 T) := Eq.mp (by kernel_rfl) h
end Go.Proofs.Ytefpoodhdfggdaa.AB

set_option maxRecDepth 100000
set_option maxHeartbeats 2000000
namespace Go.Proofs.Ytefpoodhdfggdaa.AB
open Go
noncomputable def X86 : Cx := ⟨tt, [], [], [], [], []⟩
theorem FN86 : fnsB Try.prog X86.fns := (show True from trivial)
theorem E86 (X : XH) (y0 : Int) (fv0 : Nat) {R : (Bool) → XH → Prop} (h : (∃ (a1 : Int), XH.el X (.pure (.int .i64)) fv0 0 = some a1 ∧ R (y0 == a1) X)) :
 fnK X86.tt (callN Try.prog X86 0) (X86.md 86) (X86.mk1 86) Try.f86 [(.v (.int .i64 y0)), (.ref (some fv0) (.pure (.int .i64)) 0 [])] ⟨[], [some (.heap X)], ⟨0, []⟩⟩ (xfin [(.pure .bool)] R) := Eq.mp (by kernel_rfl) h
end Go.Proofs.Ytefpoodhdfggdaa.AB

set_option maxRecDepth 100000
set_option maxHeartbeats 2000000
namespace Go.Proofs.Ytefpoodhdfggdaa.AB
open Go
noncomputable def X87 : Cx := ⟨tt, [], [(86, [(.pure .bool)])], [(87, [(4, 5, .rd)])], [(87, [(0, mkM 19 0 [0, 1, 7, 8], 0)])], []⟩
theorem FN87 : fnsB Try.prog X87.fns := (show True from trivial)
def M87_0 : List Bool × Nat := (mkM 19 0 [0, 1, 7, 8], 1)
def S87_0 (s0 : Option SlH) (f1_0 : Nat) (t7 : Int) (t8 : Int) (hq0 : XH) (T : Toks) : St :=
  mkS 19 [(0, (.sl (.pure (.int .i64)) s0)), (1, (.clo 86 [(.ref (some f1_0) (.pure (.int .i64)) 0 [])])), (7, (.v (.int .i64 t7))), (8, (.v (.int .i64 t8)))] [(some (.heap hq0))] T
noncomputable def B87_0 : (Exit → St → Prop) → St → Prop := (awp X87.tt (callN Try.prog X87 0) (X87.md 87) 1 (X87.mk1 87) 0 (codeAt [1, 0, 1, 0, 0] (bd Try.f87)))
noncomputable def K87_0 (R : (Int) → XH → Prop) : Exit → St → Prop := seqK ((awp X87.tt (callN Try.prog X87 0) (X87.md 87) 1 (X87.mk1 87) 0 (codeAt [1, 1] (bd Try.f87))) (retK tt Try.f87.results.toList fun x s' => xfin [(.pure (.int .i64))] R x ⟨[], s'.hp, s'.T⟩)) (retK tt Try.f87.results.toList fun x s' => xfin [(.pure (.int .i64))] R x ⟨[], s'.hp, s'.T⟩)
noncomputable def Q87_0 (R : (Int) → XH → Prop) : Exit → St → Prop := (blockK 0 (K87_0 R))
theorem E87 (X : XH) (s0 : (Option SlH)) (f1c0 : Nat) {R : (Int) → XH → Prop} (h : (Loops B87_0 M87_0 (Q87_0 R)
  (S87_0 s0 f1c0 ((((slN s0) : Nat) : Int)) (0 : Int) X ⟨0, []⟩))) :
  fnK X87.tt (callN Try.prog X87 0) (X87.md 87) (X87.mk1 87) Try.f87 [(.sl (.pure (.int .i64)) s0), (.clo 86 [(.ref (some f1c0) (.pure (.int .i64)) 0 [])])] ⟨[], [some (.heap X)], ⟨0, []⟩⟩ (xfin [(.pure (.int .i64))] R) := Eq.mp (by kernel_rfl) h
theorem L87_0 (s0 : Option SlH) (f1_0 : Nat) (t7 : Int) (t8 : Int) (hq0 : XH) (T : Toks) {R : (Int) → XH → Prop} {k0 : St → Prop}
 (h : (((decide (t8 < t7)) = true → (∃ (u1 : SlH), s0 = some u1 ∧ 0 ≤ t8 ∧ t8 < ((u1.len : Nat) : Int) ∧ (∃ (a2 : Int), XH.el hq0 (.pure (.int .i64)) u1.h ((u1.off + (t8).toNat)) = some a2 ∧ (∃ (p3 : Bool), RC Try.prog 86 [(.pure .bool)] [(.v (.int .i64 a2)), (.ref (some f1_0) (.pure (.int .i64)) 0 [])] hq0 p3 ∧ ((p3 = true → R t8 hq0) ∧
 (p3 = false → k0 (S87_0 s0 f1_0 t7 ((IntKind.wrap .i64 (t8 + (1 : Int)))) hq0 T))))))) ∧
 ((decide (t8 < t7)) = false → R (-1 : Int) hq0))) :
  B87_0 (loopQ M87_0 k0 (Q87_0 R)) (S87_0 s0 f1_0 t7 t8 hq0 T) := Eq.mp (by kernel_rfl) h
end Go.Proofs.Ytefpoodhdfggdaa.AB

namespace Go.Proofs.Ytefpoodhdfggdaa.AB
open Go

variable {X X' : XH} {t : Nat} {d : MD} {o : Int} {l : PL}

theorem c86 {b : Nat} {x : Int} (hb : Box X cN b x) (y : Int) : RC Try.prog 86 [.pure .bool] [.v (.int .i64 y), .ref (some b) cN 0 []] X (y == x) :=
 xcOf (X := X86) rfl FN86 (by kernel_rfl) (by decide) (E86 X y b ⟨_, hb.el, rfl, rfl⟩)

def idxV (x : Int) (w : List Int) : Int :=
 match w.findIdx? (· == x) with
 | some i => (i : Int)
 | none => -1

theorem c87 {s : Option SlH} {w : List Int} (hs : SlAt X cN s w) {b : Nat} {x : Int} (hb : Box X cN b x) (hl : w.length ≤ 1000000) :
  RC Try.prog 87 [.pure (.int .i64)] [.sl cN s, .clo 86 [.ref (some b) cN 0 []]] X (idxV x w) := by
 have hlen := hs.len
 refine xcOf (X := X87) rfl FN87 (by kernel_rfl) (by decide) (E87 X s b ?_)
 rw [hlen]
 refine Loops.intro (fun i : Nat => S87_0 s b ((w.length : Nat) : Int) (i : Int) X ⟨0, []⟩) (fun i => i ≤ w.length ∧ ∀ j, (hj : j < w.length) → j < i → w[j] ≠ x) (fun i => w.length - i) 0 rfl ⟨Nat.zero_le _, fun j _ h => absurd h (Nat.not_lt_zero _)⟩ ?_
 rintro i ⟨hi, hno⟩
 refine L87_0 s b ((w.length : Nat) : Int) i X ⟨0, []⟩ ⟨fun e => ?_, fun e => ?_⟩
 ·have e := of_decide_eq_true e
  have hi' : i < w.length := by omega
  obtain ⟨u, rfl⟩ : ∃ u, s = some u := by
   cases s with
   | none => have : w = [] := hs; subst this; simp at hi'
   | some u => exact ⟨u, rfl⟩
  have hlen : u.len = w.length := hlen
  have hel := hs.el hi'
  refine ⟨u, rfl, by omega, by omega, w[i], by rw [Int.toNat_natCast]; exact hel, _, c86 hb _, fun e2 => ?_, fun e2 => ?_⟩
  ·have e2 : w[i] = x := by simpa using e2
   have hv : idxV x w = (i : Int) := by
    unfold idxV
    rw [(List.findIdx?_eq_some_iff_getElem).2 ⟨hi', by simpa using e2, fun j hj => by have := hno j (by omega) hj; simpa using this⟩]
   exact ⟨hv.symm, rfl⟩
  ·have e2 : w[i] ≠ x := by simpa using e2
   rw [wrap64 (by omega) (by omega)]
   refine Again.mk (i + 1) rfl ⟨by omega, fun j hj hji => ?_⟩ (by omega)
   by_cases h : j = i
   ·subst h; exact e2
   ·exact hno j hj (by omega)
 ·have e := of_decide_eq_false e
  have : i = w.length := by omega
  have hv : idxV x w = -1 := by
   unfold idxV
   rw [List.findIdx?_eq_none_iff.2 fun y hy => by
    obtain ⟨j, hj, rfl⟩ := List.getElem_of_mem hy
    have := hno j hj (by omega)
    simpa using this]
  exact ⟨hv.symm, rfl⟩

theorem over_cutS (X : XH) (c : Xd) (s : SlH) (a b m : Nat) (l' : List c.T) : X.over c (slCut (some s) a b m) 0 l' = X.over c (some s) a l' := by
 simp only [slCut, XH.over, Nat.add_zero]

theorem SlAt.setAt {c : Xd} {s : SlH} {v : List c.T} (h : SlAt X c (some s) v) {k : Nat} (hk : k < v.length) (a : c.T) :
  SlAt (X.setEl c s.h (s.off + k) a) c (some s) (v.set k a) ∧ Mv X (hl (some s)) (X.setEl c s.h (s.off + k) a) (hl (some s)) := by
 have hvl : s.len = v.length := h.len
 obtain ⟨r, ha, hb, hc, hl'⟩ := h
 have e : X.setEl c s.h (s.off + k) a = X.set s.h (.arr c (r.set (s.off + k) a)) := by
  unfold XH.setEl; rw [arr_at.2 ha]
 rw [e]
 refine ⟨⟨_, at_set_self ha, by rw [List.length_set]; exact hb, hc, ?_⟩, Mv.set (by simp [hl])⟩
 refine List.ext_getElem? fun i => ?_
 rw [List.getElem?_set, List.getElem?_take, List.getElem?_drop, List.getElem?_set]
 by_cases e1 : k = i
 ·subst e1
  rw [if_pos rfl, if_pos hk, if_pos (by omega), if_pos rfl, if_pos (by omega)]
 ·rw [if_neg e1, if_neg (show ¬ s.off + k = s.off + i by omega)]
  have : v[i]? = if i < s.len then r[s.off + i]? else none := by rw [hl', List.getElem?_take, List.getElem?_drop]
  rw [this]

theorem c68 {s : Option SlH} {w : List Int} (hs : SlAt X cN s w) {b : Nat} {x : Int} (hb : Box X cN b x) (hne : b ∉ hl s) (hl0 : w.length ≤ 1000000) :
  XC Try.prog 68 [.sl cN] [.sl cN s, .clo 86 [.ref (some b) cN 0 []]] X fun p X' => SlAt X' cN p (w.filter fun y => !(y == x)) ∧ Mv X (hl s) X' (hl p) := by
 have hlen := hs.len
 refine xcOf (X := X68) rfl FN68 (by kernel_rfl) (by decide) (E68 X s b ⟨_, c87 hs hb hl0, fun e => ?_, fun e => ?_⟩)
 ·have e : idxV x w = -1 := by simpa using e
  have hn : w.findIdx? (· == x) = none := by
   unfold idxV at e
   cases hc : w.findIdx? (· == x) with
   | none => rfl
   | some i => rw [hc] at e; simp only at e; omega
  have hf : (w.filter fun y => !(y == x)) = w := List.filter_eq_self.2 fun y hy => by
   have := List.findIdx?_eq_none_iff.1 hn y hy
   rw [this]; rfl
  rw [hf]
  exact ⟨hs, .refl _ _⟩
 ·have e : idxV x w ≠ -1 := by simpa using e
  obtain ⟨i, hi⟩ : ∃ i, w.findIdx? (· == x) = some i := by
   unfold idxV at e
   cases hc : w.findIdx? (· == x) with
   | none => rw [hc] at e; exact absurd rfl e
   | some i => exact ⟨i, rfl⟩
  have hv : idxV x w = (i : Int) := by unfold idxV; rw [hi]
  obtain ⟨hi', hx, hno⟩ := (List.findIdx?_eq_some_iff_getElem).1 hi
  obtain ⟨u, rfl⟩ : ∃ u, s = some u := by
   cases s with
   | none => have : w = [] := hs; subst this; simp at hi'
   | some u => exact ⟨u, rfl⟩
  have hlen : u.len = w.length := hlen
  have hle : u.len ≤ u.cap := hs.le
  rw [hv, wrap64 (by omega) (by omega)]
  have hf0 : w.take i = (w.take (i + 1)).filter fun y => !(y == x) := by
   rw [List.take_succ_eq_append_getElem hi', List.filter_append]
   have h1 : ((w.take i).filter fun y => !(y == x)) = w.take i := List.filter_eq_self.2 fun y hy => by
    obtain ⟨j, hj, rfl⟩ := List.getElem_of_mem hy
    rw [List.length_take] at hj
    have := hno j (by omega)
    rw [List.getElem_take]
    simpa using this
   rw [h1]
   have h2 : ([w[i]].filter fun y => !(y == x)) = [] := by simp at hx; simp [hx]
   rw [h2, List.append_nil]
  refine Loops.intro (fun q : Nat × Nat × XH => S68_0 (some u) b (q.1 : Int) (q.2.1 : Int) q.2.2 ⟨0, []⟩)
   (fun q => q.1 < q.2.1 ∧ q.2.1 ≤ w.length ∧ ∃ v, SlAt q.2.2 cN (some u) v ∧ Mv X (hl (some u)) q.2.2 (hl (some u)) ∧ v.length = w.length ∧ v.take q.1 = (w.take q.2.1).filter (fun y => !(y == x)) ∧ v.drop q.2.1 = w.drop q.2.1) (fun q => w.length - q.2.1) (i, i + 1, X) rfl
   ⟨Nat.lt_succ_self _, hi', w, hs, .refl _ _, rfl, hf0, rfl⟩ ?_
  rintro ⟨k, j, Y⟩ ⟨hkj0, hj0, v, hsv, mv, hvl, htake, hdrop⟩
  have hkj : k < j := hkj0
  have hj : j ≤ w.length := hj0
  have hsv : SlAt Y cN (some u) v := hsv
  have htake : v.take k = (w.take j).filter (fun y => !(y == x)) := htake
  have hdrop : v.drop j = w.drop j := hdrop
  have hbY : Box Y cN b x := hb.keep (mv.keep b hb.lt hne)
  refine L68_0 (some u) b k j Y ⟨0, []⟩ ⟨fun e => ?_, fun e => ?_⟩
  ·have e := of_decide_eq_true e
   have e : (j : Int) < ((u.len : Nat) : Int) := e
   have hj' : j < w.length := by omega
   have hjv : j < v.length := by omega
   have hvj : v[j] = w[j] := by
    have := congrArg (fun l => l[0]?) hdrop
    simp only [List.getElem?_drop, Nat.add_zero, List.getElem?_eq_getElem hjv, List.getElem?_eq_getElem hj', Option.some.injEq] at this
    exact this
   have hel := hsv.el hjv
   rw [hvj] at hel
   have hdrop' : v.drop (j + 1) = w.drop (j + 1) := by
    rw [← List.drop_drop, ← List.drop_drop (i := 1) (j := j) (l := w), hdrop]
   have hftake : (w.take (j + 1)).filter (fun y => !(y == x)) = v.take k ++ (if w[j] = x then [] else [w[j]]) := by
    rw [List.take_succ_eq_append_getElem hj', List.filter_append, htake]
    congr 1
    by_cases h : w[j] = x <;> simp [h]
   refine ⟨u, rfl, by omega, by omega, w[j], by rw [Int.toNat_natCast]; exact hel, _, c86 hbY _, fun e2 => ?_, fun e2 => ?_⟩
   ·have e2 : w[j] ≠ x := by simpa using e2
    rw [if_neg e2] at hftake
    have hk : k < v.length := by omega
    refine ⟨u, rfl, by omega, by omega, v[k], by rw [Int.toNat_natCast]; exact hsv.el hk, fun X7 e7 => ?_⟩
    rw [Int.toNat_natCast] at e7
    obtain ⟨s7, m7⟩ := hsv.setAt hk w[j]
    have e7 : X7 = Y.setEl cN u.h (u.off + k) w[j] := e7
    rw [← e7] at s7 m7
    rw [wrap64 (x := (k : Int) + 1) (by omega) (by omega), wrap64 (x := (j : Int) + 1) (by omega) (by omega)]
    refine Again.mk (k + 1, j + 1, X7) rfl ⟨by show k + 1 < j + 1; omega, hj', v.set k w[j], s7, mv.trans m7, by rw [List.length_set]; exact hvl, ?_, ?_⟩ (show w.length - (j + 1) < w.length - j by omega)
    ·show (v.set k w[j]).take (k + 1) = (w.take (j + 1)).filter (fun y => !(y == x))
     rw [hftake, List.take_succ_eq_append_getElem (by rw [List.length_set]; exact hk), List.getElem_set_self, List.take_set_of_le (Nat.le_refl _)]
    ·show (v.set k w[j]).drop (j + 1) = w.drop (j + 1)
     rw [List.drop_set_of_lt (by omega)]; exact hdrop'
   ·have e2 : w[j] = x := by simpa using e2
    rw [if_pos e2, List.append_nil] at hftake
    rw [wrap64 (x := (j : Int) + 1) (by omega) (by omega)]
    exact Again.mk (k, j + 1, Y) rfl ⟨by show k < j + 1; omega, hj', v, hsv, mv, hvl, hftake.symm, hdrop'⟩ (show w.length - (j + 1) < w.length - j by omega)
  ·have e := of_decide_eq_false e
   have e : ¬ (j : Int) < ((u.len : Nat) : Int) := e
   have hjl : j = w.length := by omega
   rw [hjl, List.take_length] at htake
   have hc := hsv.cut (p := k) (q := u.len) (m := u.cap) (by omega) hle (Nat.le_refl _) (Nat.le_refl _)
   refine ⟨by omega, by show (k : Int) ≤ ((u.len : Nat) : Int); omega, _, by rw [Int.toNat_natCast]; exact hc.view, fun X9 e9 => ⟨by omega, by show (k : Int) ≤ ((u.cap : Nat) : Int); omega, ?_⟩⟩
   rw [Int.toNat_natCast] at e9 ⊢
   obtain ⟨s9, m9⟩ := hsv.over (k := k) (l' := List.replicate (u.len - k) (0 : Int)) (by rw [List.length_replicate]; omega)
   have e9 : X9 = Y.over cN (some u) k (List.replicate (u.len - k) (0 : Int)) := by
    rw [e9, over_cutS]
    rfl
   rw [← e9] at s9 m9
   have hc9 := s9.cut (p := 0) (q := k) (m := u.cap) (Nat.zero_le _) (by omega) (Nat.le_refl _) (by omega)
   rw [List.drop_zero] at hc9
   have : (AB.over v k (List.replicate (u.len - k) (0 : Int))).take k = v.take k := by
    unfold AB.over
    rw [List.append_assoc, List.take_append_of_le_length (by rw [List.length_take]; omega), List.take_take, Nat.min_self]
   rw [this, htake] at hc9
   exact ⟨hc9, mv.trans m9⟩

end Go.Proofs.Ytefpoodhdfggdaa.AB

namespace Go.Proofs.Ytefpoodhdfggdaa.AB
open Go


abbrev cRT : Xd := yZ1
abbrev cRM : Xd := yZ0

structure RM where
 o : Int
 w : Int
 n : Int
 s : Int
 q : List Int

def RM.v (m : RM) (x : Option SlH) : cRM.T := (m.o, m.w, m.n, m.s, x)

abbrev RE := RM × Option SlH

structure RD where
 L : Option SlH
 hs : List RE
 turn : Int

def RD.l (d : RD) : List RM := d.hs.map (·.1)
def RD.ks (d : RD) (r : Nat) : List Nat := r :: (hl d.L ++ d.hs.flatMap fun e => hl e.2)

def Dj (a b : RE) : Prop := ∀ k ∈ hl a.2, k ∉ hl b.2
theorem Dj.symm {a b : RE} (h : Dj a b) : Dj b a := fun k h1 h2 => h k h2 h1

structure RRep (X : XH) (r : Nat) (d : RD) : Prop where
 box : Box X cRT r (d.L, d.turn)
 arr : SlAt X cRM d.L (d.hs.map fun e => e.1.v e.2)
 ws : ∀ e ∈ d.hs, SlAt X cN e.2 e.1.q
 n1 : r ∉ hl d.L
 n2 : ∀ e ∈ d.hs, r ∉ hl e.2 ∧ ∀ k ∈ hl e.2, k ∉ hl d.L
 pw : d.hs.Pairwise Dj

def RGoes (X : XH) (r : Nat) (d : RD) (X' : XH) (l : List RM) (turn : Int) : Prop := ∃ d', RRep X' r d' ∧ Mv X (d.ks r) X' (d'.ks r) ∧ d'.l = l ∧ d'.turn = turn

variable {X X' : XH} {r : Nat} {d : RD} {A C : List RE} {e : RE}

theorem mem_rks {k : Nat} : k ∈ d.ks r ↔ k = r ∨ k ∈ hl d.L ∨ ∃ e ∈ d.hs, k ∈ hl e.2 := by
 simp [RD.ks, List.mem_flatMap]

theorem RRep.lt (h : RRep X r d) : ∀ k ∈ d.ks r, k < X.n := by
 intro k hk
 rcases mem_rks.1 hk with rfl | hk | ⟨e, he, hk⟩
 ·exact h.box.lt
 ·exact h.arr.lt k hk
 ·exact (h.ws e he).lt k hk

theorem RRep.keep (h : RRep X r d) (e : ∀ k ∈ d.ks r, X'.at k = X.at k) : RRep X' r d :=
 ⟨h.box.keep (e r (mem_rks.2 (.inl rfl))), h.arr.keep fun k hk => e k (mem_rks.2 (.inr (.inl hk))), fun x hx => (h.ws x hx).keep fun k hk => e k (mem_rks.2 (.inr (.inr ⟨x, hx, hk⟩))), h.n1, h.n2, h.pw⟩

theorem RRep.mv {S S' : List Nat} (h : RRep X r d) (m : Mv X S X' S') (hd : ∀ k ∈ d.ks r, k ∉ S) : RRep X' r d := h.keep fun k hk => m.keep k (h.lt k hk) (hd k hk)

theorem RGoes.refl (h : RRep X r d) : RGoes X r d X d.l d.turn := ⟨d, h, .refl _ _, rfl, rfl⟩

theorem RRep.at (h : RRep X r d) (hs : d.hs = A ++ e :: C) : ∃ u, d.L = some u ∧ A.length < u.len ∧ X.el cRM u.h (u.off + A.length) = some (e.1.v e.2) := by
 have ha := h.arr
 have hlen := ha.len
 rw [hs] at ha hlen
 cases hL : d.L with
 | none => rw [hL] at hlen; simp [slN] at hlen
 | some u =>
  rw [hL] at ha hlen
  refine ⟨u, rfl, by simp [slN] at hlen; omega, ?_⟩
  have := ha.el (i := A.length) (by simp)
  rw [this]
  simp

theorem RRep.len (h : RRep X r d) : slN d.L = d.hs.length := by have := h.arr.len; simpa using this

theorem RRep.put (h : RRep X r d) (hs : d.hs = A ++ e :: C) {u : SlH} (hu : d.L = some u) (m : RM) {X1 : XH} {x1 : Option SlH} (hq : SlAt X1 cN x1 m.q) (mv : Mv X (hl e.2) X1 (hl x1)) :
  RRep (X1.setEl cRM u.h (u.off + A.length) (m.v x1)) r { d with hs := A ++ (m, x1) :: C } ∧ Mv X (d.ks r) (X1.setEl cRM u.h (u.off + A.length) (m.v x1)) (RD.ks { d with hs := A ++ (m, x1) :: C } r) := by
 have he : e ∈ d.hs := by rw [hs]; simp
 obtain ⟨n2a, n2b⟩ := h.n2 e he
 have hpw := h.pw
 rw [hs, List.pairwise_append] at hpw
 obtain ⟨p1, p2, p3⟩ := hpw
 rw [List.pairwise_cons] at p2
 obtain ⟨p2, p4⟩ := p2
 have old : ∀ k ∈ d.ks r, k ∉ hl e.2 → X1.at k = X.at k := fun k hk hn => mv.keep k (h.lt k hk) hn
 have hn : ∀ k ∈ hl x1, k ∈ hl e.2 ∨ X.n ≤ k := mv.own
 have newL : ∀ k ∈ hl x1, k ∉ hl d.L := fun k hk q => by
  rcases hn k hk with hk | hk
  ·exact n2b k hk q
  ·have := h.arr.lt k q; omega
 have newr : r ∉ hl x1 := fun q => by
  rcases hn r q with hk | hk
  ·exact n2a hk
  ·have := h.box.lt; omega
 have newe : ∀ y ∈ d.hs, Dj e y → Dj (m, x1) y := fun y hy hd k hk q => by
  rcases hn k hk with hk | hk
  ·exact hd k hk q
  ·have := (h.ws y hy).lt k q; omega
 have huL : u.h ∈ hl d.L := by rw [hu]; simp [hl]
 have harr : SlAt X1 cRM d.L (d.hs.map fun e => e.1.v e.2) := h.arr.keep fun k hk => old k (mem_rks.2 (.inr (.inl hk))) fun q => n2b k q hk
 rw [hu] at harr
 have hk : A.length < (d.hs.map fun e => e.1.v e.2).length := by rw [hs]; simp
 obtain ⟨s1, s2⟩ := harr.setAt hk (m.v x1)
 have hset : ((d.hs.map fun e => e.1.v e.2).set A.length (m.v x1)) = (A ++ (m, x1) :: C).map fun e => e.1.v e.2 := by
  rw [hs, List.map_append, List.map_append, List.map_cons, List.map_cons, List.set_append_right _ _ (by simp)]
  simp
 rw [hset] at s1
 have keep2 : ∀ k, k < X1.n → k ≠ u.h → (X1.setEl cRM u.h (u.off + A.length) (m.v x1)).at k = X1.at k := fun k hk hne => s2.keep k hk (by simp [hl, hne])
 have hru : r ≠ u.h := fun q => h.n1 (q ▸ huL)
 have notu : ∀ y ∈ d.hs, ∀ k ∈ hl y.2, k ≠ u.h := fun y hy k hk q => (h.n2 y hy).2 k hk (q ▸ huL)
 have hlt1 : ∀ k, k < X.n → k < X1.n := fun k hk => Nat.lt_of_lt_of_le hk mv.n
 refine ⟨⟨?_, by rw [← hu] at s1; exact s1, fun y hy => ?_, h.n1, fun y hy => ?_, ?_⟩, ?_⟩
 ·exact h.box.keep ((keep2 r (hlt1 _ h.box.lt) hru).trans (old r (mem_rks.2 (.inl rfl)) n2a))
 ·rcases List.mem_append.1 hy with hy | hy
  ·have hyd : y ∈ d.hs := by rw [hs]; exact List.mem_append_left _ hy
   exact (h.ws y hyd).keep fun k hk => (keep2 k (hlt1 _ ((h.ws y hyd).lt k hk)) (notu y hyd k hk)).trans (old k (mem_rks.2 (.inr (.inr ⟨y, hyd, hk⟩))) fun q => p3 y hy e (List.mem_cons_self ..) k hk q)
  ·rcases List.mem_cons.1 hy with rfl | hy
   ·exact hq.keep fun k hk => keep2 k (hq.lt k hk) fun q => newL k hk (q ▸ huL)
   ·have hyd : y ∈ d.hs := by rw [hs]; exact List.mem_append_right _ (List.mem_cons_of_mem _ hy)
    exact (h.ws y hyd).keep fun k hk => (keep2 k (hlt1 _ ((h.ws y hyd).lt k hk)) (notu y hyd k hk)).trans (old k (mem_rks.2 (.inr (.inr ⟨y, hyd, hk⟩))) fun q => p2 y hy k q hk)
 ·rcases List.mem_append.1 hy with hy | hy
  ·exact h.n2 y (by rw [hs]; exact List.mem_append_left _ hy)
  ·rcases List.mem_cons.1 hy with rfl | hy
   ·exact ⟨newr, newL⟩
   ·exact h.n2 y (by rw [hs]; exact List.mem_append_right _ (List.mem_cons_of_mem _ hy))
 ·show (A ++ (m, x1) :: C).Pairwise Dj
  rw [List.pairwise_append, List.pairwise_cons]
  refine ⟨p1, ⟨fun y hy => newe y (by rw [hs]; exact List.mem_append_right _ (List.mem_cons_of_mem _ hy)) (p2 y hy), p4⟩, fun a ha b hb => ?_⟩
  rcases List.mem_cons.1 hb with rfl | hb
  ·exact (newe a (by rw [hs]; exact List.mem_append_left _ ha) (p3 a ha e (List.mem_cons_self ..)).symm).symm
  ·exact p3 a ha b (List.mem_cons_of_mem _ hb)
 ·have m1 : Mv X (d.ks r) X1 (RD.ks { d with hs := A ++ (m, x1) :: C } r) := by
   refine mv.weak (fun k hk => mem_rks.2 (.inr (.inr ⟨e, he, hk⟩))) fun k hk => ?_
   rcases mem_rks.1 hk with rfl | hk | ⟨y, hy, hk⟩
   ·exact .inr (mem_rks.2 (.inl rfl))
   ·exact .inr (mem_rks.2 (.inr (.inl hk)))
   ·rcases List.mem_append.1 hy with hy | hy
    ·exact .inr (mem_rks.2 (.inr (.inr ⟨y, by rw [hs]; exact List.mem_append_left _ hy, hk⟩)))
    ·rcases List.mem_cons.1 hy with rfl | hy
     ·exact .inl hk
     ·exact .inr (mem_rks.2 (.inr (.inr ⟨y, by rw [hs]; exact List.mem_append_right _ (List.mem_cons_of_mem _ hy), hk⟩)))
  exact m1.trans (s2.weak (fun k hk => by simp [hl] at hk; subst hk; exact mem_rks.2 (.inr (.inl huL))) fun k hk => .inr hk)

theorem RRep.turnTo (h : RRep X r d) (n : Int) : RRep (X.set r (.arr cRT [(d.L, n)])) r { d with turn := n } ∧ Mv X (d.ks r) (X.set r (.arr cRT [(d.L, n)])) (RD.ks { d with turn := n } r) :=
 ⟨⟨h.box.set, h.arr.keep fun k hk => at_set_ne fun q => h.n1 (q ▸ hk), fun y hy => (h.ws y hy).keep fun k hk => at_set_ne fun q => (h.n2 y hy).1 (q ▸ hk), h.n1, h.n2, h.pw⟩, Mv.set (mem_rks.2 (.inl rfl))⟩

theorem RRep.listTo (h : RRep X r d) {X1 : XH} {L1 : Option SlH} {hs1 : List RE} (m : Mv X [] X1 (hl L1)) (hL : SlAt X1 cRM L1 (hs1.map fun e => e.1.v e.2)) (hsub : ∀ y ∈ hs1, y ∈ d.hs ∨ (y.2 = none ∧ y.1.q = [])) (hpw : hs1.Pairwise Dj) :
  RRep (X1.set r (.arr cRT [(L1, d.turn)])) r { d with L := L1, hs := hs1 } ∧ Mv X (d.ks r) (X1.set r (.arr cRT [(L1, d.turn)])) (RD.ks { d with L := L1, hs := hs1 } r) := by
 have newL : ∀ k ∈ hl L1, X.n ≤ k := fun k hk => (m.own k hk).elim (fun q => by cases q) id
 have hr : r ∉ hl L1 := fun q => by have := newL r q; have := h.box.lt; omega
 have hb1 : Box X1 cRT r (d.L, d.turn) := h.box.keep (m.keep r h.box.lt (by simp))
 have hcase : ∀ y ∈ hs1, ∀ k ∈ hl y.2, ∃ y' ∈ d.hs, k ∈ hl y'.2 := fun y hy k hk => by
  rcases hsub y hy with q | ⟨q, _⟩
  ·exact ⟨y, q, hk⟩
  ·rw [q] at hk; cases hk
 refine ⟨⟨hb1.set, hL.keep fun k hk => at_set_ne fun q => hr (q ▸ hk), fun y hy => ?_, hr, fun y hy => ⟨fun q => ?_, fun k hk q => ?_⟩, hpw⟩, ?_⟩
 ·rcases hsub y hy with q | ⟨q, q2⟩
  ·exact (h.ws y q).keep fun k hk => (at_set_ne fun q2 => (h.n2 y q).1 (by rw [← q2]; exact hk)).trans (m.keep k ((h.ws y q).lt k hk) (by simp))
  ·rw [q, q2]; rfl
 ·obtain ⟨y', h1, h2⟩ := hcase y hy r q
  exact (h.n2 y' h1).1 h2
 ·obtain ⟨y', h1, h2⟩ := hcase y hy k hk
  have := (h.ws y' h1).lt k h2
  have := newL k q
  omega
 ·have m1 : Mv X (d.ks r) X1 (RD.ks { d with L := L1, hs := hs1 } r) := m.weak (fun k hk => by cases hk) fun k hk => by
   rcases mem_rks.1 hk with rfl | hk | ⟨y, hy, hk⟩
   ·exact .inr (mem_rks.2 (.inl rfl))
   ·exact .inl hk
   ·obtain ⟨y', h1, h2⟩ := hcase y hy k hk
    exact .inr (mem_rks.2 (.inr (.inr ⟨y', h1, h2⟩)))
  exact m1.trans (Mv.set (mem_rks.2 (.inl rfl)))

end Go.Proofs.Ytefpoodhdfggdaa.AB

set_option maxRecDepth 100000
set_option maxHeartbeats 2000000
namespace Go.Proofs.Ytefpoodhdfggdaa.AB
open Go
noncomputable def X64 : Cx := ⟨tt, [], [], [], [(64, [(0, mkM 26 0 [0, 1, 5], 0)])], []⟩
theorem FN64 : fnsB Try.prog X64.fns := (show True from trivial)
def M64_0 : List Bool × Nat := (mkM 26 0 [0, 1, 5], 1)
def S64_0 (t0 : Nat) (object1 : Int) (i5 : Int) (hq0 : XH) (T : Toks) : St :=
  mkS 26 [(0, (.ref (some t0) yZ1 0 [])), (1, (.v (.int .i64 object1))), (5, (.v (.int .i64 i5)))] [(some (.heap hq0))] T
noncomputable def B64_0 : (Exit → St → Prop) → St → Prop := (awp X64.tt (callN Try.prog X64 0) (X64.md 64) 1 (X64.mk1 64) 0 (codeAt [1, 0, 1, 0, 0] (bd Try.f64)))
noncomputable def K64_0 (R : (Int) → XH → Prop) : Exit → St → Prop := seqK ((awp X64.tt (callN Try.prog X64 0) (X64.md 64) 1 (X64.mk1 64) 0 (codeAt [1, 1] (bd Try.f64))) (retK tt Try.f64.results.toList fun x s' => xfin [(.pure (.int .i64))] R x ⟨[], s'.hp, s'.T⟩)) (retK tt Try.f64.results.toList fun x s' => xfin [(.pure (.int .i64))] R x ⟨[], s'.hp, s'.T⟩)
noncomputable def Q64_0 (R : (Int) → XH → Prop) : Exit → St → Prop := (blockK 0 (K64_0 R))
theorem E64 (X : XH) (t0 : Nat) (object1 : Int) {R : (Int) → XH → Prop} (h : (Loops B64_0 M64_0 (Q64_0 R)
  (S64_0 t0 object1 (0 : Int) X ⟨0, []⟩))) :
  fnK X64.tt (callN Try.prog X64 0) (X64.md 64) (X64.mk1 64) Try.f64 [(.ref (some t0) yZ1 0 []), (.v (.int .i64 object1))] ⟨[], [some (.heap X)], ⟨0, []⟩⟩ (xfin [(.pure (.int .i64))] R) := Eq.mp (by kernel_rfl) h
theorem L64_0 (t0 : Nat) (object1 : Int) (i5 : Int) (hq0 : XH) (T : Toks) {R : (Int) → XH → Prop} {k0 : St → Prop}
 (h : (∃ (a1 : ((Option SlH) × Int)), XH.el hq0 yZ1 t0 0 = some a1 ∧ (((decide (i5 < (((slN a1.1) : Nat) : Int))) = true → (∃ (a2 : ((Option SlH) × Int)), XH.el hq0 yZ1 t0 0 = some a2 ∧ (∃ (u3 : SlH), a2.1 = some u3 ∧ 0 ≤ i5 ∧ i5 < ((u3.len : Nat) : Int) ∧ (∃ (a4 : (Int × (Int × (Int × (Int × (Option SlH)))))), XH.el hq0 yZ0 u3.h ((u3.off + (i5).toNat)) = some a4 ∧ (((a4.1 == object1) = true → R i5 hq0) ∧
 ((a4.1 == object1) = false → k0 (S64_0 t0 object1 ((IntKind.wrap .i64 (i5 + (1 : Int)))) hq0 T))))))) ∧
 ((decide (i5 < (((slN a1.1) : Nat) : Int))) = false → R (-1 : Int) hq0)))) :
  B64_0 (loopQ M64_0 k0 (Q64_0 R)) (S64_0 t0 object1 i5 hq0 T) := Eq.mp (by kernel_rfl) h
end Go.Proofs.Ytefpoodhdfggdaa.AB

set_option maxRecDepth 100000
set_option maxHeartbeats 2000000
namespace Go.Proofs.Ytefpoodhdfggdaa.AB
open Go
noncomputable def X63 : Cx := ⟨tt, [], [], [], [(63, [(0, mkM 42 0 [0, 1, 5], 0), (2, mkM 42 0 [0, 1, 5, 6], 0)])], []⟩
theorem FN63 : fnsB Try.prog X63.fns := (show True from trivial)
def M63_0 : List Bool × Nat := (mkM 42 0 [0, 1, 5], 1)
def S63_0 (t0 : Nat) (thread1 : Int) (i5 : Int) (hq0 : XH) (T : Toks) : St :=
  mkS 42 [(0, (.ref (some t0) yZ1 0 [])), (1, (.v (.int .i64 thread1))), (5, (.v (.int .i64 i5)))] [(some (.heap hq0))] T
noncomputable def B63_0 : (Exit → St → Prop) → St → Prop := (awp X63.tt (callN Try.prog X63 0) (X63.md 63) 1 (X63.mk1 63) 0 (codeAt [1, 0, 1, 0, 0] (bd Try.f63)))
def M63_2 : List Bool × Nat := (mkM 42 0 [0, 1, 5, 6], 1)
def S63_2 (t0 : Nat) (thread1 : Int) (i5 : Int) (k6 : Int) (hq0 : XH) (T : Toks) : St :=
  mkS 42 [(0, (.ref (some t0) yZ1 0 [])), (1, (.v (.int .i64 thread1))), (5, (.v (.int .i64 i5))), (6, (.v (.int .i64 k6)))] [(some (.heap hq0))] T
noncomputable def B63_2 : (Exit → St → Prop) → St → Prop := (awp X63.tt (callN Try.prog X63 0) (X63.md 63) 1 (X63.mk1 63) 2 (codeAt [1, 0, 1, 0, 0, 1, 0, 0, 1, 0, 0] (bd Try.f63)))
noncomputable def K63_0 (R : (Bool) → XH → Prop) : Exit → St → Prop := seqK ((awp X63.tt (callN Try.prog X63 0) (X63.md 63) 1 (X63.mk1 63) 0 (codeAt [1, 1] (bd Try.f63))) (retK tt Try.f63.results.toList fun x s' => xfin [(.pure .bool)] R x ⟨[], s'.hp, s'.T⟩)) (retK tt Try.f63.results.toList fun x s' => xfin [(.pure .bool)] R x ⟨[], s'.hp, s'.T⟩)
noncomputable def Q63_0 (R : (Bool) → XH → Prop) : Exit → St → Prop := (blockK 0 (K63_0 R))
noncomputable def K63_1 (R : (Bool) → XH → Prop) (k0 : St → Prop) : Exit → St → Prop := seqK ((awp X63.tt (callN Try.prog X63 0) (X63.md 63) 1 (X63.mk1 63) 0 (codeAt [1, 0, 1, 0, 0, 1, 1] (bd Try.f63))) (loopQ M63_0 k0 (blockK 0 (K63_0 R)))) (loopQ M63_0 k0 (blockK 0 (K63_0 R)))
noncomputable def Q63_2 (R : (Bool) → XH → Prop) (k0 : St → Prop) : Exit → St → Prop := (blockK 2 (blockK 1 (K63_1 R k0)))
theorem E63 (X : XH) (t0 : Nat) (thread1 : Int) {R : (Bool) → XH → Prop} (h : (Loops B63_0 M63_0 (Q63_0 R)
  (S63_0 t0 thread1 (0 : Int) X ⟨0, []⟩))) :
  fnK X63.tt (callN Try.prog X63 0) (X63.md 63) (X63.mk1 63) Try.f63 [(.ref (some t0) yZ1 0 []), (.v (.int .i64 thread1))] ⟨[], [some (.heap X)], ⟨0, []⟩⟩ (xfin [(.pure .bool)] R) := Eq.mp (by kernel_rfl) h
theorem L63_0 (t0 : Nat) (thread1 : Int) (i5 : Int) (hq0 : XH) (T : Toks) {R : (Bool) → XH → Prop} {k0 : St → Prop}
 (h : (∃ (a1 : ((Option SlH) × Int)), XH.el hq0 yZ1 t0 0 = some a1 ∧ (((decide (i5 < (((slN a1.1) : Nat) : Int))) = true → (Loops B63_2 M63_2 (Q63_2 R k0)
  (S63_2 t0 thread1 i5 (0 : Int) hq0 T))) ∧
 ((decide (i5 < (((slN a1.1) : Nat) : Int))) = false → R false hq0)))) :
  B63_0 (loopQ M63_0 k0 (Q63_0 R)) (S63_0 t0 thread1 i5 hq0 T) := Eq.mp (by kernel_rfl) h
theorem L63_2 (t0 : Nat) (thread1 : Int) (i5 : Int) (k6 : Int) (hq0 : XH) (T : Toks) {R : (Bool) → XH → Prop} {k0 : St → Prop} {k2 : St → Prop}
 (h : (∃ (a2 : ((Option SlH) × Int)), XH.el hq0 yZ1 t0 0 = some a2 ∧ (∃ (u3 : SlH), a2.1 = some u3 ∧ 0 ≤ i5 ∧ i5 < ((u3.len : Nat) : Int) ∧ (∃ (a4 : (Int × (Int × (Int × (Int × (Option SlH)))))), XH.el hq0 yZ0 u3.h ((u3.off + (i5).toNat)) = some a4 ∧ (((decide (k6 < (((slN a4.2.2.2.2) : Nat) : Int))) = true → (∃ (a5 : ((Option SlH) × Int)), XH.el hq0 yZ1 t0 0 = some a5 ∧ (∃ (u6 : SlH), a5.1 = some u6 ∧ 0 ≤ i5 ∧ i5 < ((u6.len : Nat) : Int) ∧ (∃ (a7 : (Int × (Int × (Int × (Int × (Option SlH)))))), XH.el hq0 yZ0 u6.h ((u6.off + (i5).toNat)) = some a7 ∧ (∃ (u8 : SlH), a7.2.2.2.2 = some u8 ∧ 0 ≤ k6 ∧ k6 < ((u8.len : Nat) : Int) ∧ (∃ (a9 : Int), XH.el hq0 (.pure (.int .i64)) u8.h ((u8.off + (k6).toNat)) = some a9 ∧ (((a9 == thread1) = true → R true hq0) ∧
 ((a9 == thread1) = false → k2 (S63_2 t0 thread1 i5 ((IntKind.wrap .i64 (k6 + (1 : Int)))) hq0 T))))))))) ∧
 ((decide (k6 < (((slN a4.2.2.2.2) : Nat) : Int))) = false → k0 (S63_0 t0 thread1 ((IntKind.wrap .i64 (i5 + (1 : Int)))) hq0 T))))))) :
  B63_2 (loopQ M63_2 k2 (Q63_2 R k0)) (S63_2 t0 thread1 i5 k6 hq0 T) := Eq.mp (by kernel_rfl) h
end Go.Proofs.Ytefpoodhdfggdaa.AB

set_option maxRecDepth 100000
set_option maxHeartbeats 2000000
namespace Go.Proofs.Ytefpoodhdfggdaa.AB
open Go
noncomputable def X39 : Cx := ⟨tt, [], [(64, [(.pure (.int .i64))])], [(39, [(1, 2, .rd)])], [], []⟩
theorem FN39 : fnsB Try.prog X39.fns := (show True from trivial)
theorem E39 (X : XH) (t0 : Nat) (object1 : Int) {R : (Int × Int) → XH → Prop} (h : (∃ (p1 : Int), RC Try.prog 64 [(.pure (.int .i64))] [(.ref (some t0) yZ1 0 []), (.v (.int .i64 object1))] X p1 ∧ (((decide (p1 < (0 : Int))) = true → R ((0 : Int), (0 : Int)) X) ∧
 ((decide (p1 < (0 : Int))) = false → (∃ (a2 : ((Option SlH) × Int)), XH.el X yZ1 t0 0 = some a2 ∧ (∃ (u3 : SlH), a2.1 = some u3 ∧ 0 ≤ p1 ∧ p1 < ((u3.len : Nat) : Int) ∧ (∃ (a4 : (Int × (Int × (Int × (Int × (Option SlH)))))), XH.el X yZ0 u3.h ((u3.off + (p1).toNat)) = some a4 ∧ (∃ (a5 : ((Option SlH) × Int)), XH.el X yZ1 t0 0 = some a5 ∧ (∃ (u6 : SlH), a5.1 = some u6 ∧ 0 ≤ p1 ∧ p1 < ((u6.len : Nat) : Int) ∧ (∃ (a7 : (Int × (Int × (Int × (Int × (Option SlH)))))), XH.el X yZ0 u6.h ((u6.off + (p1).toNat)) = some a7 ∧ R (a4.2.1, a7.2.2.1) X)))))))))) :
  fnK X39.tt (callN Try.prog X39 0) (X39.md 39) (X39.mk1 39) Try.f39 [(.ref (some t0) yZ1 0 []), (.v (.int .i64 object1))] ⟨[], [some (.heap X)], ⟨0, []⟩⟩ (xfin [(.pure (.int .i64)), (.pure (.int .i64))] R) := Eq.mp (by kernel_rfl) h
end Go.Proofs.Ytefpoodhdfggdaa.AB

set_option maxRecDepth 100000
set_option maxHeartbeats 2000000
namespace Go.Proofs.Ytefpoodhdfggdaa.AB
open Go
noncomputable def X41 : Cx := ⟨tt, [], [(64, [(.pure (.int .i64))])], [(41, [(0, 0, .x (.sl (.pure (.int .i64)))), (1, 2, .rd), (3, 0, .x (.sl (.pure (.int .i64))))])], [], []⟩
theorem FN41 : fnsB Try.prog X41.fns := (show True from trivial)
theorem E41 (X : XH) (t0 : Nat) (object1 : Int) {R : ((Option SlH)) → XH → Prop} (h : (∃ (p1 : Int), RC Try.prog 64 [(.pure (.int .i64))] [(.ref (some t0) yZ1 0 []), (.v (.int .i64 object1))] X p1 ∧ (((decide (p1 < (0 : Int))) = true → R none X) ∧
 ((decide (p1 < (0 : Int))) = false → (∃ (a2 : ((Option SlH) × Int)), XH.el X yZ1 t0 0 = some a2 ∧ (∃ (u3 : SlH), a2.1 = some u3 ∧ 0 ≤ p1 ∧ p1 < ((u3.len : Nat) : Int) ∧ (∃ (a4 : (Int × (Int × (Int × (Int × (Option SlH)))))), XH.el X yZ0 u3.h ((u3.off + (p1).toNat)) = some a4 ∧ R a4.2.2.2.2 X))))))) :
  fnK X41.tt (callN Try.prog X41 0) (X41.md 41) (X41.mk1 41) Try.f41 [(.ref (some t0) yZ1 0 []), (.v (.int .i64 object1))] ⟨[], [some (.heap X)], ⟨0, []⟩⟩ (xfin [(.sl (.pure (.int .i64)))] R) := Eq.mp (by kernel_rfl) h
end Go.Proofs.Ytefpoodhdfggdaa.AB

set_option maxRecDepth 100000
set_option maxHeartbeats 2000000
namespace Go.Proofs.Ytefpoodhdfggdaa.AB
open Go
noncomputable def X43 : Cx := ⟨tt, [], [], [], [(43, [(0, mkM 26 0 [0, 3, 4], 0)])], []⟩
theorem FN43 : fnsB Try.prog X43.fns := (show True from trivial)
def M43_0 : List Bool × Nat := (mkM 26 0 [0, 3, 4], 1)
def S43_0 (t0 : Nat) (out3 : List Int) (out3k : Tok) (i4 : Int) (hq0 : XH) (T : Toks) : St :=
  mkS 26 [(0, (.ref (some t0) yZ1 0 [])), (3, (.v (.list (.int .i64) out3 out3k))), (4, (.v (.int .i64 i4)))] [(some (.heap hq0))] T
noncomputable def B43_0 : (Exit → St → Prop) → St → Prop := (awp X43.tt (callN Try.prog X43 0) (X43.md 43) 1 (X43.mk1 43) 0 (codeAt [1, 1, 0, 1, 0, 0] (bd Try.f43)))
noncomputable def K43_0 (R : ((List Int)) → XH → Prop) : Exit → St → Prop := seqK ((awp X43.tt (callN Try.prog X43 0) (X43.md 43) 1 (X43.mk1 43) 0 (codeAt [1, 1, 1] (bd Try.f43))) (retK tt Try.f43.results.toList fun x s' => xfin [(.pure (.slice (.int .i64)))] R x ⟨[], s'.hp, s'.T⟩)) (retK tt Try.f43.results.toList fun x s' => xfin [(.pure (.slice (.int .i64)))] R x ⟨[], s'.hp, s'.T⟩)
noncomputable def Q43_0 (R : ((List Int)) → XH → Prop) : Exit → St → Prop := (blockK 0 (K43_0 R))
theorem E43 (X : XH) (t0 : Nat) {R : ((List Int)) → XH → Prop} (h : (Loops B43_0 M43_0 (Q43_0 R)
  (S43_0 t0 ([] : List Int) .exact (0 : Int) X ⟨0, []⟩))) :
  fnK X43.tt (callN Try.prog X43 0) (X43.md 43) (X43.mk1 43) Try.f43 [(.ref (some t0) yZ1 0 [])] ⟨[], [some (.heap X)], ⟨0, []⟩⟩ (xfin [(.pure (.slice (.int .i64)))] R) := Eq.mp (by kernel_rfl) h
theorem L43_0 (t0 : Nat) (out3 : List Int) (out3k : Tok) (i4 : Int) (hq0 : XH) (T : Toks) {R : ((List Int)) → XH → Prop} {k0 : St → Prop}
 (h : (∃ (a1 : ((Option SlH) × Int)), XH.el hq0 yZ1 t0 0 = some a1 ∧ (((decide (i4 < (((slN a1.1) : Nat) : Int))) = true → (∃ (a2 : ((Option SlH) × Int)), XH.el hq0 yZ1 t0 0 = some a2 ∧ (∃ (u3 : SlH), a2.1 = some u3 ∧ 0 ≤ i4 ∧ i4 < ((u3.len : Nat) : Int) ∧ (∃ (a4 : (Int × (Int × (Int × (Int × (Option SlH)))))), XH.el hq0 yZ0 u3.h ((u3.off + (i4).toNat)) = some a4 ∧ (Tok.own out3k T.l ∧ ((out3).length + (([a4.1] : List Int)).length) * 8 ≤ room ∧ k0 (S43_0 t0 ((out3 ++ ([a4.1] : List Int))) (.tk T.n) ((IntKind.wrap .i64 (i4 + (1 : Int)))) hq0 ⟨(T.n + 1), (T.n :: Tok.drop out3k T.l)⟩)))))) ∧
 ((decide (i4 < (((slN a1.1) : Nat) : Int))) = false → R out3 hq0)))) :
  B43_0 (loopQ M43_0 k0 (Q43_0 R)) (S43_0 t0 out3 out3k i4 hq0 T) := Eq.mp (by kernel_rfl) h
end Go.Proofs.Ytefpoodhdfggdaa.AB

set_option maxRecDepth 100000
set_option maxHeartbeats 2000000
namespace Go.Proofs.Ytefpoodhdfggdaa.AB
open Go
noncomputable def X72 : Cx := ⟨tt, [], [], [], [(72, [(0, mkM 59 0 [0, 1, 5, 6], 0), (2, mkM 59 0 [0, 1, 5, 6, 7], 0)])], []⟩
theorem FN72 : fnsB Try.prog X72.fns := (show True from trivial)
def M72_0 : List Bool × Nat := (mkM 59 0 [0, 1, 5, 6], 1)
def S72_0 (t0 : Nat) (thread1 : Int) (out5 : List Int) (out5k : Tok) (turn6 : Int) (hq0 : XH) (T : Toks) : St :=
  mkS 59 [(0, (.ref (some t0) yZ1 0 [])), (1, (.v (.int .i64 thread1))), (5, (.v (.list (.int .i64) out5 out5k))), (6, (.v (.int .i64 turn6)))] [(some (.heap hq0))] T
noncomputable def B72_0 : (Exit → St → Prop) → St → Prop := (awp X72.tt (callN Try.prog X72 0) (X72.md 72) 1 (X72.mk1 72) 0 (codeAt [1, 1, 0, 1, 0, 0] (bd Try.f72)))
def M72_2 : List Bool × Nat := (mkM 59 0 [0, 1, 5, 6, 7], 1)
def S72_2 (t0 : Nat) (thread1 : Int) (out5 : List Int) (out5k : Tok) (turn6 : Int) (i7 : Int) (hq0 : XH) (T : Toks) : St :=
  mkS 59 [(0, (.ref (some t0) yZ1 0 [])), (1, (.v (.int .i64 thread1))), (5, (.v (.list (.int .i64) out5 out5k))), (6, (.v (.int .i64 turn6))), (7, (.v (.int .i64 i7)))] [(some (.heap hq0))] T
noncomputable def B72_2 : (Exit → St → Prop) → St → Prop := (awp X72.tt (callN Try.prog X72 0) (X72.md 72) 1 (X72.mk1 72) 2 (codeAt [1, 1, 0, 1, 0, 0, 1, 0, 0, 1, 0, 0] (bd Try.f72)))
noncomputable def K72_0 (R : ((List Int)) → XH → Prop) : Exit → St → Prop := seqK ((awp X72.tt (callN Try.prog X72 0) (X72.md 72) 1 (X72.mk1 72) 0 (codeAt [1, 1, 1] (bd Try.f72))) (retK tt Try.f72.results.toList fun x s' => xfin [(.pure (.slice (.int .i64)))] R x ⟨[], s'.hp, s'.T⟩)) (retK tt Try.f72.results.toList fun x s' => xfin [(.pure (.slice (.int .i64)))] R x ⟨[], s'.hp, s'.T⟩)
noncomputable def Q72_0 (R : ((List Int)) → XH → Prop) : Exit → St → Prop := (blockK 0 (K72_0 R))
noncomputable def K72_1 (R : ((List Int)) → XH → Prop) (k0 : St → Prop) : Exit → St → Prop := seqK ((awp X72.tt (callN Try.prog X72 0) (X72.md 72) 1 (X72.mk1 72) 0 (codeAt [1, 1, 0, 1, 0, 0, 1, 1] (bd Try.f72))) (loopQ M72_0 k0 (blockK 0 (K72_0 R)))) (loopQ M72_0 k0 (blockK 0 (K72_0 R)))
noncomputable def Q72_2 (R : ((List Int)) → XH → Prop) (k0 : St → Prop) : Exit → St → Prop := (blockK 2 (blockK 1 (K72_1 R k0)))
theorem E72 (X : XH) (t0 : Nat) (thread1 : Int) {R : ((List Int)) → XH → Prop} (h : (Loops B72_0 M72_0 (Q72_0 R)
  (S72_0 t0 thread1 ([] : List Int) .exact (0 : Int) X ⟨0, []⟩))) :
  fnK X72.tt (callN Try.prog X72 0) (X72.md 72) (X72.mk1 72) Try.f72 [(.ref (some t0) yZ1 0 []), (.v (.int .i64 thread1))] ⟨[], [some (.heap X)], ⟨0, []⟩⟩ (xfin [(.pure (.slice (.int .i64)))] R) := Eq.mp (by kernel_rfl) h
theorem L72_0 (t0 : Nat) (thread1 : Int) (out5 : List Int) (out5k : Tok) (turn6 : Int) (hq0 : XH) (T : Toks) {R : ((List Int)) → XH → Prop} {k0 : St → Prop}
 (h : (∃ (a1 : ((Option SlH) × Int)), XH.el hq0 yZ1 t0 0 = some a1 ∧ (((decide (turn6 < a1.2)) = true → (Loops B72_2 M72_2 (Q72_2 R k0)
  (S72_2 t0 thread1 out5 out5k turn6 (0 : Int) hq0 T))) ∧
 ((decide (turn6 < a1.2)) = false → R out5 hq0)))) :
  B72_0 (loopQ M72_0 k0 (Q72_0 R)) (S72_0 t0 thread1 out5 out5k turn6 hq0 T) := Eq.mp (by kernel_rfl) h
theorem L72_2 (t0 : Nat) (thread1 : Int) (out5 : List Int) (out5k : Tok) (turn6 : Int) (i7 : Int) (hq0 : XH) (T : Toks) {R : ((List Int)) → XH → Prop} {k0 : St → Prop} {k2 : St → Prop}
 (h : (∃ (a2 : ((Option SlH) × Int)), XH.el hq0 yZ1 t0 0 = some a2 ∧ (((decide (i7 < (((slN a2.1) : Nat) : Int))) = true → (∃ (a3 : ((Option SlH) × Int)), XH.el hq0 yZ1 t0 0 = some a3 ∧ (∃ (u4 : SlH), a3.1 = some u4 ∧ 0 ≤ i7 ∧ i7 < ((u4.len : Nat) : Int) ∧ (∃ (a5 : (Int × (Int × (Int × (Int × (Option SlH)))))), XH.el hq0 yZ0 u4.h ((u4.off + (i7).toNat)) = some a5 ∧ (((a5.2.1 == thread1) = true → (∃ (a6 : ((Option SlH) × Int)), XH.el hq0 yZ1 t0 0 = some a6 ∧ (∃ (u7 : SlH), a6.1 = some u7 ∧ 0 ≤ i7 ∧ i7 < ((u7.len : Nat) : Int) ∧ (∃ (a8 : (Int × (Int × (Int × (Int × (Option SlH)))))), XH.el hq0 yZ0 u7.h ((u7.off + (i7).toNat)) = some a8 ∧ (((a8.2.2.2.1 == turn6) = true → (∃ (a9 : ((Option SlH) × Int)), XH.el hq0 yZ1 t0 0 = some a9 ∧ (∃ (u10 : SlH), a9.1 = some u10 ∧ 0 ≤ i7 ∧ i7 < ((u10.len : Nat) : Int) ∧ (∃ (a11 : (Int × (Int × (Int × (Int × (Option SlH)))))), XH.el hq0 yZ0 u10.h ((u10.off + (i7).toNat)) = some a11 ∧ (Tok.own out5k T.l ∧ ((out5).length + (([a11.1] : List Int)).length) * 8 ≤ room ∧ k2 (S72_2 t0 thread1 ((out5 ++ ([a11.1] : List Int))) (.tk T.n) turn6 ((IntKind.wrap .i64 (i7 + (1 : Int)))) hq0 ⟨(T.n + 1), (T.n :: Tok.drop out5k T.l)⟩)))))) ∧
 ((a8.2.2.2.1 == turn6) = false → k2 (S72_2 t0 thread1 out5 out5k turn6 ((IntKind.wrap .i64 (i7 + (1 : Int)))) hq0 T))))))) ∧ ((a5.2.1 == thread1) = false → k2 (S72_2 t0 thread1 out5 out5k turn6 ((IntKind.wrap .i64 (i7 + (1 : Int)))) hq0 T))))))) ∧
 ((decide (i7 < (((slN a2.1) : Nat) : Int))) = false → k0 (S72_0 t0 thread1 out5 out5k ((IntKind.wrap .i64 (turn6 + (1 : Int)))) hq0 T))))) :
  B72_2 (loopQ M72_2 k2 (Q72_2 R k0)) (S72_2 t0 thread1 out5 out5k turn6 i7 hq0 T) := Eq.mp (by kernel_rfl) h
end Go.Proofs.Ytefpoodhdfggdaa.AB

namespace Go.Proofs.Ytefpoodhdfggdaa.AB
open Go

variable {X X' : XH} {r : Nat} {d : RD} {o th : Int}

theorem RRep.at' (h : RRep X r d) {i : Nat} (hi : i < d.hs.length) : ∃ u, d.L = some u ∧ 0 ≤ (i : Int) ∧ (i : Int) < ((u.len : Nat) : Int) ∧ X.el cRM u.h (u.off + (i : Int).toNat) = some ((d.hs[i]).1.v (d.hs[i]).2) := by
 obtain ⟨u, h1, h2, h3⟩ := h.at (A := d.hs.take i) (e := d.hs[i]) (C := d.hs.drop (i + 1)) (by simp)
 have e : (d.hs.take i).length = i := by simp; omega
 rw [e] at h2 h3
 exact ⟨u, h1, by omega, by omega, by rw [Int.toNat_natCast]; exact h3⟩

def idxR (l : List RM) (o : Int) : Int := match l.findIdx? (fun m => m.o == o) with
 | some i => i
 | none => -1

theorem idxR_none {l : List RM} (h : ∀ m ∈ l, m.o ≠ o) : idxR l o = -1 := by
 unfold idxR
 rw [List.findIdx?_eq_none_iff.2 fun m hm => by simpa using h m hm]

theorem idxR_at {l A C : List RM} {m : RM} (h : l = A ++ m :: C) (hm : m.o = o) (ha : ∀ y ∈ A, y.o ≠ o) : idxR l o = (A.length : Int) := by
 unfold idxR
 have : l.findIdx? (fun m => m.o == o) = some A.length := by
  subst h
  rw [List.findIdx?_eq_some_iff_getElem]
  refine ⟨by simp, by simpa using hm, fun j hj => ?_⟩
  rw [List.getElem_append_left hj]
  simpa using ha _ (List.getElem_mem hj)
 rw [this]

theorem idxR_cases (hs : List RE) (o : Int) : (idxR (hs.map (·.1)) o = -1 ∧ ∀ y ∈ hs, y.1.o ≠ o) ∨ ∃ A e C, hs = A ++ e :: C ∧ e.1.o = o ∧ (∀ y ∈ A, y.1.o ≠ o) ∧ idxR (hs.map (·.1)) o = (A.length : Int) := by
 by_cases hx : ∃ y ∈ hs, y.1.o = o
 ·have : ∃ A e C, hs = A ++ e :: C ∧ e.1.o = o ∧ ∀ y ∈ A, y.1.o ≠ o := by
   induction hs with
   | nil => obtain ⟨y, hy, _⟩ := hx; cases hy
   | cons z t ih =>
    by_cases hz : z.1.o = o
    ·exact ⟨[], z, t, rfl, hz, fun y hy => by cases hy⟩
    ·obtain ⟨y, hy, hyo⟩ := hx
     rcases List.mem_cons.1 hy with rfl | hy
     ·exact absurd hyo hz
     ·obtain ⟨A, e, C, h1, h2, h3⟩ := ih ⟨y, hy, hyo⟩
      refine ⟨z :: A, e, C, by rw [h1]; rfl, h2, fun q hq => ?_⟩
      rcases List.mem_cons.1 hq with rfl | hq
      ·exact hz
      ·exact h3 q hq
  obtain ⟨A, e, C, h1, h2, h3⟩ := this
  refine .inr ⟨A, e, C, h1, h2, h3, ?_⟩
  rw [idxR_at (A := A.map (·.1)) (C := C.map (·.1)) (m := e.1) (by rw [h1]; simp) h2 (fun y hy => by
   obtain ⟨z, hz, rfl⟩ := List.mem_map.1 hy
   exact h3 z hz), List.length_map]
 ·refine .inl ⟨idxR_none fun m hm => ?_, fun y hy e => hx ⟨y, hy, e⟩⟩
  obtain ⟨z, hz, rfl⟩ := List.mem_map.1 hm
  exact fun e => hx ⟨z, hz, e⟩

theorem wrap_succ {i : Nat} (h : i ≤ 1000000) : IntKind.wrap .i64 ((i : Int) + (1 : Int)) = ((i + 1 : Nat) : Int) := by
 rw [wrap64 (by omega) (by omega)]; omega

theorem c64 (h : RRep X r d) (hn : d.hs.length ≤ 1000000) : RC Try.prog 64 [.pure (.int .i64)] [.ref (some r) cRT 0 [], .v (.int .i64 o)] X (idxR d.l o) := by
 have hlen := h.len
 refine xcOf (X := X64) rfl FN64 (by kernel_rfl) (by decide) (E64 X r o ?_)
 refine Loops.intro (fun i : Nat => S64_0 r o (i : Int) X ⟨0, []⟩) (fun i => i ≤ d.hs.length ∧ ∀ y ∈ d.hs.take i, y.1.o ≠ o) (fun i => d.hs.length - i) 0 rfl ⟨Nat.zero_le _, fun y hy => by simp at hy⟩ ?_
 rintro i ⟨hi, hall⟩
 refine L64_0 r o i X ⟨0, []⟩ ⟨_, h.box.el, fun e => ?_, fun e => ?_⟩
 ·have e : (i : Int) < ((slN d.L : Nat) : Int) := of_decide_eq_true e
  have hi' : i < d.hs.length := by omega
  obtain ⟨u, h1, h2, h3, h4⟩ := h.at' hi'
  refine ⟨_, h.box.el, u, h1, h2, h3, _, h4, fun e2 => ?_, fun e2 => ?_⟩
  ·have e2 : (d.hs[i]).1.o = o := by simpa [RM.v] using e2
   refine ⟨?_, rfl⟩
   have := idxR_at (o := o) (l := d.l) (A := (d.hs.take i).map (·.1)) (m := (d.hs[i]).1) (C := (d.hs.drop (i + 1)).map (·.1)) (by
    unfold RD.l
    rw [← List.map_cons, ← List.map_append]
    congr 1
    simp) e2 (fun y hy => by
     obtain ⟨z, hz, rfl⟩ := List.mem_map.1 hy
     exact hall z hz)
   rw [this, List.length_map, List.length_take, Nat.min_eq_left hi]
  ·have e2 : (d.hs[i]).1.o ≠ o := by simpa [RM.v] using e2
   rw [wrap_succ (by omega)]
   refine Again.mk (i + 1) rfl ⟨hi', fun y hy => ?_⟩ (by omega)
   rw [List.take_succ_eq_append_getElem hi', List.mem_append, List.mem_singleton] at hy
   rcases hy with hy | rfl
   ·exact hall y hy
   ·exact e2
 ·have e : ¬ (i : Int) < ((slN d.L : Nat) : Int) := of_decide_eq_false e
  have hi' : i = d.hs.length := by omega
  subst hi'
  rw [List.take_length] at hall
  refine ⟨?_, rfl⟩
  rw [idxR_none]
  intro m hm
  obtain ⟨z, hz, rfl⟩ := List.mem_map.1 hm
  exact hall z hz

def findR (l : List RM) (o : Int) : Option RM := l.find? fun m => m.o == o

theorem findR_none {l : List RM} (h : ∀ m ∈ l, m.o ≠ o) : findR l o = none := List.find?_eq_none.2 fun m hm => by simpa using h m hm
theorem findR_at {A C : List RM} {m : RM} (hm : m.o = o) (ha : ∀ y ∈ A, y.o ≠ o) : findR (A ++ m :: C) o = some m := by
 unfold findR
 rw [List.find?_append, List.find?_eq_none.2 fun y hy => by simpa using ha y hy]
 simp [hm]

theorem c39 (h : RRep X r d) (hn : d.hs.length ≤ 1000000) : RC Try.prog 39 [.pure (.int .i64), .pure (.int .i64)] [.ref (some r) cRT 0 [], .v (.int .i64 o)] X (match findR d.l o with | some m => ((m.w, m.n) : Int × Int) | none => ((0, 0) : Int × Int)) := by
 refine xcOf (X := X39) rfl FN39 (by kernel_rfl) (by decide) (E39 X r o ⟨_, c64 h hn, ?_⟩)
 rcases idxR_cases d.hs o with ⟨e1, e2⟩ | ⟨A, e, C, hs, e1, e2, e3⟩
 ·rw [show idxR d.l o = -1 from e1]
  refine ⟨fun _ => ?_, fun q => absurd q (by decide)⟩
  rw [findR_none (l := d.l) fun m hm => by
   obtain ⟨z, hz, rfl⟩ := List.mem_map.1 hm
   exact e2 z hz]
  exact ⟨rfl, rfl⟩
 ·rw [show idxR d.l o = (A.length : Int) from e3]
  obtain ⟨u, h1, h2, h3⟩ := h.at hs
  have hf : findR d.l o = some e.1 := by
   show findR (d.hs.map (·.1)) o = _
   rw [hs, List.map_append, List.map_cons]
   exact findR_at e1 fun y hy => by
    obtain ⟨z, hz, rfl⟩ := List.mem_map.1 hy
    exact e2 z hz
  rw [hf]
  refine ⟨fun q => absurd (of_decide_eq_true q) (by omega), fun _ => ⟨_, h.box.el, u, h1, by omega, by omega, _, by rw [Int.toNat_natCast]; exact h3, _, h.box.el, u, h1, by omega, by omega, _, by rw [Int.toNat_natCast]; exact h3, rfl, rfl⟩⟩

theorem c41 (h : RRep X r d) (hn : d.hs.length ≤ 1000000) : ∃ x, RC Try.prog 41 [.sl cN] [.ref (some r) cRT 0 [], .v (.int .i64 o)] X x ∧ SlAt X cN x (match findR d.l o with | some m => m.q | none => []) := by
 rcases idxR_cases d.hs o with ⟨e1, e2⟩ | ⟨A, e, C, hs, e1, e2, e3⟩
 ·refine ⟨none, xcOf (X := X41) rfl FN41 (by kernel_rfl) (by decide) (E41 X r o ⟨_, c64 h hn, ?_⟩), ?_⟩
  ·rw [show idxR d.l o = -1 from e1]
   exact ⟨fun _ => ⟨rfl, rfl⟩, fun q => absurd q (by decide)⟩
  ·rw [findR_none (l := d.l) fun m hm => by
    obtain ⟨z, hz, rfl⟩ := List.mem_map.1 hm
    exact e2 z hz]
   rfl
 ·obtain ⟨u, h1, h2, h3⟩ := h.at hs
  have hf : findR d.l o = some e.1 := by
   show findR (d.hs.map (·.1)) o = _
   rw [hs, List.map_append, List.map_cons]
   exact findR_at e1 fun y hy => by
    obtain ⟨z, hz, rfl⟩ := List.mem_map.1 hy
    exact e2 z hz
  refine ⟨e.2, xcOf (X := X41) rfl FN41 (by kernel_rfl) (by decide) (E41 X r o ⟨_, c64 h hn, ?_⟩), ?_⟩
  ·rw [show idxR d.l o = (A.length : Int) from e3]
   exact ⟨fun q => absurd (of_decide_eq_true q) (by omega), fun _ => ⟨_, h.box.el, u, h1, by omega, by omega, _, by rw [Int.toNat_natCast]; exact h3, rfl, rfl⟩⟩
  ·rw [hf]
   exact h.ws e (by rw [hs]; simp)

theorem c43 (h : RRep X r d) (hn : d.hs.length ≤ 1000000) : RC Try.prog 43 [.pure (.slice (.int .i64))] [.ref (some r) cRT 0 []] X (d.l.map (·.o)) := by
 have hlen := h.len
 refine xcOf (X := X43) rfl FN43 (by kernel_rfl) (by decide) (E43 X r ?_)
 refine Loops.intro (fun q : Nat × Tok × Toks => S43_0 r ((d.hs.take q.1).map (·.1.o)) q.2.1 (q.1 : Int) X q.2.2) (fun q => q.1 ≤ d.hs.length ∧ q.2.1.fresh q.2.2) (fun q => d.hs.length - q.1) (0, .exact, ⟨0, []⟩) rfl ⟨Nat.zero_le _, trivial⟩ ?_
 rintro ⟨i, k, T⟩ ⟨hi, hk⟩
 refine L43_0 r _ k i X T ⟨_, h.box.el, fun e => ?_, fun e => ?_⟩
 ·have e : (i : Int) < ((slN d.L : Nat) : Int) := of_decide_eq_true e
  have hi' : i < d.hs.length := by omega
  obtain ⟨u, h1, h2, h3, h4⟩ := h.at' hi'
  refine ⟨_, h.box.el, u, h1, h2, h3, _, h4, hk.own, ?_, ?_⟩
  ·have hi2 : i ≤ d.hs.length := hi
   simp only [List.length_map, List.length_take, List.length_cons, List.length_nil]
   show _ ≤ 140737488355328
   omega
  ·rw [wrap_succ (by omega)]
   refine Again.mk (i + 1, .tk T.n, ⟨T.n + 1, T.n :: Tok.drop k T.l⟩) ?_ ⟨hi', Tok.fresh_new _ _⟩ (by show d.hs.length - (i + 1) < d.hs.length - i; omega)
   rw [show (d.hs.take (i + 1)) = d.hs.take i ++ [d.hs[i]] from List.take_succ_eq_append_getElem hi', List.map_append]
   rfl
 ·have e : ¬ (i : Int) < ((slN d.L : Nat) : Int) := of_decide_eq_false e
  have hi2 : i ≤ d.hs.length := hi
  have hi' : i = d.hs.length := by omega
  refine ⟨?_, rfl⟩
  show (d.hs.take i).map (·.1.o) = _
  rw [hi', List.take_length]
  unfold RD.l
  rw [List.map_map]; rfl

end Go.Proofs.Ytefpoodhdfggdaa.AB

namespace Go.Proofs.Ytefpoodhdfggdaa.AB
open Go

variable {X X' : XH} {r : Nat} {d : RD} {o th : Int}

def waitsR (l : List RM) (th : Int) : Bool := l.any fun m => m.q.any (· == th)

theorem c63 (h : RRep X r d) (hn : d.hs.length ≤ 1000000) (hq : ∀ m ∈ d.l, m.q.length ≤ 1000000) : RC Try.prog 63 [.pure .bool] [.ref (some r) cRT 0 [], .v (.int .i64 th)] X (waitsR d.l th) := by
 have hlen := h.len
 refine xcOf (X := X63) rfl FN63 (by kernel_rfl) (by decide) (E63 X r th ?_)
 refine Loops.intro (fun i : Nat => S63_0 r th (i : Int) X ⟨0, []⟩) (fun i => i ≤ d.hs.length ∧ ∀ y ∈ d.hs.take i, ∀ z ∈ y.1.q, z ≠ th) (fun i => d.hs.length - i) 0 rfl ⟨Nat.zero_le _, fun y hy => by simp at hy⟩ ?_
 rintro i ⟨hi, hall⟩
 refine L63_0 r th i X ⟨0, []⟩ ⟨_, h.box.el, fun e => ?_, fun e => ?_⟩
 ·have e : (i : Int) < ((slN d.L : Nat) : Int) := of_decide_eq_true e
  have hi' : i < d.hs.length := by omega
  obtain ⟨u, h1, h2, h3, h4⟩ := h.at' hi'
  have hmem : d.hs[i] ∈ d.hs := List.getElem_mem hi'
  have hw := h.ws _ hmem
  have hwl := hw.len
  have hql := hq _ (List.mem_map.2 ⟨_, hmem, rfl⟩)
  refine Loops.intro (fun k : Nat => S63_2 r th (i : Int) (k : Int) X ⟨0, []⟩) (fun k => k ≤ (d.hs[i]).1.q.length ∧ ∀ z ∈ (d.hs[i]).1.q.take k, z ≠ th) (fun k => (d.hs[i]).1.q.length - k) 0 rfl ⟨Nat.zero_le _, fun y hy => by simp at hy⟩ ?_
  rintro k ⟨hk, hkall⟩
  refine L63_2 r th i k X ⟨0, []⟩ ⟨_, h.box.el, u, h1, h2, h3, _, h4, fun e2 => ?_, fun e2 => ?_⟩
  ·have e2 : (k : Int) < ((slN (d.hs[i]).2 : Nat) : Int) := of_decide_eq_true e2
   have hk' : k < (d.hs[i]).1.q.length := by omega
   obtain ⟨s, hs⟩ : ∃ s, (d.hs[i]).2 = some s := by
    cases hc : (d.hs[i]).2 with
    | none => rw [hc] at hwl; simp [slN] at hwl; omega
    | some s => exact ⟨s, rfl⟩
   have hw2 := hw
   rw [hs] at hw2 hwl
   have hsl : s.len = (d.hs[i]).1.q.length := hwl
   refine ⟨_, h.box.el, u, h1, h2, h3, _, h4, s, hs, by omega, by omega, _, by rw [Int.toNat_natCast]; exact hw2.el hk', fun e3 => ?_, fun e3 => ?_⟩
   ·have e3 : (d.hs[i]).1.q[k] = th := by simpa using e3
    have : waitsR d.l th = true := List.any_eq_true.2 ⟨_, List.mem_map.2 ⟨_, hmem, rfl⟩, List.any_eq_true.2 ⟨_, List.getElem_mem hk', by simpa using e3⟩⟩
    exact ⟨this.symm, rfl⟩
   ·have e3 : (d.hs[i]).1.q[k] ≠ th := by simpa using e3
    rw [wrap_succ (by omega)]
    refine Again.mk (k + 1) rfl ⟨hk', fun y hy => ?_⟩ (by omega)
    rw [List.take_succ_eq_append_getElem hk', List.mem_append, List.mem_singleton] at hy
    rcases hy with hy | rfl
    ·exact hkall y hy
    ·exact e3
  ·have e2 : ¬ (k : Int) < ((slN (d.hs[i]).2 : Nat) : Int) := of_decide_eq_false e2
   have hk' : k = (d.hs[i]).1.q.length := by omega
   rw [hk', List.take_length] at hkall
   rw [wrap_succ (by omega)]
   refine Again.mk (i + 1) rfl ⟨hi', fun y hy => ?_⟩ (by omega)
   rw [List.take_succ_eq_append_getElem hi', List.mem_append, List.mem_singleton] at hy
   rcases hy with hy | rfl
   ·exact hall y hy
   ·exact hkall
 ·have e : ¬ (i : Int) < ((slN d.L : Nat) : Int) := of_decide_eq_false e
  have hi' : i = d.hs.length := by omega
  subst hi'
  rw [List.take_length] at hall
  have : waitsR d.l th = false := by
   unfold waitsR
   rw [List.any_eq_false]
   intro m hm
   obtain ⟨z, hz, rfl⟩ := List.mem_map.1 hm
   rw [Bool.not_eq_true, List.any_eq_false]
   intro q hq
   simpa using hall z hz q hq
  exact ⟨this.symm, rfl⟩

def ofTurn (l : List RM) (th : Int) (t : Nat) : List Int := (l.filter fun m => m.w == th && m.s == (t : Int)).map (·.o)
def holdsR (l : List RM) (th : Int) (n : Nat) : List Int := (List.range n).flatMap (ofTurn l th)

theorem holdsR_succ (l : List RM) (th : Int) (n : Nat) : holdsR l th (n + 1) = holdsR l th n ++ ofTurn l th n := by
 unfold holdsR
 rw [List.range_succ, List.flatMap_append]
 simp

theorem ofTurn_le (l : List RM) (th : Int) (t : Nat) : (ofTurn l th t).length ≤ l.length := by
 unfold ofTurn
 rw [List.length_map]
 exact List.length_filter_le _ _

theorem holdsR_le (l : List RM) (th : Int) : ∀ n, (holdsR l th n).length ≤ n * l.length
 | 0 => by simp [holdsR]
 | n + 1 => by
  rw [holdsR_succ, List.length_append, Nat.succ_mul]
  exact Nat.add_le_add (holdsR_le l th n) (ofTurn_le l th n)

theorem c72 (h : RRep X r d) (hn : d.hs.length ≤ 1000) (n : Nat) (ht : d.turn = (n : Int)) (hn2 : n ≤ 1000) : RC Try.prog 72 [.pure (.slice (.int .i64))] [.ref (some r) cRT 0 [], .v (.int .i64 th)] X (holdsR d.l th n) := by
 have hlen := h.len
 have hll : d.l.length = d.hs.length := by unfold RD.l; simp
 refine xcOf (X := X72) rfl FN72 (by kernel_rfl) (by decide) (E72 X r th ?_)
 refine Loops.intro (fun q : Nat × Tok × Toks => S72_0 r th (holdsR d.l th q.1) q.2.1 (q.1 : Int) X q.2.2) (fun q => q.1 ≤ n ∧ q.2.1.fresh q.2.2) (fun q => n - q.1) (0, .exact, ⟨0, []⟩) rfl ⟨Nat.zero_le _, trivial⟩ ?_
 rintro ⟨t, k, T⟩ ⟨hi, hk⟩
 have hi : t ≤ n := hi
 refine L72_0 r th _ k t X T ⟨_, h.box.el, fun e => ?_, fun e => ?_⟩
 ·have e : (t : Int) < d.turn := of_decide_eq_true e
  have hi' : t < n := by omega
  have hbig := holdsR_le d.l th t
  have hbig2 : t * d.l.length ≤ 1000 * 1000 := Nat.mul_le_mul (by omega) (by omega)
  refine Loops.intro (fun q : Nat × Tok × Toks => S72_2 r th (holdsR d.l th t ++ ofTurn ((d.hs.take q.1).map (·.1)) th t) q.2.1 (t : Int) (q.1 : Int) X q.2.2) (fun q => q.1 ≤ d.hs.length ∧ q.2.1.fresh q.2.2) (fun q => d.hs.length - q.1) (0, k, T) (by simp [ofTurn]) ⟨Nat.zero_le _, hk⟩ ?_
  rintro ⟨i, k2, T2⟩ ⟨hi2, hk2⟩
  have hi2 : i ≤ d.hs.length := hi2
  refine L72_2 r th _ k2 t i X T2 ⟨_, h.box.el, fun e2 => ?_, fun e2 => ?_⟩
  ·have e2 : (i : Int) < ((slN d.L : Nat) : Int) := of_decide_eq_true e2
   have hi3 : i < d.hs.length := by omega
   obtain ⟨u, h1, h2, h3, h4⟩ := h.at' hi3
   have hstep : ∀ y, ofTurn ((d.hs.take (i + 1)).map (·.1)) th t = ofTurn ((d.hs.take i).map (·.1)) th t ++ y ↔ (ofTurn [(d.hs[i]).1] th t) = y := by
    intro y
    rw [List.take_succ_eq_append_getElem hi3]
    unfold ofTurn
    rw [List.map_append, List.filter_append, List.map_append]
    exact List.append_right_inj _
   have hlen2 := ofTurn_le ((d.hs.take i).map (·.1)) th t
   simp only [List.length_map, List.length_take] at hlen2
   refine ⟨_, h.box.el, u, h1, h2, h3, _, h4, fun e3 => ⟨_, h.box.el, u, h1, h2, h3, _, h4, fun e4 => ⟨_, h.box.el, u, h1, h2, h3, _, h4, hk2.own, ?_, ?_⟩, fun e4 => ?_⟩, fun e3 => ?_⟩
   ·simp only [List.length_append, List.length_cons, List.length_nil]
    show _ ≤ 140737488355328
    omega
   ·have e3 : (d.hs[i]).1.w = th := by simpa [RM.v] using e3
    have e4 : (d.hs[i]).1.s = (t : Int) := by simpa [RM.v] using e4
    rw [wrap_succ (by omega)]
    refine Again.mk (i + 1, .tk T2.n, ⟨T2.n + 1, T2.n :: Tok.drop k2 T2.l⟩) ?_ ⟨hi3, Tok.fresh_new _ _⟩ (by show d.hs.length - (i + 1) < d.hs.length - i; omega)
    rw [(hstep [(d.hs[i]).1.o]).2 (by simp [ofTurn, e3, e4]), ← List.append_assoc]
    rfl
   ·have e4 : ¬ (d.hs[i]).1.s = (t : Int) := by simpa [RM.v] using e4
    rw [wrap_succ (by omega)]
    refine Again.mk (i + 1, k2, T2) ?_ ⟨hi3, hk2⟩ (by show d.hs.length - (i + 1) < d.hs.length - i; omega)
    rw [(hstep []).2 (by simp [ofTurn, e4]), List.append_nil]
   ·have e3 : ¬ (d.hs[i]).1.w = th := by simpa [RM.v] using e3
    rw [wrap_succ (by omega)]
    refine Again.mk (i + 1, k2, T2) ?_ ⟨hi3, hk2⟩ (by show d.hs.length - (i + 1) < d.hs.length - i; omega)
    rw [(hstep []).2 (by simp [ofTurn, e3]), List.append_nil]
  ·have e2 : ¬ (i : Int) < ((slN d.L : Nat) : Int) := of_decide_eq_false e2
   have hi3 : i = d.hs.length := by omega
   rw [wrap_succ (by omega)]
   refine Again.mk (t + 1, k2, T2) ?_ ⟨hi', hk2⟩ (by show n - (t + 1) < n - t; omega)
   rw [holdsR_succ]
   subst hi3
   rw [List.take_length]
   rfl
 ·have e : ¬ (t : Int) < d.turn := of_decide_eq_false e
  have hi' : t = n := by omega
  subst hi'
  exact ⟨rfl, rfl⟩

end Go.Proofs.Ytefpoodhdfggdaa.AB

set_option maxRecDepth 100000
set_option maxHeartbeats 2000000
namespace Go.Proofs.Ytefpoodhdfggdaa.AB
open Go
noncomputable def X66 : Cx := ⟨tt, [], [], [(66, [(1, 7, .x yZ0), (3, 1, .x yZ0), (3, 8, .x yZ0), (3, 16, .x yZ0), (9, 5, .x (.pure (.int .i64))), (9, 9, .x (.pure (.int .i64))), (16000003, 20019018017016013009008006015014012011010007005004003002001, .dflt), (16000009, 13012011010009008004007006005003002001, .dflt), (26000003, 20019018017009016013008006015014012011010007005004003002001, .dflt), (26000009, 13012011004010009008007006005003002001, .dflt), (3000003, 12008, .dflt), (3000003, 0, .dflt), (3000003, 0, .dflt), (3000009, 9003, .dflt), (3000009, 0, .dflt), (3000009, 0, .dflt)])], [], []⟩
theorem FN66 : fnsB Try.prog X66.fns := (show True from trivial)
theorem E66 (X : XH) (t0 : Nat) (i1 : Int) {R : (Int) → XH → Prop} (h : (∃ (a1 : ((Option SlH) × Int)), XH.el X yZ1 t0 0 = some a1 ∧ (∃ (u2 : SlH), a1.1 = some u2 ∧ 0 ≤ i1 ∧ i1 < ((u2.len : Nat) : Int) ∧ (∃ (a3 : (Int × (Int × (Int × (Int × (Option SlH)))))), XH.el X yZ0 u2.h ((u2.off + (i1).toNat)) = some a3 ∧ (∀ (X4 : XH), X4 = (XH.add X (.arr yZ0 [((0 : Int), ((0 : Int), ((0 : Int), ((0 : Int), none))))])) → (∃ (a5 : (Int × (Int × (Int × (Int × (Option SlH)))))), XH.el X4 yZ0 X.n 0 = some a5 ∧ (∀ (X6 : XH), X6 = (XH.setEl X4 yZ0 X.n 0 ((a3.1, (a3.2.1, (a3.2.2.1, (a3.2.2.2.1, a3.2.2.2.2)))))) → (∃ (a7 : (Int × (Int × (Int × (Int × (Option SlH)))))), XH.el X6 yZ0 X.n 0 = some a7 ∧ ((((((slN a7.2.2.2.2) : Nat) : Int) == (0 : Int)) = true → ((∃ (a20 : ((Option SlH) × Int)), XH.el X6 yZ1 t0 0 = some a20 ∧ (0 ≤ i1 ∧ i1 ≤ (((slC a20.1) : Nat) : Int) ∧ (∃ (l21 l22 : List (Int × (Int × (Int × (Int × (Option SlH)))))), XH.view X6 yZ0 none = some l21 ∧ (srcX X6 yZ0 (.sl yZ0 (slCut a20.1 0 ((i1).toNat) (slC a20.1)))) = some l22 ∧ (0 + (l22).length) * 56 ≤ room ∧ ∀ (X23 : XH) (s24 : Option SlH), XApp X6 yZ0 (((0 : Int), ((0 : Int), ((0 : Int), ((0 : Int), none))))) l21 l22 none X23 s24 → (∃ (a25 : ((Option SlH) × Int)), XH.el X23 yZ1 t0 0 = some a25 ∧ (0 ≤ (IntKind.wrap .i64 (i1 + (1 : Int))) ∧ (IntKind.wrap .i64 (i1 + (1 : Int))) ≤ (((slN a25.1) : Nat) : Int) ∧ (∃ (l26 l27 : List (Int × (Int × (Int × (Int × (Option SlH)))))), XH.view X23 yZ0 s24 = some l26 ∧ (srcX X23 yZ0 (.sl yZ0 (slCut a25.1 (((IntKind.wrap .i64 (i1 + (1 : Int)))).toNat) (slN a25.1) (slC a25.1)))) = some l27 ∧ ((slN s24) + (l27).length) * 56 ≤ room ∧ ∀ (X28 : XH) (s29 : Option SlH), XApp X23 yZ0 (((0 : Int), ((0 : Int), ((0 : Int), ((0 : Int), none))))) l26 l27 s24 X28 s29 → (∃ (a30 : ((Option SlH) × Int)), XH.el X28 yZ1 t0 0 = some a30 ∧ (∀ (X31 : XH), X31 = (XH.setEl X28 yZ1 t0 0 (s29, a30.2)) → R (0 : Int) X31)))))))) ∧ ((∃ (a8 : ((Option SlH) × Int)), XH.el X6 yZ1 t0 0 = some a8 ∧ (0 ≤ i1 ∧ i1 ≤ (((slC a8.1) : Nat) : Int) ∧ (∃ (a9 : ((Option SlH) × Int)), XH.el X6 yZ1 t0 0 = some a9 ∧ (0 ≤ (IntKind.wrap .i64 (i1 + (1 : Int))) ∧ (IntKind.wrap .i64 (i1 + (1 : Int))) ≤ (((slN a9.1) : Nat) : Int) ∧ (∃ (l10 l11 : List (Int × (Int × (Int × (Int × (Option SlH)))))), XH.view X6 yZ0 none = some l10 ∧ (srcX X6 yZ0 (.sl yZ0 (slCut a8.1 0 ((i1).toNat) (slC a8.1)))) = some l11 ∧ (0 + (l11).length) * 56 ≤ room ∧ ∀ (X12 : XH) (s13 : Option SlH), XApp X6 yZ0 (((0 : Int), ((0 : Int), ((0 : Int), ((0 : Int), none))))) l10 l11 none X12 s13 → (∃ (l14 l15 : List (Int × (Int × (Int × (Int × (Option SlH)))))), XH.view X12 yZ0 s13 = some l14 ∧ (srcX X12 yZ0 (.sl yZ0 (slCut a9.1 (((IntKind.wrap .i64 (i1 + (1 : Int)))).toNat) (slN a9.1) (slC a9.1)))) = some l15 ∧ ((slN s13) + (l15).length) * 56 ≤ room ∧ ∀ (X16 : XH) (s17 : Option SlH), XApp X12 yZ0 (((0 : Int), ((0 : Int), ((0 : Int), ((0 : Int), none))))) l14 l15 s13 X16 s17 → (∃ (a18 : ((Option SlH) × Int)), XH.el X16 yZ1 t0 0 = some a18 ∧ (∀ (X19 : XH), X19 = (XH.setEl X16 yZ1 t0 0 (s17, a18.2)) → R (0 : Int) X19)))))))) ∧ True))) ∧
 (((((slN a7.2.2.2.2) : Nat) : Int) == (0 : Int)) = false → (∃ (a32 : ((Option SlH) × Int)), XH.el X6 yZ1 t0 0 = some a32 ∧ (∃ (a33 : (Int × (Int × (Int × (Int × (Option SlH)))))), XH.el X6 yZ0 X.n 0 = some a33 ∧ (∃ (u34 : SlH), a33.2.2.2.2 = some u34 ∧ 0 ≤ (0 : Int) ∧ (0 : Int) < ((u34.len : Nat) : Int) ∧ (∃ (a35 : Int), XH.el X6 (.pure (.int .i64)) u34.h ((u34.off + ((0 : Int)).toNat)) = some a35 ∧ (∃ (u36 : SlH), a32.1 = some u36 ∧ 0 ≤ i1 ∧ i1 < ((u36.len : Nat) : Int) ∧ (∃ (a37 : (Int × (Int × (Int × (Int × (Option SlH)))))), XH.el X6 yZ0 u36.h ((u36.off + (i1).toNat)) = some a37 ∧ (∀ (X38 : XH), X38 = (XH.setEl X6 yZ0 u36.h ((u36.off + (i1).toNat)) ((a37.1, (a35, a37.2.2)))) → (∃ (a39 : ((Option SlH) × Int)), XH.el X38 yZ1 t0 0 = some a39 ∧ (∃ (u40 : SlH), a39.1 = some u40 ∧ 0 ≤ i1 ∧ i1 < ((u40.len : Nat) : Int) ∧ (∃ (a41 : (Int × (Int × (Int × (Int × (Option SlH)))))), XH.el X38 yZ0 u40.h ((u40.off + (i1).toNat)) = some a41 ∧ (∀ (X42 : XH), X42 = (XH.setEl X38 yZ0 u40.h ((u40.off + (i1).toNat)) ((a41.1, (a41.2.1, ((1 : Int), a41.2.2.2))))) → (∃ (a43 : ((Option SlH) × Int)), XH.el X42 yZ1 t0 0 = some a43 ∧ (∃ (a44 : ((Option SlH) × Int)), XH.el X42 yZ1 t0 0 = some a44 ∧ (∃ (u45 : SlH), a43.1 = some u45 ∧ 0 ≤ i1 ∧ i1 < ((u45.len : Nat) : Int) ∧ (∃ (a46 : (Int × (Int × (Int × (Int × (Option SlH)))))), XH.el X42 yZ0 u45.h ((u45.off + (i1).toNat)) = some a46 ∧ (∀ (X47 : XH), X47 = (XH.setEl X42 yZ0 u45.h ((u45.off + (i1).toNat)) ((a46.1, (a46.2.1, (a46.2.2.1, (a44.2, a46.2.2.2.2)))))) → (∃ (a48 : ((Option SlH) × Int)), XH.el X47 yZ1 t0 0 = some a48 ∧ (∃ (a49 : ((Option SlH) × Int)), XH.el X47 yZ1 t0 0 = some a49 ∧ (∀ (X50 : XH), X50 = (XH.setEl X47 yZ1 t0 0 ((a49.1, (IntKind.wrap .i64 (a48.2 + (1 : Int)))))) → ((∃ (a63 : ((Option SlH) × Int)), XH.el X50 yZ1 t0 0 = some a63 ∧ (∃ (a64 : (Int × (Int × (Int × (Int × (Option SlH)))))), XH.el X50 yZ0 X.n 0 = some a64 ∧ (0 ≤ (1 : Int) ∧ (1 : Int) ≤ (((slN a64.2.2.2.2) : Nat) : Int) ∧ (∃ (l65 l66 : List Int), XH.view X50 (.pure (.int .i64)) none = some l65 ∧ (srcX X50 (.pure (.int .i64)) (.sl (.pure (.int .i64)) (slCut a64.2.2.2.2 (((1 : Int)).toNat) (slN a64.2.2.2.2) (slC a64.2.2.2.2)))) = some l66 ∧ (0 + (l66).length) * 8 ≤ room ∧ ∀ (X67 : XH) (s68 : Option SlH), XApp X50 (.pure (.int .i64)) (0 : Int) l65 l66 none X67 s68 → (∃ (u69 : SlH), a63.1 = some u69 ∧ 0 ≤ i1 ∧ i1 < ((u69.len : Nat) : Int) ∧ (∃ (a70 : (Int × (Int × (Int × (Int × (Option SlH)))))), XH.el X67 yZ0 u69.h ((u69.off + (i1).toNat)) = some a70 ∧ (∀ (X71 : XH), X71 = (XH.setEl X67 yZ0 u69.h ((u69.off + (i1).toNat)) ((a70.1, (a70.2.1, (a70.2.2.1, (a70.2.2.2.1, s68)))))) → (∃ (a72 : ((Option SlH) × Int)), XH.el X71 yZ1 t0 0 = some a72 ∧ (∃ (u73 : SlH), a72.1 = some u73 ∧ 0 ≤ i1 ∧ i1 < ((u73.len : Nat) : Int) ∧ (∃ (a74 : (Int × (Int × (Int × (Int × (Option SlH)))))), XH.el X71 yZ0 u73.h ((u73.off + (i1).toNat)) = some a74 ∧ R a74.2.1 X71)))))))))) ∧ ((∃ (a51 : (Int × (Int × (Int × (Int × (Option SlH)))))), XH.el X50 yZ0 X.n 0 = some a51 ∧ (0 ≤ (1 : Int) ∧ (1 : Int) ≤ (((slN a51.2.2.2.2) : Nat) : Int) ∧ (∃ (l52 l53 : List Int), XH.view X50 (.pure (.int .i64)) none = some l52 ∧ (srcX X50 (.pure (.int .i64)) (.sl (.pure (.int .i64)) (slCut a51.2.2.2.2 (((1 : Int)).toNat) (slN a51.2.2.2.2) (slC a51.2.2.2.2)))) = some l53 ∧ (0 + (l53).length) * 8 ≤ room ∧ ∀ (X54 : XH) (s55 : Option SlH), XApp X50 (.pure (.int .i64)) (0 : Int) l52 l53 none X54 s55 → (∃ (a56 : ((Option SlH) × Int)), XH.el X54 yZ1 t0 0 = some a56 ∧ (∃ (u57 : SlH), a56.1 = some u57 ∧ 0 ≤ i1 ∧ i1 < ((u57.len : Nat) : Int) ∧ (∃ (a58 : (Int × (Int × (Int × (Int × (Option SlH)))))), XH.el X54 yZ0 u57.h ((u57.off + (i1).toNat)) = some a58 ∧ (∀ (X59 : XH), X59 = (XH.setEl X54 yZ0 u57.h ((u57.off + (i1).toNat)) ((a58.1, (a58.2.1, (a58.2.2.1, (a58.2.2.2.1, s55)))))) → (∃ (a60 : ((Option SlH) × Int)), XH.el X59 yZ1 t0 0 = some a60 ∧ (∃ (u61 : SlH), a60.1 = some u61 ∧ 0 ≤ i1 ∧ i1 < ((u61.len : Nat) : Int) ∧ (∃ (a62 : (Int × (Int × (Int × (Int × (Option SlH)))))), XH.el X59 yZ0 u61.h ((u61.off + (i1).toNat)) = some a62 ∧ R a62.2.1 X59)))))))))) ∧ True))))))))))))))))))))))))))))))) :
  fnK X66.tt (callN Try.prog X66 0) (X66.md 66) (X66.mk1 66) Try.f66 [(.ref (some t0) yZ1 0 []), (.v (.int .i64 i1))] ⟨[], [some (.heap X)], ⟨0, []⟩⟩ (xfin [(.pure (.int .i64))] R) := Eq.mp (by kernel_rfl) h
end Go.Proofs.Ytefpoodhdfggdaa.AB

namespace Go.Proofs.Ytefpoodhdfggdaa.AB
open Go

variable {X X' : XH} {r : Nat} {d : RD} {A C : List RE} {e : RE} {o th : Int}

theorem srcX_sl {c : Xd} {y : Option SlH} : srcX X c (.sl c y) = X.view c y := by
 unfold srcX
 simp

theorem RRep.without (h : RRep X r d) (hs : d.hs = A ++ e :: C) {X1 X2 : XH} {s1 s2 : Option SlH} {l1 : List cRM.T} (m1 : Mv X [] X1 (hl s1)) (a2 : SlAt X2 cRM s2 (l1 ++ C.map fun e => e.1.v e.2)) (hl1 : l1 = A.map fun e => e.1.v e.2) (m2 : Mv X1 (hl s1) X2 (hl s2)) :
  RGoes X r d (X2.setEl cRT r 0 (s2, d.turn)) ((A ++ C).map (·.1)) d.turn := by
 have m : Mv X [] X2 (hl s2) := m1.trans m2
 have hb : Box X2 cRT r (d.L, d.turn) := h.box.keep (m.keep r h.box.lt (by simp))
 rw [hb.setEl]
 have hpw := h.pw
 rw [hs] at hpw
 obtain ⟨k1, k2⟩ := h.listTo (hs1 := A ++ C) m (by rw [hl1] at a2; rw [List.map_append]; exact a2) (fun y hy => .inl (by
  rw [hs]
  rcases List.mem_append.1 hy with hy | hy
  ·exact List.mem_append_left _ hy
  ·exact List.mem_append_right _ (List.mem_cons_of_mem _ hy))) (hpw.sublist (List.Sublist.append (List.Sublist.refl _) (List.sublist_cons_self _ _)))
 exact ⟨_, k1, k2, rfl, rfl⟩

def nextR (A : List RM) (m : RM) (C : List RM) (turn : Int) : Int × List RM × Int :=
 match m.q with
 | [] => (0, A ++ C, turn)
 | x :: q => (x, A ++ ⟨m.o, x, 1, turn, q⟩ :: C, IntKind.wrap .i64 (turn + 1))

theorem c66 (h : RRep X r d) (hs : d.hs = A ++ e :: C) (hn : d.hs.length ≤ 1000000) (hq : e.1.q.length ≤ 1000000) : XC Try.prog 66 [.pure (.int .i64)] [.ref (some r) cRT 0 [], .v (.int .i64 (A.length : Int))] X
  fun v X' => v = (nextR (A.map (·.1)) e.1 (C.map (·.1)) d.turn).1 ∧ RGoes X r d X' (nextR (A.map (·.1)) e.1 (C.map (·.1)) d.turn).2.1 (nextR (A.map (·.1)) e.1 (C.map (·.1)) d.turn).2.2 := by
 have hlen := h.len
 obtain ⟨u, h1, h2, h3⟩ := h.at hs
 have h3' : X.el cRM u.h (u.off + ((A.length : Int)).toNat) = some (e.1.v e.2) := by rw [Int.toNat_natCast]; exact h3
 have he : e ∈ d.hs := by rw [hs]; simp
 have hAl : A.length < d.hs.length := by rw [hs]; simp
 refine xcOf (X := X66) rfl FN66 (by kernel_rfl) (by decide) (E66 X r A.length ⟨_, h.box.el, u, h1, by omega, by omega, _, h3', fun X4 e4 => ?_⟩)
 have m4 : Mv X [] X4 [] := by rw [e4]; exact ⟨Nat.le_succ _, fun k hk _ => at_add_old hk, fun k hk => by cases hk⟩
 have b4 : Box X4 cRM X.n (0, 0, 0, 0, none) := by
  show X4.at X.n = _
  rw [e4]; exact at_add_new _ _
 refine ⟨_, b4.el, fun X6 e6 => ?_⟩
 have e6 := e6.trans b4.setEl
 have b6 : Box X6 cRM X.n (e.1.v e.2) := by rw [e6]; exact b4.set
 have m6 : Mv X [] X6 [] := ⟨by rw [e6]; exact m4.n, fun k hk _ => by rw [e6, at_set_ne (by omega)]; exact m4.keep k hk (by simp), fun k hk => by cases hk⟩
 have h6 : RRep X6 r d := h.mv m6 (fun k _ => by simp)
 have h36 := (h6.at hs)
 obtain ⟨u', q1, q2, q3⟩ := h36
 rw [h1] at q1; cases q1
 have hw := h6.ws e he
 have hwl := hw.len
 have harr := h6.arr
 rw [h1] at harr
 have hul : u.len = d.hs.length := by have := harr.len; simpa [slN] using this
 have huc : u.len ≤ u.cap := harr.le
 refine ⟨_, b6.el, fun e7 => ?_, fun e7 => ?_⟩
 ·-- nobody waits
  have e7 : slN e.2 = 0 := by simpa [RM.v] using e7
  have hq0 : e.1.q = [] := List.eq_nil_of_length_eq_zero (by omega)
  have hnx : nextR (A.map (·.1)) e.1 (C.map (·.1)) d.turn = (0, A.map (·.1) ++ C.map (·.1), d.turn) := by unfold nextR; rw [hq0]
  rw [hnx]
  have ci : ∀ {Y : XH}, RRep Y r d → SlAt Y cRM (slCut d.L 0 ((A.length : Int)).toNat (slC d.L)) (A.map fun e => e.1.v e.2) := fun {Y} hY => by
   have ha := hY.arr
   rw [h1] at ha ⊢
   have := ha.cut (p := 0) (q := A.length) (m := u.cap) (by omega) (by omega) (by omega) (by omega)
   rw [Int.toNat_natCast]
   have e : ((d.hs.map fun e => e.1.v e.2).take A.length).drop 0 = A.map fun e => e.1.v e.2 := by rw [hs]; simp
   rw [e] at this
   exact this
  have hwr : IntKind.wrap .i64 ((A.length : Int) + (1 : Int)) = ((A.length + 1 : Nat) : Int) := wrap_succ (by omega)
  have cj : ∀ {Y : XH}, RRep Y r d → SlAt Y cRM (slCut d.L (IntKind.wrap .i64 ((A.length : Int) + (1 : Int))).toNat (slN d.L) (slC d.L)) (C.map fun e => e.1.v e.2) := fun {Y} hY => by
   have ha := hY.arr
   rw [hwr, Int.toNat_natCast]
   rw [h1] at ha ⊢
   have := ha.cut (p := A.length + 1) (q := u.len) (m := u.cap) (by omega) (by omega) (by omega) (by omega)
   have e : ((d.hs.map fun e => e.1.v e.2).take u.len).drop (A.length + 1) = C.map fun e => e.1.v e.2 := by
    rw [hul, List.take_of_length_le (by simp), hs]
    simp [List.drop_append]
   rw [e] at this
   exact this
  have nilAt : ∀ {Y : XH}, SlAt Y cRM none [] := fun {Y} => rfl
  have hlA : (A.map fun e => e.1.v e.2).length ≤ 1000000 := by simp; omega
  have hlC : (C.map fun e => e.1.v e.2).length ≤ 1000000 := by
   have : d.hs.length = A.length + (C.length + 1) := by rw [hs]; simp
   simp; omega
  have fin : ∀ {X2 X3 : XH} {s1 s2 : Option SlH}, XApp X6 cRM (0, 0, 0, 0, none) [] (A.map fun e => e.1.v e.2) none X2 s1 → XApp X2 cRM (0, 0, 0, 0, none) ([] ++ A.map fun e => e.1.v e.2) (C.map fun e => e.1.v e.2) s1 X3 s2 →
    ∀ Y : XH, Y = X3.setEl cRT r 0 (s2, d.turn) → (0 : Int) = 0 ∧ RGoes X r d Y (A.map (·.1) ++ C.map (·.1)) d.turn := fun {X2 X3 s1 s2} x1 x2 Y eY => by
   obtain ⟨t1, t2⟩ := x1.spec nilAt
   obtain ⟨t3, t4⟩ := x2.spec t1
   obtain ⟨d', k1, k2, k3, k4⟩ := h6.without hs t2 t3 (by simp) t4
   rw [← List.map_append]
   refine ⟨rfl, d', eY ▸ k1, ?_, k3, k4⟩
   rw [eY]
   exact (m6.weak (fun k hk => by cases hk) (fun k hk => .inr hk)).trans k2
  refine ⟨?_, ?_, trivial⟩
  ·refine ⟨_, h6.box.el, by omega, ?_, [], _, rfl, by rw [srcX_sl]; exact (ci h6).view, ?_, fun X23 s24 x1 => ?_⟩
   ·show (A.length : Int) ≤ ((slC d.L : Nat) : Int)
    rw [h1]; show (A.length : Int) ≤ ((u.cap : Nat) : Int); omega
   ·show (0 + _) * 56 ≤ 140737488355328; omega
   ·obtain ⟨t1, t2⟩ := x1.spec nilAt
    have h23 : RRep X23 r d := h6.mv t2 (fun k _ => by simp [hl])
    refine ⟨_, h23.box.el, by rw [hwr]; omega, ?_, _, _, t1.view, by rw [srcX_sl]; exact (cj h23).view, ?_, fun X28 s29 x2 => ⟨_, (h23.box.keep ((x2.spec t1).2.keep r h23.box.lt fun q => ?_)).el, fun Y eY => fin x1 x2 Y eY⟩⟩
    ·show IntKind.wrap .i64 ((A.length : Int) + (1 : Int)) ≤ ((slN d.L : Nat) : Int)
     rw [hwr]; omega
    ·have := t1.len
     rw [List.nil_append, List.length_map] at this
     rw [this]
     show (A.length + _) * 56 ≤ 140737488355328; omega
    ·rcases t2.own r q with q | q
     ·cases q
     ·have := h6.box.lt; omega
  ·refine ⟨_, h6.box.el, by omega, ?_, _, h6.box.el, by rw [hwr]; omega, ?_, [], _, rfl, by rw [srcX_sl]; exact (ci h6).view, ?_, fun X12 s13 x1 => ?_⟩
   ·show (A.length : Int) ≤ ((slC d.L : Nat) : Int)
    rw [h1]; show (A.length : Int) ≤ ((u.cap : Nat) : Int); omega
   ·show IntKind.wrap .i64 ((A.length : Int) + (1 : Int)) ≤ ((slN d.L : Nat) : Int)
    rw [hwr]; omega
   ·show (0 + _) * 56 ≤ 140737488355328; omega
   ·obtain ⟨t1, t2⟩ := x1.spec nilAt
    have h23 : RRep X12 r d := h6.mv t2 (fun k _ => by simp [hl])
    refine ⟨_, _, t1.view, by rw [srcX_sl]; exact (cj h23).view, ?_, fun X28 s29 x2 => ⟨_, (h23.box.keep ((x2.spec t1).2.keep r h23.box.lt fun q => ?_)).el, fun Y eY => fin x1 x2 Y eY⟩⟩
    ·have := t1.len
     rw [List.nil_append, List.length_map] at this
     rw [this]
     show (A.length + _) * 56 ≤ 140737488355328; omega
    ·rcases t2.own r q with q | q
     ·cases q
     ·have := h6.box.lt; omega
 ·-- the first of those that wait
  have e7 : ¬ slN e.2 = 0 := by simpa [RM.v] using e7
  obtain ⟨x, q, hxq⟩ : ∃ x q, e.1.q = x :: q := by
   cases hc : e.1.q with
   | nil => rw [hc] at hwl; simp at hwl; omega
   | cons x q => exact ⟨x, q, rfl⟩
  have hnx : nextR (A.map (·.1)) e.1 (C.map (·.1)) d.turn = (x, A.map (·.1) ++ ⟨e.1.o, x, 1, d.turn, q⟩ :: C.map (·.1), IntKind.wrap .i64 (d.turn + 1)) := by unfold nextR; rw [hxq]
  rw [hnx]
  obtain ⟨s, hsl⟩ : ∃ s, e.2 = some s := by
   cases hc : e.2 with
   | none => rw [hc] at e7; exact absurd rfl e7
   | some s => exact ⟨s, rfl⟩
  have hw2 := hw
  rw [hsl] at hw2 hwl
  have hsl2 : s.len = e.1.q.length := hwl
  have hel := hw2.el (i := 0) (by rw [hxq]; simp)
  have hx0 : e.1.q[0]'(by rw [hxq]; simp) = x := by simp [hxq]
  rw [hx0] at hel
  have hqlen : e.1.q.length = q.length + 1 := by rw [hxq]; rfl
  refine ⟨_, h6.box.el, _, b6.el, s, hsl, by decide, by omega, x, hel, u, h1, by omega, by omega, _, by rw [Int.toNat_natCast]; exact q3, fun X38 e38 => ?_⟩
  obtain ⟨p1, p2⟩ := h6.put hs h1 ⟨e.1.o, x, e.1.n, e.1.s, e.1.q⟩ (hw : SlAt X6 cN e.2 e.1.q) (.refl _ _)
  have e38 : X38 = X6.setEl cRM u.h (u.off + A.length) (RM.v ⟨e.1.o, x, e.1.n, e.1.s, e.1.q⟩ e.2) := e38.trans (by rw [Int.toNat_natCast]; rfl)
  rw [← e38] at p1 p2
  obtain ⟨v1, v2, v3, v4⟩ := p1.at (A := A) (C := C) rfl
  have v2 : d.L = some v1 := v2
  rw [h1] at v2; cases v2
  refine ⟨_, p1.box.el, u, h1, by omega, by omega, _, by rw [Int.toNat_natCast]; exact v4, fun X42 e42 => ?_⟩
  obtain ⟨p3, p4⟩ := p1.put (A := A) (C := C) rfl h1 ⟨e.1.o, x, 1, e.1.s, e.1.q⟩ (p1.ws ((⟨e.1.o, x, e.1.n, e.1.s, e.1.q⟩ : RM), e.2) (by simp) : SlAt X38 cN e.2 e.1.q) (.refl _ _)
  have e42 : X42 = X38.setEl cRM u.h (u.off + A.length) (RM.v ⟨e.1.o, x, 1, e.1.s, e.1.q⟩ e.2) := e42.trans (by rw [Int.toNat_natCast]; rfl)
  rw [← e42] at p3 p4
  obtain ⟨v1, v2, v3, v5⟩ := p3.at (A := A) (C := C) rfl
  have v2 : d.L = some v1 := v2
  rw [h1] at v2; cases v2
  refine ⟨_, p3.box.el, _, p3.box.el, u, h1, by omega, by omega, _, by rw [Int.toNat_natCast]; exact v5, fun X47 e47 => ?_⟩
  obtain ⟨p5, p6⟩ := p3.put (A := A) (C := C) rfl h1 ⟨e.1.o, x, 1, d.turn, e.1.q⟩ (p3.ws ((⟨e.1.o, x, 1, e.1.s, e.1.q⟩ : RM), e.2) (by simp) : SlAt X42 cN e.2 e.1.q) (.refl _ _)
  have e47 : X47 = X42.setEl cRM u.h (u.off + A.length) (RM.v ⟨e.1.o, x, 1, d.turn, e.1.q⟩ e.2) := e47.trans (by rw [Int.toNat_natCast]; rfl)
  rw [← e47] at p5 p6
  refine ⟨_, p5.box.el, _, p5.box.el, fun X50 e50 => ?_⟩
  have e50 := e50.trans p5.box.setEl
  obtain ⟨p7, p8⟩ := p5.turnTo (IntKind.wrap .i64 (d.turn + 1))
  have e50 : X50 = X47.set r (.arr cRT [(d.L, IntKind.wrap .i64 (d.turn + 1))]) := e50
  rw [← e50] at p7 p8
  have mAll := p2.trans (p4.trans (p6.trans p8))
  have hXn : X.n < X6.n := b6.lt
  have b50 : Box X50 cRM X.n (e.1.v e.2) := b6.keep (mAll.keep X.n hXn fun qk => by have := h.lt X.n qk; omega)
  have hw50 : SlAt X50 cN e.2 e.1.q := p7.ws ((⟨e.1.o, x, 1, d.turn, e.1.q⟩ : RM), e.2) (by simp)
  have hcut : SlAt X50 cN (slCut e.2 ((1 : Int)).toNat (slN e.2) (slC e.2)) q := by
   rw [hsl] at hw50 ⊢
   have hle : s.len ≤ s.cap := hw50.le
   have := hw50.cut (p := 1) (q := s.len) (m := s.cap) (by omega) hle (Nat.le_refl _) (Nat.le_refl _)
   have e : (e.1.q.take s.len).drop 1 = q := by rw [hsl2, List.take_of_length_le (by omega), hxq]; rfl
   rw [e] at this
   exact this
  have h0x : ((1 : Int) ≤ (((slN e.2 : Nat)) : Int)) := by rw [hsl]; show (1 : Int) ≤ ((s.len : Nat) : Int); omega
  have fin : ∀ {X67 : XH} {s68 : Option SlH}, XApp X50 cN (0 : Int) [] q none X67 s68 → ∃ a70, X67.el cRM u.h (u.off + ((A.length : Int)).toNat) = some a70 ∧ ∀ X71 : XH, X71 = X67.setEl cRM u.h (u.off + ((A.length : Int)).toNat) (a70.1, (a70.2.1, (a70.2.2.1, (a70.2.2.2.1, s68)))) →
    ∃ a72 : cRT.T, X71.el cRT r 0 = some a72 ∧ ∃ u73 : SlH, a72.1 = some u73 ∧ 0 ≤ (A.length : Int) ∧ (A.length : Int) < ((u73.len : Nat) : Int) ∧ ∃ a74 : cRM.T, X71.el cRM u73.h (u73.off + ((A.length : Int)).toNat) = some a74 ∧ (a74.2.1 = x ∧ RGoes X r d X71 (A.map (·.1) ++ ⟨e.1.o, x, 1, d.turn, q⟩ :: C.map (·.1)) (IntKind.wrap .i64 (d.turn + 1))) := fun {X67 s68} xa => by
   obtain ⟨t1, t2⟩ := xa.spec (rfl : SlAt X50 cN none [])
   have t1 : SlAt X67 cN s68 q := t1
   have h67 : RRep X67 r _ := p7.mv t2 (fun k _ => by simp [hl])
   obtain ⟨w1, w2, w3, w4⟩ := h67.at (A := A) (C := C) rfl
   have w2 : d.L = some w1 := w2
   rw [h1] at w2; cases w2
   refine ⟨_, by rw [Int.toNat_natCast]; exact w4, fun X71 e71 => ?_⟩
   obtain ⟨p9, p10⟩ := p7.put (A := A) (C := C) rfl h1 ⟨e.1.o, x, 1, d.turn, q⟩ (x1 := s68) t1 (t2.weak (fun k hk => by cases hk) fun k hk => .inl hk)
   have e71 : X71 = X67.setEl cRM u.h (u.off + A.length) (RM.v ⟨e.1.o, x, 1, d.turn, q⟩ s68) := e71.trans (by rw [Int.toNat_natCast]; rfl)
   rw [← e71] at p9 p10
   obtain ⟨y1, y2, y3, y4⟩ := p9.at (A := A) (C := C) rfl
   have y2 : d.L = some y1 := y2
   rw [h1] at y2; cases y2
   refine ⟨_, p9.box.el, u, h1, by omega, by omega, _, by rw [Int.toNat_natCast]; exact y4, rfl, _, p9, ?_, by simp [RD.l], rfl⟩
   exact (m6.weak (fun k hk => by cases hk) (fun k hk => .inr hk)).trans (mAll.trans p10)
  refine ⟨?_, ?_, trivial⟩
  ·refine ⟨_, p7.box.el, _, b50.el, by decide, h0x, [], q, rfl, by rw [srcX_sl]; exact hcut.view, ?_, fun X67 s68 xa => ?_⟩
   ·show (0 + q.length) * 8 ≤ 140737488355328; omega
   ·obtain ⟨a70, g1, g2⟩ := fin xa
    exact ⟨u, h1, by omega, by omega, a70, g1, g2⟩
  ·refine ⟨_, b50.el, by decide, h0x, [], q, rfl, by rw [srcX_sl]; exact hcut.view, ?_, fun X54 s55 xa => ?_⟩
   ·show (0 + q.length) * 8 ≤ 140737488355328; omega
   ·obtain ⟨a70, g1, g2⟩ := fin xa
    have h54 : RRep X54 r _ := p7.mv (xa.spec (rfl : SlAt X50 cN none [])).2 (fun k _ => by simp [hl])
    exact ⟨_, h54.box.el, u, h1, by omega, by omega, a70, g1, g2⟩

end Go.Proofs.Ytefpoodhdfggdaa.AB

set_option maxRecDepth 100000
set_option maxHeartbeats 2000000
namespace Go.Proofs.Ytefpoodhdfggdaa.AB
open Go
noncomputable def X34 : Cx := ⟨tt, [], [(64, [(.pure (.int .i64))]), (66, [(.pure (.int .i64))])], [(34, [(3, 2, .rd), (9, 2, .xc)])], [], []⟩
theorem FN34 : fnsB Try.prog X34.fns := (show True from trivial)
theorem E34 (X : XH) (t0 : Nat) (object1 : Int) (thread2 : Int) {R : (Int × Int) → XH → Prop} (h : (((decide (object1 < (1 : Int))) = true → R ((0 : Int), (1 : Int)) X) ∧ ((decide (object1 < (1 : Int))) = false → (((decide (thread2 < (1 : Int))) = true → R ((0 : Int), (1 : Int)) X) ∧
 ((decide (thread2 < (1 : Int))) = false → (∃ (p1 : Int), RC Try.prog 64 [(.pure (.int .i64))] [(.ref (some t0) yZ1 0 []), (.v (.int .i64 object1))] X p1 ∧ (((decide (p1 < (0 : Int))) = true → R ((0 : Int), (25 : Int)) X) ∧ ((decide (p1 < (0 : Int))) = false → (∃ (a2 : ((Option SlH) × Int)), XH.el X yZ1 t0 0 = some a2 ∧ (∃ (u3 : SlH), a2.1 = some u3 ∧ 0 ≤ p1 ∧ p1 < ((u3.len : Nat) : Int) ∧ (∃ (a4 : (Int × (Int × (Int × (Int × (Option SlH)))))), XH.el X yZ0 u3.h ((u3.off + (p1).toNat)) = some a4 ∧ (((a4.2.1 != thread2) = true → R ((0 : Int), (25 : Int)) X) ∧
 ((a4.2.1 != thread2) = false → (∃ (a5 : ((Option SlH) × Int)), XH.el X yZ1 t0 0 = some a5 ∧ (∃ (u6 : SlH), a5.1 = some u6 ∧ 0 ≤ p1 ∧ p1 < ((u6.len : Nat) : Int) ∧ (∃ (a7 : (Int × (Int × (Int × (Int × (Option SlH)))))), XH.el X yZ0 u6.h ((u6.off + (p1).toNat)) = some a7 ∧ (∃ (u8 : SlH), a5.1 = some u8 ∧ 0 ≤ p1 ∧ p1 < ((u8.len : Nat) : Int) ∧ (∃ (a9 : (Int × (Int × (Int × (Int × (Option SlH)))))), XH.el X yZ0 u8.h ((u8.off + (p1).toNat)) = some a9 ∧ (∀ (X10 : XH), X10 = (XH.setEl X yZ0 u8.h ((u8.off + (p1).toNat)) ((a9.1, (a9.2.1, ((IntKind.wrap .i64 (a7.2.2.1 - (1 : Int))), a9.2.2.2))))) → (∃ (a11 : ((Option SlH) × Int)), XH.el X10 yZ1 t0 0 = some a11 ∧ (∃ (u12 : SlH), a11.1 = some u12 ∧ 0 ≤ p1 ∧ p1 < ((u12.len : Nat) : Int) ∧ (∃ (a13 : (Int × (Int × (Int × (Int × (Option SlH)))))), XH.el X10 yZ0 u12.h ((u12.off + (p1).toNat)) = some a13 ∧ (((decide (a13.2.2.1 > (0 : Int))) = true → R ((0 : Int), (0 : Int)) X10) ∧
 ((decide (a13.2.2.1 > (0 : Int))) = false → (XC Try.prog 66 [(.pure (.int .i64))] [(.ref (some t0) yZ1 0 []), (.v (.int .i64 p1))] X10 (fun (p14 : Int) (X15 : XH) => R (p14, (0 : Int)) X15)))))))))))))))))))))))))) :
  fnK X34.tt (callN Try.prog X34 0) (X34.md 34) (X34.mk1 34) Try.f34 [(.ref (some t0) yZ1 0 []), (.v (.int .i64 object1)), (.v (.int .i64 thread2))] ⟨[], [some (.heap X)], ⟨0, []⟩⟩ (xfin [(.pure (.int .i64)), (.pure (.int .i64))] R) := Eq.mp (by kernel_rfl) h
end Go.Proofs.Ytefpoodhdfggdaa.AB

namespace Go.Proofs.Ytefpoodhdfggdaa.AB
open Go

variable {X X' : XH} {r : Nat} {d : RD} {A C : List RE} {e : RE} {o th : Int}

def updR (l : List RM) (m : RM) : List RM := l.map fun y => if y.o = m.o then m else y
def delR (l : List RM) (o : Int) : List RM := l.filter fun y => decide (y.o ≠ o)

theorem updR_at {A C : List RM} {m m' : RM} (hn : ((A ++ m :: C).map (·.o)).Nodup) (hm : m'.o = m.o) : updR (A ++ m :: C) m' = A ++ m' :: C := by
 have hA : ∀ y ∈ A, y.o ≠ m'.o := fun y hy q => by
  rw [List.map_append, List.nodup_append] at hn
  exact hn.2.2 _ (List.mem_map.2 ⟨y, hy, rfl⟩) m.o (by simp) (q.trans hm)
 have hC : ∀ y ∈ C, y.o ≠ m'.o := fun y hy q => by
  rw [List.map_append, List.nodup_append, List.map_cons, List.nodup_cons] at hn
  exact hn.2.1.1 (List.mem_map.2 ⟨y, hy, q.trans hm⟩)
 unfold updR
 rw [List.map_append, List.map_cons, if_pos hm.symm]
 congr 1
 ·exact (List.map_congr_left (g := id) fun y hy => if_neg (hA y hy)).trans (List.map_id _)
 ·congr 1
  exact (List.map_congr_left (g := id) fun y hy => if_neg (hC y hy)).trans (List.map_id _)

theorem delR_at {A C : List RM} {m : RM} (hn : ((A ++ m :: C).map (·.o)).Nodup) : delR (A ++ m :: C) m.o = A ++ C := by
 have hA : ∀ y ∈ A, y.o ≠ m.o := fun y hy q => by
  rw [List.map_append, List.nodup_append] at hn
  exact hn.2.2 _ (List.mem_map.2 ⟨y, hy, rfl⟩) m.o (by simp) q
 have hC : ∀ y ∈ C, y.o ≠ m.o := fun y hy q => by
  rw [List.map_append, List.nodup_append, List.map_cons, List.nodup_cons] at hn
  exact hn.2.1.1 (List.mem_map.2 ⟨y, hy, q⟩)
 unfold delR
 rw [List.filter_append, List.filter_cons]
 simp only [ne_eq, not_true_eq_false, decide_false, Bool.false_eq_true, ↓reduceIte]
 rw [List.filter_eq_self.2 fun y hy => decide_eq_true (hA y hy), List.filter_eq_self.2 fun y hy => decide_eq_true (hC y hy)]

def nextS (l : List RM) (m : RM) (turn : Int) : Int × List RM × Int :=
 match m.q with
 | [] => (0, delR l m.o, turn)
 | x :: q => (x, updR l ⟨m.o, x, 1, turn, q⟩, IntKind.wrap .i64 (turn + 1))

theorem nextR_eq {A C : List RM} {m : RM} (hn : ((A ++ m :: C).map (·.o)).Nodup) (turn : Int) : nextR A m C turn = nextS (A ++ m :: C) m turn := by
 unfold nextR nextS
 cases m.q with
 | nil => rw [delR_at hn]
 | cons x q =>
  dsimp only
  rw [updR_at (m' := ⟨m.o, x, 1, turn, q⟩) hn rfl]

theorem c66S (h : RRep X r d) (hs : d.hs = A ++ e :: C) (hn : d.hs.length ≤ 1000000) (hq : e.1.q.length ≤ 1000000) (hnd : (d.l.map (·.o)).Nodup) : XC Try.prog 66 [.pure (.int .i64)] [.ref (some r) cRT 0 [], .v (.int .i64 (A.length : Int))] X
  fun v X' => v = (nextS d.l e.1 d.turn).1 ∧ RGoes X r d X' (nextS d.l e.1 d.turn).2.1 (nextS d.l e.1 d.turn).2.2 := by
 have hl : d.l = A.map (·.1) ++ e.1 :: C.map (·.1) := by unfold RD.l; rw [hs]; simp
 have := c66 h hs hn hq
 rw [nextR_eq (by rw [← hl]; exact hnd), ← hl] at this
 exact this

def exitS (l : List RM) (turn o th : Int) : (Int × Int) × List RM × Int :=
 if o < 1 ∨ th < 1 then ((0, 1), l, turn)
 else match findR l o with
  | none => ((0, 25), l, turn)
  | some m => if m.w ≠ th then ((0, 25), l, turn)
   else if IntKind.wrap .i64 (m.n - 1) > 0 then ((0, 0), updR l ⟨m.o, m.w, IntKind.wrap .i64 (m.n - 1), m.s, m.q⟩, turn)
   else (((nextS (updR l ⟨m.o, m.w, IntKind.wrap .i64 (m.n - 1), m.s, m.q⟩) ⟨m.o, m.w, IntKind.wrap .i64 (m.n - 1), m.s, m.q⟩ turn).1, 0),
    (nextS (updR l ⟨m.o, m.w, IntKind.wrap .i64 (m.n - 1), m.s, m.q⟩) ⟨m.o, m.w, IntKind.wrap .i64 (m.n - 1), m.s, m.q⟩ turn).2)

theorem findR_split (hs : d.hs = A ++ e :: C) (ho : e.1.o = o) (ha : ∀ y ∈ A, y.1.o ≠ o) : findR d.l o = some e.1 := by
 show findR (d.hs.map (·.1)) o = _
 rw [hs, List.map_append, List.map_cons]
 exact findR_at ho fun y hy => by
  obtain ⟨z, hz, rfl⟩ := List.mem_map.1 hy
  exact ha z hz

theorem findR_no (ha : ∀ y ∈ d.hs, y.1.o ≠ o) : findR d.l o = none := findR_none fun m hm => by
 obtain ⟨z, hz, rfl⟩ := List.mem_map.1 hm
 exact ha z hz

theorem RRep.upd (h : RRep X r d) (hs : d.hs = A ++ e :: C) (hnd : (d.l.map (·.o)).Nodup) {u : SlH} (hu : d.L = some u) (m : RM) (hm : m.o = e.1.o) (hmq : m.q = e.1.q) :
  ∃ d', RRep (X.setEl cRM u.h (u.off + A.length) (m.v e.2)) r d' ∧ Mv X (d.ks r) (X.setEl cRM u.h (u.off + A.length) (m.v e.2)) (d'.ks r) ∧ d'.l = updR d.l m ∧ d'.turn = d.turn ∧ d'.L = d.L ∧ d'.hs = A ++ (m, e.2) :: C := by
 obtain ⟨p1, p2⟩ := h.put hs hu m (x1 := e.2) (by rw [hmq]; exact h.ws e (by rw [hs]; simp)) (.refl _ _)
 have hl : d.l = A.map (·.1) ++ e.1 :: C.map (·.1) := by unfold RD.l; rw [hs]; simp
 refine ⟨_, p1, p2, ?_, rfl, rfl, rfl⟩
 rw [hl] at hnd ⊢
 rw [updR_at hnd hm]
 simp [RD.l]

theorem updR_keys (l : List RM) (m : RM) : (updR l m).map (·.o) = l.map (·.o) := by
 unfold updR
 rw [List.map_map]
 refine List.map_congr_left fun y _ => ?_
 simp only [Function.comp]
 split
 ·rename_i q; exact q.symm
 ·rfl

theorem c34 (h : RRep X r d) (hn : d.hs.length ≤ 1000000) (hq : ∀ m ∈ d.l, m.q.length ≤ 1000000) (hnd : (d.l.map (·.o)).Nodup) : XC Try.prog 34 [.pure (.int .i64), .pure (.int .i64)] [.ref (some r) cRT 0 [], .v (.int .i64 o), .v (.int .i64 th)] X
  fun p X' => p = (exitS d.l d.turn o th).1 ∧ RGoes X r d X' (exitS d.l d.turn o th).2.1 (exitS d.l d.turn o th).2.2 := by
 have hlen := h.len
 refine xcOf (X := X34) rfl FN34 (by kernel_rfl) (by decide) (E34 X r o th ⟨fun e => ?_, fun e => ⟨fun e2 => ?_, fun e2 => ?_⟩⟩)
 ·have : exitS d.l d.turn o th = ((0, 1), d.l, d.turn) := by unfold exitS; rw [if_pos (.inl (of_decide_eq_true e))]
  rw [this]; exact ⟨rfl, .refl h⟩
 ·have : exitS d.l d.turn o th = ((0, 1), d.l, d.turn) := by unfold exitS; rw [if_pos (.inr (of_decide_eq_true e2))]
  rw [this]; exact ⟨rfl, .refl h⟩
 have hno : ¬ (o < 1 ∨ th < 1) := fun q => q.elim (of_decide_eq_false e) (of_decide_eq_false e2)
 refine ⟨_, c64 h hn, ?_⟩
 rcases idxR_cases d.hs o with ⟨e1, e3⟩ | ⟨A, e, C, hs, e1, e3, e4⟩
 ·rw [show idxR d.l o = -1 from e1]
  have : exitS d.l d.turn o th = ((0, 25), d.l, d.turn) := by unfold exitS; rw [if_neg hno, findR_no e3]
  rw [this]
  exact ⟨fun _ => ⟨rfl, .refl h⟩, fun q => absurd q (by decide)⟩
 ·rw [show idxR d.l o = (A.length : Int) from e4]
  obtain ⟨u, h1, h2, h3⟩ := h.at hs
  have hf := findR_split hs e1 e3
  have hem : e.1 ∈ d.l := List.mem_map.2 ⟨e, by rw [hs]; simp, rfl⟩
  refine ⟨fun q => absurd (of_decide_eq_true q) (by omega), fun _ => ⟨_, h.box.el, u, h1, by omega, by omega, _, by rw [Int.toNat_natCast]; exact h3, fun e5 => ?_, fun e5 => ?_⟩⟩
  ·have e5 : e.1.w ≠ th := by simpa [RM.v] using e5
   have : exitS d.l d.turn o th = ((0, 25), d.l, d.turn) := by unfold exitS; rw [if_neg hno, hf]; dsimp only; rw [if_pos e5]
   rw [this]
   exact ⟨rfl, .refl h⟩
  ·have e5 : e.1.w = th := by simpa [RM.v] using e5
   refine ⟨_, h.box.el, u, h1, by omega, by omega, _, by rw [Int.toNat_natCast]; exact h3, u, h1, by omega, by omega, _, by rw [Int.toNat_natCast]; exact h3, fun X10 e10 => ?_⟩
   obtain ⟨d', p1, p2, p3, p4, p5, p6⟩ := h.upd hs hnd h1 ⟨e.1.o, e.1.w, IntKind.wrap .i64 (e.1.n - 1), e.1.s, e.1.q⟩ rfl rfl
   have e10 : X10 = X.setEl cRM u.h (u.off + A.length) (RM.v ⟨e.1.o, e.1.w, IntKind.wrap .i64 (e.1.n - 1), e.1.s, e.1.q⟩ e.2) := e10.trans (by rw [Int.toNat_natCast]; rfl)
   rw [← e10] at p1 p2
   obtain ⟨v1, v2, v3, v4⟩ := p1.at p6
   rw [p5, h1] at v2; cases v2
   refine ⟨_, p1.box.el, u, by rw [p5]; exact h1, by omega, by omega, _, by rw [Int.toNat_natCast]; exact v4, fun e6 => ?_, fun e6 => ?_⟩
   ·have e6 : IntKind.wrap .i64 (e.1.n - 1) > 0 := of_decide_eq_true e6
    have : exitS d.l d.turn o th = ((0, 0), updR d.l ⟨e.1.o, e.1.w, IntKind.wrap .i64 (e.1.n - 1), e.1.s, e.1.q⟩, d.turn) := by
     unfold exitS; rw [if_neg hno, hf]; dsimp only; rw [if_neg (fun q => q e5), if_pos e6]
    rw [this]
    exact ⟨rfl, d', p1, p2, p3, p4⟩
   ·have e6 : ¬ IntKind.wrap .i64 (e.1.n - 1) > 0 := of_decide_eq_false e6
    have : exitS d.l d.turn o th = (((nextS d'.l ⟨e.1.o, e.1.w, IntKind.wrap .i64 (e.1.n - 1), e.1.s, e.1.q⟩ d'.turn).1, 0), (nextS d'.l ⟨e.1.o, e.1.w, IntKind.wrap .i64 (e.1.n - 1), e.1.s, e.1.q⟩ d'.turn).2) := by
     unfold exitS; rw [if_neg hno, hf]; dsimp only; rw [if_neg (fun q => q e5), if_neg e6, p3, p4]
    rw [this]
    have hlen' : d'.hs.length = d.hs.length := by rw [p6, hs]; simp
    refine (c66S p1 p6 (by omega) (hq e.1 hem) (by rw [p3, updR_keys]; exact hnd)).mono ?_
    rintro v X14 ⟨rfl, d2, k1, k2, k3, k4⟩
    exact ⟨rfl, d2, k1, p2.trans k2, k3, k4⟩

end Go.Proofs.Ytefpoodhdfggdaa.AB

namespace Go.Proofs.Ytefpoodhdfggdaa.AB
open Go

def mkFL : Nat → Nat → List (Nat × TV) → (Nat → TV) → List TV
 | 0, _, _, _ => []
 | n + 1, i, [], x => x i :: mkFL n (i + 1) [] x
 | n + 1, i, (k, y) :: l, x => match Nat.beq k i with
  | true => y :: mkFL n (i + 1) l x
  | false => x i :: mkFL n (i + 1) ((k, y) :: l) x

def mkF (n : Nat) (l : List (Nat × TV)) (x : Nat → TV) (hp : Hp) (T : Toks) : St := ⟨mkFL n 0 l x, hp, T⟩

theorem awp_seq {tt : TT} {call : CallP} {md : Mds} {h0 b : Nat} {msk : Nat → List Bool × Nat} {c x y : Code} {Q : Exit → St → Prop} {s : St} (hc : c = .seq x y)
  (h : awp tt call md h0 msk b x (seqK (awp tt call md h0 msk b y Q) Q) s) : awp tt call md h0 msk b c Q s := by subst hc; exact h

theorem awp_to {tt : TT} {call : CallP} {md : Mds} {h0 b : Nat} {msk : Nat → List Bool × Nat} {c : Code} {Q : Exit → St → Prop} {s s' : St} (hs : s = s')
  (h : awp tt call md h0 msk b c Q s') : awp tt call md h0 msk b c Q s := by subst hs; exact h

theorem fnK_of {tt : TT} {call : CallP} {md : Mds} {msk : Nat → List Bool × Nat} {fn : Func} {args : List TV} {s S : St} {K : TV → St → Prop} {c : Code} {h0 : Nat} {Q : Exit → St → Prop} (hb : fn.body = some c)
  (hs : (⟨args ++ List.replicate (fn.ntmps - args.length) tu, s.hp, s.T⟩ : St) = S ∧ s.hp.length = h0 ∧ (retK tt fn.results.toList fun x s' => K x ⟨s.tm, s'.hp, s'.T⟩) = Q)
  (h : awp tt call md h0 msk 0 c Q S) : fnK tt call md msk fn args s K := by
 obtain ⟨h1, h2, h3⟩ := hs
 unfold fnK
 rw [hb]
 show awp tt call md s.hp.length msk 0 c (retK tt fn.results.toList fun x s' => K x ⟨s.tm, s'.hp, s'.T⟩) ⟨args ++ List.replicate (fn.ntmps - args.length) tu, s.hp, s.T⟩
 rw [h1, h2, h3]; exact h

abbrev ZRule := List TV → St → (TV → St → Prop) → Prop

def callZ (P : Program) (E : Cx) (Z : FuncId → Option ZRule) (n : Nat) : CallP
 | .inl, f, args, s, K => match Z f with
  | some z => z args s K
  | none => False
 | md, f, args, s, K => callN P E n md f args s K

def ZOK (P : Program) (Z : FuncId → Option ZRule) : Prop := ∀ f z, Z f = some z → ∀ args s K, z args s K → ∀ Mine G w (vs : Array Value), Inv Mine G s.hp s.T w → args.length = vs.size →
 (∀ (i : Nat) x y, args[i]? = some x → vs[i]? = some y → TR G x y) → Comes P f vs w (CallPost Mine G s w K)

section
variable {P : Program} {E : Cx} {Z : FuncId → Option ZRule} {n : Nat}

theorem callZ_sound (htt : TTOK P E.tt) (hmix : P.follows .mixedOrders = true) (hfn : FnsOK P E) (hz : ZOK P Z) : CallS P (callZ P E Z n) := by
 intro md f args s K h
 have hN := callN_sound htt hmix hfn n
 cases md with
 | inl =>
  have h : (match Z f with
   | some z => z args s K
   | none => False) := h
  split at h
  ·rename_i z hzf
   exact hz f z hzf args s K h
  ·exact h.elim
 | dflt => exact hN .dflt f args s K h
 | lend => exact hN .lend f args s K h
 | «mut» => exact hN .mut f args s K h
 | x c => exact hN (.x c) f args s K h
 | rd => exact hN .rd f args s K h
 | xc => exact hN .xc f args s K h

theorem callZ_det : CallDet (callZ P E Z n) := callN_det (P := P) (E := E) n

end

section
variable {P : Program} {tt : TT} {G : Gh} {w : World}

theorem xlook_run (htt : TTOK P tt) {t e : Nat} {kc : Cd} {β : Type} {es : List (kc.T × β)} {R : β → Value → Prop} (he : mapT tt t kc = some e) {ents : Array MapEntry} {ck r : Nat}
  (hl : es.length = ents.size) (hes : ∀ (j : Nat) x m, es[j]? = some x → ents[j]? = some m → VR G (kc.enc x.1) m.key ∧ R x.2 m.val) {a : kc.T} {p : β} (hf : mfind (kc.keq a) es = some p) :
  ∃ v, R p v ∧ ∀ W : World, W.heap[r]? = some (.map ents ck) → (Instr.lookup t (.map (some r)) (keyVal kc a) false).run P W = .ok v W := by
 obtain ⟨kt, hd, hok1, hok2, hkk⟩ := mapT_ok htt he
 have hik := keyKind_isKey hkk
 obtain ⟨d, hdk, hko⟩ := (htt kt hok1).und
 have hfs := findNow_spec (G := G) (β := β) hik (sameNow_key hko hkk) a es ents.toList 0 (by simpa using hl) (fun j e m he hm => (hes j e m he (by simpa using hm)).1)
 rw [hf] at hfs
 obtain ⟨j, m, k', f1, f2, f3, f4, f5⟩ := hfs
 refine ⟨m.val, (hes j _ m f2 (by simpa using f3)).2, fun W hW => ?_⟩
 have hg : (getObj r).run P W = .ok (.map ents ck) W := by simp [getObj, Sem.run, hW]
 simp only [Instr.lookup, Sem.run_bind, run_underlying hd, hg, Result.andThen_ok, Sem.run_pure, run_checkKey htt hok1 hkk, run_findKey htt hok1 hdk f1, Bool.false_eq_true, if_false]

end
end Go.Proofs.Ytefpoodhdfggdaa.AB

set_option maxRecDepth 100000
set_option maxHeartbeats 2000000
namespace Go.Proofs.Ytefpoodhdfggdaa.AB
open Go
noncomputable def X32 : Cx := ⟨tt, [], [(63, [(.pure .bool)]), (64, [(.pure (.int .i64))])], [(32, [(3, 2, .rd), (6, 2, .rd), (11, 1, .x yZ0), (11, 8, .x yZ0), (11, 15, .x yZ0), (11, 16, .x yZ0), (11, 17, .x yZ0), (11, 24, .x yZ0), (17, 15, .x (.pure (.int .i64))), (16000011, 28027026025024022018017016015009008006023021020019014013012011010007005004003002001, .dflt), (16000017, 19018017016013012011009004015014010008007006005003002001, .dflt), (26000011, 28027026025018017024022016015009008006023021020019014013012011010007005004003002001, .dflt), (26000017, 19018017004016013012011009015014010008007006005003002001, .dflt), (36000011, 28027026025018017016015009024022008006023021020019014013012011010007005004003002001, .dflt), (46000011, 28027026025024022018017009016015008006023021020019014013012011010007005004003002001, .dflt), (56000011, 28027026025018017024022009016015008006023021020019014013012011010007005004003002001, .dflt), (66000011, 28027026025018017009024022016015008006023021020019014013012011010007005004003002001, .dflt), (76000011, 28027026025024022018009017016015008006023021020019014013012011010007005004003002001, .dflt), (86000011, 28027026025018024022009017016015008006023021020019014013012011010007005004003002001, .dflt), (96000011, 28027026025018009017024022016015008006023021020019014013012011010007005004003002001, .dflt), (3000011, 14008, .dflt), (3000011, 21008, .dflt), (3000011, 21017, .dflt), (3000011, 0, .dflt), (3000011, 0, .dflt), (3000011, 0, .dflt), (3000011, 16008, .dflt), (3000011, 21008, .dflt), (3000011, 21017, .dflt), (3000011, 0, .dflt), (3000011, 0, .dflt), (3000011, 0, .dflt), (3000011, 21008, .dflt), (3000011, 21017, .dflt), (3000011, 0, .dflt), (3000011, 0, .dflt), (3000011, 0, .dflt), (3000017, 15003, .dflt), (3000017, 0, .dflt), (3000017, 0, .dflt)])], [(32, [(0, mkM 120 0 [0, 1, 2, 10], 0)])], []⟩
theorem FN32 : fnsB Try.prog X32.fns := (show True from trivial)
def M32_0 : List Bool × Nat := (mkM 120 0 [0, 1, 2, 10], 1)
def S32_0 (t0 : Nat) (object1 : Int) (thread2 : Int) (k10 : Int) (hq0 : XH) (T : Toks) : St :=
  mkS 120 [(0, (.ref (some t0) yZ1 0 [])), (1, (.v (.int .i64 object1))), (2, (.v (.int .i64 thread2))), (10, (.v (.int .i64 k10)))] [(some (.heap hq0))] T
noncomputable def B32_0 : (Exit → St → Prop) → St → Prop := (awp X32.tt (callN Try.prog X32 0) (X32.md 32) 1 (X32.mk1 32) 0 (codeAt [1, 1, 1, 1, 1, 0, 1, 0, 1, 0, 0, 0] (bd Try.f32)))
theorem G32_0 (x : Nat → TV) (X : XH) (t0 : Nat) (object1 : Int) (thread2 : Int) {Q : Exit → St → Prop}
 (h : (((decide (object1 < (1 : Int))) = true → (Q .ret (mkF 120 [(0, (.ref (some t0) yZ1 0 [])), (1, (.v (.int .i64 object1))), (2, (.v (.int .i64 thread2))), (6, (.v .ff)), (7, (.v (.int .i64 (1 : Int)))), (11, (.v (.int .i64 object1))), (12, (.v (.bool ((decide (object1 < (1 : Int))))))), (13, (.v .tt)), (14, (.v (.tup []))), (15, (.v (.tup []))), (16, (.v .tt))] x [(some (.heap X))] ⟨0, []⟩))) ∧ ((decide (object1 < (1 : Int))) = false → (((decide (thread2 < (1 : Int))) = true → (Q .ret (mkF 120 [(0, (.ref (some t0) yZ1 0 [])), (1, (.v (.int .i64 object1))), (2, (.v (.int .i64 thread2))), (6, (.v .ff)), (7, (.v (.int .i64 (1 : Int)))), (11, (.v (.int .i64 object1))), (12, (.v (.bool ((decide (object1 < (1 : Int))))))), (13, (.v .ff)), (14, (.v (.int .i64 thread2))), (15, (.v (.bool ((decide (thread2 < (1 : Int))))))), (16, (.v (.bool ((decide (thread2 < (1 : Int)))))))] x [(some (.heap X))] ⟨0, []⟩))) ∧
 ((decide (thread2 < (1 : Int))) = false → (∃ (p416 : Bool), RC Try.prog 63 [(.pure .bool)] [(.ref (some t0) yZ1 0 []), (.v (.int .i64 thread2))] X p416 ∧ ((p416 = true → (Q .ret (mkF 120 [(0, (.ref (some t0) yZ1 0 [])), (1, (.v (.int .i64 object1))), (2, (.v (.int .i64 thread2))), (6, (.v .ff)), (7, (.v (.int .i64 (25 : Int)))), (8, (.v (.bool p416))), (11, (.v (.int .i64 object1))), (12, (.v (.bool ((decide (object1 < (1 : Int))))))), (13, (.v .ff)), (14, (.v (.int .i64 thread2))), (15, (.v (.bool ((decide (thread2 < (1 : Int))))))), (16, (.v (.bool ((decide (thread2 < (1 : Int))))))), (17, (.ref (some t0) yZ1 0 [])), (18, (.v (.int .i64 thread2))), (19, (.v (.bool p416))), (20, (.v (.bool p416)))] x [(some (.heap X))] ⟨0, []⟩))) ∧
 (p416 = false → (∃ (p417 : Int), RC Try.prog 64 [(.pure (.int .i64))] [(.ref (some t0) yZ1 0 []), (.v (.int .i64 object1))] X p417 ∧ (awp X32.tt (callN Try.prog X32 0) (X32.md 32) 1 (X32.mk1 32) 0 (codeAt [1, 1, 1, 1, 1] (bd Try.f32)) Q (mkF 120 [(0, (.ref (some t0) yZ1 0 [])), (1, (.v (.int .i64 object1))), (2, (.v (.int .i64 thread2))), (6, (.v .ff)), (7, (.v (.int .i64 (0 : Int)))), (8, (.v (.bool p416))), (9, (.v (.int .i64 p417))), (11, (.v (.int .i64 object1))), (12, (.v (.bool ((decide (object1 < (1 : Int))))))), (13, (.v .ff)), (14, (.v (.int .i64 thread2))), (15, (.v (.bool ((decide (thread2 < (1 : Int))))))), (16, (.v (.bool ((decide (thread2 < (1 : Int))))))), (17, (.ref (some t0) yZ1 0 [])), (18, (.v (.int .i64 thread2))), (19, (.v (.bool p416))), (20, (.v (.bool p416))), (21, (.ref (some t0) yZ1 0 [])), (22, (.v (.int .i64 object1))), (23, (.v (.int .i64 p417)))] x [(some (.heap X))] ⟨0, []⟩))))))))))) :
  awp X32.tt (callN Try.prog X32 0) (X32.md 32) 1 (X32.mk1 32) 0 (codeAt [] (bd Try.f32)) Q (mkF 120 [(0, (.ref (some t0) yZ1 0 [])), (1, (.v (.int .i64 object1))), (2, (.v (.int .i64 thread2)))] x [(some (.heap X))] ⟨0, []⟩) := Eq.mp (by kernel_rfl) h
theorem G32_1 (x : Nat → TV) (t0 : Nat) (object1 : Int) (thread2 : Int) (i9 : Int) (hq0 : XH) (T : Toks) {Q : Exit → St → Prop}
 (h : (((decide (i9 < (0 : Int))) = true → (awp X32.tt (callN Try.prog X32 0) (X32.md 32) 1 (X32.mk1 32) 0 (codeAt [1, 1, 1, 1, 1, 0, 1, 0, 1] (bd Try.f32)) Q (mkF 120 [(0, (.ref (some t0) yZ1 0 [])), (1, (.v (.int .i64 object1))), (2, (.v (.int .i64 thread2))), (9, (.v (.int .i64 i9))), (10, (.v (.int .i64 (0 : Int)))), (24, (.v (.int .i64 i9))), (25, (.v (.bool ((decide (i9 < (0 : Int)))))))] x [(some (.heap hq0))] T))) ∧
 ((decide (i9 < (0 : Int))) = false → (Q .normal (mkF 120 [(0, (.ref (some t0) yZ1 0 [])), (1, (.v (.int .i64 object1))), (2, (.v (.int .i64 thread2))), (9, (.v (.int .i64 i9))), (24, (.v (.int .i64 i9))), (25, (.v (.bool ((decide (i9 < (0 : Int)))))))] x [(some (.heap hq0))] T))))) :
  awp X32.tt (callN Try.prog X32 0) (X32.md 32) 1 (X32.mk1 32) 0 (codeAt [1, 1, 1, 1, 1, 0] (bd Try.f32)) Q (mkF 120 [(0, (.ref (some t0) yZ1 0 [])), (1, (.v (.int .i64 object1))), (2, (.v (.int .i64 thread2))), (9, (.v (.int .i64 i9)))] x [(some (.heap hq0))] T) := Eq.mp (by kernel_rfl) h
theorem G32_2 (x : Nat → TV) (t0 : Nat) (object1 : Int) (thread2 : Int) (k10 : Int) (hq0 : XH) (T : Toks) {Q : Exit → St → Prop}
 (h : (Loops B32_0 M32_0 (blockK 0 Q) (S32_0 t0 object1 thread2 k10 hq0 T))) :
  awp X32.tt (callN Try.prog X32 0) (X32.md 32) 1 (X32.mk1 32) 0 (codeAt [1, 1, 1, 1, 1, 0, 1, 0, 1, 0] (bd Try.f32)) Q (mkF 120 [(0, (.ref (some t0) yZ1 0 [])), (1, (.v (.int .i64 object1))), (2, (.v (.int .i64 thread2))), (10, (.v (.int .i64 k10)))] x [(some (.heap hq0))] T) := Eq.mp (by kernel_rfl) h
theorem G32_3 (x : Nat → TV) (t0 : Nat) (object1 : Int) (thread2 : Int) (k10 : Int) (hq0 : XH) (T : Toks) {Q : Exit → St → Prop}
 (h : ((∃ (a586 : ((Option SlH) × Int)), XH.el hq0 yZ1 t0 0 = some a586 ∧ (0 ≤ k10 ∧ k10 ≤ (((slC a586.1) : Nat) : Int) ∧ (∃ (l587 l588 : List (Int × (Int × (Int × (Int × (Option SlH)))))), XH.view hq0 yZ0 none = some l587 ∧ (srcX hq0 yZ0 (.sl yZ0 (slCut a586.1 0 ((k10).toNat) (slC a586.1)))) = some l588 ∧ (0 + (l588).length) * 56 ≤ room ∧ ∀ (X589 : XH) (s590 : Option SlH), XApp hq0 yZ0 (((0 : Int), ((0 : Int), ((0 : Int), ((0 : Int), none))))) l587 l588 none X589 s590 → (∃ (a591 : ((Option SlH) × Int)), XH.el X589 yZ1 t0 0 = some a591 ∧ (∀ (X592 : XH), X592 = (XH.add X589 (.arr yZ0 ([(object1, (thread2, ((1 : Int), (a591.2, none))))] : List (Int × (Int × (Int × (Int × (Option SlH)))))))) → (∃ (l593 l594 : List (Int × (Int × (Int × (Int × (Option SlH)))))), XH.view X592 yZ0 s590 = some l593 ∧ (srcX X592 yZ0 (.sl yZ0 (some ⟨X589.n, 0, 1, 1⟩))) = some l594 ∧ ((slN s590) + (l594).length) * 56 ≤ room ∧ ∀ (X595 : XH) (s596 : Option SlH), XApp X592 yZ0 (((0 : Int), ((0 : Int), ((0 : Int), ((0 : Int), none))))) l593 l594 s590 X595 s596 → (∃ (a597 : ((Option SlH) × Int)), XH.el X595 yZ1 t0 0 = some a597 ∧ (0 ≤ k10 ∧ k10 ≤ (((slN a597.1) : Nat) : Int) ∧ (∃ (l598 l599 : List (Int × (Int × (Int × (Int × (Option SlH)))))), XH.view X595 yZ0 s596 = some l598 ∧ (srcX X595 yZ0 (.sl yZ0 (slCut a597.1 ((k10).toNat) (slN a597.1) (slC a597.1)))) = some l599 ∧ ((slN s596) + (l599).length) * 56 ≤ room ∧ ∀ (X600 : XH) (s601 : Option SlH), XApp X595 yZ0 (((0 : Int), ((0 : Int), ((0 : Int), ((0 : Int), none))))) l598 l599 s596 X600 s601 → (∃ (a602 : ((Option SlH) × Int)), XH.el X600 yZ1 t0 0 = some a602 ∧ (∀ (X603 : XH), X603 = (XH.setEl X600 yZ1 t0 0 (s601, a602.2)) → (∃ (a604 : ((Option SlH) × Int)), XH.el X603 yZ1 t0 0 = some a604 ∧ (∃ (a605 : ((Option SlH) × Int)), XH.el X603 yZ1 t0 0 = some a605 ∧ (∀ (X606 : XH), X606 = (XH.setEl X603 yZ1 t0 0 ((a605.1, (IntKind.wrap .i64 (a604.2 + (1 : Int)))))) → (Q .ret (mkF 120 [(0, (.ref (some t0) yZ1 0 [])), (1, (.v (.int .i64 object1))), (2, (.v (.int .i64 thread2))), (6, (.v .tt)), (7, (.v (.int .i64 (0 : Int)))), (10, (.v (.int .i64 k10))), (47, (.ref (some t0) yZ1 0 [])), (48, (.sl yZ0 none)), (49, (.ref (some t0) yZ1 0 [])), (50, (.ref (some t0) yZ1 0 [])), (51, (.ref (some t0) yZ1 0 [.fst])), (52, (.sl yZ0 a586.1)), (53, (.v (.int .i64 k10))), (54, (.sl yZ0 (slCut a586.1 0 ((k10).toNat) (slC a586.1)))), (55, (.sl yZ0 s590)), (56, (.v (.int .i64 object1))), (57, (.v (.int .i64 thread2))), (58, (.ref (some t0) yZ1 0 [])), (59, (.ref (some t0) yZ1 0 [])), (60, (.ref (some t0) yZ1 0 [.snd])), (61, (.v (.int .i64 a591.2))), (62, (.v (.agg [(.int .i64 object1), (.int .i64 thread2), (.int .i64 (1 : Int)), (.int .i64 a591.2), .nils]))), (63, (.sl yZ0 (some ⟨X589.n, 0, 1, 1⟩))), (64, (.sl yZ0 s596)), (65, (.ref (some t0) yZ1 0 [])), (66, (.ref (some t0) yZ1 0 [])), (67, (.ref (some t0) yZ1 0 [.fst])), (68, (.sl yZ0 a597.1)), (69, (.v (.int .i64 k10))), (70, (.sl yZ0 (slCut a597.1 ((k10).toNat) (slN a597.1) (slC a597.1)))), (71, (.sl yZ0 s601)), (72, (.ref (some t0) yZ1 0 [])), (73, (.ref (some t0) yZ1 0 [.fst])), (74, (.ref (some t0) yZ1 0 [])), (75, (.ref (some t0) yZ1 0 [])), (76, (.ref (some t0) yZ1 0 [.snd])), (77, (.v (.int .i64 a604.2))), (78, (.v (.int .i64 ((IntKind.wrap .i64 (a604.2 + (1 : Int))))))), (79, (.ref (some t0) yZ1 0 [])), (80, (.ref (some t0) yZ1 0 [.snd]))] x [(some (.heap X606))] T)))))))))))))))) ∧ ((∃ (a565 : ((Option SlH) × Int)), XH.el hq0 yZ1 t0 0 = some a565 ∧ (0 ≤ k10 ∧ k10 ≤ (((slC a565.1) : Nat) : Int) ∧ (∃ (l566 l567 : List (Int × (Int × (Int × (Int × (Option SlH)))))), XH.view hq0 yZ0 none = some l566 ∧ (srcX hq0 yZ0 (.sl yZ0 (slCut a565.1 0 ((k10).toNat) (slC a565.1)))) = some l567 ∧ (0 + (l567).length) * 56 ≤ room ∧ ∀ (X568 : XH) (s569 : Option SlH), XApp hq0 yZ0 (((0 : Int), ((0 : Int), ((0 : Int), ((0 : Int), none))))) l566 l567 none X568 s569 → (∃ (a570 : ((Option SlH) × Int)), XH.el X568 yZ1 t0 0 = some a570 ∧ (∃ (a571 : ((Option SlH) × Int)), XH.el X568 yZ1 t0 0 = some a571 ∧ (0 ≤ k10 ∧ k10 ≤ (((slN a571.1) : Nat) : Int) ∧ (∀ (X572 : XH), X572 = (XH.add X568 (.arr yZ0 ([(object1, (thread2, ((1 : Int), (a570.2, none))))] : List (Int × (Int × (Int × (Int × (Option SlH)))))))) → (∃ (l573 l574 : List (Int × (Int × (Int × (Int × (Option SlH)))))), XH.view X572 yZ0 s569 = some l573 ∧ (srcX X572 yZ0 (.sl yZ0 (some ⟨X568.n, 0, 1, 1⟩))) = some l574 ∧ ((slN s569) + (l574).length) * 56 ≤ room ∧ ∀ (X575 : XH) (s576 : Option SlH), XApp X572 yZ0 (((0 : Int), ((0 : Int), ((0 : Int), ((0 : Int), none))))) l573 l574 s569 X575 s576 → (∃ (l577 l578 : List (Int × (Int × (Int × (Int × (Option SlH)))))), XH.view X575 yZ0 s576 = some l577 ∧ (srcX X575 yZ0 (.sl yZ0 (slCut a571.1 ((k10).toNat) (slN a571.1) (slC a571.1)))) = some l578 ∧ ((slN s576) + (l578).length) * 56 ≤ room ∧ ∀ (X579 : XH) (s580 : Option SlH), XApp X575 yZ0 (((0 : Int), ((0 : Int), ((0 : Int), ((0 : Int), none))))) l577 l578 s576 X579 s580 → (∃ (a581 : ((Option SlH) × Int)), XH.el X579 yZ1 t0 0 = some a581 ∧ (∀ (X582 : XH), X582 = (XH.setEl X579 yZ1 t0 0 (s580, a581.2)) → (∃ (a583 : ((Option SlH) × Int)), XH.el X582 yZ1 t0 0 = some a583 ∧ (∃ (a584 : ((Option SlH) × Int)), XH.el X582 yZ1 t0 0 = some a584 ∧ (∀ (X585 : XH), X585 = (XH.setEl X582 yZ1 t0 0 ((a584.1, (IntKind.wrap .i64 (a583.2 + (1 : Int)))))) → (Q .ret (mkF 120 [(0, (.ref (some t0) yZ1 0 [])), (1, (.v (.int .i64 object1))), (2, (.v (.int .i64 thread2))), (6, (.v .tt)), (7, (.v (.int .i64 (0 : Int)))), (10, (.v (.int .i64 k10))), (47, (.ref (some t0) yZ1 0 [])), (48, (.sl yZ0 none)), (49, (.ref (some t0) yZ1 0 [])), (50, (.ref (some t0) yZ1 0 [])), (51, (.ref (some t0) yZ1 0 [.fst])), (52, (.sl yZ0 a565.1)), (53, (.v (.int .i64 k10))), (54, (.sl yZ0 (slCut a565.1 0 ((k10).toNat) (slC a565.1)))), (55, (.sl yZ0 s569)), (56, (.v (.int .i64 object1))), (57, (.v (.int .i64 thread2))), (58, (.ref (some t0) yZ1 0 [])), (59, (.ref (some t0) yZ1 0 [])), (60, (.ref (some t0) yZ1 0 [.snd])), (61, (.v (.int .i64 a570.2))), (62, (.v (.agg [(.int .i64 object1), (.int .i64 thread2), (.int .i64 (1 : Int)), (.int .i64 a570.2), .nils]))), (63, (.sl yZ0 (some ⟨X568.n, 0, 1, 1⟩))), (64, (.sl yZ0 s576)), (65, (.ref (some t0) yZ1 0 [])), (66, (.ref (some t0) yZ1 0 [])), (67, (.ref (some t0) yZ1 0 [.fst])), (68, (.sl yZ0 a571.1)), (69, (.v (.int .i64 k10))), (70, (.sl yZ0 (slCut a571.1 ((k10).toNat) (slN a571.1) (slC a571.1)))), (71, (.sl yZ0 s580)), (72, (.ref (some t0) yZ1 0 [])), (73, (.ref (some t0) yZ1 0 [.fst])), (74, (.ref (some t0) yZ1 0 [])), (75, (.ref (some t0) yZ1 0 [])), (76, (.ref (some t0) yZ1 0 [.snd])), (77, (.v (.int .i64 a583.2))), (78, (.v (.int .i64 ((IntKind.wrap .i64 (a583.2 + (1 : Int))))))), (79, (.ref (some t0) yZ1 0 [])), (80, (.ref (some t0) yZ1 0 [.snd]))] x [(some (.heap X585))] T)))))))))))))))) ∧ ((∃ (a544 : ((Option SlH) × Int)), XH.el hq0 yZ1 t0 0 = some a544 ∧ (0 ≤ k10 ∧ k10 ≤ (((slC a544.1) : Nat) : Int) ∧ (∃ (a545 : ((Option SlH) × Int)), XH.el hq0 yZ1 t0 0 = some a545 ∧ (0 ≤ k10 ∧ k10 ≤ (((slN a545.1) : Nat) : Int) ∧ (∃ (l546 l547 : List (Int × (Int × (Int × (Int × (Option SlH)))))), XH.view hq0 yZ0 none = some l546 ∧ (srcX hq0 yZ0 (.sl yZ0 (slCut a544.1 0 ((k10).toNat) (slC a544.1)))) = some l547 ∧ (0 + (l547).length) * 56 ≤ room ∧ ∀ (X548 : XH) (s549 : Option SlH), XApp hq0 yZ0 (((0 : Int), ((0 : Int), ((0 : Int), ((0 : Int), none))))) l546 l547 none X548 s549 → (∃ (a550 : ((Option SlH) × Int)), XH.el X548 yZ1 t0 0 = some a550 ∧ (∀ (X551 : XH), X551 = (XH.add X548 (.arr yZ0 ([(object1, (thread2, ((1 : Int), (a550.2, none))))] : List (Int × (Int × (Int × (Int × (Option SlH)))))))) → (∃ (l552 l553 : List (Int × (Int × (Int × (Int × (Option SlH)))))), XH.view X551 yZ0 s549 = some l552 ∧ (srcX X551 yZ0 (.sl yZ0 (some ⟨X548.n, 0, 1, 1⟩))) = some l553 ∧ ((slN s549) + (l553).length) * 56 ≤ room ∧ ∀ (X554 : XH) (s555 : Option SlH), XApp X551 yZ0 (((0 : Int), ((0 : Int), ((0 : Int), ((0 : Int), none))))) l552 l553 s549 X554 s555 → (∃ (l556 l557 : List (Int × (Int × (Int × (Int × (Option SlH)))))), XH.view X554 yZ0 s555 = some l556 ∧ (srcX X554 yZ0 (.sl yZ0 (slCut a545.1 ((k10).toNat) (slN a545.1) (slC a545.1)))) = some l557 ∧ ((slN s555) + (l557).length) * 56 ≤ room ∧ ∀ (X558 : XH) (s559 : Option SlH), XApp X554 yZ0 (((0 : Int), ((0 : Int), ((0 : Int), ((0 : Int), none))))) l556 l557 s555 X558 s559 → (∃ (a560 : ((Option SlH) × Int)), XH.el X558 yZ1 t0 0 = some a560 ∧ (∀ (X561 : XH), X561 = (XH.setEl X558 yZ1 t0 0 (s559, a560.2)) → (∃ (a562 : ((Option SlH) × Int)), XH.el X561 yZ1 t0 0 = some a562 ∧ (∃ (a563 : ((Option SlH) × Int)), XH.el X561 yZ1 t0 0 = some a563 ∧ (∀ (X564 : XH), X564 = (XH.setEl X561 yZ1 t0 0 ((a563.1, (IntKind.wrap .i64 (a562.2 + (1 : Int)))))) → (Q .ret (mkF 120 [(0, (.ref (some t0) yZ1 0 [])), (1, (.v (.int .i64 object1))), (2, (.v (.int .i64 thread2))), (6, (.v .tt)), (7, (.v (.int .i64 (0 : Int)))), (10, (.v (.int .i64 k10))), (47, (.ref (some t0) yZ1 0 [])), (48, (.sl yZ0 none)), (49, (.ref (some t0) yZ1 0 [])), (50, (.ref (some t0) yZ1 0 [])), (51, (.ref (some t0) yZ1 0 [.fst])), (52, (.sl yZ0 a544.1)), (53, (.v (.int .i64 k10))), (54, (.sl yZ0 (slCut a544.1 0 ((k10).toNat) (slC a544.1)))), (55, (.sl yZ0 s549)), (56, (.v (.int .i64 object1))), (57, (.v (.int .i64 thread2))), (58, (.ref (some t0) yZ1 0 [])), (59, (.ref (some t0) yZ1 0 [])), (60, (.ref (some t0) yZ1 0 [.snd])), (61, (.v (.int .i64 a550.2))), (62, (.v (.agg [(.int .i64 object1), (.int .i64 thread2), (.int .i64 (1 : Int)), (.int .i64 a550.2), .nils]))), (63, (.sl yZ0 (some ⟨X548.n, 0, 1, 1⟩))), (64, (.sl yZ0 s555)), (65, (.ref (some t0) yZ1 0 [])), (66, (.ref (some t0) yZ1 0 [])), (67, (.ref (some t0) yZ1 0 [.fst])), (68, (.sl yZ0 a545.1)), (69, (.v (.int .i64 k10))), (70, (.sl yZ0 (slCut a545.1 ((k10).toNat) (slN a545.1) (slC a545.1)))), (71, (.sl yZ0 s559)), (72, (.ref (some t0) yZ1 0 [])), (73, (.ref (some t0) yZ1 0 [.fst])), (74, (.ref (some t0) yZ1 0 [])), (75, (.ref (some t0) yZ1 0 [])), (76, (.ref (some t0) yZ1 0 [.snd])), (77, (.v (.int .i64 a562.2))), (78, (.v (.int .i64 ((IntKind.wrap .i64 (a562.2 + (1 : Int))))))), (79, (.ref (some t0) yZ1 0 [])), (80, (.ref (some t0) yZ1 0 [.snd]))] x [(some (.heap X564))] T)))))))))))))))) ∧ ((∃ (a523 : ((Option SlH) × Int)), XH.el hq0 yZ1 t0 0 = some a523 ∧ (0 ≤ k10 ∧ k10 ≤ (((slC a523.1) : Nat) : Int) ∧ (∃ (a524 : ((Option SlH) × Int)), XH.el hq0 yZ1 t0 0 = some a524 ∧ (∃ (l525 l526 : List (Int × (Int × (Int × (Int × (Option SlH)))))), XH.view hq0 yZ0 none = some l525 ∧ (srcX hq0 yZ0 (.sl yZ0 (slCut a523.1 0 ((k10).toNat) (slC a523.1)))) = some l526 ∧ (0 + (l526).length) * 56 ≤ room ∧ ∀ (X527 : XH) (s528 : Option SlH), XApp hq0 yZ0 (((0 : Int), ((0 : Int), ((0 : Int), ((0 : Int), none))))) l525 l526 none X527 s528 → (∀ (X529 : XH), X529 = (XH.add X527 (.arr yZ0 ([(object1, (thread2, ((1 : Int), (a524.2, none))))] : List (Int × (Int × (Int × (Int × (Option SlH)))))))) → (∃ (l530 l531 : List (Int × (Int × (Int × (Int × (Option SlH)))))), XH.view X529 yZ0 s528 = some l530 ∧ (srcX X529 yZ0 (.sl yZ0 (some ⟨X527.n, 0, 1, 1⟩))) = some l531 ∧ ((slN s528) + (l531).length) * 56 ≤ room ∧ ∀ (X532 : XH) (s533 : Option SlH), XApp X529 yZ0 (((0 : Int), ((0 : Int), ((0 : Int), ((0 : Int), none))))) l530 l531 s528 X532 s533 → (∃ (a534 : ((Option SlH) × Int)), XH.el X532 yZ1 t0 0 = some a534 ∧ (0 ≤ k10 ∧ k10 ≤ (((slN a534.1) : Nat) : Int) ∧ (∃ (l535 l536 : List (Int × (Int × (Int × (Int × (Option SlH)))))), XH.view X532 yZ0 s533 = some l535 ∧ (srcX X532 yZ0 (.sl yZ0 (slCut a534.1 ((k10).toNat) (slN a534.1) (slC a534.1)))) = some l536 ∧ ((slN s533) + (l536).length) * 56 ≤ room ∧ ∀ (X537 : XH) (s538 : Option SlH), XApp X532 yZ0 (((0 : Int), ((0 : Int), ((0 : Int), ((0 : Int), none))))) l535 l536 s533 X537 s538 → (∃ (a539 : ((Option SlH) × Int)), XH.el X537 yZ1 t0 0 = some a539 ∧ (∀ (X540 : XH), X540 = (XH.setEl X537 yZ1 t0 0 (s538, a539.2)) → (∃ (a541 : ((Option SlH) × Int)), XH.el X540 yZ1 t0 0 = some a541 ∧ (∃ (a542 : ((Option SlH) × Int)), XH.el X540 yZ1 t0 0 = some a542 ∧ (∀ (X543 : XH), X543 = (XH.setEl X540 yZ1 t0 0 ((a542.1, (IntKind.wrap .i64 (a541.2 + (1 : Int)))))) → (Q .ret (mkF 120 [(0, (.ref (some t0) yZ1 0 [])), (1, (.v (.int .i64 object1))), (2, (.v (.int .i64 thread2))), (6, (.v .tt)), (7, (.v (.int .i64 (0 : Int)))), (10, (.v (.int .i64 k10))), (47, (.ref (some t0) yZ1 0 [])), (48, (.sl yZ0 none)), (49, (.ref (some t0) yZ1 0 [])), (50, (.ref (some t0) yZ1 0 [])), (51, (.ref (some t0) yZ1 0 [.fst])), (52, (.sl yZ0 a523.1)), (53, (.v (.int .i64 k10))), (54, (.sl yZ0 (slCut a523.1 0 ((k10).toNat) (slC a523.1)))), (55, (.sl yZ0 s528)), (56, (.v (.int .i64 object1))), (57, (.v (.int .i64 thread2))), (58, (.ref (some t0) yZ1 0 [])), (59, (.ref (some t0) yZ1 0 [])), (60, (.ref (some t0) yZ1 0 [.snd])), (61, (.v (.int .i64 a524.2))), (62, (.v (.agg [(.int .i64 object1), (.int .i64 thread2), (.int .i64 (1 : Int)), (.int .i64 a524.2), .nils]))), (63, (.sl yZ0 (some ⟨X527.n, 0, 1, 1⟩))), (64, (.sl yZ0 s533)), (65, (.ref (some t0) yZ1 0 [])), (66, (.ref (some t0) yZ1 0 [])), (67, (.ref (some t0) yZ1 0 [.fst])), (68, (.sl yZ0 a534.1)), (69, (.v (.int .i64 k10))), (70, (.sl yZ0 (slCut a534.1 ((k10).toNat) (slN a534.1) (slC a534.1)))), (71, (.sl yZ0 s538)), (72, (.ref (some t0) yZ1 0 [])), (73, (.ref (some t0) yZ1 0 [.fst])), (74, (.ref (some t0) yZ1 0 [])), (75, (.ref (some t0) yZ1 0 [])), (76, (.ref (some t0) yZ1 0 [.snd])), (77, (.v (.int .i64 a541.2))), (78, (.v (.int .i64 ((IntKind.wrap .i64 (a541.2 + (1 : Int))))))), (79, (.ref (some t0) yZ1 0 [])), (80, (.ref (some t0) yZ1 0 [.snd]))] x [(some (.heap X543))] T)))))))))))))))) ∧ ((∃ (a502 : ((Option SlH) × Int)), XH.el hq0 yZ1 t0 0 = some a502 ∧ (0 ≤ k10 ∧ k10 ≤ (((slC a502.1) : Nat) : Int) ∧ (∃ (a503 : ((Option SlH) × Int)), XH.el hq0 yZ1 t0 0 = some a503 ∧ (∃ (l504 l505 : List (Int × (Int × (Int × (Int × (Option SlH)))))), XH.view hq0 yZ0 none = some l504 ∧ (srcX hq0 yZ0 (.sl yZ0 (slCut a502.1 0 ((k10).toNat) (slC a502.1)))) = some l505 ∧ (0 + (l505).length) * 56 ≤ room ∧ ∀ (X506 : XH) (s507 : Option SlH), XApp hq0 yZ0 (((0 : Int), ((0 : Int), ((0 : Int), ((0 : Int), none))))) l504 l505 none X506 s507 → (∃ (a508 : ((Option SlH) × Int)), XH.el X506 yZ1 t0 0 = some a508 ∧ (0 ≤ k10 ∧ k10 ≤ (((slN a508.1) : Nat) : Int) ∧ (∀ (X509 : XH), X509 = (XH.add X506 (.arr yZ0 ([(object1, (thread2, ((1 : Int), (a503.2, none))))] : List (Int × (Int × (Int × (Int × (Option SlH)))))))) → (∃ (l510 l511 : List (Int × (Int × (Int × (Int × (Option SlH)))))), XH.view X509 yZ0 s507 = some l510 ∧ (srcX X509 yZ0 (.sl yZ0 (some ⟨X506.n, 0, 1, 1⟩))) = some l511 ∧ ((slN s507) + (l511).length) * 56 ≤ room ∧ ∀ (X512 : XH) (s513 : Option SlH), XApp X509 yZ0 (((0 : Int), ((0 : Int), ((0 : Int), ((0 : Int), none))))) l510 l511 s507 X512 s513 → (∃ (l514 l515 : List (Int × (Int × (Int × (Int × (Option SlH)))))), XH.view X512 yZ0 s513 = some l514 ∧ (srcX X512 yZ0 (.sl yZ0 (slCut a508.1 ((k10).toNat) (slN a508.1) (slC a508.1)))) = some l515 ∧ ((slN s513) + (l515).length) * 56 ≤ room ∧ ∀ (X516 : XH) (s517 : Option SlH), XApp X512 yZ0 (((0 : Int), ((0 : Int), ((0 : Int), ((0 : Int), none))))) l514 l515 s513 X516 s517 → (∃ (a518 : ((Option SlH) × Int)), XH.el X516 yZ1 t0 0 = some a518 ∧ (∀ (X519 : XH), X519 = (XH.setEl X516 yZ1 t0 0 (s517, a518.2)) → (∃ (a520 : ((Option SlH) × Int)), XH.el X519 yZ1 t0 0 = some a520 ∧ (∃ (a521 : ((Option SlH) × Int)), XH.el X519 yZ1 t0 0 = some a521 ∧ (∀ (X522 : XH), X522 = (XH.setEl X519 yZ1 t0 0 ((a521.1, (IntKind.wrap .i64 (a520.2 + (1 : Int)))))) → (Q .ret (mkF 120 [(0, (.ref (some t0) yZ1 0 [])), (1, (.v (.int .i64 object1))), (2, (.v (.int .i64 thread2))), (6, (.v .tt)), (7, (.v (.int .i64 (0 : Int)))), (10, (.v (.int .i64 k10))), (47, (.ref (some t0) yZ1 0 [])), (48, (.sl yZ0 none)), (49, (.ref (some t0) yZ1 0 [])), (50, (.ref (some t0) yZ1 0 [])), (51, (.ref (some t0) yZ1 0 [.fst])), (52, (.sl yZ0 a502.1)), (53, (.v (.int .i64 k10))), (54, (.sl yZ0 (slCut a502.1 0 ((k10).toNat) (slC a502.1)))), (55, (.sl yZ0 s507)), (56, (.v (.int .i64 object1))), (57, (.v (.int .i64 thread2))), (58, (.ref (some t0) yZ1 0 [])), (59, (.ref (some t0) yZ1 0 [])), (60, (.ref (some t0) yZ1 0 [.snd])), (61, (.v (.int .i64 a503.2))), (62, (.v (.agg [(.int .i64 object1), (.int .i64 thread2), (.int .i64 (1 : Int)), (.int .i64 a503.2), .nils]))), (63, (.sl yZ0 (some ⟨X506.n, 0, 1, 1⟩))), (64, (.sl yZ0 s513)), (65, (.ref (some t0) yZ1 0 [])), (66, (.ref (some t0) yZ1 0 [])), (67, (.ref (some t0) yZ1 0 [.fst])), (68, (.sl yZ0 a508.1)), (69, (.v (.int .i64 k10))), (70, (.sl yZ0 (slCut a508.1 ((k10).toNat) (slN a508.1) (slC a508.1)))), (71, (.sl yZ0 s517)), (72, (.ref (some t0) yZ1 0 [])), (73, (.ref (some t0) yZ1 0 [.fst])), (74, (.ref (some t0) yZ1 0 [])), (75, (.ref (some t0) yZ1 0 [])), (76, (.ref (some t0) yZ1 0 [.snd])), (77, (.v (.int .i64 a520.2))), (78, (.v (.int .i64 ((IntKind.wrap .i64 (a520.2 + (1 : Int))))))), (79, (.ref (some t0) yZ1 0 [])), (80, (.ref (some t0) yZ1 0 [.snd]))] x [(some (.heap X522))] T)))))))))))))))) ∧ ((∃ (a481 : ((Option SlH) × Int)), XH.el hq0 yZ1 t0 0 = some a481 ∧ (0 ≤ k10 ∧ k10 ≤ (((slC a481.1) : Nat) : Int) ∧ (∃ (a482 : ((Option SlH) × Int)), XH.el hq0 yZ1 t0 0 = some a482 ∧ (∃ (a483 : ((Option SlH) × Int)), XH.el hq0 yZ1 t0 0 = some a483 ∧ (0 ≤ k10 ∧ k10 ≤ (((slN a483.1) : Nat) : Int) ∧ (∃ (l484 l485 : List (Int × (Int × (Int × (Int × (Option SlH)))))), XH.view hq0 yZ0 none = some l484 ∧ (srcX hq0 yZ0 (.sl yZ0 (slCut a481.1 0 ((k10).toNat) (slC a481.1)))) = some l485 ∧ (0 + (l485).length) * 56 ≤ room ∧ ∀ (X486 : XH) (s487 : Option SlH), XApp hq0 yZ0 (((0 : Int), ((0 : Int), ((0 : Int), ((0 : Int), none))))) l484 l485 none X486 s487 → (∀ (X488 : XH), X488 = (XH.add X486 (.arr yZ0 ([(object1, (thread2, ((1 : Int), (a482.2, none))))] : List (Int × (Int × (Int × (Int × (Option SlH)))))))) → (∃ (l489 l490 : List (Int × (Int × (Int × (Int × (Option SlH)))))), XH.view X488 yZ0 s487 = some l489 ∧ (srcX X488 yZ0 (.sl yZ0 (some ⟨X486.n, 0, 1, 1⟩))) = some l490 ∧ ((slN s487) + (l490).length) * 56 ≤ room ∧ ∀ (X491 : XH) (s492 : Option SlH), XApp X488 yZ0 (((0 : Int), ((0 : Int), ((0 : Int), ((0 : Int), none))))) l489 l490 s487 X491 s492 → (∃ (l493 l494 : List (Int × (Int × (Int × (Int × (Option SlH)))))), XH.view X491 yZ0 s492 = some l493 ∧ (srcX X491 yZ0 (.sl yZ0 (slCut a483.1 ((k10).toNat) (slN a483.1) (slC a483.1)))) = some l494 ∧ ((slN s492) + (l494).length) * 56 ≤ room ∧ ∀ (X495 : XH) (s496 : Option SlH), XApp X491 yZ0 (((0 : Int), ((0 : Int), ((0 : Int), ((0 : Int), none))))) l493 l494 s492 X495 s496 → (∃ (a497 : ((Option SlH) × Int)), XH.el X495 yZ1 t0 0 = some a497 ∧ (∀ (X498 : XH), X498 = (XH.setEl X495 yZ1 t0 0 (s496, a497.2)) → (∃ (a499 : ((Option SlH) × Int)), XH.el X498 yZ1 t0 0 = some a499 ∧ (∃ (a500 : ((Option SlH) × Int)), XH.el X498 yZ1 t0 0 = some a500 ∧ (∀ (X501 : XH), X501 = (XH.setEl X498 yZ1 t0 0 ((a500.1, (IntKind.wrap .i64 (a499.2 + (1 : Int)))))) → (Q .ret (mkF 120 [(0, (.ref (some t0) yZ1 0 [])), (1, (.v (.int .i64 object1))), (2, (.v (.int .i64 thread2))), (6, (.v .tt)), (7, (.v (.int .i64 (0 : Int)))), (10, (.v (.int .i64 k10))), (47, (.ref (some t0) yZ1 0 [])), (48, (.sl yZ0 none)), (49, (.ref (some t0) yZ1 0 [])), (50, (.ref (some t0) yZ1 0 [])), (51, (.ref (some t0) yZ1 0 [.fst])), (52, (.sl yZ0 a481.1)), (53, (.v (.int .i64 k10))), (54, (.sl yZ0 (slCut a481.1 0 ((k10).toNat) (slC a481.1)))), (55, (.sl yZ0 s487)), (56, (.v (.int .i64 object1))), (57, (.v (.int .i64 thread2))), (58, (.ref (some t0) yZ1 0 [])), (59, (.ref (some t0) yZ1 0 [])), (60, (.ref (some t0) yZ1 0 [.snd])), (61, (.v (.int .i64 a482.2))), (62, (.v (.agg [(.int .i64 object1), (.int .i64 thread2), (.int .i64 (1 : Int)), (.int .i64 a482.2), .nils]))), (63, (.sl yZ0 (some ⟨X486.n, 0, 1, 1⟩))), (64, (.sl yZ0 s492)), (65, (.ref (some t0) yZ1 0 [])), (66, (.ref (some t0) yZ1 0 [])), (67, (.ref (some t0) yZ1 0 [.fst])), (68, (.sl yZ0 a483.1)), (69, (.v (.int .i64 k10))), (70, (.sl yZ0 (slCut a483.1 ((k10).toNat) (slN a483.1) (slC a483.1)))), (71, (.sl yZ0 s496)), (72, (.ref (some t0) yZ1 0 [])), (73, (.ref (some t0) yZ1 0 [.fst])), (74, (.ref (some t0) yZ1 0 [])), (75, (.ref (some t0) yZ1 0 [])), (76, (.ref (some t0) yZ1 0 [.snd])), (77, (.v (.int .i64 a499.2))), (78, (.v (.int .i64 ((IntKind.wrap .i64 (a499.2 + (1 : Int))))))), (79, (.ref (some t0) yZ1 0 [])), (80, (.ref (some t0) yZ1 0 [.snd]))] x [(some (.heap X501))] T)))))))))))))))) ∧ ((∃ (a460 : ((Option SlH) × Int)), XH.el hq0 yZ1 t0 0 = some a460 ∧ (0 ≤ k10 ∧ k10 ≤ (((slC a460.1) : Nat) : Int) ∧ (∃ (a461 : ((Option SlH) × Int)), XH.el hq0 yZ1 t0 0 = some a461 ∧ (∀ (X462 : XH), X462 = (XH.add hq0 (.arr yZ0 ([(object1, (thread2, ((1 : Int), (a461.2, none))))] : List (Int × (Int × (Int × (Int × (Option SlH)))))))) → (∃ (l463 l464 : List (Int × (Int × (Int × (Int × (Option SlH)))))), XH.view X462 yZ0 none = some l463 ∧ (srcX X462 yZ0 (.sl yZ0 (slCut a460.1 0 ((k10).toNat) (slC a460.1)))) = some l464 ∧ (0 + (l464).length) * 56 ≤ room ∧ ∀ (X465 : XH) (s466 : Option SlH), XApp X462 yZ0 (((0 : Int), ((0 : Int), ((0 : Int), ((0 : Int), none))))) l463 l464 none X465 s466 → (∃ (l467 l468 : List (Int × (Int × (Int × (Int × (Option SlH)))))), XH.view X465 yZ0 s466 = some l467 ∧ (srcX X465 yZ0 (.sl yZ0 (some ⟨hq0.n, 0, 1, 1⟩))) = some l468 ∧ ((slN s466) + (l468).length) * 56 ≤ room ∧ ∀ (X469 : XH) (s470 : Option SlH), XApp X465 yZ0 (((0 : Int), ((0 : Int), ((0 : Int), ((0 : Int), none))))) l467 l468 s466 X469 s470 → (∃ (a471 : ((Option SlH) × Int)), XH.el X469 yZ1 t0 0 = some a471 ∧ (0 ≤ k10 ∧ k10 ≤ (((slN a471.1) : Nat) : Int) ∧ (∃ (l472 l473 : List (Int × (Int × (Int × (Int × (Option SlH)))))), XH.view X469 yZ0 s470 = some l472 ∧ (srcX X469 yZ0 (.sl yZ0 (slCut a471.1 ((k10).toNat) (slN a471.1) (slC a471.1)))) = some l473 ∧ ((slN s470) + (l473).length) * 56 ≤ room ∧ ∀ (X474 : XH) (s475 : Option SlH), XApp X469 yZ0 (((0 : Int), ((0 : Int), ((0 : Int), ((0 : Int), none))))) l472 l473 s470 X474 s475 → (∃ (a476 : ((Option SlH) × Int)), XH.el X474 yZ1 t0 0 = some a476 ∧ (∀ (X477 : XH), X477 = (XH.setEl X474 yZ1 t0 0 (s475, a476.2)) → (∃ (a478 : ((Option SlH) × Int)), XH.el X477 yZ1 t0 0 = some a478 ∧ (∃ (a479 : ((Option SlH) × Int)), XH.el X477 yZ1 t0 0 = some a479 ∧ (∀ (X480 : XH), X480 = (XH.setEl X477 yZ1 t0 0 ((a479.1, (IntKind.wrap .i64 (a478.2 + (1 : Int)))))) → (Q .ret (mkF 120 [(0, (.ref (some t0) yZ1 0 [])), (1, (.v (.int .i64 object1))), (2, (.v (.int .i64 thread2))), (6, (.v .tt)), (7, (.v (.int .i64 (0 : Int)))), (10, (.v (.int .i64 k10))), (47, (.ref (some t0) yZ1 0 [])), (48, (.sl yZ0 none)), (49, (.ref (some t0) yZ1 0 [])), (50, (.ref (some t0) yZ1 0 [])), (51, (.ref (some t0) yZ1 0 [.fst])), (52, (.sl yZ0 a460.1)), (53, (.v (.int .i64 k10))), (54, (.sl yZ0 (slCut a460.1 0 ((k10).toNat) (slC a460.1)))), (55, (.sl yZ0 s466)), (56, (.v (.int .i64 object1))), (57, (.v (.int .i64 thread2))), (58, (.ref (some t0) yZ1 0 [])), (59, (.ref (some t0) yZ1 0 [])), (60, (.ref (some t0) yZ1 0 [.snd])), (61, (.v (.int .i64 a461.2))), (62, (.v (.agg [(.int .i64 object1), (.int .i64 thread2), (.int .i64 (1 : Int)), (.int .i64 a461.2), .nils]))), (63, (.sl yZ0 (some ⟨hq0.n, 0, 1, 1⟩))), (64, (.sl yZ0 s470)), (65, (.ref (some t0) yZ1 0 [])), (66, (.ref (some t0) yZ1 0 [])), (67, (.ref (some t0) yZ1 0 [.fst])), (68, (.sl yZ0 a471.1)), (69, (.v (.int .i64 k10))), (70, (.sl yZ0 (slCut a471.1 ((k10).toNat) (slN a471.1) (slC a471.1)))), (71, (.sl yZ0 s475)), (72, (.ref (some t0) yZ1 0 [])), (73, (.ref (some t0) yZ1 0 [.fst])), (74, (.ref (some t0) yZ1 0 [])), (75, (.ref (some t0) yZ1 0 [])), (76, (.ref (some t0) yZ1 0 [.snd])), (77, (.v (.int .i64 a478.2))), (78, (.v (.int .i64 ((IntKind.wrap .i64 (a478.2 + (1 : Int))))))), (79, (.ref (some t0) yZ1 0 [])), (80, (.ref (some t0) yZ1 0 [.snd]))] x [(some (.heap X480))] T)))))))))))))))) ∧ ((∃ (a439 : ((Option SlH) × Int)), XH.el hq0 yZ1 t0 0 = some a439 ∧ (0 ≤ k10 ∧ k10 ≤ (((slC a439.1) : Nat) : Int) ∧ (∃ (a440 : ((Option SlH) × Int)), XH.el hq0 yZ1 t0 0 = some a440 ∧ (∀ (X441 : XH), X441 = (XH.add hq0 (.arr yZ0 ([(object1, (thread2, ((1 : Int), (a440.2, none))))] : List (Int × (Int × (Int × (Int × (Option SlH)))))))) → (∃ (l442 l443 : List (Int × (Int × (Int × (Int × (Option SlH)))))), XH.view X441 yZ0 none = some l442 ∧ (srcX X441 yZ0 (.sl yZ0 (slCut a439.1 0 ((k10).toNat) (slC a439.1)))) = some l443 ∧ (0 + (l443).length) * 56 ≤ room ∧ ∀ (X444 : XH) (s445 : Option SlH), XApp X441 yZ0 (((0 : Int), ((0 : Int), ((0 : Int), ((0 : Int), none))))) l442 l443 none X444 s445 → (∃ (a446 : ((Option SlH) × Int)), XH.el X444 yZ1 t0 0 = some a446 ∧ (0 ≤ k10 ∧ k10 ≤ (((slN a446.1) : Nat) : Int) ∧ (∃ (l447 l448 : List (Int × (Int × (Int × (Int × (Option SlH)))))), XH.view X444 yZ0 s445 = some l447 ∧ (srcX X444 yZ0 (.sl yZ0 (some ⟨hq0.n, 0, 1, 1⟩))) = some l448 ∧ ((slN s445) + (l448).length) * 56 ≤ room ∧ ∀ (X449 : XH) (s450 : Option SlH), XApp X444 yZ0 (((0 : Int), ((0 : Int), ((0 : Int), ((0 : Int), none))))) l447 l448 s445 X449 s450 → (∃ (l451 l452 : List (Int × (Int × (Int × (Int × (Option SlH)))))), XH.view X449 yZ0 s450 = some l451 ∧ (srcX X449 yZ0 (.sl yZ0 (slCut a446.1 ((k10).toNat) (slN a446.1) (slC a446.1)))) = some l452 ∧ ((slN s450) + (l452).length) * 56 ≤ room ∧ ∀ (X453 : XH) (s454 : Option SlH), XApp X449 yZ0 (((0 : Int), ((0 : Int), ((0 : Int), ((0 : Int), none))))) l451 l452 s450 X453 s454 → (∃ (a455 : ((Option SlH) × Int)), XH.el X453 yZ1 t0 0 = some a455 ∧ (∀ (X456 : XH), X456 = (XH.setEl X453 yZ1 t0 0 (s454, a455.2)) → (∃ (a457 : ((Option SlH) × Int)), XH.el X456 yZ1 t0 0 = some a457 ∧ (∃ (a458 : ((Option SlH) × Int)), XH.el X456 yZ1 t0 0 = some a458 ∧ (∀ (X459 : XH), X459 = (XH.setEl X456 yZ1 t0 0 ((a458.1, (IntKind.wrap .i64 (a457.2 + (1 : Int)))))) → (Q .ret (mkF 120 [(0, (.ref (some t0) yZ1 0 [])), (1, (.v (.int .i64 object1))), (2, (.v (.int .i64 thread2))), (6, (.v .tt)), (7, (.v (.int .i64 (0 : Int)))), (10, (.v (.int .i64 k10))), (47, (.ref (some t0) yZ1 0 [])), (48, (.sl yZ0 none)), (49, (.ref (some t0) yZ1 0 [])), (50, (.ref (some t0) yZ1 0 [])), (51, (.ref (some t0) yZ1 0 [.fst])), (52, (.sl yZ0 a439.1)), (53, (.v (.int .i64 k10))), (54, (.sl yZ0 (slCut a439.1 0 ((k10).toNat) (slC a439.1)))), (55, (.sl yZ0 s445)), (56, (.v (.int .i64 object1))), (57, (.v (.int .i64 thread2))), (58, (.ref (some t0) yZ1 0 [])), (59, (.ref (some t0) yZ1 0 [])), (60, (.ref (some t0) yZ1 0 [.snd])), (61, (.v (.int .i64 a440.2))), (62, (.v (.agg [(.int .i64 object1), (.int .i64 thread2), (.int .i64 (1 : Int)), (.int .i64 a440.2), .nils]))), (63, (.sl yZ0 (some ⟨hq0.n, 0, 1, 1⟩))), (64, (.sl yZ0 s450)), (65, (.ref (some t0) yZ1 0 [])), (66, (.ref (some t0) yZ1 0 [])), (67, (.ref (some t0) yZ1 0 [.fst])), (68, (.sl yZ0 a446.1)), (69, (.v (.int .i64 k10))), (70, (.sl yZ0 (slCut a446.1 ((k10).toNat) (slN a446.1) (slC a446.1)))), (71, (.sl yZ0 s454)), (72, (.ref (some t0) yZ1 0 [])), (73, (.ref (some t0) yZ1 0 [.fst])), (74, (.ref (some t0) yZ1 0 [])), (75, (.ref (some t0) yZ1 0 [])), (76, (.ref (some t0) yZ1 0 [.snd])), (77, (.v (.int .i64 a457.2))), (78, (.v (.int .i64 ((IntKind.wrap .i64 (a457.2 + (1 : Int))))))), (79, (.ref (some t0) yZ1 0 [])), (80, (.ref (some t0) yZ1 0 [.snd]))] x [(some (.heap X459))] T)))))))))))))))) ∧ ((∃ (a418 : ((Option SlH) × Int)), XH.el hq0 yZ1 t0 0 = some a418 ∧ (0 ≤ k10 ∧ k10 ≤ (((slC a418.1) : Nat) : Int) ∧ (∃ (a419 : ((Option SlH) × Int)), XH.el hq0 yZ1 t0 0 = some a419 ∧ (∃ (a420 : ((Option SlH) × Int)), XH.el hq0 yZ1 t0 0 = some a420 ∧ (0 ≤ k10 ∧ k10 ≤ (((slN a420.1) : Nat) : Int) ∧ (∀ (X421 : XH), X421 = (XH.add hq0 (.arr yZ0 ([(object1, (thread2, ((1 : Int), (a419.2, none))))] : List (Int × (Int × (Int × (Int × (Option SlH)))))))) → (∃ (l422 l423 : List (Int × (Int × (Int × (Int × (Option SlH)))))), XH.view X421 yZ0 none = some l422 ∧ (srcX X421 yZ0 (.sl yZ0 (slCut a418.1 0 ((k10).toNat) (slC a418.1)))) = some l423 ∧ (0 + (l423).length) * 56 ≤ room ∧ ∀ (X424 : XH) (s425 : Option SlH), XApp X421 yZ0 (((0 : Int), ((0 : Int), ((0 : Int), ((0 : Int), none))))) l422 l423 none X424 s425 → (∃ (l426 l427 : List (Int × (Int × (Int × (Int × (Option SlH)))))), XH.view X424 yZ0 s425 = some l426 ∧ (srcX X424 yZ0 (.sl yZ0 (some ⟨hq0.n, 0, 1, 1⟩))) = some l427 ∧ ((slN s425) + (l427).length) * 56 ≤ room ∧ ∀ (X428 : XH) (s429 : Option SlH), XApp X424 yZ0 (((0 : Int), ((0 : Int), ((0 : Int), ((0 : Int), none))))) l426 l427 s425 X428 s429 → (∃ (l430 l431 : List (Int × (Int × (Int × (Int × (Option SlH)))))), XH.view X428 yZ0 s429 = some l430 ∧ (srcX X428 yZ0 (.sl yZ0 (slCut a420.1 ((k10).toNat) (slN a420.1) (slC a420.1)))) = some l431 ∧ ((slN s429) + (l431).length) * 56 ≤ room ∧ ∀ (X432 : XH) (s433 : Option SlH), XApp X428 yZ0 (((0 : Int), ((0 : Int), ((0 : Int), ((0 : Int), none))))) l430 l431 s429 X432 s433 → (∃ (a434 : ((Option SlH) × Int)), XH.el X432 yZ1 t0 0 = some a434 ∧ (∀ (X435 : XH), X435 = (XH.setEl X432 yZ1 t0 0 (s433, a434.2)) → (∃ (a436 : ((Option SlH) × Int)), XH.el X435 yZ1 t0 0 = some a436 ∧ (∃ (a437 : ((Option SlH) × Int)), XH.el X435 yZ1 t0 0 = some a437 ∧ (∀ (X438 : XH), X438 = (XH.setEl X435 yZ1 t0 0 ((a437.1, (IntKind.wrap .i64 (a436.2 + (1 : Int)))))) → (Q .ret (mkF 120 [(0, (.ref (some t0) yZ1 0 [])), (1, (.v (.int .i64 object1))), (2, (.v (.int .i64 thread2))), (6, (.v .tt)), (7, (.v (.int .i64 (0 : Int)))), (10, (.v (.int .i64 k10))), (47, (.ref (some t0) yZ1 0 [])), (48, (.sl yZ0 none)), (49, (.ref (some t0) yZ1 0 [])), (50, (.ref (some t0) yZ1 0 [])), (51, (.ref (some t0) yZ1 0 [.fst])), (52, (.sl yZ0 a418.1)), (53, (.v (.int .i64 k10))), (54, (.sl yZ0 (slCut a418.1 0 ((k10).toNat) (slC a418.1)))), (55, (.sl yZ0 s425)), (56, (.v (.int .i64 object1))), (57, (.v (.int .i64 thread2))), (58, (.ref (some t0) yZ1 0 [])), (59, (.ref (some t0) yZ1 0 [])), (60, (.ref (some t0) yZ1 0 [.snd])), (61, (.v (.int .i64 a419.2))), (62, (.v (.agg [(.int .i64 object1), (.int .i64 thread2), (.int .i64 (1 : Int)), (.int .i64 a419.2), .nils]))), (63, (.sl yZ0 (some ⟨hq0.n, 0, 1, 1⟩))), (64, (.sl yZ0 s429)), (65, (.ref (some t0) yZ1 0 [])), (66, (.ref (some t0) yZ1 0 [])), (67, (.ref (some t0) yZ1 0 [.fst])), (68, (.sl yZ0 a420.1)), (69, (.v (.int .i64 k10))), (70, (.sl yZ0 (slCut a420.1 ((k10).toNat) (slN a420.1) (slC a420.1)))), (71, (.sl yZ0 s433)), (72, (.ref (some t0) yZ1 0 [])), (73, (.ref (some t0) yZ1 0 [.fst])), (74, (.ref (some t0) yZ1 0 [])), (75, (.ref (some t0) yZ1 0 [])), (76, (.ref (some t0) yZ1 0 [.snd])), (77, (.v (.int .i64 a436.2))), (78, (.v (.int .i64 ((IntKind.wrap .i64 (a436.2 + (1 : Int))))))), (79, (.ref (some t0) yZ1 0 [])), (80, (.ref (some t0) yZ1 0 [.snd]))] x [(some (.heap X438))] T)))))))))))))))) ∧ True)))))))))) :
  awp X32.tt (callN Try.prog X32 0) (X32.md 32) 1 (X32.mk1 32) 0 (codeAt [1, 1, 1, 1, 1, 0, 1, 0, 1, 1] (bd Try.f32)) Q (mkF 120 [(0, (.ref (some t0) yZ1 0 [])), (1, (.v (.int .i64 object1))), (2, (.v (.int .i64 thread2))), (10, (.v (.int .i64 k10)))] x [(some (.heap hq0))] T) := Eq.mp (by kernel_rfl) h
theorem G32_4 (x : Nat → TV) (t0 : Nat) (thread2 : Int) (i9 : Int) (hq0 : XH) (T : Toks) {Q : Exit → St → Prop}
 (h : (∃ (a607 : ((Option SlH) × Int)), XH.el hq0 yZ1 t0 0 = some a607 ∧ (∃ (u608 : SlH), a607.1 = some u608 ∧ 0 ≤ i9 ∧ i9 < ((u608.len : Nat) : Int) ∧ (∃ (a609 : (Int × (Int × (Int × (Int × (Option SlH)))))), XH.el hq0 yZ0 u608.h ((u608.off + (i9).toNat)) = some a609 ∧ (((a609.2.1 == thread2) = true → (∃ (a610 : ((Option SlH) × Int)), XH.el hq0 yZ1 t0 0 = some a610 ∧ (∃ (u611 : SlH), a610.1 = some u611 ∧ 0 ≤ i9 ∧ i9 < ((u611.len : Nat) : Int) ∧ (∃ (a612 : (Int × (Int × (Int × (Int × (Option SlH)))))), XH.el hq0 yZ0 u611.h ((u611.off + (i9).toNat)) = some a612 ∧ (∃ (u613 : SlH), a610.1 = some u613 ∧ 0 ≤ i9 ∧ i9 < ((u613.len : Nat) : Int) ∧ (∃ (a614 : (Int × (Int × (Int × (Int × (Option SlH)))))), XH.el hq0 yZ0 u613.h ((u613.off + (i9).toNat)) = some a614 ∧ (∀ (X615 : XH), X615 = (XH.setEl hq0 yZ0 u613.h ((u613.off + (i9).toNat)) ((a614.1, (a614.2.1, ((IntKind.wrap .i64 (a612.2.2.1 + (1 : Int))), a614.2.2.2))))) → (Q .ret (mkF 120 [(0, (.ref (some t0) yZ1 0 [])), (2, (.v (.int .i64 thread2))), (6, (.v .tt)), (7, (.v (.int .i64 (0 : Int)))), (9, (.v (.int .i64 i9))), (81, (.ref (some t0) yZ1 0 [])), (82, (.ref (some t0) yZ1 0 [])), (83, (.ref (some t0) yZ1 0 [.fst])), (84, (.sl yZ0 a607.1)), (85, (.v (.int .i64 i9))), (86, (.ref (some u608.h) yZ0 ((u608.off + (i9).toNat)) [])), (87, (.ref (some u608.h) yZ0 ((u608.off + (i9).toNat)) [.snd, .fst])), (88, (.v (.int .i64 a609.2.1))), (89, (.v (.int .i64 thread2))), (90, (.v (.bool (a609.2.1 == thread2)))), (91, (.ref (some t0) yZ1 0 [])), (92, (.ref (some t0) yZ1 0 [])), (93, (.ref (some t0) yZ1 0 [.fst])), (94, (.sl yZ0 a610.1)), (95, (.v (.int .i64 i9))), (96, (.ref (some u611.h) yZ0 ((u611.off + (i9).toNat)) [])), (97, (.ref (some u611.h) yZ0 ((u611.off + (i9).toNat)) [.snd, .snd, .fst])), (98, (.v (.int .i64 a612.2.2.1))), (99, (.v (.int .i64 ((IntKind.wrap .i64 (a612.2.2.1 + (1 : Int))))))), (100, (.ref (some u613.h) yZ0 ((u613.off + (i9).toNat)) [])), (101, (.ref (some u613.h) yZ0 ((u613.off + (i9).toNat)) [.snd, .snd, .fst]))] x [(some (.heap X615))] T))))))))) ∧
 ((a609.2.1 == thread2) = false → ((∃ (a627 : ((Option SlH) × Int)), XH.el hq0 yZ1 t0 0 = some a627 ∧ (∃ (a628 : ((Option SlH) × Int)), XH.el hq0 yZ1 t0 0 = some a628 ∧ (∃ (u629 : SlH), a628.1 = some u629 ∧ 0 ≤ i9 ∧ i9 < ((u629.len : Nat) : Int) ∧ (∃ (a630 : (Int × (Int × (Int × (Int × (Option SlH)))))), XH.el hq0 yZ0 u629.h ((u629.off + (i9).toNat)) = some a630 ∧ (∃ (l631 l632 : List Int), XH.view hq0 (.pure (.int .i64)) a630.2.2.2.2 = some l631 ∧ (srcX hq0 (.pure (.int .i64)) (.v (.list (.int .i64) ([thread2] : List Int) .exact))) = some l632 ∧ ((slN a630.2.2.2.2) + (l632).length) * 8 ≤ room ∧ ∀ (X633 : XH) (s634 : Option SlH), XApp hq0 (.pure (.int .i64)) (0 : Int) l631 l632 a630.2.2.2.2 X633 s634 → (∃ (u635 : SlH), a627.1 = some u635 ∧ 0 ≤ i9 ∧ i9 < ((u635.len : Nat) : Int) ∧ (∃ (a636 : (Int × (Int × (Int × (Int × (Option SlH)))))), XH.el X633 yZ0 u635.h ((u635.off + (i9).toNat)) = some a636 ∧ (∀ (X637 : XH), X637 = (XH.setEl X633 yZ0 u635.h ((u635.off + (i9).toNat)) ((a636.1, (a636.2.1, (a636.2.2.1, (a636.2.2.2.1, s634)))))) → (Q .ret (mkF 120 [(0, (.ref (some t0) yZ1 0 [])), (2, (.v (.int .i64 thread2))), (6, (.v .ff)), (7, (.v (.int .i64 (0 : Int)))), (9, (.v (.int .i64 i9))), (81, (.ref (some t0) yZ1 0 [])), (82, (.ref (some t0) yZ1 0 [])), (83, (.ref (some t0) yZ1 0 [.fst])), (84, (.sl yZ0 a607.1)), (85, (.v (.int .i64 i9))), (86, (.ref (some u608.h) yZ0 ((u608.off + (i9).toNat)) [])), (87, (.ref (some u608.h) yZ0 ((u608.off + (i9).toNat)) [.snd, .fst])), (88, (.v (.int .i64 a609.2.1))), (89, (.v (.int .i64 thread2))), (90, (.v (.bool (a609.2.1 == thread2)))), (102, (.ref (some t0) yZ1 0 [])), (103, (.ref (some t0) yZ1 0 [])), (104, (.ref (some t0) yZ1 0 [.fst])), (105, (.sl yZ0 a627.1)), (106, (.v (.int .i64 i9))), (107, (.ref (some t0) yZ1 0 [])), (108, (.ref (some t0) yZ1 0 [])), (109, (.ref (some t0) yZ1 0 [.fst])), (110, (.sl yZ0 a628.1)), (111, (.v (.int .i64 i9))), (112, (.ref (some u629.h) yZ0 ((u629.off + (i9).toNat)) [])), (113, (.ref (some u629.h) yZ0 ((u629.off + (i9).toNat)) [.snd, .snd, .snd, .snd])), (114, (.sl (.pure (.int .i64)) a630.2.2.2.2)), (115, (.v (.int .i64 thread2))), (116, (.v (.list (.int .i64) ([thread2] : List Int) .exact))), (117, (.sl (.pure (.int .i64)) s634)), (118, (.ref (some u635.h) yZ0 ((u635.off + (i9).toNat)) [])), (119, (.ref (some u635.h) yZ0 ((u635.off + (i9).toNat)) [.snd, .snd, .snd, .snd]))] x [(some (.heap X637))] T)))))))))) ∧ ((∃ (a616 : ((Option SlH) × Int)), XH.el hq0 yZ1 t0 0 = some a616 ∧ (∃ (u617 : SlH), a616.1 = some u617 ∧ 0 ≤ i9 ∧ i9 < ((u617.len : Nat) : Int) ∧ (∃ (a618 : (Int × (Int × (Int × (Int × (Option SlH)))))), XH.el hq0 yZ0 u617.h ((u617.off + (i9).toNat)) = some a618 ∧ (∃ (l619 l620 : List Int), XH.view hq0 (.pure (.int .i64)) a618.2.2.2.2 = some l619 ∧ (srcX hq0 (.pure (.int .i64)) (.v (.list (.int .i64) ([thread2] : List Int) .exact))) = some l620 ∧ ((slN a618.2.2.2.2) + (l620).length) * 8 ≤ room ∧ ∀ (X621 : XH) (s622 : Option SlH), XApp hq0 (.pure (.int .i64)) (0 : Int) l619 l620 a618.2.2.2.2 X621 s622 → (∃ (a623 : ((Option SlH) × Int)), XH.el X621 yZ1 t0 0 = some a623 ∧ (∃ (u624 : SlH), a623.1 = some u624 ∧ 0 ≤ i9 ∧ i9 < ((u624.len : Nat) : Int) ∧ (∃ (a625 : (Int × (Int × (Int × (Int × (Option SlH)))))), XH.el X621 yZ0 u624.h ((u624.off + (i9).toNat)) = some a625 ∧ (∀ (X626 : XH), X626 = (XH.setEl X621 yZ0 u624.h ((u624.off + (i9).toNat)) ((a625.1, (a625.2.1, (a625.2.2.1, (a625.2.2.2.1, s622)))))) → (Q .ret (mkF 120 [(0, (.ref (some t0) yZ1 0 [])), (2, (.v (.int .i64 thread2))), (6, (.v .ff)), (7, (.v (.int .i64 (0 : Int)))), (9, (.v (.int .i64 i9))), (81, (.ref (some t0) yZ1 0 [])), (82, (.ref (some t0) yZ1 0 [])), (83, (.ref (some t0) yZ1 0 [.fst])), (84, (.sl yZ0 a607.1)), (85, (.v (.int .i64 i9))), (86, (.ref (some u608.h) yZ0 ((u608.off + (i9).toNat)) [])), (87, (.ref (some u608.h) yZ0 ((u608.off + (i9).toNat)) [.snd, .fst])), (88, (.v (.int .i64 a609.2.1))), (89, (.v (.int .i64 thread2))), (90, (.v (.bool (a609.2.1 == thread2)))), (102, (.ref (some t0) yZ1 0 [])), (103, (.ref (some t0) yZ1 0 [])), (104, (.ref (some t0) yZ1 0 [.fst])), (105, (.sl yZ0 a623.1)), (106, (.v (.int .i64 i9))), (107, (.ref (some t0) yZ1 0 [])), (108, (.ref (some t0) yZ1 0 [])), (109, (.ref (some t0) yZ1 0 [.fst])), (110, (.sl yZ0 a616.1)), (111, (.v (.int .i64 i9))), (112, (.ref (some u617.h) yZ0 ((u617.off + (i9).toNat)) [])), (113, (.ref (some u617.h) yZ0 ((u617.off + (i9).toNat)) [.snd, .snd, .snd, .snd])), (114, (.sl (.pure (.int .i64)) a618.2.2.2.2)), (115, (.v (.int .i64 thread2))), (116, (.v (.list (.int .i64) ([thread2] : List Int) .exact))), (117, (.sl (.pure (.int .i64)) s622)), (118, (.ref (some u624.h) yZ0 ((u624.off + (i9).toNat)) [])), (119, (.ref (some u624.h) yZ0 ((u624.off + (i9).toNat)) [.snd, .snd, .snd, .snd]))] x [(some (.heap X626))] T)))))))))) ∧ True)))))))) :
  awp X32.tt (callN Try.prog X32 0) (X32.md 32) 1 (X32.mk1 32) 0 (codeAt [1, 1, 1, 1, 1, 1] (bd Try.f32)) Q (mkF 120 [(0, (.ref (some t0) yZ1 0 [])), (2, (.v (.int .i64 thread2))), (9, (.v (.int .i64 i9)))] x [(some (.heap hq0))] T) := Eq.mp (by kernel_rfl) h
theorem H32_0 (t0 : Nat) (object1 : Int) (thread2 : Int) (k10 : Int) (hq0 : XH) (T : Toks) {k0 : St → Prop} {Q : Exit → St → Prop}
 (h : (∃ (a638 : ((Option SlH) × Int)), XH.el hq0 yZ1 t0 0 = some a638 ∧ (((decide (k10 < (((slN a638.1) : Nat) : Int))) = true → (∃ (a639 : ((Option SlH) × Int)), XH.el hq0 yZ1 t0 0 = some a639 ∧ (∃ (u640 : SlH), a639.1 = some u640 ∧ 0 ≤ k10 ∧ k10 < ((u640.len : Nat) : Int) ∧ (∃ (a641 : (Int × (Int × (Int × (Int × (Option SlH)))))), XH.el hq0 yZ0 u640.h ((u640.off + (k10).toNat)) = some a641 ∧ (((decide (a641.1 < object1)) = true → k0 (S32_0 t0 object1 thread2 ((IntKind.wrap .i64 (k10 + (1 : Int)))) hq0 T)) ∧
 ((decide (a641.1 < object1)) = false → (Q (.exit 0) (mkS 120 [(0, (.ref (some t0) yZ1 0 [])), (1, (.v (.int .i64 object1))), (2, (.v (.int .i64 thread2))), (10, (.v (.int .i64 k10))), (26, (.v (.int .i64 k10))), (27, (.ref (some t0) yZ1 0 [])), (28, (.ref (some t0) yZ1 0 [])), (29, (.ref (some t0) yZ1 0 [.fst])), (30, (.sl yZ0 a638.1)), (31, (.v (.int .i64 ((((slN a638.1) : Nat) : Int))))), (32, (.v (.bool ((decide (k10 < (((slN a638.1) : Nat) : Int))))))), (33, (.v .tt)), (34, (.ref (some t0) yZ1 0 [])), (35, (.ref (some t0) yZ1 0 [])), (36, (.ref (some t0) yZ1 0 [.fst])), (37, (.sl yZ0 a639.1)), (38, (.v (.int .i64 k10))), (39, (.ref (some u640.h) yZ0 ((u640.off + (k10).toNat)) [])), (40, (.ref (some u640.h) yZ0 ((u640.off + (k10).toNat)) [.fst])), (41, (.v (.int .i64 a641.1))), (42, (.v (.int .i64 object1))), (43, (.v (.bool ((decide (a641.1 < object1)))))), (44, (.v (.bool ((decide (a641.1 < object1))))))] [(some (.heap hq0))] T)))))))) ∧ ((decide (k10 < (((slN a638.1) : Nat) : Int))) = false → (Q (.exit 0) (mkS 120 [(0, (.ref (some t0) yZ1 0 [])), (1, (.v (.int .i64 object1))), (2, (.v (.int .i64 thread2))), (10, (.v (.int .i64 k10))), (26, (.v (.int .i64 k10))), (27, (.ref (some t0) yZ1 0 [])), (28, (.ref (some t0) yZ1 0 [])), (29, (.ref (some t0) yZ1 0 [.fst])), (30, (.sl yZ0 a638.1)), (31, (.v (.int .i64 ((((slN a638.1) : Nat) : Int))))), (32, (.v (.bool ((decide (k10 < (((slN a638.1) : Nat) : Int))))))), (33, (.v .ff)), (34, (.v (.tup []))), (35, (.v (.tup []))), (36, (.v (.tup []))), (37, (.v (.tup []))), (38, (.v (.tup []))), (39, (.v (.tup []))), (40, (.v (.tup []))), (41, (.v (.tup []))), (42, (.v (.tup []))), (43, (.v (.tup []))), (44, (.v .ff))] [(some (.heap hq0))] T)))))) :
  B32_0 (loopQ M32_0 k0 Q) (S32_0 t0 object1 thread2 k10 hq0 T) := Eq.mp (by kernel_rfl) h
end Go.Proofs.Ytefpoodhdfggdaa.AB

