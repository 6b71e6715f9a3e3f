/- Parts of the proof: what functions of the program compute, on plain values. -/
import Derived.Test.YtaaedebknacheaaABx4
import Derived.Test.YtaaedebknacheaaProg
import Derived.KernelRfl
set_option linter.unusedVariables false
set_option linter.unusedSimpArgs false
set_option maxRecDepth 100000
set_option maxHeartbeats 2000000
namespace Go.Proofs.Ytaaedebknacheaa.AB
open Go
def tt : TT := [
 ⟨.other, 0, 0, .undef, .unit, false, false⟩,
 ⟨.func, 1, 8, .nilf, .unit, true, false⟩,
 ⟨.int .i64, 1, 8, (.int .i64 (0 : Int)), (.int .i64), true, true⟩,
 ⟨.int .i64, 1, 8, (.int .i64 (0 : Int)), (.int .i64), true, true⟩,
 ⟨.bool, 1, 1, .ff, .bool, true, true⟩,
 ⟨.int .u8, 1, 1, (.int .u8 (0 : Int)), (.int .u8), true, true⟩,
 ⟨.int .u8, 1, 1, (.int .u8 (0 : Int)), (.int .u8), true, true⟩,
 ⟨.strct [(0, 2), (1, 3), (2, 4), (3, 6)], 4, 24, (.agg [(.int .i64 (0 : Int)), (.int .i64 (0 : Int)), .ff, (.int .u8 (0 : Int))]), (.pair (.int .i64) (.pair (.int .i64) (.pair .bool (.int .u8)))), true, true⟩,
 ⟨.strct [(0, 2), (1, 3), (2, 4), (3, 6)], 4, 24, (.agg [(.int .i64 (0 : Int)), (.int .i64 (0 : Int)), .ff, (.int .u8 (0 : Int))]), (.pair (.int .i64) (.pair (.int .i64) (.pair .bool (.int .u8)))), true, true⟩,
 ⟨.str, 1, 16, (.str ([] : List UInt8)), .str, true, true⟩,
 ⟨.str, 1, 16, (.str ([] : List UInt8)), .str, true, true⟩,
 ⟨.str, 1, 16, (.str ([] : List UInt8)), .str, true, true⟩,
 ⟨.int .u64, 1, 8, (.int .u64 (0 : Int)), (.int .u64), true, true⟩,
 ⟨.strct [(0, 9), (1, 12)], 2, 24, (.agg [(.str ([] : List UInt8)), (.int .u64 (0 : Int))]), (.pair .str (.int .u64)), true, true⟩,
 ⟨.strct [(0, 9), (1, 12)], 2, 24, (.agg [(.str ([] : List UInt8)), (.int .u64 (0 : Int))]), (.pair .str (.int .u64)), true, true⟩,
 ⟨.ptr 168, 1, 8, .nilp, .unit, true, false⟩,
 ⟨.ptr 171, 1, 8, .nilp, .unit, true, false⟩,
 ⟨.ptr 179, 1, 8, .nilp, .unit, true, false⟩,
 ⟨.strct [(0, 17)], 1, 8, (.agg [.nilp]), .unit, true, false⟩,
 ⟨.strct [(0, 17)], 1, 8, (.agg [.nilp]), .unit, true, false⟩,
 ⟨.iface, 1, 16, .nili, .unit, true, false⟩,
 ⟨.int .i32, 1, 4, (.int .i32 (0 : Int)), (.int .i32), true, true⟩,
 ⟨.slice 3, 1, 24, (.list (.int .i64) ([] : List Int) .exact), (.slice (.int .i64)), true, true⟩,
 ⟨.func, 1, 8, .nilf, .unit, true, false⟩,
 ⟨.ptr 91, 1, 8, .nilp, .unit, true, false⟩,
 ⟨.func, 1, 8, .nilf, .unit, true, false⟩,
 ⟨.func, 1, 8, .nilf, .unit, true, false⟩,
 ⟨.int .i64, 1, 8, (.int .i64 (0 : Int)), (.int .i64), true, true⟩,
 ⟨.other, 0, 0, .undef, .unit, false, false⟩,
 ⟨.func, 1, 8, .nilf, .unit, true, false⟩,
 ⟨.strct [(0, 3), (1, 3), (2, 22), (3, 22)], 4, 64, (.agg [(.int .i64 (0 : Int)), (.int .i64 (0 : Int)), (.list (.int .i64) ([] : List Int) .exact), (.list (.int .i64) ([] : List Int) .exact)]), (.pair (.int .i64) (.pair (.int .i64) (.pair (.slice (.int .i64)) (.slice (.int .i64))))), true, true⟩,
 ⟨.strct [(0, 3), (1, 3), (2, 22), (3, 22)], 4, 64, (.agg [(.int .i64 (0 : Int)), (.int .i64 (0 : Int)), (.list (.int .i64) ([] : List Int) .exact), (.list (.int .i64) ([] : List Int) .exact)]), (.pair (.int .i64) (.pair (.int .i64) (.pair (.slice (.int .i64)) (.slice (.int .i64))))), true, true⟩,
 ⟨.other, 0, 0, .undef, .unit, false, false⟩,
 ⟨.func, 1, 8, .nilf, .unit, true, false⟩,
 ⟨.func, 1, 8, .nilf, .unit, true, false⟩,
 ⟨.func, 1, 8, .nilf, .unit, true, false⟩,
 ⟨.func, 1, 8, .nilf, .unit, true, false⟩,
 ⟨.other, 0, 0, .undef, .unit, false, false⟩,
 ⟨.func, 1, 8, .nilf, .unit, true, false⟩,
 ⟨.func, 1, 8, .nilf, .unit, true, false⟩,
 ⟨.other, 0, 0, .undef, .unit, false, false⟩,
 ⟨.func, 1, 8, .nilf, .unit, true, false⟩,
 ⟨.func, 1, 8, .nilf, .unit, true, false⟩,
 ⟨.func, 1, 8, .nilf, .unit, true, false⟩,
 ⟨.func, 1, 8, .nilf, .unit, true, false⟩,
 ⟨.func, 1, 8, .nilf, .unit, true, false⟩,
 ⟨.slice 51, 1, 24, (.list (.pair (.int .i64) (.pair (.int .i64) (.pair (.int .i64) (.pair (.slice (.int .i64)) (.slice (.int .i64)))))) (([] : List (Int × (Int × (Int × ((List Int) × (List Int))))))) .exact), (.slice (.pair (.int .i64) (.pair (.int .i64) (.pair (.int .i64) (.pair (.slice (.int .i64)) (.slice (.int .i64))))))), true, true⟩,
 ⟨.other, 0, 0, .undef, .unit, false, false⟩,
 ⟨.func, 1, 8, .nilf, .unit, true, false⟩,
 ⟨.slice 5, 1, 24, (.list (.int .u8) ([] : List Int) .exact), (.slice (.int .u8)), true, true⟩,
 ⟨.strct [(0, 3), (1, 3), (2, 3), (3, 22), (4, 22)], 5, 72, (.agg [(.int .i64 (0 : Int)), (.int .i64 (0 : Int)), (.int .i64 (0 : Int)), (.list (.int .i64) ([] : List Int) .exact), (.list (.int .i64) ([] : List Int) .exact)]), (.pair (.int .i64) (.pair (.int .i64) (.pair (.int .i64) (.pair (.slice (.int .i64)) (.slice (.int .i64)))))), true, true⟩,
 ⟨.strct [(0, 3), (1, 3), (2, 3), (3, 22), (4, 22)], 5, 72, (.agg [(.int .i64 (0 : Int)), (.int .i64 (0 : Int)), (.int .i64 (0 : Int)), (.list (.int .i64) ([] : List Int) .exact), (.list (.int .i64) ([] : List Int) .exact)]), (.pair (.int .i64) (.pair (.int .i64) (.pair (.int .i64) (.pair (.slice (.int .i64)) (.slice (.int .i64)))))), true, true⟩,
 ⟨.func, 1, 8, .nilf, .unit, true, false⟩,
 ⟨.func, 1, 8, .nilf, .unit, true, false⟩,
 ⟨.func, 1, 8, .nilf, .unit, true, false⟩,
 ⟨.func, 1, 8, .nilf, .unit, true, false⟩,
 ⟨.func, 1, 8, .nilf, .unit, true, false⟩,
 ⟨.func, 1, 8, .nilf, .unit, true, false⟩,
 ⟨.func, 1, 8, .nilf, .unit, true, false⟩,
 ⟨.func, 1, 8, .nilf, .unit, true, false⟩,
 ⟨.func, 1, 8, .nilf, .unit, true, false⟩,
 ⟨.slice 31, 1, 24, (.list (.pair (.int .i64) (.pair (.int .i64) (.pair (.slice (.int .i64)) (.slice (.int .i64))))) (([] : List (Int × (Int × ((List Int) × (List Int)))))) .exact), (.slice (.pair (.int .i64) (.pair (.int .i64) (.pair (.slice (.int .i64)) (.slice (.int .i64)))))), true, true⟩,
 ⟨.func, 1, 8, .nilf, .unit, true, false⟩,
 ⟨.other, 0, 0, .undef, .unit, false, false⟩,
 ⟨.func, 1, 8, .nilf, .unit, true, false⟩,
 ⟨.func, 1, 8, .nilf, .unit, true, false⟩,
 ⟨.strct [(0, 3), (1, 3), (2, 22), (3, 22)], 4, 64, (.agg [(.int .i64 (0 : Int)), (.int .i64 (0 : Int)), (.list (.int .i64) ([] : List Int) .exact), (.list (.int .i64) ([] : List Int) .exact)]), (.pair (.int .i64) (.pair (.int .i64) (.pair (.slice (.int .i64)) (.slice (.int .i64))))), true, true⟩,
 ⟨.func, 1, 8, .nilf, .unit, true, false⟩,
 ⟨.func, 1, 8, .nilf, .unit, true, false⟩,
 ⟨.other, 0, 0, .undef, .unit, false, false⟩,
 ⟨.func, 1, 8, .nilf, .unit, true, false⟩,
 ⟨.func, 1, 8, .nilf, .unit, true, false⟩,
 ⟨.other, 0, 0, .undef, .unit, false, false⟩,
 ⟨.func, 1, 8, .nilf, .unit, true, false⟩,
 ⟨.other, 0, 0, .undef, .unit, false, false⟩,
 ⟨.func, 1, 8, .nilf, .unit, true, false⟩,
 ⟨.slice 82, 1, 24, (.list (.pair (.int .i64) (.pair (.int .i64) (.pair (.int .i64) (.pair (.int .i64) (.pair (.slice (.int .i64)) (.slice (.int .i64))))))) (([] : List (Int × (Int × (Int × (Int × ((List Int) × (List Int)))))))) .exact), (.slice (.pair (.int .i64) (.pair (.int .i64) (.pair (.int .i64) (.pair (.int .i64) (.pair (.slice (.int .i64)) (.slice (.int .i64)))))))), true, true⟩,
 ⟨.ptr 80, 1, 8, .nilp, .unit, true, false⟩,
 ⟨.slice 87, 1, 24, (.list (.pair (.slice (.pair (.int .i64) (.pair (.int .i64) (.pair (.slice (.int .i64)) (.slice (.int .i64)))))) (.pair (.int .i64) (.int .i64))) (([] : List ((List (Int × (Int × ((List Int) × (List Int))))) × (Int × Int)))) .exact), (.slice (.pair (.slice (.pair (.int .i64) (.pair (.int .i64) (.pair (.slice (.int .i64)) (.slice (.int .i64)))))) (.pair (.int .i64) (.int .i64)))), true, true⟩,
 ⟨.strct [(0, 78), (1, 22), (2, 22)], 3, 72, (.agg [(.list (.pair (.slice (.pair (.int .i64) (.pair (.int .i64) (.pair (.slice (.int .i64)) (.slice (.int .i64)))))) (.pair (.int .i64) (.int .i64))) (([] : List ((List (Int × (Int × ((List Int) × (List Int))))) × (Int × Int)))) .exact), (.list (.int .i64) ([] : List Int) .exact), (.list (.int .i64) ([] : List Int) .exact)]), (.pair (.slice (.pair (.slice (.pair (.int .i64) (.pair (.int .i64) (.pair (.slice (.int .i64)) (.slice (.int .i64)))))) (.pair (.int .i64) (.int .i64)))) (.pair (.slice (.int .i64)) (.slice (.int .i64)))), true, true⟩,
 ⟨.strct [(0, 78), (1, 22), (2, 22)], 3, 72, (.agg [(.list (.pair (.slice (.pair (.int .i64) (.pair (.int .i64) (.pair (.slice (.int .i64)) (.slice (.int .i64)))))) (.pair (.int .i64) (.int .i64))) (([] : List ((List (Int × (Int × ((List Int) × (List Int))))) × (Int × Int)))) .exact), (.list (.int .i64) ([] : List Int) .exact), (.list (.int .i64) ([] : List Int) .exact)]), (.pair (.slice (.pair (.slice (.pair (.int .i64) (.pair (.int .i64) (.pair (.slice (.int .i64)) (.slice (.int .i64)))))) (.pair (.int .i64) (.int .i64)))) (.pair (.slice (.int .i64)) (.slice (.int .i64)))), true, true⟩,
 ⟨.strct [(0, 3), (1, 3), (2, 31)], 6, 80, (.agg [(.int .i64 (0 : Int)), (.int .i64 (0 : Int)), (.int .i64 (0 : Int)), (.int .i64 (0 : Int)), (.list (.int .i64) ([] : List Int) .exact), (.list (.int .i64) ([] : List Int) .exact)]), (.pair (.int .i64) (.pair (.int .i64) (.pair (.int .i64) (.pair (.int .i64) (.pair (.slice (.int .i64)) (.slice (.int .i64))))))), true, true⟩,
 ⟨.strct [(0, 3), (1, 3), (2, 31)], 6, 80, (.agg [(.int .i64 (0 : Int)), (.int .i64 (0 : Int)), (.int .i64 (0 : Int)), (.int .i64 (0 : Int)), (.list (.int .i64) ([] : List Int) .exact), (.list (.int .i64) ([] : List Int) .exact)]), (.pair (.int .i64) (.pair (.int .i64) (.pair (.int .i64) (.pair (.int .i64) (.pair (.slice (.int .i64)) (.slice (.int .i64))))))), true, true⟩,
 ⟨.func, 1, 8, .nilf, .unit, true, false⟩,
 ⟨.func, 1, 8, .nilf, .unit, true, false⟩,
 ⟨.slice 66, 1, 24, (.list (.pair (.int .i64) (.pair (.int .i64) (.pair (.slice (.int .i64)) (.slice (.int .i64))))) (([] : List (Int × (Int × ((List Int) × (List Int)))))) .exact), (.slice (.pair (.int .i64) (.pair (.int .i64) (.pair (.slice (.int .i64)) (.slice (.int .i64)))))), true, true⟩,
 ⟨.strct [(0, 85), (1, 3), (2, 3)], 3, 40, (.agg [(.list (.pair (.int .i64) (.pair (.int .i64) (.pair (.slice (.int .i64)) (.slice (.int .i64))))) (([] : List (Int × (Int × ((List Int) × (List Int)))))) .exact), (.int .i64 (0 : Int)), (.int .i64 (0 : Int))]), (.pair (.slice (.pair (.int .i64) (.pair (.int .i64) (.pair (.slice (.int .i64)) (.slice (.int .i64)))))) (.pair (.int .i64) (.int .i64))), true, true⟩,
 ⟨.strct [(0, 85), (1, 3), (2, 3)], 3, 40, (.agg [(.list (.pair (.int .i64) (.pair (.int .i64) (.pair (.slice (.int .i64)) (.slice (.int .i64))))) (([] : List (Int × (Int × ((List Int) × (List Int)))))) .exact), (.int .i64 (0 : Int)), (.int .i64 (0 : Int))]), (.pair (.slice (.pair (.int .i64) (.pair (.int .i64) (.pair (.slice (.int .i64)) (.slice (.int .i64)))))) (.pair (.int .i64) (.int .i64))), true, true⟩,
 ⟨.func, 1, 8, .nilf, .unit, true, false⟩,
 ⟨.map 3 92, 1, 8, .nilm, .unit, true, false⟩,
 ⟨.strct [(0, 89), (1, 3), (2, 3), (3, 22)], 4, 48, (.agg [.nilm, (.int .i64 (0 : Int)), (.int .i64 (0 : Int)), (.list (.int .i64) ([] : List Int) .exact)]), .unit, true, false⟩,
 ⟨.strct [(0, 89), (1, 3), (2, 3), (3, 22)], 4, 48, (.agg [.nilm, (.int .i64 (0 : Int)), (.int .i64 (0 : Int)), (.list (.int .i64) ([] : List Int) .exact)]), .unit, true, false⟩,
 ⟨.ptr 95, 1, 8, .nilp, .unit, true, false⟩,
 ⟨.func, 1, 8, .nilf, .unit, true, false⟩,
 ⟨.strct [(0, 61), (1, 3), (2, 22)], 3, 56, (.agg [(.list (.pair (.int .i64) (.pair (.int .i64) (.pair (.slice (.int .i64)) (.slice (.int .i64))))) (([] : List (Int × (Int × ((List Int) × (List Int)))))) .exact), (.int .i64 (0 : Int)), (.list (.int .i64) ([] : List Int) .exact)]), (.pair (.slice (.pair (.int .i64) (.pair (.int .i64) (.pair (.slice (.int .i64)) (.slice (.int .i64)))))) (.pair (.int .i64) (.slice (.int .i64)))), true, true⟩,
 ⟨.strct [(0, 61), (1, 3), (2, 22)], 3, 56, (.agg [(.list (.pair (.int .i64) (.pair (.int .i64) (.pair (.slice (.int .i64)) (.slice (.int .i64))))) (([] : List (Int × (Int × ((List Int) × (List Int)))))) .exact), (.int .i64 (0 : Int)), (.list (.int .i64) ([] : List Int) .exact)]), (.pair (.slice (.pair (.int .i64) (.pair (.int .i64) (.pair (.slice (.int .i64)) (.slice (.int .i64)))))) (.pair (.int .i64) (.slice (.int .i64)))), true, true⟩,
 ⟨.func, 1, 8, .nilf, .unit, true, false⟩,
 ⟨.func, 1, 8, .nilf, .unit, true, false⟩,
 ⟨.func, 1, 8, .nilf, .unit, true, false⟩,
 ⟨.func, 1, 8, .nilf, .unit, true, false⟩,
 ⟨.other, 0, 0, .undef, .unit, false, false⟩,
 ⟨.func, 1, 8, .nilf, .unit, true, false⟩,
 ⟨.strct [(0, 9), (1, 5)], 2, 24, (.agg [(.str ([] : List UInt8)), (.int .u8 (0 : Int))]), (.pair .str (.int .u8)), true, true⟩,
 ⟨.strct [(0, 9), (1, 5)], 2, 24, (.agg [(.str ([] : List UInt8)), (.int .u8 (0 : Int))]), (.pair .str (.int .u8)), true, true⟩,
 ⟨.arr 64 103, 128, 1536, (V.agg (List.cons (V.str ([] : List UInt8)) (List.cons (V.int IntKind.u8 (0 : Int)) (List.cons (V.str ([] : List UInt8)) (List.cons (V.int IntKind.u8 (0 : Int)) (List.cons (V.str ([] : List UInt8)) (List.cons (V.int IntKind.u8 (0 : Int)) (List.cons (V.str ([] : List UInt8)) (List.cons (V.int IntKind.u8 (0 : Int)) (List.cons (V.str ([] : List UInt8)) (List.cons (V.int IntKind.u8 (0 : Int)) (List.cons (V.str ([] : List UInt8)) (List.cons (V.int IntKind.u8 (0 : Int)) (List.cons (V.str ([] : List UInt8)) (List.cons (V.int IntKind.u8 (0 : Int)) (List.cons (V.str ([] : List UInt8)) (List.cons (V.int IntKind.u8 (0 : Int)) (List.cons (V.str ([] : List UInt8)) (List.cons (V.int IntKind.u8 (0 : Int)) (List.cons (V.str ([] : List UInt8)) (List.cons (V.int IntKind.u8 (0 : Int)) (List.cons (V.str ([] : List UInt8)) (List.cons (V.int IntKind.u8 (0 : Int)) (List.cons (V.str ([] : List UInt8)) (List.cons (V.int IntKind.u8 (0 : Int)) (List.cons (V.str ([] : List UInt8)) (List.cons (V.int IntKind.u8 (0 : Int)) (List.cons (V.str ([] : List UInt8)) (List.cons (V.int IntKind.u8 (0 : Int)) (List.cons (V.str ([] : List UInt8)) (List.cons (V.int IntKind.u8 (0 : Int)) (List.cons (V.str ([] : List UInt8)) (List.cons (V.int IntKind.u8 (0 : Int)) (List.cons (V.str ([] : List UInt8)) (List.cons (V.int IntKind.u8 (0 : Int)) (List.cons (V.str ([] : List UInt8)) (List.cons (V.int IntKind.u8 (0 : Int)) (List.cons (V.str ([] : List UInt8)) (List.cons (V.int IntKind.u8 (0 : Int)) (List.cons (V.str ([] : List UInt8)) (List.cons (V.int IntKind.u8 (0 : Int)) (List.cons (V.str ([] : List UInt8)) (List.cons (V.int IntKind.u8 (0 : Int)) (List.cons (V.str ([] : List UInt8)) (List.cons (V.int IntKind.u8 (0 : Int)) (List.cons (V.str ([] : List UInt8)) (List.cons (V.int IntKind.u8 (0 : Int)) (List.cons (V.str ([] : List UInt8)) (List.cons (V.int IntKind.u8 (0 : Int)) (List.cons (V.str ([] : List UInt8)) (List.cons (V.int IntKind.u8 (0 : Int)) (List.cons (V.str ([] : List UInt8)) (List.cons (V.int IntKind.u8 (0 : Int)) (List.cons (V.str ([] : List UInt8)) (List.cons (V.int IntKind.u8 (0 : Int)) (List.cons (V.str ([] : List UInt8)) (List.cons (V.int IntKind.u8 (0 : Int)) (List.cons (V.str ([] : List UInt8)) (List.cons (V.int IntKind.u8 (0 : Int)) (List.cons (V.str ([] : List UInt8)) (List.cons (V.int IntKind.u8 (0 : Int)) (List.cons (V.str ([] : List UInt8)) (List.cons (V.int IntKind.u8 (0 : Int)) (List.cons (V.str ([] : List UInt8)) (List.cons (V.int IntKind.u8 (0 : Int)) (List.cons (V.str ([] : List UInt8)) (List.cons (V.int IntKind.u8 (0 : Int)) (List.cons (V.str ([] : List UInt8)) (List.cons (V.int IntKind.u8 (0 : Int)) (List.cons (V.str ([] : List UInt8)) (List.cons (V.int IntKind.u8 (0 : Int)) (List.cons (V.str ([] : List UInt8)) (List.cons (V.int IntKind.u8 (0 : Int)) (List.cons (V.str ([] : List UInt8)) (List.cons (V.int IntKind.u8 (0 : Int)) (List.cons (V.str ([] : List UInt8)) (List.cons (V.int IntKind.u8 (0 : Int)) (List.cons (V.str ([] : List UInt8)) (List.cons (V.int IntKind.u8 (0 : Int)) (List.cons (V.str ([] : List UInt8)) (List.cons (V.int IntKind.u8 (0 : Int)) (List.cons (V.str ([] : List UInt8)) (List.cons (V.int IntKind.u8 (0 : Int)) (List.cons (V.str ([] : List UInt8)) (List.cons (V.int IntKind.u8 (0 : Int)) (List.cons (V.str ([] : List UInt8)) (List.cons (V.int IntKind.u8 (0 : Int)) (List.cons (V.str ([] : List UInt8)) (List.cons (V.int IntKind.u8 (0 : Int)) (List.cons (V.str ([] : List UInt8)) (List.cons (V.int IntKind.u8 (0 : Int)) (List.cons (V.str ([] : List UInt8)) (List.cons (V.int IntKind.u8 (0 : Int)) (List.cons (V.str ([] : List UInt8)) (List.cons (V.int IntKind.u8 (0 : Int)) (List.cons (V.str ([] : List UInt8)) (List.cons (V.int IntKind.u8 (0 : Int)) (List.cons (V.str ([] : List UInt8)) (List.cons (V.int IntKind.u8 (0 : Int)) (List.cons (V.str ([] : List UInt8)) (List.cons (V.int IntKind.u8 (0 : Int)) (List.cons (V.str ([] : List UInt8)) (List.cons (V.int IntKind.u8 (0 : Int)) (List.cons (V.str ([] : List UInt8)) (List.cons (V.int IntKind.u8 (0 : Int)) (List.cons (V.str ([] : List UInt8)) (List.cons (V.int IntKind.u8 (0 : Int)) (List.cons (V.str ([] : List UInt8)) (List.cons (V.int IntKind.u8 (0 : Int)) (List.cons (V.str ([] : List UInt8)) (List.cons (V.int IntKind.u8 (0 : Int)) (List.cons (V.str ([] : List UInt8)) (List.cons (V.int IntKind.u8 (0 : Int)) (List.cons (V.str ([] : List UInt8)) (List.cons (V.int IntKind.u8 (0 : Int)) (List.cons (V.str ([] : List UInt8)) (List.cons (V.int IntKind.u8 (0 : Int)) (List.cons (V.str ([] : List UInt8)) (List.cons (V.int IntKind.u8 (0 : Int)) (List.cons (V.str ([] : List UInt8)) (List.cons (V.int IntKind.u8 (0 : Int)) (List.cons (V.str ([] : List UInt8)) (List.cons (V.int IntKind.u8 (0 : Int)) (List.cons (V.str ([] : List UInt8)) (List.cons (V.int IntKind.u8 (0 : Int)) (List.cons (V.str ([] : List UInt8)) (List.cons (V.int IntKind.u8 (0 : Int)) (List.cons (V.str ([] : List UInt8)) (List.cons (V.int IntKind.u8 (0 : Int)) ([] : List V)))))))))))))))))))))))))))))))))))))))))))))))))))))))))))))))))))))))))))))))))))))))))))))))))))))))))))))))))))))))))))))))))), .unit, true, false⟩,
 ⟨.func, 1, 8, .nilf, .unit, true, false⟩,
 ⟨.slice 9, 1, 24, (.list .str (([] : List (List UInt8))) .exact), (.slice .str), true, true⟩,
 ⟨.func, 1, 8, .nilf, .unit, true, false⟩,
 ⟨.other, 0, 0, .undef, .unit, false, false⟩,
 ⟨.func, 1, 8, .nilf, .unit, true, false⟩,
 ⟨.func, 1, 8, .nilf, .unit, true, false⟩,
 ⟨.other, 0, 0, .undef, .unit, false, false⟩,
 ⟨.func, 1, 8, .nilf, .unit, true, false⟩,
 ⟨.func, 1, 8, .nilf, .unit, true, false⟩,
 ⟨.func, 1, 8, .nilf, .unit, true, false⟩,
 ⟨.func, 1, 8, .nilf, .unit, true, false⟩,
 ⟨.func, 1, 8, .nilf, .unit, true, false⟩,
 ⟨.func, 1, 8, .nilf, .unit, true, false⟩,
 ⟨.func, 1, 8, .nilf, .unit, true, false⟩,
 ⟨.func, 1, 8, .nilf, .unit, true, false⟩,
 ⟨.func, 1, 8, .nilf, .unit, true, false⟩,
 ⟨.func, 1, 8, .nilf, .unit, true, false⟩,
 ⟨.func, 1, 8, .nilf, .unit, true, false⟩,
 ⟨.func, 1, 8, .nilf, .unit, true, false⟩,
 ⟨.func, 1, 8, .nilf, .unit, true, false⟩,
 ⟨.func, 1, 8, .nilf, .unit, true, false⟩,
 ⟨.other, 0, 0, .undef, .unit, false, false⟩,
 ⟨.func, 1, 8, .nilf, .unit, true, false⟩,
 ⟨.func, 1, 8, .nilf, .unit, true, false⟩,
 ⟨.other, 0, 0, .undef, .unit, false, false⟩,
 ⟨.func, 1, 8, .nilf, .unit, true, false⟩,
 ⟨.func, 1, 8, .nilf, .unit, true, false⟩,
 ⟨.ptr 3, 1, 8, .nilp, .unit, true, false⟩,
 ⟨.map 3 3, 1, 8, .nilm, .unit, true, false⟩,
 ⟨.func, 1, 8, .nilf, .unit, true, false⟩,
 ⟨.func, 1, 8, .nilf, .unit, true, false⟩,
 ⟨.slice 4, 1, 24, (.list .bool ([] : List Bool) .exact), (.slice .bool), true, true⟩,
 ⟨.func, 1, 8, .nilf, .unit, true, false⟩,
 ⟨.func, 1, 8, .nilf, .unit, true, false⟩,
 ⟨.int .u64, 1, 8, (.int .u64 (0 : Int)), (.int .u64), true, true⟩,
 ⟨.func, 1, 8, .nilf, .unit, true, false⟩,
 ⟨.func, 1, 8, .nilf, .unit, true, false⟩,
 ⟨.slice 132, 1, 24, .nils, .unit, true, false⟩,
 ⟨.func, 1, 8, .nilf, .unit, true, false⟩,
 ⟨.func, 1, 8, .nilf, .unit, true, false⟩,
 ⟨.func, 1, 8, .nilf, .unit, true, false⟩,
 ⟨.func, 1, 8, .nilf, .unit, true, false⟩,
 ⟨.func, 1, 8, .nilf, .unit, true, false⟩,
 ⟨.int .i64, 1, 8, (.int .i64 (0 : Int)), (.int .i64), true, true⟩,
 ⟨.other, 0, 0, .undef, .unit, false, false⟩,
 ⟨.func, 1, 8, .nilf, .unit, true, false⟩,
 ⟨.func, 1, 8, .nilf, .unit, true, false⟩,
 ⟨.func, 1, 8, .nilf, .unit, true, false⟩,
 ⟨.func, 1, 8, .nilf, .unit, true, false⟩,
 ⟨.func, 1, 8, .nilf, .unit, true, false⟩,
 ⟨.int .u32, 1, 4, (.int .u32 (0 : Int)), (.int .u32), true, true⟩,
 ⟨.func, 1, 8, .nilf, .unit, true, false⟩,
 ⟨.int .u64, 1, 8, (.int .u64 (0 : Int)), (.int .u64), true, true⟩,
 ⟨.int .u64, 1, 8, (.int .u64 (0 : Int)), (.int .u64), true, true⟩,
 ⟨.func, 1, 8, .nilf, .unit, true, false⟩,
 ⟨.func, 1, 8, .nilf, .unit, true, false⟩,
 ⟨.func, 1, 8, .nilf, .unit, true, false⟩,
 ⟨.func, 1, 8, .nilf, .unit, true, false⟩,
 ⟨.ptr 158, 1, 8, .nilp, .unit, true, false⟩,
 ⟨.other, 0, 0, .undef, .unit, false, false⟩,
 ⟨.func, 1, 8, .nilf, .unit, true, false⟩,
 ⟨.func, 1, 8, .nilf, .unit, true, false⟩,
 ⟨.strct [(0, 17), (1, 17), (2, 17), (3, 9)], 4, 40, (.agg [.nilp, .nilp, .nilp, (.str ([] : List UInt8))]), .unit, true, false⟩,
 ⟨.strct [(0, 17), (1, 17), (2, 17), (3, 9)], 4, 40, (.agg [.nilp, .nilp, .nilp, (.str ([] : List UInt8))]), .unit, true, false⟩,
 ⟨.arr 0 16, 0, 0, (.agg []), .unit, true, false⟩,
 ⟨.strct [(0, 169)], 0, 0, (.agg []), .unit, true, false⟩,
 ⟨.strct [(0, 169)], 0, 0, (.agg []), .unit, true, false⟩,
 ⟨.int .u8, 1, 1, (.int .u8 (0 : Int)), (.int .u8), true, true⟩,
 ⟨.int .u8, 1, 1, (.int .u8 (0 : Int)), (.int .u8), true, true⟩,
 ⟨.func, 1, 8, .nilf, .unit, true, false⟩,
 ⟨.ptr 5, 1, 8, .nilp, .unit, true, false⟩,
 ⟨.int .i32, 1, 4, (.int .i32 (0 : Int)), (.int .i32), true, true⟩,
 ⟨.int .i32, 1, 4, (.int .i32 (0 : Int)), (.int .i32), true, true⟩,
 ⟨.strct [(0, 12), (1, 12), (2, 155), (3, 172), (4, 5), (5, 5), (6, 173), (7, 174), (8, 175), (9, 176), (10, 177)], 11, 48, (.agg [(.int .u64 (0 : Int)), (.int .u64 (0 : Int)), (.int .u32 (0 : Int)), (.int .u8 (0 : Int)), (.int .u8 (0 : Int)), (.int .u8 (0 : Int)), (.int .u8 (0 : Int)), .nilf, .nilp, (.int .i32 (0 : Int)), (.int .i32 (0 : Int))]), .unit, true, false⟩,
 ⟨.strct [(0, 12), (1, 12), (2, 155), (3, 172), (4, 5), (5, 5), (6, 173), (7, 174), (8, 175), (9, 176), (10, 177)], 11, 48, (.agg [(.int .u64 (0 : Int)), (.int .u64 (0 : Int)), (.int .u32 (0 : Int)), (.int .u8 (0 : Int)), (.int .u8 (0 : Int)), (.int .u8 (0 : Int)), (.int .u8 (0 : Int)), .nilf, .nilp, (.int .i32 (0 : Int)), (.int .i32 (0 : Int))]), .unit, true, false⟩,
 ⟨.other, 0, 0, .undef, .unit, false, false⟩]
theorem tt_ok : TTOK Try.prog tt := ttok_of (by kernel_rfl)
abbrev yZ1 : Xd := (.pair (.sl (.pure (.pair (.int .i64) (.pair (.int .i64) (.pair (.slice (.int .i64)) (.slice (.int .i64))))))) (.pair (.pure (.int .i64)) (.pure (.int .i64))))
abbrev yZ3 : Xd := (.pair (.sl (.pure (.pair (.int .i64) (.pair (.int .i64) (.pair (.slice (.int .i64)) (.slice (.int .i64))))))) (.pair (.pure (.int .i64)) (.sl (.pure (.int .i64)))))
abbrev yZ0 : Xd := (.pair (.sl yZ1) (.pair (.sl (.pure (.int .i64))) (.sl (.pure (.int .i64)))))
abbrev yZ2 : Xd := (.pair (.mp (.int .i64) (.ref yZ3)) (.pair (.pure (.int .i64)) (.pair (.pure (.int .i64)) (.sl (.pure (.int .i64))))))
end Go.Proofs.Ytaaedebknacheaa.AB

namespace Go.Proofs.Ytaaedebknacheaa.AB
open Go


abbrev Fr : Type := Int × (Int × (List Int × List Int))
abbrev cI : Xd := .pure (.int .i64)
abbrev cF : Xd := .pure (.pair (.int .i64) (.pair (.int .i64) (.pair (.slice (.int .i64)) (.slice (.int .i64)))))

structure Ab where
  id : Int
  st : Int
  frames : List Fr
  joins : List Int

structure MT where
  last : Int
  run : Int
  queue : List Int
  rows : List Ab

structure Thr extends Ab where
  h : Nat
  fr : Option SlH
  jn : Option SlH

structure DT where
  hm : Nat
  last : Int
  run : Int
  q : Option SlH
  queue : List Int
  rows : List Thr

def DT.ab (d : DT) : MT := ⟨d.last, d.run, d.queue, d.rows.map (·.toAb)⟩

def Thr.hs (r : Thr) : List Nat := r.h :: (hl r.fr ++ hl r.jn)
def DT.hs (d : DT) : List Nat := d.hm :: (hl d.q ++ d.rows.flatMap Thr.hs)

def ents (l : List Thr) : List (Int × Option Nat) := l.map fun r => (r.id, some r.h)

structure ThrAt (X : XH) (r : Thr) : Prop where
  box : Box X yZ3 r.h (r.fr, (r.st, r.jn))
  fr : SlAt X cF r.fr r.frames
  jn : SlAt X cI r.jn r.joins

structure Rep (X : XH) (t : Nat) (d : DT) : Prop where
  box : Box X yZ2 t (some d.hm, (d.last, (d.run, d.q)))
  map : X.at d.hm = some (.map (.int .i64) (.ref yZ3) (ents d.rows))
  q : SlAt X cI d.q d.queue
  rows : ∀ r ∈ d.rows, ThrAt X r
  ids : (d.rows.map (·.id)).Nodup
  sep : (t :: d.hs).Nodup

variable {X X' : XH} {t : Nat} {d : DT}

theorem ThrAt.keep {r : Thr} (h : ThrAt X r) (e : ∀ k ∈ r.hs, X'.at k = X.at k) : ThrAt X' r :=
  ⟨h.box.keep (e _ (List.mem_cons_self ..)), h.fr.keep fun k hk => e k (List.mem_cons_of_mem _ (List.mem_append_left _ hk)),
   h.jn.keep fun k hk => e k (List.mem_cons_of_mem _ (List.mem_append_right _ hk))⟩

theorem ThrAt.lt {r : Thr} (h : ThrAt X r) : ∀ k ∈ r.hs, k < X.n := by
  intro k hk
  rcases List.mem_cons.1 hk with rfl | hk
  · exact h.box.lt
  · rcases List.mem_append.1 hk with hk | hk
    · exact h.fr.lt k hk
    · exact h.jn.lt k hk

theorem Rep.mp (h : Rep X t d) : X.vmp (.int .i64) (.ref yZ3) (some d.hm) = some (ents d.rows) := mp_at.2 h.map

theorem Rep.lt (h : Rep X t d) : ∀ k ∈ t :: d.hs, k < X.n := by
  intro k hk
  rcases List.mem_cons.1 hk with rfl | hk
  · exact h.box.lt
  · rcases List.mem_cons.1 hk with rfl | hk
    · exact at_lt h.map
    · rcases List.mem_append.1 hk with hk | hk
      · exact h.q.lt k hk
      · obtain ⟨r, hr, hk⟩ := List.mem_flatMap.1 hk
        exact (h.rows r hr).lt k hk

theorem nodup_swap {A B S S' : List Nat} {n : Nat} (h : (A ++ S ++ B).Nodup) (hlt : ∀ k ∈ A ++ B, k < n) (hS : S'.Nodup) (ho : ∀ k ∈ S', k ∈ S ∨ n ≤ k) : (A ++ S' ++ B).Nodup := by
  rw [List.append_assoc, List.nodup_append] at h ⊢
  obtain ⟨h1, h2, h3⟩ := h
  rw [List.nodup_append] at h2 ⊢
  obtain ⟨h4, h5, h6⟩ := h2
  refine ⟨h1, ⟨hS, h5, fun a ha b hb e => ?_⟩, fun a ha b hb e => ?_⟩
  · subst e
    rcases ho a ha with q | q
    · exact h6 a q a hb rfl
    · have := hlt a (List.mem_append_right _ hb); omega
  · subst e
    rcases List.mem_append.1 hb with q | q
    · rcases ho a q with q' | q'
      · exact h3 a ha a (List.mem_append_left _ q') rfl
      · have := hlt a (List.mem_append_left _ ha); omega
    · exact h3 a ha a (List.mem_append_right _ q) rfl

theorem hl_nodup (x : Option SlH) : (hl x).Nodup := by cases x <;> simp [hl]

theorem Rep.tab (h : Rep X t d) {last run : Int} {q : Option SlH} {queue : List Int} (mv : Mv X (t :: hl d.q) X' (t :: hl q)) (hq : ∀ k ∈ hl q, k ∈ hl d.q ∨ X.n ≤ k)
    (box : Box X' yZ2 t (some d.hm, (last, (run, q)))) (sq : SlAt X' cI q queue) :
    Rep X' t ⟨d.hm, last, run, q, queue, d.rows⟩ ∧ Mv X (t :: d.hs) X' (t :: DT.hs ⟨d.hm, last, run, q, queue, d.rows⟩) := by
  have hlt := h.lt
  have hs := h.sep
  have e0 : t :: d.hs = [t, d.hm] ++ hl d.q ++ d.rows.flatMap Thr.hs := by simp [DT.hs]
  have e1 : t :: DT.hs ⟨d.hm, last, run, q, queue, d.rows⟩ = [t, d.hm] ++ hl q ++ d.rows.flatMap Thr.hs := by simp [DT.hs]
  have hs0 := hs
  rw [e0, List.append_assoc, List.nodup_append] at hs0
  obtain ⟨s1, s2, s3⟩ := hs0
  rw [List.nodup_append] at s2
  have hout : ∀ k, k ∈ d.hm :: d.rows.flatMap Thr.hs → k ∉ t :: hl d.q ∧ k < X.n := by
    intro k hk
    rcases List.mem_cons.1 hk with rfl | hk
    · refine ⟨fun e => ?_, at_lt h.map⟩
      rcases List.mem_cons.1 e with e | e
      · rw [e] at s1; simp at s1
      · exact s3 _ (by simp) _ (List.mem_append_left _ e) rfl
    · refine ⟨fun e => ?_, hlt k (by rw [e0]; exact List.mem_append_right _ hk)⟩
      rcases List.mem_cons.1 e with e | e
      · subst e; exact s3 _ (List.mem_cons_self ..) _ (List.mem_append_right _ hk) rfl
      · exact s2.2.2 _ e _ hk rfl
  refine ⟨⟨box, ?_, sq, fun r hr => ?_, h.ids, ?_⟩, ?_⟩
  · have := hout d.hm (List.mem_cons_self ..)
    exact (mv.keep _ this.2 this.1).trans h.map
  · refine (h.rows r hr).keep fun k hk => ?_
    have := hout k (List.mem_cons_of_mem _ (List.mem_flatMap.2 ⟨r, hr, hk⟩))
    exact mv.keep _ this.2 this.1
  · rw [e1]
    rw [e0] at hs
    refine nodup_swap (n := X.n) hs (fun k hk => ?_) (hl_nodup q) hq
    rcases List.mem_append.1 hk with hk | hk
    · exact hlt k (by rw [e0]; exact List.mem_append_left _ (List.mem_append_left _ hk))
    · exact hlt k (by rw [e0]; exact List.mem_append_right _ hk)
  · refine mv.weak (fun k hk => ?_) (fun k hk => ?_)
    · rw [e0]
      rcases List.mem_cons.1 hk with rfl | hk
      · simp
      · exact List.mem_append_left _ (List.mem_append_right _ hk)
    · rw [e1] at hk
      rw [e0]
      rcases List.mem_append.1 hk with hk | hk
      · rcases List.mem_append.1 hk with hk | hk
        · exact .inr (List.mem_append_left _ (List.mem_append_left _ hk))
        · exact .inl (List.mem_cons_of_mem _ hk)
      · exact .inr (List.mem_append_right _ hk)

theorem Rep.row (h : Rep X t d) {l1 l2 : List Thr} {r r' : Thr} (hd : d.rows = l1 ++ r :: l2) (hid : r'.id = r.id) (hh : r'.h = r.h) (mv : Mv X r.hs X' r'.hs) (hn : r'.hs.Nodup) (hr : ThrAt X' r') :
    Rep X' t ⟨d.hm, d.last, d.run, d.q, d.queue, l1 ++ r' :: l2⟩ ∧ Mv X (t :: d.hs) X' (t :: DT.hs ⟨d.hm, d.last, d.run, d.q, d.queue, l1 ++ r' :: l2⟩) := by
  have hlt := h.lt
  have hs := h.sep
  have e0 : t :: d.hs = (t :: d.hm :: (hl d.q ++ l1.flatMap Thr.hs)) ++ r.hs ++ l2.flatMap Thr.hs := by simp [DT.hs, hd]
  have e1 : t :: DT.hs ⟨d.hm, d.last, d.run, d.q, d.queue, l1 ++ r' :: l2⟩ = (t :: d.hm :: (hl d.q ++ l1.flatMap Thr.hs)) ++ r'.hs ++ l2.flatMap Thr.hs := by simp [DT.hs]
  have hs0 := hs
  rw [e0, List.append_assoc, List.nodup_append] at hs0
  obtain ⟨s1, s2, s3⟩ := hs0
  rw [List.nodup_append] at s2
  have hA : ∀ k, k ∈ t :: d.hm :: (hl d.q ++ l1.flatMap Thr.hs) → X'.at k = X.at k := fun k hk =>
    mv.keep k (hlt k (by rw [e0]; exact List.mem_append_left _ (List.mem_append_left _ hk))) fun e => s3 k hk k (List.mem_append_left _ e) rfl
  have hB : ∀ k, k ∈ l2.flatMap Thr.hs → X'.at k = X.at k := fun k hk =>
    mv.keep k (hlt k (by rw [e0]; exact List.mem_append_right _ hk)) fun e => s2.2.2 k e k hk rfl
  refine ⟨⟨h.box.keep (hA _ (by simp)), ?_, h.q.keep fun k hk => hA k (by simp [hk]), fun x hx => ?_, ?_, ?_⟩, ?_⟩
  · refine (hA _ (by simp)).trans (h.map.trans ?_)
    rw [hd]; simp [ents, hid, hh]
  · rcases List.mem_append.1 hx with hx | hx
    · refine (h.rows x (by rw [hd]; simp [hx])).keep fun k hk => hA k ?_
      simp only [List.mem_cons, List.mem_append, List.mem_flatMap]
      exact .inr (.inr (.inr ⟨x, hx, hk⟩))
    · rcases List.mem_cons.1 hx with rfl | hx
      · exact hr
      · exact (h.rows x (by rw [hd]; simp [hx])).keep fun k hk => hB k (List.mem_flatMap.2 ⟨x, hx, hk⟩)
  · have := h.ids
    rw [hd] at this
    simpa [hid] using this
  · rw [e1]
    rw [e0] at hs
    refine nodup_swap (n := X.n) hs (fun k hk => ?_) hn mv.own
    rcases List.mem_append.1 hk with hk | hk
    · exact hlt k (by rw [e0]; exact List.mem_append_left _ (List.mem_append_left _ hk))
    · exact hlt k (by rw [e0]; exact List.mem_append_right _ hk)
  · refine mv.weak (fun k hk => ?_) (fun k hk => ?_)
    · rw [e0]; exact List.mem_append_left _ (List.mem_append_right _ hk)
    · rw [e1] at hk
      rw [e0]
      rcases List.mem_append.1 hk with hk | hk
      · rcases List.mem_append.1 hk with hk | hk
        · exact .inr (List.mem_append_left _ (List.mem_append_left _ hk))
        · exact .inl hk
      · exact .inr (List.mem_append_right _ hk)

theorem keq_int (a b : Int) : Cd.keq (.int .i64) a b = decide (a = b) := rfl

theorem rows_split {l : List Thr} {id : Int} (h : ∃ r ∈ l, r.id = id) : ∃ l1 r l2, l = l1 ++ r :: l2 ∧ r.id = id ∧ (∀ x ∈ l1, x.id ≠ id) ∧ mfind (Cd.keq (.int .i64) id) (ents l) = some (some r.h) := by
  induction l with
  | nil => obtain ⟨r, hr, _⟩ := h; cases hr
  | cons a l ih =>
    by_cases e : id = a.id
    · exact ⟨[], a, l, rfl, e.symm, by simp, by simp [ents, mfind, keq_int, e]⟩
    · obtain ⟨r, hr, hid⟩ := h
      have hrl : r ∈ l := by
        rcases List.mem_cons.1 hr with rfl | hr
        · exact absurd hid.symm e
        · exact hr
      obtain ⟨l1, r', l2, h1, h2, h3, h4⟩ := ih ⟨r, hrl, hid⟩
      refine ⟨a :: l1, r', l2, by rw [h1]; rfl, h2, ?_, ?_⟩
      · intro x hx
        rcases List.mem_cons.1 hx with rfl | hx
        · exact fun q => e q.symm
        · exact h3 x hx
      · rw [← h4]; simp [ents, mfind, keq_int, e]

theorem rows_none {l : List Thr} {id : Int} (h : ∀ r ∈ l, r.id ≠ id) : mfind (Cd.keq (.int .i64) id) (ents l) = none := by
  induction l with
  | nil => rfl
  | cons a l ih =>
    have e : ¬ id = a.id := fun e => h a (List.mem_cons_self ..) e.symm
    rw [← ih fun r hr => h r (List.mem_cons_of_mem _ hr)]
    simp [ents, mfind, keq_int, e]

end Go.Proofs.Ytaaedebknacheaa.AB

namespace Go.Proofs.Ytaaedebknacheaa.AB
open Go

theorem mix : Try.prog.follows .mixedOrders = true := by kernel_rfl

theorem pcOf {X : Cx} (hX : X.tt = tt) (hfn : fnsB Try.prog X.fns) {d : Nat} {f : FuncId} {fn : Func} (hf : Try.prog.funcs[f]? = some fn) (hname : fn.name ≠ "runtime.NumGoroutine") {args : List V} {r : V}
  (h : fnK X.tt (callN Try.prog X d) (X.md f) (X.mk1 f) fn (args.map .v) ⟨[], [], ⟨0, []⟩⟩ (topK fun v => v.norm = r ∧ r.nt = true)) : PC Try.prog f args r := by
 have htt : TTOK Try.prog X.tt := by rw [hX]; exact tt_ok
 exact PC.of htt (callN_sound htt mix (fun f fn => fnsB_spec hfn f fn) d) (callN_det d) mix hf hname h

theorem lawOf {X : Cx} (hX : X.tt = tt) (hfn : fnsB Try.prog X.fns) {d : Nat} {f : FuncId} {fn : Func} (hf : Try.prog.funcs[f]? = some fn) (hname : fn.name ≠ "runtime.NumGoroutine") {args : List V} {r : V}
  (h : fnK X.tt (callN Try.prog X d) (X.md f) (X.mk1 f) fn (args.map .v) ⟨[], [some (.heap XH.none)], ⟨0, []⟩⟩ (topK fun v => v.norm = r ∧ r.nt = true)) : PC Try.prog f args r := by
 have htt : TTOK Try.prog X.tt := by rw [hX]; exact tt_ok
 exact PC.ofX htt (callN_sound htt mix (fun f fn => fnsB_spec hfn f fn) d) (callN_det d) mix hf hname h

theorem xcOf {X : Cx} (hX : X.tt = tt) (hfn : fnsB Try.prog X.fns) {d : Nat} {f : FuncId} {fn : Func} (hf : Try.prog.funcs[f]? = some fn) (hname : fn.name ≠ "runtime.NumGoroutine") {cs : List Xd} {args : List TV} {H : XH}
  {Q : xresT cs → XH → Prop} (h : fnK X.tt (callN Try.prog X d) (X.md f) (X.mk1 f) fn args ⟨[], [some (.heap H)], ⟨0, []⟩⟩ (xfin cs Q)) : XC Try.prog f cs args H Q := by
 have htt : TTOK Try.prog X.tt := by rw [hX]; exact tt_ok
 exact XC.of htt (callN_sound htt mix (fun f fn => fnsB_spec hfn f fn) d) (callN_det d) mix hf hname h

theorem wrap64 {x : Int} (h1 : -9223372036854775808 ≤ x) (h2 : x ≤ 9223372036854775807) : IntKind.wrap .i64 x = x := by
 have e : IntKind.wrap .i64 x = (if 9223372036854775808 ≤ x % 18446744073709551616 then x % 18446744073709551616 - 18446744073709551616 else x % 18446744073709551616) := by
  simp [IntKind.wrap, IntKind.bits, IntKind.signed]
 rw [e]
 split <;> omega

theorem take_succ_eq {α : Type} [DecidableEq α] {a b : List α} {n : Nat} {d : α} (h : a.take n = b.take n) (hn : n < a.length) (hm : n < b.length) (he : a.getD n d = b.getD n d) : a.take (n + 1) = b.take (n + 1) := by
 rw [List.take_succ_eq_append_getElem hn, List.take_succ_eq_append_getElem hm, h]
 simp only [List.getD, List.getElem?_eq_getElem hn, List.getElem?_eq_getElem hm, Option.getD_some] at he
 rw [he]

def Tok.fresh (t : Tok) (T : Toks) : Prop :=
 match t with
 | .no => False
 | .exact => True
 | .tk n => n ∈ T.l ∧ n < T.n

def Tok.ne (t u : Tok) : Prop :=
 match t, u with
 | .tk a, .tk b => a ≠ b
 | _, _ => True

theorem Tok.fresh.own {t : Tok} {T : Toks} (h : t.fresh T) : t.own T.l := by
 cases t with
 | no => exact h
 | exact => trivial
 | tk n => exact h.1

theorem Tok.fresh.up {t : Tok} {n m : Nat} {l : List Nat} (h : t.fresh ⟨n, l⟩) (hm : n ≤ m) : t.fresh ⟨m, l⟩ := by
 cases t with
 | no => exact h
 | exact => trivial
 | tk k => exact ⟨h.1, Nat.lt_of_lt_of_le h.2 hm⟩

theorem Tok.fresh_new (n : Nat) (l : List Nat) : (Tok.tk n).fresh ⟨n + 1, n :: l⟩ := ⟨by simp, Nat.lt_succ_self _⟩

theorem Tok.fresh.keep {t u : Tok} {T : Toks} (h : t.fresh T) (hne : u.ne t) : t.fresh ⟨T.n + 1, T.n :: u.drop T.l⟩ := by
 cases t with
 | no => exact h
 | exact => trivial
 | tk n =>
  refine ⟨List.mem_cons_of_mem _ ?_, Nat.lt_succ_of_lt h.2⟩
  cases u with
  | no => exact h.1
  | exact => exact h.1
  | tk m =>
   show n ∈ List.filter _ _
   rw [List.mem_filter]
   exact ⟨h.1, by simpa using fun e : n = m => hne e.symm⟩

theorem Tok.fresh.ne_new {t : Tok} {T : Toks} (h : t.fresh T) : t.ne (.tk T.n) := by
 cases t with
 | no => exact h.elim
 | exact => trivial
 | tk n => exact Nat.ne_of_lt h.2

theorem Tok.fresh.new_ne {t : Tok} {T : Toks} (h : t.fresh T) : (Tok.tk T.n).ne t := by
 cases t with
 | no => exact h.elim
 | exact => trivial
 | tk n => exact Nat.ne_of_gt h.2

def FrT (ts : Nat → Tok) (T : Toks) : Prop := (∀ j, (ts j).fresh T) ∧ ∀ i j, i ≠ j → (ts i).ne (ts j)

theorem FrT.exact (T : Toks) : FrT (fun _ => .exact) T := ⟨fun _ => trivial, fun _ _ _ => trivial⟩

theorem FrT.upd {ts : Nat → Tok} {T : Toks} (h : FrT ts T) (i : Nat) : FrT (fun j => if j = i then .tk T.n else ts j) ⟨T.n + 1, T.n :: (ts i).drop T.l⟩ := by
 refine ⟨fun j => ?_, fun j k hjk => ?_⟩
 ·by_cases e : j = i
  ·simp only [e, if_true]; exact Tok.fresh_new _ _
  ·simp only [e, if_false]; exact (h.1 j).keep (h.2 i j (fun e' => e e'.symm))
 ·by_cases e : j = i
  ·by_cases e' : k = i
   ·exact absurd (e.trans e'.symm) hjk
   ·simp only [e, e', if_true, if_false]; exact (h.1 k).new_ne
  ·by_cases e' : k = i
   ·simp only [e, e', if_true, if_false]; exact (h.1 j).ne_new
   ·simp only [e, e', if_false]; exact h.2 j k hjk

end Go.Proofs.Ytaaedebknacheaa.AB

namespace Go.Proofs.Ytaaedebknacheaa.AB
open Go


def updAb (id : Int) (f : Ab → Ab) (l : List Ab) : List Ab := l.map fun a => if a.id = id then f a else a

def MT.set (m : MT) (id : Int) (s : Int) : MT := { m with rows := updAb id (fun a => { a with st := s }) m.rows }
def MT.ready (m : MT) (id : Int) : MT := { m.set id 1 with queue := m.queue ++ [id] }
def MT.rest (m : MT) (s : Int) : MT := { m.set m.run s with run := 0 }
def MT.next (m : MT) (k : Nat) : MT := { m.set (m.queue.getD k 0) 2 with run := m.queue.getD k 0, queue := m.queue.eraseIdx k }
def MT.start (m : MT) (f : Fr) : MT := ⟨m.last + 1, m.run, m.queue ++ [m.last + 1], m.rows ++ [⟨m.last + 1, 1, [f], []⟩]⟩
def MT.join (m : MT) (other id : Int) : MT := { m with rows := updAb other (fun a => { a with joins := a.joins ++ [id] }) m.rows }
def MT.del (m : MT) (id : Int) : MT := { m with rows := m.rows.filter fun a => decide (a.id ≠ id) }
def MT.get (m : MT) (id : Int) : Option Ab := m.rows.find? fun a => decide (a.id = id)

def Post (X : XH) (t : Nat) (d : DT) (X' : XH) (m : MT) : Prop := ∃ d', Rep X' t d' ∧ Mv X (t :: d.hs) X' (t :: d'.hs) ∧ d'.ab = m

variable {X X' : XH} {t : Nat} {d : DT}

theorem upd_split {l l1 l2 : List Thr} {r r' : Thr} {id : Int} {f : Ab → Ab} (hn : (l.map (·.id)).Nodup) (hl : l = l1 ++ r :: l2) (hid : r.id = id) (hf : r'.toAb = f r.toAb) :
  (l1 ++ r' :: l2).map (·.toAb) = updAb id f (l.map (·.toAb)) := by
 subst hl
 simp only [List.map_append, List.map_cons, List.nodup_append, List.nodup_cons] at hn
 obtain ⟨h1, ⟨h2, h3⟩, h4⟩ := hn
 have keep : ∀ q : List Thr, (∀ x ∈ q, x.id ≠ id) → (q.map (·.toAb)).map (fun a => if a.id = id then f a else a) = q.map (·.toAb) := by
  intro q hq
  rw [List.map_map]
  exact List.map_congr_left fun x hx => by simp [hq x hx]
 simp only [updAb, List.map_append, List.map_cons]
 rw [keep l1 fun x hx e => h4 x.id (List.mem_map.2 ⟨x, hx, rfl⟩) r.id (List.mem_cons_self ..) (e.trans hid.symm),
  keep l2 fun x hx e => h2 (by rw [hid, ← e]; exact List.mem_map.2 ⟨x, hx, rfl⟩), if_pos hid, hf]

theorem Rep.one (h : Rep X t d) {id : Int} (hid : ∃ a ∈ d.ab.rows, a.id = id) : ∃ l1 r l2, d.rows = l1 ++ r :: l2 ∧ r.id = id ∧ mfind (Cd.keq (.int .i64) id) (ents d.rows) = some (some r.h) ∧ ThrAt X r ∧ r.hs.Nodup := by
 obtain ⟨a, ha, e⟩ := hid
 obtain ⟨r0, hr0, rfl⟩ := List.mem_map.1 ha
 obtain ⟨l1, r, l2, h1, h2, _, h4⟩ := rows_split (l := d.rows) ⟨r0, hr0, e⟩
 refine ⟨l1, r, l2, h1, h2, h4, h.rows r (by rw [h1]; simp), ?_⟩
 have hs := h.sep
 have e0 : t :: d.hs = (t :: d.hm :: (hl d.q ++ l1.flatMap Thr.hs)) ++ (r.hs ++ l2.flatMap Thr.hs) := by simp [DT.hs, h1]
 rw [e0, List.nodup_append, List.nodup_append] at hs
 exact hs.2.1.1

theorem Rep.gone (h : Rep X t d) {id : Int} (hid : ∀ a ∈ d.ab.rows, a.id ≠ id) : mfind (Cd.keq (.int .i64) id) (ents d.rows) = none :=
 rows_none fun r hr => hid r.toAb (List.mem_map.2 ⟨r, hr, rfl⟩)

theorem Rep.setSt (h : Rep X t d) {id s : Int} {l1 l2 : List Thr} {r : Thr} (hd : d.rows = l1 ++ r :: l2) (hid : r.id = id) (hr : ThrAt X r) (hn : r.hs.Nodup) :
  Rep (X.set r.h (.arr yZ3 [(r.fr, (s, r.jn))])) t ⟨d.hm, d.last, d.run, d.q, d.queue, l1 ++ { r with st := s } :: l2⟩ ∧
   Mv X (t :: d.hs) (X.set r.h (.arr yZ3 [(r.fr, (s, r.jn))])) (t :: DT.hs ⟨d.hm, d.last, d.run, d.q, d.queue, l1 ++ { r with st := s } :: l2⟩) ∧
   DT.ab ⟨d.hm, d.last, d.run, d.q, d.queue, l1 ++ { r with st := s } :: l2⟩ = d.ab.set id s := by
 have hmv : Mv X r.hs (X.set r.h (.arr yZ3 [(r.fr, (s, r.jn))])) r.hs := Mv.set (List.mem_cons_self ..)
 have hne : ∀ k ∈ hl r.fr ++ hl r.jn, k ≠ r.h := fun k hk e => (List.nodup_cons.1 hn).1 (e ▸ hk)
 have hr' : ThrAt (X.set r.h (.arr yZ3 [(r.fr, (s, r.jn))])) { r with st := s } :=
  ⟨hr.box.set, hr.fr.keep fun k hk => at_set_ne (hne k (List.mem_append_left _ hk)), hr.jn.keep fun k hk => at_set_ne (hne k (List.mem_append_right _ hk))⟩
 obtain ⟨h1, h2⟩ := h.row (r' := { r with st := s }) hd rfl rfl hmv hn hr'
 refine ⟨h1, h2, ?_⟩
 simp only [DT.ab, MT.set]
 rw [upd_split h.ids hd hid]
 rfl

theorem Rep.ready {id : Int} (h : Rep X t d) {l1 l2 : List Thr} {r : Thr} (hd : d.rows = l1 ++ r :: l2) (hid : r.id = id) (hr : ThrAt X r) (hn : r.hs.Nodup)
  {X1 X2 X3 : XH} {q : Option SlH} (h1 : X1 = X.set r.h (.arr yZ3 [(r.fr, (1, r.jn))])) (h2 : XApp X1 cI (0 : Int) d.queue [id] d.q X2 q)
  (h3 : X3 = X2.setEl yZ2 t 0 (some d.hm, (d.last, (d.run, q)))) : Post X t d X3 (d.ab.ready id) := by
 subst h1
 obtain ⟨a1, a2, a3⟩ := h.setSt (s := 1) hd hid hr hn
 obtain ⟨b1, b2⟩ := h2.spec a1.q
 have ht : t ∉ hl d.q := fun e => by
  have := a1.sep
  simp only [DT.hs, List.nodup_cons, List.mem_cons, List.mem_append] at this
  exact this.1 (.inr (.inl e))
 have hbox := a1.box.keep (b2.keep t a1.box.lt ht)
 rw [hbox.setEl] at h3
 subst h3
 have hq : t ∉ hl q := fun e => (b2.own t e).elim ht fun e => absurd a1.box.lt (by omega)
 have mv : Mv _ (t :: hl d.q) (X2.set t (.arr yZ2 [(some d.hm, (d.last, (d.run, q)))])) (t :: hl q) :=
  (b2.weak (fun k hk => List.mem_cons_of_mem _ hk) (T' := t :: hl q) fun k hk => by
   rcases List.mem_cons.1 hk with rfl | hk
   ·exact .inr (List.mem_cons_self ..)
   ·exact .inl hk).trans (Mv.set (List.mem_cons_self ..))
 obtain ⟨c1, c2⟩ := a1.tab (last := d.last) (run := d.run) (q := q) (queue := d.queue ++ [id]) mv b2.own hbox.set (b1.keep fun k hk => at_set_ne fun e => hq (e ▸ hk))
 refine ⟨_, c1, a2.trans c2, ?_⟩
 simp only [DT.ab, MT.ready] at a3 ⊢
 have := congrArg MT.rows a3
 dsimp only at this
 rw [this]
 rfl

end Go.Proofs.Ytaaedebknacheaa.AB

set_option maxRecDepth 100000
set_option maxHeartbeats 2000000
namespace Go.Proofs.Ytaaedebknacheaa.AB
open Go
noncomputable def X56 : Cx := ⟨tt, [], [], [(56, [(1, 7, .x (.pure (.int .i64)))])], [], []⟩
theorem FN56 : fnsB Try.prog X56.fns := (show True from trivial)
theorem E56 (X : XH) (t0 : Nat) (id1 : Int) {R : Unit → XH → Prop} (h : (∃ (a1 : ((Option Nat) × (Int × (Int × (Option SlH))))), XH.el X yZ2 t0 0 = some a1 ∧ (∃ (es2 : List (Int × (Option Nat))), XH.vmp X (.int .i64) (.ref yZ3) a1.1 = some es2 ∧ (∀ (v3 : (Option Nat)), mfind (Cd.keq (.int .i64) id1) es2 = some v3 → (refK v3 (fun (h4 : Nat) => (∃ (a5 : ((Option SlH) × (Int × (Option SlH)))), XH.el X yZ3 h4 0 = some a5 ∧ (∀ (X6 : XH), X6 = (XH.setEl X yZ3 h4 0 ((a5.1, ((1 : Int), a5.2.2)))) → (∃ (a7 : ((Option Nat) × (Int × (Int × (Option SlH))))), XH.el X6 yZ2 t0 0 = some a7 ∧ (∃ (l8 l9 : List Int), XH.view X6 (.pure (.int .i64)) a7.2.2.2 = some l8 ∧ (srcX X6 (.pure (.int .i64)) (.v (.list (.int .i64) ([id1] : List Int) .exact))) = some l9 ∧ ((slN a7.2.2.2) + (l9).length) * 8 ≤ room ∧ ∀ (X10 : XH) (s11 : Option SlH), XApp X6 (.pure (.int .i64)) (0 : Int) l8 l9 a7.2.2.2 X10 s11 → (∃ (a12 : ((Option Nat) × (Int × (Int × (Option SlH))))), XH.el X10 yZ2 t0 0 = some a12 ∧ (∀ (X13 : XH), X13 = (XH.setEl X10 yZ2 t0 0 ((a12.1, (a12.2.1, (a12.2.2.1, s11))))) → R () X13))))))))) ∧ (mfind (Cd.keq (.int .i64) id1) es2 = none → False)))) :
 fnK X56.tt (callN Try.prog X56 0) (X56.md 56) (X56.mk1 56) Try.f56 [(.ref (some t0) yZ2 0 []), (.v (.int .i64 id1))] ⟨[], [some (.heap X)], ⟨0, []⟩⟩ (xfin [] R) := Eq.mp (by kernel_rfl) h
end Go.Proofs.Ytaaedebknacheaa.AB

set_option maxRecDepth 100000
set_option maxHeartbeats 2000000
namespace Go.Proofs.Ytaaedebknacheaa.AB
open Go
noncomputable def X58 : Cx := ⟨tt, [], [], [], [], []⟩
theorem FN58 : fnsB Try.prog X58.fns := (show True from trivial)
theorem E58 (X : XH) (t0 : Nat) (state1 : Int) {R : (Int × Int) → XH → Prop} (h : (∃ (a1 : ((Option Nat) × (Int × (Int × (Option SlH))))), XH.el X yZ2 t0 0 = some a1 ∧ (((a1.2.2.1 == (0 : Int)) = true → R ((0 : Int), (25 : Int)) X) ∧
 ((a1.2.2.1 == (0 : Int)) = false → (∃ (a2 : ((Option Nat) × (Int × (Int × (Option SlH))))), XH.el X yZ2 t0 0 = some a2 ∧ (∀ (X3 : XH), X3 = (XH.setEl X yZ2 t0 0 ((a2.1, (a2.2.1, ((0 : Int), a2.2.2.2))))) → (∃ (a4 : ((Option Nat) × (Int × (Int × (Option SlH))))), XH.el X3 yZ2 t0 0 = some a4 ∧ (∃ (es5 : List (Int × (Option Nat))), XH.vmp X3 (.int .i64) (.ref yZ3) a4.1 = some es5 ∧ (∀ (v6 : (Option Nat)), mfind (Cd.keq (.int .i64) a1.2.2.1) es5 = some v6 → (refK v6 (fun (h7 : Nat) => (∃ (a8 : ((Option SlH) × (Int × (Option SlH)))), XH.el X3 yZ3 h7 0 = some a8 ∧ (∀ (X9 : XH), X9 = (XH.setEl X3 yZ3 h7 0 ((a8.1, (state1, a8.2.2)))) → R (a1.2.2.1, (0 : Int)) X9))))) ∧ (mfind (Cd.keq (.int .i64) a1.2.2.1) es5 = none → False))))))))) :
  fnK X58.tt (callN Try.prog X58 0) (X58.md 58) (X58.mk1 58) Try.f58 [(.ref (some t0) yZ2 0 []), (.v (.int .i64 state1))] ⟨[], [some (.heap X)], ⟨0, []⟩⟩ (xfin [(.pure (.int .i64)), (.pure (.int .i64))] R) := Eq.mp (by kernel_rfl) h
end Go.Proofs.Ytaaedebknacheaa.AB

set_option maxRecDepth 100000
set_option maxHeartbeats 2000000
namespace Go.Proofs.Ytaaedebknacheaa.AB
open Go
noncomputable def X53 : Cx := ⟨tt, [], [], [], [], []⟩
theorem FN53 : fnsB Try.prog X53.fns := (show True from trivial)
theorem E53 (X : XH) (t0 : Nat) {R : (Int) → XH → Prop} (h : (∃ (a1 : ((Option Nat) × (Int × (Int × (Option SlH))))), XH.el X yZ2 t0 0 = some a1 ∧ R a1.2.2.1 X)) :
 fnK X53.tt (callN Try.prog X53 0) (X53.md 53) (X53.mk1 53) Try.f53 [(.ref (some t0) yZ2 0 [])] ⟨[], [some (.heap X)], ⟨0, []⟩⟩ (xfin [(.pure (.int .i64))] R) := Eq.mp (by kernel_rfl) h
end Go.Proofs.Ytaaedebknacheaa.AB

set_option maxRecDepth 100000
set_option maxHeartbeats 2000000
namespace Go.Proofs.Ytaaedebknacheaa.AB
open Go
noncomputable def X15 : Cx := ⟨tt, [], [], [(15, [(1, 0, .x (.mp (.int .i64) (.ref yZ3))), (1, 1, .x yZ2), (1, 2, .x yZ2)])], [], []⟩
theorem FN15 : fnsB Try.prog X15.fns := (show True from trivial)
theorem E15 (X : XH) {R : ((Option Nat)) → XH → Prop} (h : (∀ (X1 : XH), X1 = (XH.add X (.map (.int .i64) (.ref yZ3) [])) → (∀ (X2 : XH), X2 = (XH.add X1 (.arr yZ2 [((some X.n), ((0 : Int), ((0 : Int), none)))])) → R (some X1.n) X2))) :
 fnK X15.tt (callN Try.prog X15 0) (X15.md 15) (X15.mk1 15) Try.f15 [] ⟨[], [some (.heap X)], ⟨0, []⟩⟩ (xfin [(.ref yZ2)] R) := Eq.mp (by kernel_rfl) h
end Go.Proofs.Ytaaedebknacheaa.AB

namespace Go.Proofs.Ytaaedebknacheaa.AB
open Go

variable {X X' : XH} {t : Nat} {d : DT}

theorem c56 (h : Rep X t d) {id : Int} (hid : ∃ a ∈ d.ab.rows, a.id = id) (hlen : (d.queue.length + 1) * 8 ≤ room) :
  XC Try.prog 56 [] [.ref (some t) yZ2 0 [], .v (.int .i64 id)] X fun _ X' => Post X t d X' (d.ab.ready id) := by
 obtain ⟨l1, r, l2, hd, he, hm, hr, hn⟩ := h.one hid
 refine xcOf (X := X56) rfl FN56 (by kernel_rfl) (by decide) (E56 X t id ⟨_, h.box.el, ents d.rows, h.mp, ?_, ?_⟩)
 ·intro v hv
  rw [hm] at hv; cases hv
  refine ⟨_, hr.box.el, fun X6 e6 => ?_⟩
  rw [hr.box.setEl] at e6
  obtain ⟨a1, a2, a3⟩ := h.setSt (s := 1) hd he hr hn
  subst e6
  refine ⟨_, a1.box.el, d.queue, [id], a1.q.view, rfl, ?_, fun X10 s11 hx => ?_⟩
  ·rw [a1.q.len]; exact hlen
  ·have ht : t ∉ hl d.q := fun e => by
    have := a1.sep
    simp only [DT.hs, List.nodup_cons, List.mem_cons, List.mem_append] at this
    exact this.1 (.inr (.inl e))
   have hbox := a1.box.keep ((hx.spec a1.q).2.keep t a1.box.lt ht)
   exact ⟨_, hbox.el, fun X13 e13 => h.ready hd he hr hn rfl hx e13⟩
 ·intro e; rw [hm] at e; cases e

theorem c58 (h : Rep X t d) {s : Int} (hid : d.run ≠ 0 → ∃ a ∈ d.ab.rows, a.id = d.run) :
  XC Try.prog 58 [.pure (.int .i64), .pure (.int .i64)] [.ref (some t) yZ2 0 [], .v (.int .i64 s)] X fun p X' =>
   (d.run = 0 ∧ p = ((0 : Int), (25 : Int)) ∧ X' = X) ∨ (d.run ≠ 0 ∧ p = (d.run, (0 : Int)) ∧ ∃ d', Rep X' t d' ∧ Mv X (t :: d.hs) X' (t :: d'.hs) ∧ d'.ab = d.ab.rest s ∧ ents d'.rows = ents d.rows) := by
 refine xcOf (X := X58) rfl FN58 (by kernel_rfl) (by decide) (E58 X t s ⟨_, h.box.el, ?_, ?_⟩)
 ·intro e
  exact .inl ⟨by simpa using e, rfl, rfl⟩
 ·intro e
  have hrun : d.run ≠ 0 := by simpa using e
  refine ⟨_, h.box.el, fun X3 e3 => ?_⟩
  rw [h.box.setEl] at e3
  have hbox0 := h.box.set (b := (some d.hm, (d.last, ((0 : Int), d.q))))
  have hq : t ∉ hl d.q := fun e => by
   have := h.sep
   simp only [DT.hs, List.nodup_cons, List.mem_cons, List.mem_append] at this
   exact this.1 (.inr (.inl e))
  obtain ⟨c1, c2⟩ := h.tab (last := d.last) (run := 0) (q := d.q) (queue := d.queue) (Mv.set (List.mem_cons_self ..)) (fun k hk => .inl hk) hbox0 (h.q.keep fun k hk => at_set_ne fun e => hq (e ▸ hk))
  have c1 := e3 ▸ c1
  have c2 := e3 ▸ c2
  obtain ⟨l1, r, l2, hd, he, hm, hr, hn⟩ := c1.one (id := d.run) (hid hrun)
  refine ⟨_, c1.box.el, ents d.rows, c1.mp, ?_, ?_⟩
  ·intro v hv
   have hm' : mfind (Cd.keq (.int .i64) d.run) (ents d.rows) = some (some r.h) := hm
   have hv' : mfind (Cd.keq (.int .i64) d.run) (ents d.rows) = some v := hv
   rw [hm'] at hv'; cases hv'
   refine ⟨_, hr.box.el, fun X9 e9 => ?_⟩
   rw [hr.box.setEl] at e9
   obtain ⟨b1, b2, b3⟩ := c1.setSt (s := s) hd he hr hn
   subst e9
   exact .inr ⟨hrun, rfl, _, b1, c2.trans b2, b3, by have hd : d.rows = _ := hd; rw [hd]; simp [ents]⟩
  ·intro e
   have e' : mfind (Cd.keq (.int .i64) d.run) (ents d.rows) = none := e
   have hm' : mfind (Cd.keq (.int .i64) d.run) (ents d.rows) = some (some r.h) := hm
   rw [hm'] at e'; cases e'

theorem c53 (h : Rep X t d) : RC Try.prog 53 [.pure (.int .i64)] [.ref (some t) yZ2 0 []] X d.run :=
 xcOf (X := X53) rfl FN53 (by kernel_rfl) (by decide) (E53 X t ⟨_, h.box.el, rfl, rfl⟩)

theorem c15 (X : XH) : XC Try.prog 15 [.ref yZ2] [] X fun p X' => ∃ t d, p = some t ∧ X.n ≤ t ∧ Rep X' t d ∧ Mv X [] X' (t :: d.hs) ∧ d.ab = ⟨0, 0, [], []⟩ := by
 refine xcOf (X := X15) rfl FN15 (by kernel_rfl) (by decide) (E15 X fun X1 e1 X2 e2 => ?_)
 subst e1
 subst e2
 refine ⟨X.n + 1, ⟨X.n, 0, 0, none, [], []⟩, rfl, Nat.le_succ _, ⟨at_add_new _ _, ?_, rfl, by simp, by simp, by simp [DT.hs, hl]⟩, ?_, rfl⟩
 ·exact (at_add_old (Nat.lt_succ_self _)).trans (at_add_new _ _)
 ·exact ((Mv.add X _ []).trans (Mv.add _ _ _)).weak (fun _ h => h) fun k hk => .inl (by simpa [DT.hs, hl, XH.add] using hk)

end Go.Proofs.Ytaaedebknacheaa.AB

set_option maxRecDepth 100000
set_option maxHeartbeats 2000000
namespace Go.Proofs.Ytaaedebknacheaa.AB
open Go
noncomputable def X59 : Cx := ⟨tt, [], [], [(59, [(1, 1, .lend)])], [], []⟩
theorem FN59 : fnsB Try.prog X59.fns := (show True from trivial)
theorem E59 (s0 : (List Int)) {R : V → Prop} (h : (∀ (b1 : Bool), (b1 = true → s0 = []) → ((b1 = true → R (.list (.int .i64) ([] : List Int) .no)) ∧
 (b1 = false → (Tok.own .exact ([]) ∧ ((([] : List Int)).length + (s0).length) * 8 ≤ room ∧ R (.list (.int .i64) ((([] : List Int) ++ s0)) .no)))))) :
  fnK X59.tt (callN Try.prog X59 0) (X59.md 59) (X59.mk1 59) Try.f59 [(.v (.list (.int .i64) s0 .no))] ⟨[], [], ⟨0, []⟩⟩ (topK R) := Eq.mp (by kernel_rfl) h
end Go.Proofs.Ytaaedebknacheaa.AB

set_option maxRecDepth 100000
set_option maxHeartbeats 2000000
namespace Go.Proofs.Ytaaedebknacheaa.AB
open Go
noncomputable def X59h : Cx := ⟨tt, [], [], [(59, [(1, 1, .lend)])], [], []⟩
theorem FN59h : fnsB Try.prog X59h.fns := (show True from trivial)
theorem E59h (X : XH) (s0 : (Option SlH)) {R : ((List Int)) → XH → Prop} (h : (∀ (b1 : Bool), (b1 = true → s0 = none) → ((b1 = true → R ([] : List Int) X) ∧
 (b1 = false → (∃ (l2 : List Int), XH.view X (.pure (.int .i64)) s0 = some l2 ∧ Tok.own .exact ([]) ∧ ((([] : List Int)).length + (l2).length) * 8 ≤ room ∧ R ((([] : List Int) ++ l2)) X))))) :
  fnK X59h.tt (callN Try.prog X59h 0) (X59h.md 59) (X59h.mk1 59) Try.f59 [(.sl (.pure (.int .i64)) s0)] ⟨[], [some (.heap X)], ⟨0, []⟩⟩ (xfin [(.pure (.slice (.int .i64)))] R) := Eq.mp (by kernel_rfl) h
end Go.Proofs.Ytaaedebknacheaa.AB

set_option maxRecDepth 100000
set_option maxHeartbeats 2000000
namespace Go.Proofs.Ytaaedebknacheaa.AB
open Go
noncomputable def X55 : Cx := ⟨tt, [(59, [.cd (.slice (.int .i64))])], [], [], [], []⟩
theorem FN55 : fnsB Try.prog X55.fns := (show True from trivial)
theorem E55 (f0 : (Int × (Int × ((List Int) × (List Int))))) {R : V → Prop} (h : (∃ p1 : (List Int), PC Try.prog 59 [(.list (.int .i64) f0.2.2.1 .no)] ((.list (.int .i64) p1 .no)) ∧ (∃ p2 : (List Int), PC Try.prog 59 [(.list (.int .i64) f0.2.2.2 .no)] ((.list (.int .i64) p2 .no)) ∧ R (.agg [(.int .i64 f0.1), (.int .i64 f0.2.1), (.list (.int .i64) p1 .no), (.list (.int .i64) p2 .no)])))) :
 fnK X55.tt (callN Try.prog X55 0) (X55.md 55) (X55.mk1 55) Try.f55 [(.v (.agg [(.int .i64 f0.1), (.int .i64 f0.2.1), (.list (.int .i64) f0.2.2.1 .no), (.list (.int .i64) f0.2.2.2 .no)]))] ⟨[], [], ⟨0, []⟩⟩ (topK R) := Eq.mp (by kernel_rfl) h
end Go.Proofs.Ytaaedebknacheaa.AB

set_option maxRecDepth 100000
set_option maxHeartbeats 2000000
namespace Go.Proofs.Ytaaedebknacheaa.AB
open Go
noncomputable def X20 : Cx := ⟨tt, [], [(59, [(.pure (.slice (.int .i64)))])], [(20, [(1, 4, .rd)])], [], []⟩
theorem FN20 : fnsB Try.prog X20.fns := (show True from trivial)
theorem E20 (X : XH) (t0 : Nat) {R : ((List Int)) → XH → Prop} (h : (∃ (a1 : ((Option Nat) × (Int × (Int × (Option SlH))))), XH.el X yZ2 t0 0 = some a1 ∧ (∃ (p2 : (List Int)), RC Try.prog 59 [(.pure (.slice (.int .i64)))] [(.sl (.pure (.int .i64)) a1.2.2.2)] X p2 ∧ R p2 X))) :
 fnK X20.tt (callN Try.prog X20 0) (X20.md 20) (X20.mk1 20) Try.f20 [(.ref (some t0) yZ2 0 [])] ⟨[], [some (.heap X)], ⟨0, []⟩⟩ (xfin [(.pure (.slice (.int .i64)))] R) := Eq.mp (by kernel_rfl) h
end Go.Proofs.Ytaaedebknacheaa.AB

set_option maxRecDepth 100000
set_option maxHeartbeats 2000000
namespace Go.Proofs.Ytaaedebknacheaa.AB
open Go
noncomputable def X21 : Cx := ⟨tt, [], [], [], [], []⟩
theorem FN21 : fnsB Try.prog X21.fns := (show True from trivial)
theorem E21 (X : XH) (t0 : Nat) (id1 : Int) {R : (Int) → XH → Prop} (h : (∃ (a1 : ((Option Nat) × (Int × (Int × (Option SlH))))), XH.el X yZ2 t0 0 = some a1 ∧ (∃ (es2 : List (Int × (Option Nat))), XH.vmp X (.int .i64) (.ref yZ3) a1.1 = some es2 ∧ (∀ (v3 : (Option Nat)), mfind (Cd.keq (.int .i64) id1) es2 = some v3 → (((!(Option.isNone v3)) = true → (refK v3 (fun (h4 : Nat) => (∃ (a5 : ((Option SlH) × (Int × (Option SlH)))), XH.el X yZ3 h4 0 = some a5 ∧ R a5.2.1 X)))) ∧
 ((!(Option.isNone v3)) = false → (((decide (id1 ≥ (1 : Int))) = true → (∃ (a6 : ((Option Nat) × (Int × (Int × (Option SlH))))), XH.el X yZ2 t0 0 = some a6 ∧ (((decide (id1 ≤ a6.2.1)) = true → R (5 : Int) X) ∧
 ((decide (id1 ≤ a6.2.1)) = false → R (0 : Int) X)))) ∧ ((decide (id1 ≥ (1 : Int))) = false → R (0 : Int) X))))) ∧ (mfind (Cd.keq (.int .i64) id1) es2 = none → (((!true) = true → False) ∧
 ((!true) = false → (((decide (id1 ≥ (1 : Int))) = true → (∃ (a7 : ((Option Nat) × (Int × (Int × (Option SlH))))), XH.el X yZ2 t0 0 = some a7 ∧ (((decide (id1 ≤ a7.2.1)) = true → R (5 : Int) X) ∧
 ((decide (id1 ≤ a7.2.1)) = false → R (0 : Int) X)))) ∧ ((decide (id1 ≥ (1 : Int))) = false → R (0 : Int) X)))))))) :
  fnK X21.tt (callN Try.prog X21 0) (X21.md 21) (X21.mk1 21) Try.f21 [(.ref (some t0) yZ2 0 []), (.v (.int .i64 id1))] ⟨[], [some (.heap X)], ⟨0, []⟩⟩ (xfin [(.pure (.int .i64))] R) := Eq.mp (by kernel_rfl) h
end Go.Proofs.Ytaaedebknacheaa.AB

set_option maxRecDepth 100000
set_option maxHeartbeats 2000000
namespace Go.Proofs.Ytaaedebknacheaa.AB
open Go
noncomputable def X60 : Cx := ⟨tt, [], [], [], [], []⟩
theorem FN60 : fnsB Try.prog X60.fns := (show True from trivial)
theorem E60 (X : XH) (t0 : Nat) (id1 : Int) {R : ((Option Nat) × Int) → XH → Prop} (h : (∃ (a1 : ((Option Nat) × (Int × (Int × (Option SlH))))), XH.el X yZ2 t0 0 = some a1 ∧ (∃ (es2 : List (Int × (Option Nat))), XH.vmp X (.int .i64) (.ref yZ3) a1.1 = some es2 ∧ (∀ (v3 : (Option Nat)), mfind (Cd.keq (.int .i64) id1) es2 = some v3 → (((Option.isNone v3) = true → R (none, (24 : Int)) X) ∧
 ((Option.isNone v3) = false → (refK v3 (fun (h4 : Nat) => (∃ (a5 : ((Option SlH) × (Int × (Option SlH)))), XH.el X yZ3 h4 0 = some a5 ∧ ((((((slN a5.1) : Nat) : Int) == (0 : Int)) = true → R (none, (25 : Int)) X) ∧
 (((((slN a5.1) : Nat) : Int) == (0 : Int)) = false → R (v3, (0 : Int)) X)))))))) ∧ (mfind (Cd.keq (.int .i64) id1) es2 = none → ((true = true → R (none, (24 : Int)) X) ∧
 (true = false → False)))))) :
  fnK X60.tt (callN Try.prog X60 0) (X60.md 60) (X60.mk1 60) Try.f60 [(.ref (some t0) yZ2 0 []), (.v (.int .i64 id1))] ⟨[], [some (.heap X)], ⟨0, []⟩⟩ (xfin [(.ref yZ3), (.pure (.int .i64))] R) := Eq.mp (by kernel_rfl) h
end Go.Proofs.Ytaaedebknacheaa.AB

set_option maxRecDepth 100000
set_option maxHeartbeats 2000000
namespace Go.Proofs.Ytaaedebknacheaa.AB
open Go
noncomputable def X22 : Cx := ⟨tt, [(55, [.cd (.pair (.int .i64) (.pair (.int .i64) (.pair (.slice (.int .i64)) (.slice (.int .i64)))))])], [(60, [(.ref yZ3), (.pure (.int .i64))])], [(22, [(1, 2, .rd)])], [], []⟩
theorem FN22 : fnsB Try.prog X22.fns := (show True from trivial)
theorem E22 (X : XH) (t0 : Nat) (id1 : Int) {R : ((Int × (Int × ((List Int) × (List Int)))) × Bool) → XH → Prop} (h : (∃ (p1 : (Option Nat) × Int), RC Try.prog 60 [(.ref yZ3), (.pure (.int .i64))] [(.ref (some t0) yZ2 0 []), (.v (.int .i64 id1))] X p1 ∧ (((p1.2 != (0 : Int)) = true → R (((0 : Int), ((0 : Int), (([] : List Int), ([] : List Int)))), false) X) ∧
 ((p1.2 != (0 : Int)) = false → (refK p1.1 (fun (h2 : Nat) => (∃ (a3 : ((Option SlH) × (Int × (Option SlH)))), XH.el X yZ3 h2 0 = some a3 ∧ (refK p1.1 (fun (h4 : Nat) => (∃ (a5 : ((Option SlH) × (Int × (Option SlH)))), XH.el X yZ3 h4 0 = some a5 ∧ (∃ (u6 : SlH), a3.1 = some u6 ∧ 0 ≤ (IntKind.wrap .i64 ((((slN a5.1) : Nat) : Int) - (1 : Int))) ∧ (IntKind.wrap .i64 ((((slN a5.1) : Nat) : Int) - (1 : Int))) < ((u6.len : Nat) : Int) ∧ (∃ (a7 : (Int × (Int × ((List Int) × (List Int))))), XH.el X (.pure (.pair (.int .i64) (.pair (.int .i64) (.pair (.slice (.int .i64)) (.slice (.int .i64)))))) u6.h ((u6.off + ((IntKind.wrap .i64 ((((slN a5.1) : Nat) : Int) - (1 : Int)))).toNat)) = some a7 ∧ (∃ p8 : (Int × (Int × ((List Int) × (List Int)))), PC Try.prog 55 [(.agg [(.int .i64 a7.1), (.int .i64 a7.2.1), (.list (.int .i64) a7.2.2.1 .no), (.list (.int .i64) a7.2.2.2 .no)])] ((.agg [(.int .i64 p8.1), (.int .i64 p8.2.1), (.list (.int .i64) p8.2.2.1 .no), (.list (.int .i64) p8.2.2.2 .no)])) ∧ R ((p8.1, (p8.2.1, (p8.2.2.1, p8.2.2.2))), true) X))))))))))))) :
  fnK X22.tt (callN Try.prog X22 0) (X22.md 22) (X22.mk1 22) Try.f22 [(.ref (some t0) yZ2 0 []), (.v (.int .i64 id1))] ⟨[], [some (.heap X)], ⟨0, []⟩⟩ (xfin [(.pure (.pair (.int .i64) (.pair (.int .i64) (.pair (.slice (.int .i64)) (.slice (.int .i64)))))), (.pure .bool)] R) := Eq.mp (by kernel_rfl) h
end Go.Proofs.Ytaaedebknacheaa.AB

namespace Go.Proofs.Ytaaedebknacheaa.AB
open Go

variable {X X' : XH} {t : Nat} {d : DT}

theorem c59 {l : List Int} (hl : l.length * 8 ≤ room) : PC Try.prog 59 [.list (.int .i64) l .no] (.list (.int .i64) l .no) := by
 refine pcOf (X := X59) rfl FN59 (by kernel_rfl) (by decide) (E59 l fun b hb => ⟨fun e => ?_, fun e => ⟨trivial, by simpa using hl, ?_⟩⟩)
 ·rw [hb e]; exact ⟨rfl, rfl⟩
 ·exact ⟨rfl, rfl⟩

theorem c59h {x : Option SlH} {l : List Int} (h : SlAt X cI x l) (hl : l.length * 8 ≤ room) : RC Try.prog 59 [.pure (.slice (.int .i64))] [.sl cI x] X l := by
 refine xcOf (X := X59h) rfl FN59h (by kernel_rfl) (by decide) (E59h X x fun b hb => ⟨fun e => ?_, fun e => ⟨l, h.view, trivial, by simpa using hl, ?_⟩⟩)
 ·cases x with
  | none => exact ⟨h.symm, rfl⟩
  | some s => cases hb e
 ·exact ⟨rfl, rfl⟩

def Small (f : Fr) : Prop := f.2.2.1.length * 8 ≤ room ∧ f.2.2.2.length * 8 ≤ room

theorem c55 {f : Fr} (h : Small f) : PC Try.prog 55 [.agg [.int .i64 f.1, .int .i64 f.2.1, .list (.int .i64) f.2.2.1 .no, .list (.int .i64) f.2.2.2 .no]] (.agg [.int .i64 f.1, .int .i64 f.2.1, .list (.int .i64) f.2.2.1 .no, .list (.int .i64) f.2.2.2 .no]) :=
 pcOf (X := X55) rfl FN55 (by kernel_rfl) (by decide) (E55 f ⟨_, c59 h.1, _, c59 h.2, rfl, rfl⟩)

theorem c20 (h : Rep X t d) (hl : d.queue.length * 8 ≤ room) : RC Try.prog 20 [.pure (.slice (.int .i64))] [.ref (some t) yZ2 0 []] X d.queue :=
 xcOf (X := X20) rfl FN20 (by kernel_rfl) (by decide) (E20 X t ⟨_, h.box.el, _, c59h h.q hl, rfl, rfl⟩)

def MT.state (m : MT) (id : Int) : Int :=
 match m.get id with
 | some a => a.st
 | none => if 1 ≤ id ∧ id ≤ m.last then 5 else 0

theorem get_one {id : Int} {l1 l2 : List Thr} {r : Thr} (hn : (d.rows.map (·.id)).Nodup) (hd : d.rows = l1 ++ r :: l2) (he : r.id = id) : d.ab.get id = some r.toAb := by
 rw [hd] at hn
 simp only [List.map_append, List.map_cons, List.nodup_append, List.nodup_cons] at hn
 unfold MT.get DT.ab
 rw [hd]
 simp only [List.map_append, List.map_cons, List.find?_append]
 have : (l1.map (·.toAb)).find? (fun a => decide (a.id = id)) = none := by
  rw [List.find?_eq_none]
  intro x hx
  obtain ⟨y, hy, rfl⟩ := List.mem_map.1 hx
  have := hn.2.2 y.id (List.mem_map.2 ⟨y, hy, rfl⟩) r.id (List.mem_cons_self ..)
  simpa [he] using this
 rw [this]
 simp [he]

theorem get_none {id : Int} (h : ∀ a ∈ d.ab.rows, a.id ≠ id) : d.ab.get id = none := by
 unfold MT.get
 rw [List.find?_eq_none]
 intro x hx
 simpa using h x hx

theorem c21 (h : Rep X t d) (id : Int) : RC Try.prog 21 [.pure (.int .i64)] [.ref (some t) yZ2 0 [], .v (.int .i64 id)] X (d.ab.state id) := by
 have gone : d.ab.get id = none → ((decide (id ≥ (1 : Int))) = true → (∃ (a6 : ((Option Nat) × (Int × (Int × (Option SlH))))), XH.el X yZ2 t 0 = some a6 ∧ (((decide (id ≤ a6.2.1)) = true → (5 : Int) = d.ab.state id ∧ X = X) ∧
   ((decide (id ≤ a6.2.1)) = false → (0 : Int) = d.ab.state id ∧ X = X)))) ∧ ((decide (id ≥ (1 : Int))) = false → (0 : Int) = d.ab.state id ∧ X = X) := by
  intro hg
  refine ⟨fun e => ⟨_, h.box.el, fun e2 => ⟨?_, rfl⟩, fun e2 => ⟨?_, rfl⟩⟩, fun e => ⟨?_, rfl⟩⟩
  ·have e1 : 1 ≤ id := by simpa using e
   have e3 : id ≤ d.last := by simpa using e2
   simp [MT.state, hg, show d.ab.last = d.last from rfl, e1, e3]
  ·have e3 : ¬ id ≤ d.last := by simpa using e2
   simp [MT.state, hg, show d.ab.last = d.last from rfl, e3]
  ·have e1 : ¬ 1 ≤ id := by simpa using e
   simp [MT.state, hg, show d.ab.last = d.last from rfl, e1]
 refine xcOf (X := X21) rfl FN21 (by kernel_rfl) (by decide) (E21 X t id ⟨_, h.box.el, ents d.rows, h.mp, ?_, ?_⟩)
 ·intro v hv
  by_cases hid : ∃ a ∈ d.ab.rows, a.id = id
  ·obtain ⟨l1, r, l2, hd, he, hm, hr, hn⟩ := h.one hid
   rw [hm] at hv; cases hv
   refine ⟨fun _ => ⟨_, hr.box.el, ?_, rfl⟩, fun e => by cases e⟩
   unfold MT.state
   rw [get_one h.ids hd he]
  ·have hid' : ∀ a ∈ d.ab.rows, a.id ≠ id := fun a ha e => hid ⟨a, ha, e⟩
   rw [h.gone hid'] at hv; cases hv
 ·intro hv
  by_cases hid : ∃ a ∈ d.ab.rows, a.id = id
  ·obtain ⟨l1, r, l2, hd, he, hm, hr, hn⟩ := h.one hid
   rw [hm] at hv; cases hv
  ·have hid' : ∀ a ∈ d.ab.rows, a.id ≠ id := fun a ha e => hid ⟨a, ha, e⟩
   exact ⟨fun e => (by cases e), fun _ => gone (get_none hid')⟩

def errTop (m : MT) (id : Int) : Int :=
 match m.get id with
 | none => 24
 | some a => if a.frames = [] then 25 else 0

theorem c60 (h : Rep X t d) (id : Int) : ∃ x : Option Nat, RC Try.prog 60 [.ref yZ3, .pure (.int .i64)] [.ref (some t) yZ2 0 [], .v (.int .i64 id)] X (x, errTop d.ab id) ∧
  (errTop d.ab id = 0 → ∃ l1 r l2, d.rows = l1 ++ r :: l2 ∧ r.id = id ∧ x = some r.h ∧ ThrAt X r ∧ r.hs.Nodup ∧ r.frames ≠ [] ∧ d.ab.get id = some r.toAb) := by
 by_cases hid : ∃ a ∈ d.ab.rows, a.id = id
 ·obtain ⟨l1, r, l2, hd, he, hm, hr, hn⟩ := h.one hid
  have hg := get_one h.ids hd he
  by_cases hf : r.frames = []
  ·refine ⟨none, ?_, fun e => ?_⟩
   ·refine xcOf (X := X60) rfl FN60 (by kernel_rfl) (by decide) (E60 X t id ⟨_, h.box.el, ents d.rows, h.mp, ?_, fun e => by rw [hm] at e; cases e⟩)
    intro v hv
    rw [hm] at hv; cases hv
    refine ⟨fun e => (by cases e), fun _ => ⟨_, hr.box.el, fun _ => ⟨by simp only [errTop, hg, hf, if_true]; rfl, rfl⟩, fun e => ?_⟩⟩
    have := hr.fr.len
    rw [hf] at this
    dsimp only at e
    rw [this] at e
    cases e
   ·simp [errTop, hg, hf] at e
  ·refine ⟨some r.h, ?_, fun e => ⟨l1, r, l2, hd, he, rfl, hr, hn, hf, hg⟩⟩
   refine xcOf (X := X60) rfl FN60 (by kernel_rfl) (by decide) (E60 X t id ⟨_, h.box.el, ents d.rows, h.mp, ?_, fun e => by rw [hm] at e; cases e⟩)
   intro v hv
   rw [hm] at hv; cases hv
   refine ⟨fun e => (by cases e), fun _ => ⟨_, hr.box.el, fun e => ?_, fun e => ⟨by simp only [errTop, hg, hf, if_false]; rfl, rfl⟩⟩⟩
   have := hr.fr.len
   dsimp only at e
   rw [this] at e
   have : r.frames.length ≠ 0 := fun q => hf (List.length_eq_zero_iff.1 q)
   simp at e
   exact absurd e hf
 ·have hid' : ∀ a ∈ d.ab.rows, a.id ≠ id := fun a ha e => hid ⟨a, ha, e⟩
  have hg := get_none hid'
  refine ⟨none, ?_, fun e => ?_⟩
  ·refine xcOf (X := X60) rfl FN60 (by kernel_rfl) (by decide) (E60 X t id ⟨_, h.box.el, ents d.rows, h.mp, fun v hv => ?_, fun _ => ⟨fun _ => ⟨by simp only [errTop, hg]; rfl, rfl⟩, fun e => by cases e⟩⟩)
   rw [h.gone hid'] at hv; cases hv
  ·simp [errTop, hg] at e

def MT.top (m : MT) (id : Int) : Fr × Bool :=
 match m.get id with
 | none => ((0, (0, ([], []))), false)
 | some a => match a.frames.getLast? with
  | none => ((0, (0, ([], []))), false)
  | some f => (f, true)

theorem c22 (h : Rep X t d) (id : Int) (hs : ∀ a ∈ d.ab.rows, a.frames.length < 1000 ∧ ∀ f ∈ a.frames, Small f) :
  RC Try.prog 22 [cF, .pure .bool] [.ref (some t) yZ2 0 [], .v (.int .i64 id)] X (d.ab.top id) := by
 obtain ⟨x, hc, hx⟩ := c60 h id
 refine xcOf (X := X22) rfl FN22 (by kernel_rfl) (by decide) (E22 X t id ⟨_, hc, fun e => ?_, fun e => ?_⟩)
 ·refine ⟨?_, rfl⟩
  have e : errTop d.ab id ≠ 0 := by simpa using e
  unfold MT.top
  unfold errTop at e
  cases hg : d.ab.get id with
  | none => rfl
  | some a =>
   rw [hg] at e
   dsimp only at e ⊢
   by_cases hf : a.frames = []
   ·rw [hf]; rfl
   ·rw [if_neg hf] at e; exact absurd rfl e
 ·have e : errTop d.ab id = 0 := by simpa using e
  obtain ⟨l1, r, l2, hd, he, rfl, hr, hn, hf, hg⟩ := hx e
  have hsm := hs r.toAb (by simp [DT.ab, hd])
  have hlen := hr.fr.len
  have hpos : 0 < r.frames.length := List.length_pos_iff.2 hf
  obtain ⟨u, hu⟩ : ∃ u, r.fr = some u := by
   cases hfr : r.fr with
   | none => rw [hfr] at hlen; simp [slN] at hlen; omega
   | some u => exact ⟨u, rfl⟩
  have hlen' : u.len = r.frames.length := by rw [hu] at hlen; exact hlen
  have hw : IntKind.wrap .i64 ((((slN r.fr) : Nat) : Int) - (1 : Int)) = ((r.frames.length - 1 : Nat) : Int) := by
   rw [hlen, wrap64 (by omega) (by omega)]; omega
  have hfr : SlAt X cF (some u) r.frames := by rw [← hu]; exact hr.fr
  have hel := hfr.el (i := r.frames.length - 1) (by omega)
  refine ⟨_, hr.box.el, _, hr.box.el, u, hu, ?_, ?_, r.frames[r.frames.length - 1], ?_, r.frames[r.frames.length - 1], c55 ?_, ?_, rfl⟩
  ·dsimp only; rw [hw]; omega
  ·dsimp only; rw [hw, hlen']; omega
  ·dsimp only; rw [hw]
   rw [show (((r.frames.length - 1 : Nat) : Int)).toNat = r.frames.length - 1 by omega]
   exact hel
  ·exact hsm.2 _ (List.getElem_mem _)
  ·unfold MT.top
   rw [hg]
   dsimp only
   rw [List.getLast?_eq_getElem?, List.getElem?_eq_getElem (by omega)]

end Go.Proofs.Ytaaedebknacheaa.AB

set_option maxRecDepth 100000
set_option maxHeartbeats 2000000
namespace Go.Proofs.Ytaaedebknacheaa.AB
open Go
noncomputable def X17 : Cx := ⟨tt, [(55, [.cd (.pair (.int .i64) (.pair (.int .i64) (.pair (.slice (.int .i64)) (.slice (.int .i64)))))])], [(56, [])], [(17, [(4, 10, .x (.pure (.pair (.int .i64) (.pair (.int .i64) (.pair (.slice (.int .i64)) (.slice (.int .i64))))))), (4, 11, .x yZ3), (4, 12, .x yZ3), (5, 5, .xc)])], [], []⟩
theorem FN17 : fnsB Try.prog X17.fns := (show True from trivial)
theorem E17 (X : XH) (t0 : Nat) (f1 : (Int × (Int × ((List Int) × (List Int))))) {R : (Int × Int) → XH → Prop} (h : (∃ (a1 : ((Option Nat) × (Int × (Int × (Option SlH))))), XH.el X yZ2 t0 0 = some a1 ∧ (∃ (es2 : List (Int × (Option Nat))), XH.vmp X (.int .i64) (.ref yZ3) a1.1 = some es2 ∧ (((decide (((es2).length : Int) ≥ (64 : Int))) = true → R ((0 : Int), (3 : Int)) X) ∧
 ((decide (((es2).length : Int) ≥ (64 : Int))) = false → (∃ (a3 : ((Option Nat) × (Int × (Int × (Option SlH))))), XH.el X yZ2 t0 0 = some a3 ∧ (∃ (a4 : ((Option Nat) × (Int × (Int × (Option SlH))))), XH.el X yZ2 t0 0 = some a4 ∧ (∀ (X5 : XH), X5 = (XH.setEl X yZ2 t0 0 ((a4.1, ((IntKind.wrap .i64 (a3.2.1 + (1 : Int))), a4.2.2)))) → (∃ (a6 : ((Option Nat) × (Int × (Int × (Option SlH))))), XH.el X5 yZ2 t0 0 = some a6 ∧ (∃ (a7 : ((Option Nat) × (Int × (Int × (Option SlH))))), XH.el X5 yZ2 t0 0 = some a7 ∧ (∃ p8 : (Int × (Int × ((List Int) × (List Int)))), PC Try.prog 55 [(.agg [(.int .i64 f1.1), (.int .i64 f1.2.1), (.list (.int .i64) f1.2.2.1 .no), (.list (.int .i64) f1.2.2.2 .no)])] ((.agg [(.int .i64 p8.1), (.int .i64 p8.2.1), (.list (.int .i64) p8.2.2.1 .no), (.list (.int .i64) p8.2.2.2 .no)])) ∧ (∀ (X9 : XH), X9 = (XH.add X5 (.arr (.pure (.pair (.int .i64) (.pair (.int .i64) (.pair (.slice (.int .i64)) (.slice (.int .i64)))))) ([(p8.1, (p8.2.1, (p8.2.2.1, p8.2.2.2)))] : List (Int × (Int × ((List Int) × (List Int))))))) → (∀ (X10 : XH), X10 = (XH.add X9 (.arr yZ3 [((some ⟨X5.n, 0, 1, 1⟩), ((0 : Int), none))])) → (∃ (h11 : Nat) (es12 : List (Int × (Option Nat))), a6.1 = some h11 ∧ XH.mp X10 (.int .i64) (.ref yZ3) h11 = some es12 ∧ (∀ (X13 : XH), X13 = (XH.set X10 h11 (.map (.int .i64) (.ref yZ3) (mset (Cd.keq (.int .i64) a7.2.1) a7.2.1 (some X9.n) es12))) → (∃ (a14 : ((Option Nat) × (Int × (Int × (Option SlH))))), XH.el X13 yZ2 t0 0 = some a14 ∧ (XC Try.prog 56 [] [(.ref (some t0) yZ2 0 []), (.v (.int .i64 a14.2.1))] X13 (fun (p15 : Unit) (X16 : XH) => (∃ (a17 : ((Option Nat) × (Int × (Int × (Option SlH))))), XH.el X16 yZ2 t0 0 = some a17 ∧ R (a17.2.1, (0 : Int)) X16))))))))))))))))))) :
  fnK X17.tt (callN Try.prog X17 0) (X17.md 17) (X17.mk1 17) Try.f17 [(.ref (some t0) yZ2 0 []), (.v (.agg [(.int .i64 f1.1), (.int .i64 f1.2.1), (.list (.int .i64) f1.2.2.1 .no), (.list (.int .i64) f1.2.2.2 .no)]))] ⟨[], [some (.heap X)], ⟨0, []⟩⟩ (xfin [(.pure (.int .i64)), (.pure (.int .i64))] R) := Eq.mp (by kernel_rfl) h
end Go.Proofs.Ytaaedebknacheaa.AB

set_option maxRecDepth 100000
set_option maxHeartbeats 2000000
namespace Go.Proofs.Ytaaedebknacheaa.AB
open Go
noncomputable def X19 : Cx := ⟨tt, [], [(56, []), (58, [(.pure (.int .i64)), (.pure (.int .i64))])], [(19, [(1, 1, .xc), (3, 2, .xc)])], [], []⟩
theorem FN19 : fnsB Try.prog X19.fns := (show True from trivial)
theorem E19 (X : XH) (t0 : Nat) {R : (Int) → XH → Prop} (h : (XC Try.prog 58 [(.pure (.int .i64)), (.pure (.int .i64))] [(.ref (some t0) yZ2 0 []), (.v (.int .i64 (1 : Int)))] X (fun (p1 : Int × Int) (X2 : XH) => (((p1.2 == (0 : Int)) = true → (XC Try.prog 56 [] [(.ref (some t0) yZ2 0 []), (.v (.int .i64 p1.1))] X2 (fun (p3 : Unit) (X4 : XH) => R p1.2 X4))) ∧
 ((p1.2 == (0 : Int)) = false → R p1.2 X2))))) :
  fnK X19.tt (callN Try.prog X19 0) (X19.md 19) (X19.mk1 19) Try.f19 [(.ref (some t0) yZ2 0 [])] ⟨[], [some (.heap X)], ⟨0, []⟩⟩ (xfin [(.pure (.int .i64))] R) := Eq.mp (by kernel_rfl) h
end Go.Proofs.Ytaaedebknacheaa.AB

set_option maxRecDepth 100000
set_option maxHeartbeats 2000000
namespace Go.Proofs.Ytaaedebknacheaa.AB
open Go
noncomputable def X47 : Cx := ⟨tt, [], [(58, [(.pure (.int .i64)), (.pure (.int .i64))])], [(47, [(10, 1, .xc), (11, 7, .x (.pure (.int .i64)))])], [], []⟩
theorem FN47 : fnsB Try.prog X47.fns := (show True from trivial)
theorem E47 (X : XH) (t0 : Nat) (other1 : Int) {R : (Bool × Int) → XH → Prop} (h : (∃ (a1 : ((Option Nat) × (Int × (Int × (Option SlH))))), XH.el X yZ2 t0 0 = some a1 ∧ (((a1.2.2.1 == (0 : Int)) = true → R (false, (25 : Int)) X) ∧
 ((a1.2.2.1 == (0 : Int)) = false → (((decide (other1 < (1 : Int))) = true → R (false, (24 : Int)) X) ∧ ((decide (other1 < (1 : Int))) = false → (∃ (a2 : ((Option Nat) × (Int × (Int × (Option SlH))))), XH.el X yZ2 t0 0 = some a2 ∧ (((decide (other1 > a2.2.1)) = true → R (false, (24 : Int)) X) ∧
 ((decide (other1 > a2.2.1)) = false → (∃ (a3 : ((Option Nat) × (Int × (Int × (Option SlH))))), XH.el X yZ2 t0 0 = some a3 ∧ (((other1 == a3.2.2.1) = true → R (false, (25 : Int)) X) ∧
 ((other1 == a3.2.2.1) = false → (∃ (a4 : ((Option Nat) × (Int × (Int × (Option SlH))))), XH.el X yZ2 t0 0 = some a4 ∧ (∃ (es5 : List (Int × (Option Nat))), XH.vmp X (.int .i64) (.ref yZ3) a4.1 = some es5 ∧ (∀ (v6 : (Option Nat)), mfind (Cd.keq (.int .i64) other1) es5 = some v6 → (((Option.isNone v6) = true → R (true, (0 : Int)) X) ∧
 ((Option.isNone v6) = false → (XC Try.prog 58 [(.pure (.int .i64)), (.pure (.int .i64))] [(.ref (some t0) yZ2 0 []), (.v (.int .i64 (4 : Int)))] X (fun (p7 : Int × Int) (X8 : XH) => (refK v6 (fun (h9 : Nat) => (∃ (a10 : ((Option SlH) × (Int × (Option SlH)))), XH.el X8 yZ3 h9 0 = some a10 ∧ (∃ (l11 l12 : List Int), XH.view X8 (.pure (.int .i64)) a10.2.2 = some l11 ∧ (srcX X8 (.pure (.int .i64)) (.v (.list (.int .i64) ([p7.1] : List Int) .exact))) = some l12 ∧ ((slN a10.2.2) + (l12).length) * 8 ≤ room ∧ ∀ (X13 : XH) (s14 : Option SlH), XApp X8 (.pure (.int .i64)) (0 : Int) l11 l12 a10.2.2 X13 s14 → (refK v6 (fun (h15 : Nat) => (∃ (a16 : ((Option SlH) × (Int × (Option SlH)))), XH.el X13 yZ3 h15 0 = some a16 ∧ (∀ (X17 : XH), X17 = (XH.setEl X13 yZ3 h15 0 ((a16.1, (a16.2.1, s14)))) → R (false, (0 : Int)) X17))))))))))))) ∧ (mfind (Cd.keq (.int .i64) other1) es5 = none → ((true = true → R (true, (0 : Int)) X) ∧
 (true = false → (XC Try.prog 58 [(.pure (.int .i64)), (.pure (.int .i64))] [(.ref (some t0) yZ2 0 []), (.v (.int .i64 (4 : Int)))] X (fun (p18 : Int × Int) (X19 : XH) => False))))))))))))))))))) :
  fnK X47.tt (callN Try.prog X47 0) (X47.md 47) (X47.mk1 47) Try.f47 [(.ref (some t0) yZ2 0 []), (.v (.int .i64 other1))] ⟨[], [some (.heap X)], ⟨0, []⟩⟩ (xfin [(.pure .bool), (.pure (.int .i64))] R) := Eq.mp (by kernel_rfl) h
end Go.Proofs.Ytaaedebknacheaa.AB

namespace Go.Proofs.Ytaaedebknacheaa.AB
open Go

variable {X X' : XH} {t : Nat} {d : DT}

theorem msetN {α β : Type} {eq : α → Bool} {k : α} {b : β} : ∀ {l : List (α × β)}, mfind eq l = none → mset eq k b l = l ++ [(k, b)]
 | [], _ => rfl
 | (a, c) :: r, h => by
  unfold mfind at h
  unfold mset
  cases he : eq a with
  | true => rw [he] at h; cases h
  | false => rw [he] at h; simp only [List.cons_append]; rw [msetN h]

theorem Rep.start (h : Rep X t d) {id : Int} {f : Fr} (hid : ∀ a ∈ d.ab.rows, a.id ≠ id) {X1 X2 X3 : XH} (h1 : X1 = X.add (.arr cF [f])) (h2 : X2 = X1.add (.arr yZ3 [(some ⟨X.n, 0, 1, 1⟩, (0, none))]))
  (h3 : X3 = X2.set d.hm (.map (.int .i64) (.ref yZ3) (ents d.rows ++ [(id, some X1.n)]))) :
  ∃ d', Rep X3 t d' ∧ Mv X (t :: d.hs) X3 (t :: d'.hs) ∧ d'.ab = ⟨d.last, d.run, d.queue, d.ab.rows ++ [⟨id, 0, [f], []⟩]⟩ ∧ d'.queue = d.queue := by
 have hlt := h.lt
 have hs := h.sep
 have n1 : X1.n = X.n + 1 := by rw [h1]; rfl
 have n2 : X2.n = X.n + 2 := by rw [h2]; show X1.n + 1 = _; omega
 have hmlt : d.hm < X.n := at_lt h.map
 have old : ∀ k, k < X.n → k ≠ d.hm → X3.at k = X.at k := by
  intro k hk hne
  rw [h3, at_set_ne hne, h2, at_add_old (by omega), h1, at_add_old hk]
 have hm2 : X2.at d.hm = some (.map (.int .i64) (.ref yZ3) (ents d.rows)) := by
  rw [h2, at_add_old (by omega), h1, at_add_old hmlt]; exact h.map
 have hthm : t ≠ d.hm := by
  intro e; rw [e] at hs; simp [DT.hs] at hs
 have e0 : t :: d.hs = [t, d.hm] ++ hl d.q ++ d.rows.flatMap Thr.hs := by simp [DT.hs]
 have hout : ∀ k ∈ hl d.q ++ d.rows.flatMap Thr.hs, k ≠ d.hm ∧ k < X.n := by
  intro k hk
  refine ⟨fun e => ?_, hlt k (by rw [e0, List.append_assoc]; exact List.mem_append_right _ hk)⟩
  rw [e0, List.append_assoc, List.nodup_append] at hs
  exact hs.2.2 d.hm (by simp) k hk e.symm
 refine ⟨⟨d.hm, d.last, d.run, d.q, d.queue, d.rows ++ [⟨⟨id, 0, [f], []⟩, X1.n, some ⟨X.n, 0, 1, 1⟩, none⟩]⟩, ⟨?_, ?_, ?_, ?_, ?_, ?_⟩, ?_, by simp [DT.ab], rfl⟩
 ·exact h.box.keep (old t h.box.lt hthm)
 ·rw [h3]
  refine (at_set_self hm2).trans ?_
  simp [ents]
 ·exact h.q.keep fun k hk => by
   have := hout k (List.mem_append_left _ hk)
   exact old k this.2 this.1
 ·intro r hr
  rcases List.mem_append.1 hr with hr | hr
  ·exact (h.rows r hr).keep fun k hk => by
    have := hout k (List.mem_append_right _ (List.mem_flatMap.2 ⟨r, hr, hk⟩))
    exact old k this.2 this.1
  ·simp only [List.mem_singleton] at hr
   subst hr
   refine ⟨?_, ⟨[f], ?_, Nat.le_refl _, Nat.le_refl _, rfl⟩, rfl⟩
   ·show X3.at X1.n = _
    rw [h3, at_set_ne (by omega), h2]
    exact at_add_new _ _
   ·show X3.at X.n = _
    rw [h3, at_set_ne (by omega), h2, at_add_old (by omega), h1]
    exact at_add_new _ _
 ·simp only [List.map_append, List.map_cons, List.map_nil, List.nodup_append]
  refine ⟨h.ids, by simp, ?_⟩
  intro a ha b hb e
  obtain ⟨r, hr, rfl⟩ := List.mem_map.1 ha
  simp only [List.mem_singleton] at hb
  exact hid r.toAb (List.mem_map.2 ⟨r, hr, rfl⟩) (e.trans hb)
 ·have e1 : t :: DT.hs ⟨d.hm, d.last, d.run, d.q, d.queue, d.rows ++ [⟨⟨id, 0, [f], []⟩, X1.n, some ⟨X.n, 0, 1, 1⟩, none⟩]⟩ = (t :: d.hs) ++ [X1.n, X.n] := by
   simp [DT.hs, Thr.hs, hl]
  rw [e1, List.nodup_append]
  refine ⟨hs, by simp; omega, ?_⟩
  intro a ha b hb e
  have := hlt a ha
  simp only [List.mem_cons, List.not_mem_nil, or_false] at hb
  omega
 ·refine ⟨?_, fun k hk hn => ?_, fun k hk => ?_⟩
  ·rw [h3]; show X.n ≤ X2.n; omega
  ·exact old k hk fun e => hn (by rw [e]; simp [DT.hs])
  ·have e1 : t :: DT.hs ⟨d.hm, d.last, d.run, d.q, d.queue, d.rows ++ [⟨⟨id, 0, [f], []⟩, X1.n, some ⟨X.n, 0, 1, 1⟩, none⟩]⟩ = (t :: d.hs) ++ [X1.n, X.n] := by
    simp [DT.hs, Thr.hs, hl]
   rw [e1] at hk
   rcases List.mem_append.1 hk with hk | hk
   ·exact .inl hk
   ·refine .inr ?_
    simp only [List.mem_cons, List.not_mem_nil, or_false] at hk
    omega

def Nums (m : MT) : Prop := 0 ≤ m.last ∧ m.last < 4611686018427387904 ∧ ∀ a ∈ m.rows, a.id ≤ m.last

theorem c17 (h : Rep X t d) {f : Fr} (hf : Small f) (hn : Nums d.ab) (hlen : (d.queue.length + 1) * 8 ≤ room) :
  XC Try.prog 17 [.pure (.int .i64), .pure (.int .i64)] [.ref (some t) yZ2 0 [], .v (.agg [.int .i64 f.1, .int .i64 f.2.1, .list (.int .i64) f.2.2.1 .no, .list (.int .i64) f.2.2.2 .no])] X fun p X' =>
   (64 ≤ d.ab.rows.length ∧ p = ((0 : Int), (3 : Int)) ∧ X' = X) ∨ (¬ 64 ≤ d.ab.rows.length ∧ p = (d.last + 1, (0 : Int)) ∧ Post X t d X' (d.ab.start f)) := by
 obtain ⟨hn1, hn2, hn3⟩ := hn
 have hn1 : 0 ≤ d.last := hn1
 have hn2 : d.last < 4611686018427387904 := hn2
 have hrl : (ents d.rows).length = d.ab.rows.length := by simp [ents, DT.ab]
 have hw : IntKind.wrap .i64 (d.last + 1) = d.last + 1 := wrap64 (by omega) (by omega)
 refine xcOf (X := X17) rfl FN17 (by kernel_rfl) (by decide) (E17 X t f ⟨_, h.box.el, ents d.rows, h.mp, fun e => ?_, fun e => ⟨_, h.box.el, _, h.box.el, fun X5 e5 => ?_⟩⟩)
 ·have e : (64 : Int) ≤ ((ents d.rows).length : Int) := by simpa using e
  exact .inl ⟨by omega, rfl, rfl⟩
 ·have e : ¬ (64 : Int) ≤ ((ents d.rows).length : Int) := by simpa using e
  rw [h.box.setEl] at e5
  have htq : t ∉ hl d.q := fun e => by
   have := h.sep
   simp only [DT.hs, List.nodup_cons, List.mem_cons, List.mem_append] at this
   exact this.1 (.inr (.inl e))
  have b5 : Box X5 yZ2 t (some d.hm, (d.last + 1, (d.run, d.q))) := by
   have := h.box.set (b := (some d.hm, (d.last + 1, (d.run, d.q))))
   rw [e5]
   dsimp only
   rw [hw]
   exact this
  obtain ⟨a1, a2⟩ := h.tab (last := d.last + 1) (run := d.run) (q := d.q) (queue := d.queue) (by rw [e5]; exact Mv.set (List.mem_cons_self ..)) (fun k hk => .inl hk) b5
   (h.q.keep fun k hk => by rw [e5]; exact at_set_ne fun e => htq (e ▸ hk))
  have hid : ∀ a ∈ d.ab.rows, a.id ≠ d.last + 1 := fun a ha e => by
   have h1 := hn3 a ha
   have h2 : d.ab.last = d.last := rfl
   omega
  refine ⟨_, b5.el, _, b5.el, f, c55 hf, fun X9 e9 X10 e10 => ⟨d.hm, ents d.rows, rfl, ?_, fun X13 e13 => ?_⟩⟩
  ·refine mp_at.2 ?_
   have l1 := at_lt a1.map
   have l9 : X9.n = X5.n + 1 := by rw [e9]; rfl
   have l1 : d.hm < X5.n := l1
   rw [e10, at_add_old (by omega), e9, at_add_old l1]
   exact a1.map
  ·have hms := msetN (k := d.last + 1) (b := some X9.n) (rows_none (l := d.rows) (id := d.last + 1) fun r hr => hid r.toAb (List.mem_map.2 ⟨r, hr, rfl⟩))
   have e13 : X13 = X10.set d.hm (.map (.int .i64) (.ref yZ3) (ents d.rows ++ [(d.last + 1, some X9.n)])) := by
    rw [e13, ← hms]
   obtain ⟨d', r1, r2, r3, r4⟩ := a1.start (id := d.last + 1) (f := f) hid e9 e10 e13
   have hab : d'.last = d.last + 1 := congrArg MT.last r3
   have hrows : d'.ab.rows = d.ab.rows ++ [⟨d.last + 1, 0, [f], []⟩] := congrArg MT.rows r3
   have hc := c56 r1 (id := d.last + 1) ⟨⟨d.last + 1, 0, [f], []⟩, by rw [hrows]; simp, rfl⟩ (by rw [r4]; exact hlen)
   refine ⟨_, r1.box.el, ?_⟩
   show XC Try.prog 56 [] [_, .v (.int .i64 d'.last)] X13 _
   rw [hab]
   refine hc.mono ?_
   rintro _ X16 ⟨d16, s1, s2, s3⟩
   have hl16 : d16.last = d.last + 1 := by
    have : d16.ab.last = (d'.ab.ready (d.last + 1)).last := congrArg MT.last s3
    exact this.trans hab
   refine ⟨_, s1.box.el, .inr ⟨by omega, ?_, d16, s1, (a2.trans r2).trans s2, ?_⟩⟩
   ·show (d16.last, (0 : Int)) = _
    rw [hl16]
   ·rw [s3, r3]
    simp only [MT.ready, MT.start, MT.set, updAb, List.map_append, List.map_cons, List.map_nil, if_true]
    have : (d.ab.rows.map fun a => if a.id = d.last + 1 then { a with st := 1 } else a) = d.ab.rows := by
     refine (List.map_congr_left fun a ha => ?_).trans (List.map_id _)
     rw [if_neg (hid a ha)]; rfl
    exact (congrArg (fun l => (⟨d.last + 1, d.run, d.queue ++ [d.last + 1], l ++ [⟨d.last + 1, 1, [f], []⟩]⟩ : MT)) this)

theorem c19 (h : Rep X t d) (hid : d.run ≠ 0 → ∃ a ∈ d.ab.rows, a.id = d.run) (hlen : (d.queue.length + 1) * 8 ≤ room) :
  XC Try.prog 19 [.pure (.int .i64)] [.ref (some t) yZ2 0 []] X fun p X' =>
   (d.run = 0 ∧ p = (25 : Int) ∧ X' = X) ∨ (d.run ≠ 0 ∧ p = (0 : Int) ∧ Post X t d X' ((d.ab.rest 1).ready d.run)) := by
 refine xcOf (X := X19) rfl FN19 (by kernel_rfl) (by decide) (E19 X t ((c58 h hid).mono ?_))
 rintro p X2 (⟨h1, rfl, rfl⟩ | ⟨h1, rfl, d2, h2, h3, h4, _⟩)
 ·exact ⟨fun e => (by cases e), fun _ => .inl ⟨h1, rfl, rfl⟩⟩
 ·refine ⟨fun _ => ?_, fun e => by cases e⟩
  obtain ⟨a, ha, he⟩ := hid h1
  have hq : d2.queue = d.queue := congrArg MT.queue h4
  refine (c56 h2 (id := d.run) ?_ (by rw [hq]; exact hlen)).mono ?_
  ·rw [h4]
   refine ⟨if a.id = d.ab.run then { a with st := 1 } else a, List.mem_map.2 ⟨a, ha, rfl⟩, ?_⟩
   split <;> exact he
  ·rintro _ X4 ⟨d4, s1, s2, s3⟩
   exact .inr ⟨h1, rfl, d4, s1, h3.trans s2, by rw [s3, h4]⟩

end Go.Proofs.Ytaaedebknacheaa.AB

set_option maxRecDepth 100000
set_option maxHeartbeats 2000000
namespace Go.Proofs.Ytaaedebknacheaa.AB
open Go
noncomputable def X57 : Cx := ⟨tt, [], [], [(57, [(0, 0, .x (.sl (.pure (.int .i64)))), (5, 6, .x (.pure (.int .i64)))])], [], []⟩
theorem FN57 : fnsB Try.prog X57.fns := (show True from trivial)
theorem E57 (X : XH) (s0 : (Option SlH)) (i1 : Int) (j2 : Int) {R : ((Option SlH)) → XH → Prop} (h : (0 ≤ (((slN s0) : Nat) : Int) ∧ (((slN s0) : Nat) : Int) ≤ (((slC s0) : Nat) : Int) ∧ (0 ≤ i1 ∧ i1 ≤ j2 ∧ j2 ≤ ((((((slN s0) : Nat) : Int)).toNat : Nat) : Int) ∧ (((i1 == j2) = true → R s0 X) ∧
 ((i1 == j2) = false → (0 ≤ i1 ∧ i1 ≤ (((slC s0) : Nat) : Int) ∧ (0 ≤ j2 ∧ j2 ≤ (((slN s0) : Nat) : Int) ∧ (∃ (l1 l2 : List Int), XH.view X (.pure (.int .i64)) (slCut s0 0 ((i1).toNat) (slC s0)) = some l1 ∧ (srcX X (.pure (.int .i64)) (.sl (.pure (.int .i64)) (slCut s0 ((j2).toNat) (slN s0) (slC s0)))) = some l2 ∧ ((slN ((slCut s0 0 ((i1).toNat) (slC s0)))) + (l2).length) * 8 ≤ room ∧ ∀ (X3 : XH) (s4 : Option SlH), XApp X (.pure (.int .i64)) (0 : Int) l1 l2 (slCut s0 0 ((i1).toNat) (slC s0)) X3 s4 → (0 ≤ (((slN s4) : Nat) : Int) ∧ (((slN s4) : Nat) : Int) ≤ (((slN s0) : Nat) : Int) ∧ (((slN s0) : Nat) : Int) ≤ (((slC s4) : Nat) : Int) ∧ (∃ (d5 : List Int), XH.view X3 (.pure (.int .i64)) (slCut s4 (((((slN s4) : Nat) : Int)).toNat) (((((slN s0) : Nat) : Int)).toNat) (slC s4)) = some d5 ∧ (∀ (X6 : XH), X6 = (XH.over X3 (.pure (.int .i64)) (slCut s4 (((((slN s4) : Nat) : Int)).toNat) (((((slN s0) : Nat) : Int)).toNat) (slC s4)) 0 (List.replicate (slN ((slCut s4 (((((slN s4) : Nat) : Int)).toNat) (((((slN s0) : Nat) : Int)).toNat) (slC s4)))) (0 : Int))) → R s4 X6))))))))))) :
  fnK X57.tt (callN Try.prog X57 0) (X57.md 57) (X57.mk1 57) Try.f57 [(.sl (.pure (.int .i64)) s0), (.v (.int .i64 i1)), (.v (.int .i64 j2))] ⟨[], [some (.heap X)], ⟨0, []⟩⟩ (xfin [(.sl (.pure (.int .i64)))] R) := Eq.mp (by kernel_rfl) h
end Go.Proofs.Ytaaedebknacheaa.AB

namespace Go.Proofs.Ytaaedebknacheaa.AB
open Go

variable {X X' : XH} {c : Xd} {l : List c.T}

theorem SlAt.cut {s : SlH} (h : SlAt X c (some s) l) {p q m : Nat} (h1 : p ≤ q) (h2 : q ≤ m) (h3 : m ≤ s.cap) (h4 : q ≤ s.len) : SlAt X c (slCut (some s) p q m) ((l.take q).drop p) := by
 obtain ⟨a, ha, hb, hc, hl⟩ := h
 refine ⟨a, ha, ?_, ?_, ?_⟩
 ·dsimp only; omega
 ·dsimp only; omega
 ·dsimp only
  refine List.ext_getElem? fun i => ?_
  rw [List.getElem?_drop, List.getElem?_take, List.getElem?_take, List.getElem?_drop, hl, List.getElem?_take, List.getElem?_drop]
  by_cases e : p + i < q
  ·rw [if_pos e, if_pos (by omega), if_pos (by omega)]; congr 1; omega
  ·rw [if_neg e, if_neg (by omega)]

theorem SlAt.behind {s : SlH} (h : SlAt X c (some s) l) {k : Nat} {l' : List c.T} (hk : s.len ≤ k) (hl' : k + l'.length ≤ s.cap) {a : List c.T} (ha : X.at s.h = some (.arr c a)) :
  SlAt (X.set s.h (.arr c (AB.over a (s.off + k) l'))) c (some s) l := by
 obtain ⟨a', ha', hb, hc, hl⟩ := h
 rw [ha] at ha'
 cases ha'
 refine ⟨_, at_set_self ha, ?_, hc, ?_⟩
 ·rw [over_length (by omega)]; exact hb
 ·rw [hl]
  refine List.ext_getElem? fun i => ?_
  rw [List.getElem?_take, List.getElem?_take]
  by_cases e : i < s.len
  ·rw [if_pos e, if_pos e, List.getElem?_drop, List.getElem?_drop, over_get (by omega), if_neg (by omega)]
  ·rw [if_neg e, if_neg e]

theorem c57 {x : Option SlH} {l : List Int} (h : SlAt X cI x l) {i j : Int} (h0 : 0 ≤ i) (h1 : i ≤ j) (h2 : j ≤ (l.length : Int)) (hr : l.length * 8 ≤ room) :
  XC Try.prog 57 [.sl cI] [.sl cI x, .v (.int .i64 i), .v (.int .i64 j)] X fun p X' => SlAt X' cI p (l.take i.toNat ++ l.drop j.toNat) ∧ Mv X (hl x) X' (hl p) := by
 have hlen := h.len
 have hle := h.le
 refine xcOf (X := X57) rfl FN57 (by kernel_rfl) (by decide) (E57 X x i j ⟨by omega, by omega, h0, h1, by omega, fun e => ?_, fun e => ⟨h0, by omega, by omega, by omega, ?_⟩⟩)
 ·have e : i = j := by simpa using e
  subst e
  rw [List.take_append_drop]
  exact ⟨h, .refl _ _⟩
 ·have e : i ≠ j := by simpa using e
  obtain ⟨s, rfl⟩ : ∃ s, x = some s := by
   cases x with
   | none => simp only [SlAt] at h; subst h; simp at h2; omega
   | some s => exact ⟨s, rfl⟩
  simp only [slN, slC] at hlen hle ⊢
  have hc1 := h.cut (p := 0) (q := i.toNat) (m := s.cap) (by omega) (by omega) (Nat.le_refl _) (by omega)
  have hc2 := h.cut (p := j.toNat) (q := s.len) (m := s.cap) (by omega) (by omega) (Nat.le_refl _) (Nat.le_refl _)
  rw [List.take_of_length_le (by omega)] at hc2
  rw [List.drop_zero] at hc1
  refine ⟨l.take i.toNat, l.drop j.toNat, hc1.view, ?_, ?_, fun X3 s4 hx => ?_⟩
  ·exact hc2.view
  ·show (i.toNat - 0 + (l.drop j.toNat).length) * 8 ≤ room
   rw [List.length_drop]; omega
  ·obtain ⟨b1, b2⟩ := hx.spec hc1
   have hl3 : ∃ a, X3.at s.h = some (.arr cI a) ∧ s4 = some ⟨s.h, s.off, i.toNat + (l.length - j.toNat), s.cap⟩ := by
    have hx' : XApp X cI (0 : Int) (l.take i.toNat) (l.drop j.toNat) (some ⟨s.h, s.off + 0, i.toNat - 0, s.cap - 0⟩) X3 s4 := hx
    cases hx' with
    | room s' hs =>
     obtain ⟨a, ha, _⟩ := b1
     exact ⟨a, ha, by simp [List.length_drop]⟩
    | grow _ k hk =>
     change s.cap - 0 < i.toNat - 0 + (l.drop j.toNat).length at hk
     rw [List.length_drop] at hk
     omega
   obtain ⟨a3, ha3, rfl⟩ := hl3
   refine ⟨by simp only [slN]; omega, by simp only [slN]; omega, by simp only [slC]; omega, _, by simp only [slCut, XH.view, arr_at.2 ha3]; rfl, fun X6 e6 => ?_⟩
   simp only [slCut, slN, slC] at e6
   have e6 := e6.trans (XH.over_eq ha3 _ _)
   subst e6
   have := b1.behind (k := i.toNat + (l.length - j.toNat)) (l' := List.replicate (s.len - (i.toNat + (l.length - j.toNat))) (0 : Int)) (Nat.le_refl _) (by simp only [List.length_replicate]; omega) ha3
   refine ⟨?_, ?_⟩
   ·simp only [Int.toNat_natCast, Nat.add_zero, slN] at this ⊢
    exact this
   ·exact (b2.weak (T := hl (some s)) (T' := hl (some s)) (fun k hk => hk) fun k hk => .inr hk).trans (Mv.set (by simp [hl]))

end Go.Proofs.Ytaaedebknacheaa.AB

set_option maxRecDepth 100000
set_option maxHeartbeats 2000000
namespace Go.Proofs.Ytaaedebknacheaa.AB
open Go
noncomputable def X18 : Cx := ⟨tt, [], [(57, [(.sl (.pure (.int .i64)))])], [(18, [(7, 8, .xc)])], [], []⟩
theorem FN18 : fnsB Try.prog X18.fns := (show True from trivial)
theorem E18 (X : XH) (t0 : Nat) (pick1 : Int) {R : (Int × Bool) → XH → Prop} (h : (∃ (a1 : ((Option Nat) × (Int × (Int × (Option SlH))))), XH.el X yZ2 t0 0 = some a1 ∧ (((decide (a1.2.2.1 > (0 : Int))) = true → R ((0 : Int), false) X) ∧ ((decide (a1.2.2.1 > (0 : Int))) = false → (∃ (a2 : ((Option Nat) × (Int × (Int × (Option SlH))))), XH.el X yZ2 t0 0 = some a2 ∧ ((((((slN a2.2.2.2) : Nat) : Int) == (0 : Int)) = true → R ((0 : Int), false) X) ∧
 (((((slN a2.2.2.2) : Nat) : Int) == (0 : Int)) = false → (((decide (pick1 < (0 : Int))) = true → (∃ (a3 : ((Option Nat) × (Int × (Int × (Option SlH))))), XH.el X yZ2 t0 0 = some a3 ∧ ((((slN a3.2.2.2) : Nat) : Int) ≠ 0 ∧ (∃ (a4 : ((Option Nat) × (Int × (Int × (Option SlH))))), XH.el X yZ2 t0 0 = some a4 ∧ (∃ (u5 : SlH), a4.2.2.2 = some u5 ∧ 0 ≤ (Int.tmod (IntKind.wrap .i64 ((BitVec.ofInt (IntKind.bits .i64) (-1) ^^^ BitVec.ofInt (IntKind.bits .i64) pick1).toNat : Int)) (((slN a3.2.2.2) : Nat) : Int)) ∧ (Int.tmod (IntKind.wrap .i64 ((BitVec.ofInt (IntKind.bits .i64) (-1) ^^^ BitVec.ofInt (IntKind.bits .i64) pick1).toNat : Int)) (((slN a3.2.2.2) : Nat) : Int)) < ((u5.len : Nat) : Int) ∧ (∃ (a6 : Int), XH.el X (.pure (.int .i64)) u5.h ((u5.off + ((Int.tmod (IntKind.wrap .i64 ((BitVec.ofInt (IntKind.bits .i64) (-1) ^^^ BitVec.ofInt (IntKind.bits .i64) pick1).toNat : Int)) (((slN a3.2.2.2) : Nat) : Int))).toNat)) = some a6 ∧ (∃ (a7 : ((Option Nat) × (Int × (Int × (Option SlH))))), XH.el X yZ2 t0 0 = some a7 ∧ (∀ (X8 : XH), X8 = (XH.setEl X yZ2 t0 0 ((a7.1, (a7.2.1, (a6, a7.2.2.2))))) → (∃ (a9 : ((Option Nat) × (Int × (Int × (Option SlH))))), XH.el X8 yZ2 t0 0 = some a9 ∧ (XC Try.prog 57 [(.sl (.pure (.int .i64)))] [(.sl (.pure (.int .i64)) a9.2.2.2), (.v (.int .i64 ((Int.tmod (IntKind.wrap .i64 ((BitVec.ofInt (IntKind.bits .i64) (-1) ^^^ BitVec.ofInt (IntKind.bits .i64) pick1).toNat : Int)) (((slN a3.2.2.2) : Nat) : Int))))), (.v (.int .i64 ((IntKind.wrap .i64 ((Int.tmod (IntKind.wrap .i64 ((BitVec.ofInt (IntKind.bits .i64) (-1) ^^^ BitVec.ofInt (IntKind.bits .i64) pick1).toNat : Int)) (((slN a3.2.2.2) : Nat) : Int)) + (1 : Int))))))] X8 (fun (p10 : (Option SlH)) (X11 : XH) => (∃ (a12 : ((Option Nat) × (Int × (Int × (Option SlH))))), XH.el X11 yZ2 t0 0 = some a12 ∧ (∀ (X13 : XH), X13 = (XH.setEl X11 yZ2 t0 0 ((a12.1, (a12.2.1, (a12.2.2.1, p10))))) → (∃ (a14 : ((Option Nat) × (Int × (Int × (Option SlH))))), XH.el X13 yZ2 t0 0 = some a14 ∧ (∃ (a15 : ((Option Nat) × (Int × (Int × (Option SlH))))), XH.el X13 yZ2 t0 0 = some a15 ∧ (∃ (es16 : List (Int × (Option Nat))), XH.vmp X13 (.int .i64) (.ref yZ3) a14.1 = some es16 ∧ (∀ (v17 : (Option Nat)), mfind (Cd.keq (.int .i64) a15.2.2.1) es16 = some v17 → (refK v17 (fun (h18 : Nat) => (∃ (a19 : ((Option SlH) × (Int × (Option SlH)))), XH.el X13 yZ3 h18 0 = some a19 ∧ (∀ (X20 : XH), X20 = (XH.setEl X13 yZ3 h18 0 ((a19.1, ((2 : Int), a19.2.2)))) → (∃ (a21 : ((Option Nat) × (Int × (Int × (Option SlH))))), XH.el X20 yZ2 t0 0 = some a21 ∧ R (a21.2.2.1, true) X20)))))) ∧ (mfind (Cd.keq (.int .i64) a15.2.2.1) es16 = none → False))))))))))))))))) ∧
 ((decide (pick1 < (0 : Int))) = false → (∃ (a22 : ((Option Nat) × (Int × (Int × (Option SlH))))), XH.el X yZ2 t0 0 = some a22 ∧ ((((slN a22.2.2.2) : Nat) : Int) ≠ 0 ∧ (∃ (a23 : ((Option Nat) × (Int × (Int × (Option SlH))))), XH.el X yZ2 t0 0 = some a23 ∧ (∃ (u24 : SlH), a23.2.2.2 = some u24 ∧ 0 ≤ (Int.tmod pick1 (((slN a22.2.2.2) : Nat) : Int)) ∧ (Int.tmod pick1 (((slN a22.2.2.2) : Nat) : Int)) < ((u24.len : Nat) : Int) ∧ (∃ (a25 : Int), XH.el X (.pure (.int .i64)) u24.h ((u24.off + ((Int.tmod pick1 (((slN a22.2.2.2) : Nat) : Int))).toNat)) = some a25 ∧ (∃ (a26 : ((Option Nat) × (Int × (Int × (Option SlH))))), XH.el X yZ2 t0 0 = some a26 ∧ (∀ (X27 : XH), X27 = (XH.setEl X yZ2 t0 0 ((a26.1, (a26.2.1, (a25, a26.2.2.2))))) → (∃ (a28 : ((Option Nat) × (Int × (Int × (Option SlH))))), XH.el X27 yZ2 t0 0 = some a28 ∧ (XC Try.prog 57 [(.sl (.pure (.int .i64)))] [(.sl (.pure (.int .i64)) a28.2.2.2), (.v (.int .i64 ((Int.tmod pick1 (((slN a22.2.2.2) : Nat) : Int))))), (.v (.int .i64 ((IntKind.wrap .i64 ((Int.tmod pick1 (((slN a22.2.2.2) : Nat) : Int)) + (1 : Int))))))] X27 (fun (p29 : (Option SlH)) (X30 : XH) => (∃ (a31 : ((Option Nat) × (Int × (Int × (Option SlH))))), XH.el X30 yZ2 t0 0 = some a31 ∧ (∀ (X32 : XH), X32 = (XH.setEl X30 yZ2 t0 0 ((a31.1, (a31.2.1, (a31.2.2.1, p29))))) → (∃ (a33 : ((Option Nat) × (Int × (Int × (Option SlH))))), XH.el X32 yZ2 t0 0 = some a33 ∧ (∃ (a34 : ((Option Nat) × (Int × (Int × (Option SlH))))), XH.el X32 yZ2 t0 0 = some a34 ∧ (∃ (es35 : List (Int × (Option Nat))), XH.vmp X32 (.int .i64) (.ref yZ3) a33.1 = some es35 ∧ (∀ (v36 : (Option Nat)), mfind (Cd.keq (.int .i64) a34.2.2.1) es35 = some v36 → (refK v36 (fun (h37 : Nat) => (∃ (a38 : ((Option SlH) × (Int × (Option SlH)))), XH.el X32 yZ3 h37 0 = some a38 ∧ (∀ (X39 : XH), X39 = (XH.setEl X32 yZ3 h37 0 ((a38.1, ((2 : Int), a38.2.2)))) → (∃ (a40 : ((Option Nat) × (Int × (Int × (Option SlH))))), XH.el X39 yZ2 t0 0 = some a40 ∧ R (a40.2.2.1, true) X39)))))) ∧ (mfind (Cd.keq (.int .i64) a34.2.2.1) es35 = none → False))))))))))))))))))))))))) :
  fnK X18.tt (callN Try.prog X18 0) (X18.md 18) (X18.mk1 18) Try.f18 [(.ref (some t0) yZ2 0 []), (.v (.int .i64 pick1))] ⟨[], [some (.heap X)], ⟨0, []⟩⟩ (xfin [(.pure (.int .i64)), (.pure .bool)] R) := Eq.mp (by kernel_rfl) h
end Go.Proofs.Ytaaedebknacheaa.AB

set_option maxRecDepth 100000
set_option maxHeartbeats 2000000
namespace Go.Proofs.Ytaaedebknacheaa.AB
open Go
noncomputable def X16 : Cx := ⟨tt, [], [], [], [], []⟩
theorem FN16 : fnsB Try.prog X16.fns := (show True from trivial)
theorem E16 (c0 : Int) (n1 : Int) {R : V → Prop} (h : (((decide (c0 < (0 : Int))) = true → (n1 ≠ 0 ∧ R (.int .i64 ((Int.tmod (IntKind.wrap .i64 (0 - (IntKind.wrap .i64 (c0 + (1 : Int))))) n1))))) ∧
 ((decide (c0 < (0 : Int))) = false → (n1 ≠ 0 ∧ R (.int .i64 (Int.tmod c0 n1)))))) :
  fnK X16.tt (callN Try.prog X16 0) (X16.md 16) (X16.mk1 16) Try.f16 [(.v (.int .i64 c0)), (.v (.int .i64 n1))] ⟨[], [], ⟨0, []⟩⟩ (topK R) := Eq.mp (by kernel_rfl) h
end Go.Proofs.Ytaaedebknacheaa.AB

set_option maxRecDepth 100000
namespace Go.Proofs.Ytaaedebknacheaa.AB
open Go

variable {X X' : XH} {t : Nat} {d : DT}

def pickN (c n : Int) : Int := if c < 0 then (-(c + 1)) % n else c % n

theorem pickN_range (c : Int) {n : Int} (h : 0 < n) : 0 ≤ pickN c n ∧ pickN c n < n := by
 unfold pickN
 split <;> exact ⟨Int.emod_nonneg _ (by omega), Int.emod_lt_of_pos _ h⟩

theorem c16 {c n : Int} (h1 : -9223372036854775808 ≤ c) (h2 : c ≤ 9223372036854775807) (h3 : 0 < n) : PC Try.prog 16 [.int .i64 c, .int .i64 n] (.int .i64 (pickN c n)) := by
 refine pcOf (X := X16) rfl FN16 (by kernel_rfl) (by decide) (E16 c n ⟨fun e => ⟨by omega, ?_⟩, fun e => ⟨by omega, ?_⟩⟩)
 ·have e : c < 0 := by simpa using e
  rw [wrap64 (x := c + 1) (by omega) (by omega), wrap64 (x := 0 - (c + 1)) (by omega) (by omega)]
  refine ⟨?_, rfl⟩
  rw [Int.tmod_eq_emod_of_nonneg (by omega), pickN, if_pos e]
  simp
  rfl
 ·have e : ¬ c < 0 := by simpa using e
  refine ⟨?_, rfl⟩
  rw [Int.tmod_eq_emod_of_nonneg (by omega), pickN, if_neg e]
  rfl

theorem bnot64 {c : Int} (h1 : -9223372036854775808 ≤ c) (h2 : c < 0) :
  IntKind.wrap .i64 ((BitVec.ofInt (IntKind.bits .i64) (-1) ^^^ BitVec.ofInt (IntKind.bits .i64) c).toNat : Int) = -(c + 1) := by
 have e : (BitVec.ofInt 64 (-1) ^^^ BitVec.ofInt 64 c) = ~~~ (BitVec.ofInt 64 c) := by
  have : BitVec.ofInt 64 (-1) = BitVec.allOnes 64 := by decide
  rw [this, BitVec.allOnes_xor]
 show IntKind.wrap .i64 ((BitVec.ofInt 64 (-1) ^^^ BitVec.ofInt 64 c).toNat : Int) = _
 rw [e, BitVec.toNat_not, BitVec.toNat_ofInt]
 rw [wrap64] <;> omega

theorem next_tail (h : Rep X t d) {i : Int} {k : Nat} (hi : i = (k : Int)) (hk : k < d.queue.length) (hids : ∀ id ∈ d.queue, ∃ a ∈ d.ab.rows, a.id = id) (hlen : d.queue.length * 8 ≤ room)
  {R : Int × Bool → XH → Prop} (hR : ∀ X', Post X t d X' (d.ab.next k) → R (d.queue.getD k 0, true) X') :
  (∃ (a23 : ((Option Nat) × (Int × (Int × (Option SlH))))), XH.el X yZ2 t 0 = some a23 ∧ (∃ (u24 : SlH), a23.2.2.2 = some u24 ∧ 0 ≤ i ∧ i < ((u24.len : Nat) : Int) ∧ (∃ (a25 : Int), XH.el X (.pure (.int .i64)) u24.h ((u24.off + (i).toNat)) = some a25 ∧ (∃ (a26 : ((Option Nat) × (Int × (Int × (Option SlH))))), XH.el X yZ2 t 0 = some a26 ∧ (∀ (X27 : XH), X27 = (XH.setEl X yZ2 t 0 ((a26.1, (a26.2.1, (a25, a26.2.2.2))))) → (∃ (a28 : ((Option Nat) × (Int × (Int × (Option SlH))))), XH.el X27 yZ2 t 0 = some a28 ∧ (XC Try.prog 57 [(.sl (.pure (.int .i64)))] [(.sl (.pure (.int .i64)) a28.2.2.2), (.v (.int .i64 (i))), (.v (.int .i64 ((IntKind.wrap .i64 (i + (1 : Int))))))] X27 (fun (p29 : (Option SlH)) (X30 : XH) => (∃ (a31 : ((Option Nat) × (Int × (Int × (Option SlH))))), XH.el X30 yZ2 t 0 = some a31 ∧ (∀ (X32 : XH), X32 = (XH.setEl X30 yZ2 t 0 ((a31.1, (a31.2.1, (a31.2.2.1, p29))))) → (∃ (a33 : ((Option Nat) × (Int × (Int × (Option SlH))))), XH.el X32 yZ2 t 0 = some a33 ∧ (∃ (a34 : ((Option Nat) × (Int × (Int × (Option SlH))))), XH.el X32 yZ2 t 0 = some a34 ∧ (∃ (es35 : List (Int × (Option Nat))), XH.vmp X32 (.int .i64) (.ref yZ3) a33.1 = some es35 ∧ (∀ (v36 : (Option Nat)), mfind (Cd.keq (.int .i64) a34.2.2.1) es35 = some v36 → (refK v36 (fun (h37 : Nat) => (∃ (a38 : ((Option SlH) × (Int × (Option SlH)))), XH.el X32 yZ3 h37 0 = some a38 ∧ (∀ (X39 : XH), X39 = (XH.setEl X32 yZ3 h37 0 ((a38.1, ((2 : Int), a38.2.2)))) → (∃ (a40 : ((Option Nat) × (Int × (Int × (Option SlH))))), XH.el X39 yZ2 t 0 = some a40 ∧ R (a40.2.2.1, true) X39)))))) ∧ (mfind (Cd.keq (.int .i64) a34.2.2.1) es35 = none → False)))))))))))))) := by
 subst hi
 have hq0 := h.q.len
 obtain ⟨u, hu⟩ : ∃ u, d.q = some u := by
  cases hq : d.q with
  | none => rw [hq] at hq0; simp [slN] at hq0; omega
  | some u => exact ⟨u, rfl⟩
 have hul : u.len = d.queue.length := by rw [hu] at hq0; exact hq0
 have hsl : SlAt X cI (some u) d.queue := by rw [← hu]; exact h.q
 have hel := hsl.el hk
 have htq : t ∉ hl d.q := fun e => by
  have := h.sep
  simp only [DT.hs, List.nodup_cons, List.mem_cons, List.mem_append] at this
  exact this.1 (.inr (.inl e))
 have hget : d.queue.getD k 0 = d.queue[k] := by simp [List.getD, List.getElem?_eq_getElem hk]
 refine ⟨_, h.box.el, u, hu, by omega, by omega, d.queue[k], ?_, _, h.box.el, fun X27 e27 => ?_⟩
 ·rw [Int.toNat_natCast]; exact hel
 rw [h.box.setEl] at e27
 have b27 : Box X27 yZ2 t (some d.hm, (d.last, (d.queue[k], d.q))) := by rw [e27]; exact h.box.set
 have q27 : SlAt X27 cI d.q d.queue := h.q.keep fun j hj => by rw [e27]; exact at_set_ne fun e => htq (e ▸ hj)
 have m27 : Mv X (t :: hl d.q) X27 (t :: hl d.q) := by rw [e27]; exact Mv.set (List.mem_cons_self ..)
 have hdel := c57 q27 (i := (k : Int)) (j := IntKind.wrap .i64 ((k : Int) + 1)) (by omega) (by rw [wrap64 (by unfold room at hlen; omega) (by unfold room at hlen; omega)]; omega)
  (by rw [wrap64 (by unfold room at hlen; omega) (by unfold room at hlen; omega)]; omega) hlen
 refine ⟨_, b27.el, hdel.mono ?_⟩
 rintro q X30 ⟨s30, m30⟩
 have htq30 : t ∉ hl q := fun e => (m30.own t e).elim htq fun e => absurd b27.lt (by omega)
 have b30 := b27.keep (m30.keep t b27.lt htq)
 refine ⟨_, b30.el, fun X32 e32 => ?_⟩
 rw [b30.setEl] at e32
 have b32 : Box X32 yZ2 t (some d.hm, (d.last, (d.queue[k], q))) := by rw [e32]; exact b30.set
 rw [wrap64 (by unfold room at hlen; omega) (by unfold room at hlen; omega), Int.toNat_natCast, show ((k : Int) + 1).toNat = k + 1 by omega, ← List.eraseIdx_eq_take_drop_succ] at s30
 have q32 : SlAt X32 cI q (d.queue.eraseIdx k) := s30.keep fun j hj => by rw [e32]; exact at_set_ne fun e => htq30 (e ▸ hj)
 have m32 : Mv X (t :: hl d.q) X32 (t :: hl q) := by
  rw [e32]
  exact m27.trans ((m30.weak (fun j hj => List.mem_cons_of_mem _ hj) (T' := t :: hl q) fun j hj => by
   rcases List.mem_cons.1 hj with rfl | hj
   ·exact .inr (List.mem_cons_self ..)
   ·exact .inl hj).trans (Mv.set (List.mem_cons_self ..)))
 have hown : ∀ j ∈ hl q, j ∈ hl d.q ∨ X.n ≤ j := fun j hj => (m30.own j hj).imp id fun e => Nat.le_trans m27.n e
 obtain ⟨a1, a2⟩ := h.tab (last := d.last) (run := d.queue[k]) (q := q) (queue := d.queue.eraseIdx k) m32 hown b32 q32
 obtain ⟨l1, r, l2, hd, he, hm, hr, hn⟩ := a1.one (id := d.queue[k]) (hids _ (List.getElem_mem _))
 have hm : mfind (Cd.keq (.int .i64) d.queue[k]) (ents d.rows) = some (some r.h) := hm
 refine ⟨_, b32.el, _, b32.el, ents d.rows, a1.mp, ?_, ?_⟩
 ·intro v hv
  have hv : mfind (Cd.keq (.int .i64) d.queue[k]) (ents d.rows) = some v := hv
  rw [hm] at hv; cases hv
  refine ⟨_, hr.box.el, fun X39 e39 => ?_⟩
  rw [hr.box.setEl] at e39
  obtain ⟨b1, b2, b3⟩ := a1.setSt (s := 2) hd he hr hn
  subst e39
  refine ⟨_, b1.box.el, ?_⟩
  show R (d.queue[k], true) _
  rw [← hget]
  refine hR _ ⟨_, b1, a2.trans b2, ?_⟩
  rw [b3]
  simp only [MT.next, MT.set, DT.ab, hget]
 ·intro e
  have e : mfind (Cd.keq (.int .i64) d.queue[k]) (ents d.rows) = none := e
  rw [hm] at e; cases e

def NextQ (X : XH) (t : Nat) (d : DT) (k : Nat) (p : Int × Bool) (X' : XH) : Prop :=
 ((0 < d.run ∨ d.queue = []) ∧ p = ((0 : Int), false) ∧ X' = X) ∨ (¬ 0 < d.run ∧ d.queue ≠ [] ∧ p = (d.queue.getD k 0, true) ∧ Post X t d X' (d.ab.next k))

theorem c18 (h : Rep X t d) {pick : Int} (h1 : -9223372036854775808 ≤ pick) (h2 : pick ≤ 9223372036854775807) (hids : ∀ id ∈ d.queue, ∃ a ∈ d.ab.rows, a.id = id) (hlen : d.queue.length * 8 ≤ room) :
  XC Try.prog 18 [.pure (.int .i64), .pure .bool] [.ref (some t) yZ2 0 [], .v (.int .i64 pick)] X fun p X' => NextQ X t d (pickN pick d.queue.length).toNat p X' := by
 refine xcOf (X := X18) rfl FN18 (by kernel_rfl) (by decide) (E18 X t pick ⟨_, h.box.el, fun e => ?_, fun e => ⟨_, h.box.el, fun e2 => ?_, fun e2 => ?_⟩⟩)
 ·have e : 0 < d.run := by simpa using e
  exact .inl ⟨.inl e, rfl, rfl⟩
 ·have e2 : slN d.q = 0 := by simpa using e2
  rw [h.q.len] at e2
  exact .inl ⟨.inr (List.length_eq_zero_iff.1 e2), rfl, rfl⟩
 ·have e : ¬ 0 < d.run := by simpa using e
  have e2 : slN d.q ≠ 0 := by simpa using e2
  rw [h.q.len] at e2
  have hne : d.queue ≠ [] := fun q => e2 (by rw [q]; rfl)
  have hr := pickN_range pick (n := (d.queue.length : Int)) (by omega)
  have hk : (pickN pick d.queue.length).toNat < d.queue.length := by omega
  have hR : ∀ X', Post X t d X' (d.ab.next (pickN pick d.queue.length).toNat) → NextQ X t d (pickN pick d.queue.length).toNat (d.queue.getD (pickN pick d.queue.length).toNat 0, true) X' :=
   fun X' hp => .inr ⟨e, hne, rfl, hp⟩
  have hsl : (((slN d.q : Nat) : Int)) ≠ 0 := by rw [h.q.len]; omega
  refine ⟨fun e3 => ⟨_, h.box.el, hsl, ?_⟩, fun e3 => ⟨_, h.box.el, hsl, ?_⟩⟩
  ·have e3 : pick < 0 := by simpa using e3
   refine next_tail (R := NextQ X t d (pickN pick d.queue.length).toNat) h ?_ hk hids hlen hR
   rw [bnot64 h1 e3]
   show Int.tmod (-(pick + 1)) ((slN d.q : Nat) : Int) = _
   rw [h.q.len, Int.tmod_eq_emod_of_nonneg (by omega), Int.toNat_of_nonneg hr.1, pickN, if_pos e3]
  ·have e3 : ¬ pick < 0 := by simpa using e3
   refine next_tail (R := NextQ X t d (pickN pick d.queue.length).toNat) h ?_ hk hids hlen hR
   show Int.tmod pick ((slN d.q : Nat) : Int) = _
   rw [h.q.len, Int.tmod_eq_emod_of_nonneg (by omega), Int.toNat_of_nonneg hr.1, pickN, if_neg e3]

end Go.Proofs.Ytaaedebknacheaa.AB

set_option maxRecDepth 100000
set_option maxHeartbeats 2000000
namespace Go.Proofs.Ytaaedebknacheaa.AB
open Go
noncomputable def X48 : Cx := ⟨tt, [], [(56, []), (58, [(.pure (.int .i64)), (.pure (.int .i64))])], [(48, [(0, 0, .x (.sl (.pure (.int .i64)))), (1, 1, .xc), (3, 1, .x (.sl (.pure (.int .i64)))), (9, 2, .xc)])], [(48, [(0, mkM 42 0 [0, 6, 31, 32, 33], 0)])], []⟩
theorem FN48 : fnsB Try.prog X48.fns := (show True from trivial)
def M48_0 : List Bool × Nat := (mkM 42 0 [0, 6, 31, 32, 33], 1)
def S48_0 (t0 : Nat) (l6 : Option SlH) (t31 : Option SlH) (t32 : Int) (t33 : Int) (hq0 : XH) (T : Toks) : St :=
  mkS 42 [(0, (.ref (some t0) yZ2 0 [])), (6, (.sl (.pure (.int .i64)) l6)), (31, (.sl (.pure (.int .i64)) t31)), (32, (.v (.int .i64 t32))), (33, (.v (.int .i64 t33)))] [(some (.heap hq0))] T
noncomputable def B48_0 : (Exit → St → Prop) → St → Prop := (awp X48.tt (callN Try.prog X48 0) (X48.md 48) 1 (X48.mk1 48) 0 (codeAt [1, 1, 1, 1, 1, 0, 1, 0, 0] (bd Try.f48)))
noncomputable def K48_0 (R : ((Option SlH) × Int) → XH → Prop) : Exit → St → Prop := seqK ((awp X48.tt (callN Try.prog X48 0) (X48.md 48) 1 (X48.mk1 48) 0 (codeAt [1, 1, 1, 1, 1, 1] (bd Try.f48))) (retK tt Try.f48.results.toList fun x s' => xfin [(.sl (.pure (.int .i64))), (.pure (.int .i64))] R x ⟨[], s'.hp, s'.T⟩)) (retK tt Try.f48.results.toList fun x s' => xfin [(.sl (.pure (.int .i64))), (.pure (.int .i64))] R x ⟨[], s'.hp, s'.T⟩)
noncomputable def Q48_0 (R : ((Option SlH) × Int) → XH → Prop) : Exit → St → Prop := (blockK 0 (K48_0 R))
theorem E48 (X : XH) (t0 : Nat) {R : ((Option SlH) × Int) → XH → Prop} (h : (XC Try.prog 58 [(.pure (.int .i64)), (.pure (.int .i64))] [(.ref (some t0) yZ2 0 []), (.v (.int .i64 (5 : Int)))] X (fun (p1 : Int × Int) (X2 : XH) => (((p1.2 != (0 : Int)) = true → R (none, p1.2) X2) ∧
 ((p1.2 != (0 : Int)) = false → (∃ (a3 : ((Option Nat) × (Int × (Int × (Option SlH))))), XH.el X2 yZ2 t0 0 = some a3 ∧ (∃ (es4 : List (Int × (Option Nat))), XH.vmp X2 (.int .i64) (.ref yZ3) a3.1 = some es4 ∧ (∀ (v5 : (Option Nat)), mfind (Cd.keq (.int .i64) p1.1) es4 = some v5 → (refK v5 (fun (h6 : Nat) => (∃ (a7 : ((Option SlH) × (Int × (Option SlH)))), XH.el X2 yZ3 h6 0 = some a7 ∧ (∃ (a8 : ((Option Nat) × (Int × (Int × (Option SlH))))), XH.el X2 yZ2 t0 0 = some a8 ∧ (∃ (h9 : Nat) (es10 : List (Int × (Option Nat))), a8.1 = some h9 ∧ XH.mp X2 (.int .i64) (.ref yZ3) h9 = some es10 ∧ (∀ (X11 : XH), X11 = (XH.set X2 h9 (.map (.int .i64) (.ref yZ3) (mdel (Cd.keq (.int .i64) p1.1) es10))) → (Loops B48_0 M48_0 (Q48_0 R)
  (S48_0 t0 a7.2.2 a7.2.2 ((((slN a7.2.2) : Nat) : Int)) (0 : Int) X11 ⟨0, []⟩))))))))) ∧ (mfind (Cd.keq (.int .i64) p1.1) es4 = none → False)))))))) :
  fnK X48.tt (callN Try.prog X48 0) (X48.md 48) (X48.mk1 48) Try.f48 [(.ref (some t0) yZ2 0 [])] ⟨[], [some (.heap X)], ⟨0, []⟩⟩ (xfin [(.sl (.pure (.int .i64))), (.pure (.int .i64))] R) := Eq.mp (by kernel_rfl) h
theorem L48_0 (t0 : Nat) (l6 : Option SlH) (t31 : Option SlH) (t32 : Int) (t33 : Int) (hq0 : XH) (T : Toks) {R : ((Option SlH) × Int) → XH → Prop} {k0 : St → Prop}
 (h : (((decide (t33 < t32)) = true → (∃ (u12 : SlH), t31 = some u12 ∧ 0 ≤ t33 ∧ t33 < ((u12.len : Nat) : Int) ∧ (∃ (a13 : Int), XH.el hq0 (.pure (.int .i64)) u12.h ((u12.off + (t33).toNat)) = some a13 ∧ (XC Try.prog 56 [] [(.ref (some t0) yZ2 0 []), (.v (.int .i64 a13))] hq0 (fun (p14 : Unit) (X15 : XH) => k0 (S48_0 t0 l6 t31 t32 ((IntKind.wrap .i64 (t33 + (1 : Int)))) X15 T)))))) ∧
 ((decide (t33 < t32)) = false → R (l6, (0 : Int)) hq0))) :
  B48_0 (loopQ M48_0 k0 (Q48_0 R)) (S48_0 t0 l6 t31 t32 t33 hq0 T) := Eq.mp (by kernel_rfl) h
end Go.Proofs.Ytaaedebknacheaa.AB

set_option maxRecDepth 100000
set_option maxHeartbeats 2000000
namespace Go.Proofs.Ytaaedebknacheaa.AB
open Go
noncomputable def X49 : Cx := ⟨tt, [], [], [], [(49, [(0, mkM 26 0 [0, 1, 5], 0)])], []⟩
theorem FN49 : fnsB Try.prog X49.fns := (show True from trivial)
def M49_0 : List Bool × Nat := (mkM 26 0 [0, 1, 5], 0)
def S49_0 (a0 : List Int) (b1 : List Int) (i5 : Int) (T : Toks) : St :=
  mkS 26 [(0, (.v (.list (.int .i64) a0 .no))), (1, (.v (.list (.int .i64) b1 .no))), (5, (.v (.int .i64 i5)))] [] T
noncomputable def B49_0 : (Exit → St → Prop) → St → Prop := (awp X49.tt (callN Try.prog X49 0) (X49.md 49) 0 (X49.mk1 49) 0 (codeAt [1, 1, 0, 1, 0, 0] (bd Try.f49)))
noncomputable def K49_0 (R : V → Prop) : Exit → St → Prop := seqK ((awp X49.tt (callN Try.prog X49 0) (X49.md 49) 0 (X49.mk1 49) 0 (codeAt [1, 1, 1] (bd Try.f49))) (retK tt Try.f49.results.toList fun x s' => topK R x ⟨[], s'.hp, s'.T⟩)) (retK tt Try.f49.results.toList fun x s' => topK R x ⟨[], s'.hp, s'.T⟩)
noncomputable def Q49_0 (R : V → Prop) : Exit → St → Prop := (blockK 0 (K49_0 R))
theorem E49 (a0 : (List Int)) (b1 : (List Int)) {R : V → Prop} (h : (((((a0).length : Int) != ((b1).length : Int)) = true → R (.bool false)) ∧
 ((((a0).length : Int) != ((b1).length : Int)) = false → (Loops B49_0 M49_0 (Q49_0 R)
  (S49_0 a0 b1 (0 : Int) ⟨0, []⟩))))) :
  fnK X49.tt (callN Try.prog X49 0) (X49.md 49) (X49.mk1 49) Try.f49 [(.v (.list (.int .i64) a0 .no)), (.v (.list (.int .i64) b1 .no))] ⟨[], [], ⟨0, []⟩⟩ (topK R) := Eq.mp (by kernel_rfl) h
theorem L49_0 (a0 : List Int) (b1 : List Int) (i5 : Int) (T : Toks) {R : V → Prop} {k0 : St → Prop}
 (h : (((decide (i5 < ((a0).length : Int))) = true → (0 ≤ i5 ∧ i5 < ((a0).length : Int) ∧ (0 ≤ i5 ∧ i5 < ((b1).length : Int) ∧ ((((a0.getD (i5).toNat 0) != (b1.getD (i5).toNat 0)) = true → R (.bool false)) ∧
 (((a0.getD (i5).toNat 0) != (b1.getD (i5).toNat 0)) = false → k0 (S49_0 a0 b1 ((IntKind.wrap .i64 (i5 + (1 : Int)))) T)))))) ∧
 ((decide (i5 < ((a0).length : Int))) = false → R (.bool true)))) :
  B49_0 (loopQ M49_0 k0 (Q49_0 R)) (S49_0 a0 b1 i5 T) := Eq.mp (by kernel_rfl) h
end Go.Proofs.Ytaaedebknacheaa.AB

set_option maxRecDepth 100000
set_option maxHeartbeats 2000000
namespace Go.Proofs.Ytaaedebknacheaa.AB
open Go
noncomputable def X49h : Cx := ⟨tt, [], [], [], [(49, [(0, mkM 26 0 [0, 1, 5], 0)])], []⟩
theorem FN49h : fnsB Try.prog X49h.fns := (show True from trivial)
def M49h_0 : List Bool × Nat := (mkM 26 0 [0, 1, 5], 1)
def S49h_0 (a0 : Option SlH) (b1 : List Int) (i5 : Int) (hq0 : XH) (T : Toks) : St :=
  mkS 26 [(0, (.sl (.pure (.int .i64)) a0)), (1, (.v (.list (.int .i64) b1 .no))), (5, (.v (.int .i64 i5)))] [(some (.heap hq0))] T
noncomputable def B49h_0 : (Exit → St → Prop) → St → Prop := (awp X49h.tt (callN Try.prog X49h 0) (X49h.md 49) 1 (X49h.mk1 49) 0 (codeAt [1, 1, 0, 1, 0, 0] (bd Try.f49)))
noncomputable def K49h_0 (R : (Bool) → XH → Prop) : Exit → St → Prop := seqK ((awp X49h.tt (callN Try.prog X49h 0) (X49h.md 49) 1 (X49h.mk1 49) 0 (codeAt [1, 1, 1] (bd Try.f49))) (retK tt Try.f49.results.toList fun x s' => xfin [(.pure .bool)] R x ⟨[], s'.hp, s'.T⟩)) (retK tt Try.f49.results.toList fun x s' => xfin [(.pure .bool)] R x ⟨[], s'.hp, s'.T⟩)
noncomputable def Q49h_0 (R : (Bool) → XH → Prop) : Exit → St → Prop := (blockK 0 (K49h_0 R))
theorem E49h (X : XH) (a0 : (Option SlH)) (b1 : (List Int)) {R : (Bool) → XH → Prop} (h : ((((((slN a0) : Nat) : Int) != ((b1).length : Int)) = true → R false X) ∧
 (((((slN a0) : Nat) : Int) != ((b1).length : Int)) = false → (Loops B49h_0 M49h_0 (Q49h_0 R)
  (S49h_0 a0 b1 (0 : Int) X ⟨0, []⟩))))) :
  fnK X49h.tt (callN Try.prog X49h 0) (X49h.md 49) (X49h.mk1 49) Try.f49 [(.sl (.pure (.int .i64)) a0), (.v (.list (.int .i64) b1 .no))] ⟨[], [some (.heap X)], ⟨0, []⟩⟩ (xfin [(.pure .bool)] R) := Eq.mp (by kernel_rfl) h
theorem L49h_0 (a0 : Option SlH) (b1 : List Int) (i5 : Int) (hq0 : XH) (T : Toks) {R : (Bool) → XH → Prop} {k0 : St → Prop}
 (h : (((decide (i5 < (((slN a0) : Nat) : Int))) = true → (∃ (u1 : SlH), a0 = some u1 ∧ 0 ≤ i5 ∧ i5 < ((u1.len : Nat) : Int) ∧ (∃ (a2 : Int), XH.el hq0 (.pure (.int .i64)) u1.h ((u1.off + (i5).toNat)) = some a2 ∧ (0 ≤ i5 ∧ i5 < ((b1).length : Int) ∧ (((a2 != (b1.getD (i5).toNat 0)) = true → R false hq0) ∧
 ((a2 != (b1.getD (i5).toNat 0)) = false → k0 (S49h_0 a0 b1 ((IntKind.wrap .i64 (i5 + (1 : Int)))) hq0 T))))))) ∧
 ((decide (i5 < (((slN a0) : Nat) : Int))) = false → R true hq0))) :
  B49h_0 (loopQ M49h_0 k0 (Q49h_0 R)) (S49h_0 a0 b1 i5 hq0 T) := Eq.mp (by kernel_rfl) h
end Go.Proofs.Ytaaedebknacheaa.AB

namespace Go.Proofs.Ytaaedebknacheaa.AB
open Go

variable {X X' : XH} {t : Nat} {d : DT}

theorem Post.refl (h : Rep X t d) : Post X t d X d.ab := ⟨d, h, .refl _ _, rfl⟩

def MT.nextR (m : MT) (pick : Int) : (Int × Bool) × MT :=
 if 0 < m.run ∨ m.queue = [] then ((0, false), m) else ((m.queue.getD (pickN pick m.queue.length).toNat 0, true), m.next (pickN pick m.queue.length).toNat)
def MT.startR (m : MT) (f : Fr) : (Int × Int) × MT := if 64 ≤ m.rows.length then ((0, 3), m) else ((m.last + 1, 0), m.start f)
def MT.yieldR (m : MT) : Int × MT := if m.run = 0 then (25, m) else (0, (m.rest 1).ready m.run)
def MT.joinR (m : MT) (other : Int) : (Bool × Int) × MT :=
 if m.run = 0 then ((false, 25), m) else if other < 1 ∨ m.last < other then ((false, 24), m) else if other = m.run then ((false, 25), m) else
  match m.get other with
  | none => ((true, 0), m)
  | some _ => ((false, 0), (m.rest 4).join other m.run)
def MT.endR (m : MT) : (List Int × Int) × MT :=
 if m.run = 0 then (([], 25), m) else
  match m.get m.run with
  | none => (([], 0), m)
  | some a => ((a.joins, 0), a.joins.foldl MT.ready ((m.rest 5).del m.run))

def MT.has (m : MT) (id : Int) : Prop := ∃ a ∈ m.rows, a.id = id

instance (m : MT) (id : Int) : Decidable (m.has id) := List.decidableBEx _ _

theorem has_updAb {l : List Ab} {id0 id : Int} {f : Ab → Ab} (hf : ∀ a, (f a).id = a.id) : (∃ a ∈ updAb id0 f l, a.id = id) ↔ ∃ a ∈ l, a.id = id := by
 simp only [updAb, List.mem_map]
 constructor
 ·rintro ⟨_, ⟨a, ha, rfl⟩, he⟩
  refine ⟨a, ha, ?_⟩
  split at he
  ·rw [hf] at he; exact he
  ·exact he
 ·rintro ⟨a, ha, he⟩
  refine ⟨_, ⟨a, ha, rfl⟩, ?_⟩
  split
  ·rw [hf]; exact he
  ·exact he

theorem x18 (h : Rep X t d) {pick : Int} (h1 : -9223372036854775808 ≤ pick) (h2 : pick ≤ 9223372036854775807) (hids : ∀ id ∈ d.ab.queue, d.ab.has id) (hlen : d.ab.queue.length * 8 ≤ room) :
  XC Try.prog 18 [.pure (.int .i64), .pure .bool] [.ref (some t) yZ2 0 [], .v (.int .i64 pick)] X fun p X' => p = (d.ab.nextR pick).1 ∧ Post X t d X' (d.ab.nextR pick).2 := by
 refine (c18 h h1 h2 hids hlen).mono ?_
 rintro p X' (⟨h3, rfl, rfl⟩ | ⟨h3, h4, rfl, h5⟩)
 ·have : d.ab.nextR pick = ((0, false), d.ab) := by unfold MT.nextR; rw [if_pos (show 0 < d.ab.run ∨ d.ab.queue = [] from h3)]
  rw [this]; exact ⟨rfl, .refl h⟩
 ·have : d.ab.nextR pick = ((d.queue.getD (pickN pick d.queue.length).toNat 0, true), d.ab.next (pickN pick d.queue.length).toNat) := by
   unfold MT.nextR; rw [if_neg (fun e : 0 < d.ab.run ∨ d.ab.queue = [] => e.elim h3 h4)]; rfl
  rw [this]; exact ⟨rfl, h5⟩

theorem x17 (h : Rep X t d) {f : Fr} (hf : Small f) (hn : Nums d.ab) (hlen : (d.ab.queue.length + 1) * 8 ≤ room) :
  XC Try.prog 17 [.pure (.int .i64), .pure (.int .i64)] [.ref (some t) yZ2 0 [], .v (.agg [.int .i64 f.1, .int .i64 f.2.1, .list (.int .i64) f.2.2.1 .no, .list (.int .i64) f.2.2.2 .no])] X fun p X' =>
   p = (d.ab.startR f).1 ∧ Post X t d X' (d.ab.startR f).2 := by
 refine (c17 h hf hn hlen).mono ?_
 rintro p X' (⟨h3, rfl, rfl⟩ | ⟨h3, rfl, h5⟩)
 ·unfold MT.startR; rw [if_pos h3]; exact ⟨rfl, .refl h⟩
 ·unfold MT.startR; rw [if_neg h3]; exact ⟨rfl, h5⟩

theorem x19 (h : Rep X t d) (hid : d.ab.run ≠ 0 → d.ab.has d.ab.run) (hlen : (d.ab.queue.length + 1) * 8 ≤ room) :
  XC Try.prog 19 [.pure (.int .i64)] [.ref (some t) yZ2 0 []] X fun p X' => p = d.ab.yieldR.1 ∧ Post X t d X' d.ab.yieldR.2 := by
 refine (c19 h hid hlen).mono ?_
 rintro p X' (⟨h3, rfl, rfl⟩ | ⟨h3, rfl, h5⟩)
 ·have h3 : d.ab.run = 0 := h3
  unfold MT.yieldR; rw [if_pos h3]; exact ⟨rfl, .refl h⟩
 ·have h3 : ¬ d.ab.run = 0 := h3
  unfold MT.yieldR; rw [if_neg h3]; exact ⟨rfl, h5⟩

theorem x47 (h : Rep X t d) {other : Int} (hid : d.ab.run ≠ 0 → d.ab.has d.ab.run) (hlen : ∀ a ∈ d.ab.rows, (a.joins.length + 1) * 8 ≤ room) :
  XC Try.prog 47 [.pure .bool, .pure (.int .i64)] [.ref (some t) yZ2 0 [], .v (.int .i64 other)] X fun p X' => p = (d.ab.joinR other).1 ∧ Post X t d X' (d.ab.joinR other).2 := by
 have same : ∀ {p : Bool × Int}, d.ab.joinR other = (p, d.ab) → p = (d.ab.joinR other).1 ∧ Post X t d X (d.ab.joinR other).2 := by
  intro p e; rw [e]; exact ⟨rfl, .refl h⟩
 have r0 : d.ab.run = d.run := rfl
 have l0 : d.ab.last = d.last := rfl
 refine xcOf (X := X47) rfl FN47 (by kernel_rfl) (by decide) (E47 X t other ⟨_, h.box.el, fun e => same ?_, fun e => ⟨fun e1 => same ?_, fun e1 => ⟨_, h.box.el, fun e2 => same ?_, fun e2 => ⟨_, h.box.el, fun e3 => same ?_, fun e3 => ⟨_, h.box.el, ents d.rows, h.mp, ?_, ?_⟩⟩⟩⟩⟩)
 ·have e : d.run = 0 := by simpa using e
  unfold MT.joinR; rw [if_pos (r0.trans e)]
 ·have e : d.run ≠ 0 := by simpa using e
  have e1 : other < 1 := by simpa using e1
  unfold MT.joinR; rw [if_neg (by rw [r0]; exact e), if_pos (.inl e1)]
 ·have e : d.run ≠ 0 := by simpa using e
  have e2 : d.last < other := by simpa using e2
  unfold MT.joinR; rw [if_neg (by rw [r0]; exact e), if_pos (.inr (by rw [l0]; exact e2))]
 ·have e : d.run ≠ 0 := by simpa using e
  have e1 : ¬ other < 1 := by simpa using e1
  have e2 : ¬ d.last < other := by simpa using e2
  have e3 : other = d.run := by simpa using e3
  unfold MT.joinR; rw [if_neg (by rw [r0]; exact e), if_neg (by rw [l0]; exact fun q => q.elim e1 e2), if_pos (by rw [r0]; exact e3)]
 ·have e : d.run ≠ 0 := by simpa using e
  have e1 : ¬ other < 1 := by simpa using e1
  have e2 : ¬ d.last < other := by simpa using e2
  have e3 : other ≠ d.run := by simpa using e3
  intro v hv
  by_cases hid2 : ∃ a ∈ d.ab.rows, a.id = other
  ·obtain ⟨l1, r, l2, hd, he, hm, hr, hn⟩ := h.one hid2
   rw [hm] at hv; cases hv
   have hg := get_one h.ids hd he
   have hres : d.ab.joinR other = ((false, 0), (d.ab.rest 4).join other d.ab.run) := by
    unfold MT.joinR
    rw [if_neg (by rw [r0]; exact e), if_neg (by rw [l0]; exact fun q => q.elim e1 e2), if_neg (by rw [r0]; exact e3), hg]
   refine ⟨fun e => (by cases e), fun _ => (c58 h (s := 4) hid).mono ?_⟩
   rintro p X8 (⟨h1, _, _⟩ | ⟨h1, rfl, d8, s1, s2, s3, s4⟩)
   ·exact absurd h1 e
   -- the one that is joined, again
   have hid8 : ∃ a ∈ d8.ab.rows, a.id = other := by
    rw [s3]; exact (has_updAb (l := d.ab.rows) (f := fun a => { a with st := 4 }) (fun _ => rfl)).2 hid2
   obtain ⟨m1, q, m2, gd, ge, gm, gr, gn⟩ := s1.one hid8
   have hqh : q.h = r.h := by
    rw [s4, hm] at gm
    exact (Option.some.inj (Option.some.inj gm)).symm
   have bq := gr.box
   have bj := gr.jn
   rw [← hqh]
   have hw : (q.joins.length + 1) * 8 ≤ room := by
    have hq' : q.toAb ∈ d8.ab.rows := by simp [DT.ab, gd]
    rw [s3] at hq'
    obtain ⟨a, ha, hae⟩ := List.mem_map.1 hq'
    have := hlen a ha
    split at hae <;> rw [← hae] <;> exact this
   refine ⟨_, bq.el, q.joins, [d.run], bj.view, rfl, ?_, fun X13 s14 hx => ?_⟩
   ·dsimp only; rw [bj.len]; exact hw
   ·obtain ⟨b1, b2⟩ := hx.spec bj
    have hnq : q.h ∉ hl q.jn := fun e => (List.nodup_cons.1 gn).1 (List.mem_append_right _ e)
    have hns : q.h ∉ hl s14 := fun e => (b2.own _ e).elim hnq fun e => absurd bq.lt (by omega)
    have bq13 := bq.keep (b2.keep _ bq.lt hnq)
    refine ⟨_, bq13.el, fun X17 e17 => ?_⟩
    rw [bq13.setEl] at e17
    have hfr : ∀ k ∈ hl q.fr, k ∉ hl q.jn ∧ k ≠ q.h := fun k hk => by
     have := List.nodup_cons.1 gn
     refine ⟨fun e => ?_, fun e => this.1 (List.mem_append_left _ (e ▸ hk))⟩
     exact (List.nodup_append.1 this.2).2.2 k hk k e rfl
    have mv : Mv X8 q.hs X17 (Thr.hs { q with joins := q.joins ++ [d.run], jn := s14 }) := by
     rw [e17]
     refine (b2.weak (T := q.hs) (T' := q.h :: (hl q.fr ++ hl s14)) (fun k hk => List.mem_cons_of_mem _ (List.mem_append_right _ hk)) fun k hk => ?_).trans (Mv.set (List.mem_cons_self ..))
     rcases List.mem_cons.1 hk with rfl | hk
     ·exact .inr (List.mem_cons_self ..)
     ·rcases List.mem_append.1 hk with hk | hk
      ·exact .inr (List.mem_cons_of_mem _ (List.mem_append_left _ hk))
      ·exact .inl hk
    have hn' : (Thr.hs { q with joins := q.joins ++ [d.run], jn := s14 }).Nodup := by
     have g1 := List.nodup_cons.1 gn
     have g2 := List.nodup_append.1 g1.2
     refine List.nodup_cons.2 ⟨fun e => ?_, List.nodup_append.2 ⟨hl_nodup _, hl_nodup _, fun a ha b hb e => ?_⟩⟩
     ·rcases List.mem_append.1 e with e | e
      ·exact g1.1 (List.mem_append_left _ e)
      ·exact hns e
     ·subst e
      rcases b2.own a hb with e | e
      ·exact g2.2.2 a ha a e rfl
      ·exact absurd (gr.fr.lt a ha) (by omega)
    have hr' : ThrAt X17 { q with joins := q.joins ++ [d.run], jn := s14 } := by
     refine ⟨?_, gr.fr.keep fun k hk => ?_, b1.keep fun k hk => ?_⟩
     ·rw [e17]; exact bq13.set
     ·have := hfr k hk
      rw [e17, at_set_ne this.2, b2.keep k (gr.fr.lt k hk) this.1]
     ·rw [e17]; exact at_set_ne fun e => hns (e ▸ hk)
    obtain ⟨z1, z2⟩ := s1.row (r' := { q with joins := q.joins ++ [d.run], jn := s14 }) gd rfl rfl mv hn' hr'
    rw [hres]
    refine ⟨rfl, _, z1, s2.trans z2, ?_⟩
    have hu := upd_split (r' := { q with joins := q.joins ++ [d.run], jn := s14 }) (f := fun a => { a with joins := a.joins ++ [d.run] }) s1.ids gd ge rfl
    simp only [DT.ab, MT.join]
    have s3r : d8.rows.map (·.toAb) = (d.ab.rest 4).rows := congrArg MT.rows s3
    have s3l : d8.last = d.last := congrArg MT.last s3
    have s3q : d8.queue = d.queue := congrArg MT.queue s3
    have s3u : d8.run = 0 := congrArg MT.run s3
    rw [hu, s3r, s3l, s3q, s3u]
    rfl
  ·rw [h.gone fun a ha e => hid2 ⟨a, ha, e⟩] at hv; cases hv
 ·have e : d.run ≠ 0 := by simpa using e
  have e1 : ¬ other < 1 := by simpa using e1
  have e2 : ¬ d.last < other := by simpa using e2
  have e3 : other ≠ d.run := by simpa using e3
  intro hv
  refine ⟨fun _ => same ?_, fun e => (by cases e)⟩
  have hg : d.ab.get other = none := by
   refine get_none fun a ha he => ?_
   obtain ⟨l1, r, l2, hd, he, hm, hr, hn⟩ := h.one ⟨a, ha, he⟩
   rw [hm] at hv; cases hv
  unfold MT.joinR
  rw [if_neg (by rw [r0]; exact e), if_neg (by rw [l0]; exact fun q => q.elim e1 e2), if_neg (by rw [r0]; exact e3), hg]

end Go.Proofs.Ytaaedebknacheaa.AB

namespace Go.Proofs.Ytaaedebknacheaa.AB
open Go

variable {X X' : XH} {t : Nat} {d : DT}

theorem mdel_split {l1 l2 : List Thr} {r : Thr} {id : Int} (hid : r.id = id) (h : ∀ x ∈ l1, x.id ≠ id) : mdel (Cd.keq (.int .i64) id) (ents (l1 ++ r :: l2)) = ents (l1 ++ l2) := by
 induction l1 with
 | nil => simp [ents, mdel, keq_int, hid]
 | cons a l1 ih =>
  have e : ¬ id = a.id := fun e => h a (List.mem_cons_self ..) e.symm
  have := ih fun x hx => h x (List.mem_cons_of_mem _ hx)
  simp only [ents, List.cons_append, List.map_cons, mdel, keq_int, e, decide_false] at this ⊢
  rw [this]

theorem Rep.del (h : Rep X t d) {id : Int} {l1 l2 : List Thr} {r : Thr} (hd : d.rows = l1 ++ r :: l2) (hid : r.id = id)
  (h1 : X' = X.set d.hm (.map (.int .i64) (.ref yZ3) (mdel (Cd.keq (.int .i64) id) (ents d.rows)))) :
  Rep X' t ⟨d.hm, d.last, d.run, d.q, d.queue, l1 ++ l2⟩ ∧ Mv X (t :: d.hs) X' (t :: DT.hs ⟨d.hm, d.last, d.run, d.q, d.queue, l1 ++ l2⟩) ∧
   DT.ab ⟨d.hm, d.last, d.run, d.q, d.queue, l1 ++ l2⟩ = d.ab.del id ∧ (∀ k ∈ r.hs, k ∉ t :: DT.hs ⟨d.hm, d.last, d.run, d.q, d.queue, l1 ++ l2⟩) ∧ ∀ k ∈ r.hs, X'.at k = X.at k := by
 have hids := h.ids
 rw [hd] at hids
 simp only [List.map_append, List.map_cons, List.nodup_append, List.nodup_cons] at hids
 obtain ⟨i1, ⟨i2, i3⟩, i4⟩ := hids
 have n1 : ∀ x ∈ l1, x.id ≠ id := fun x hx e => i4 x.id (List.mem_map.2 ⟨x, hx, rfl⟩) r.id (List.mem_cons_self ..) (e.trans hid.symm)
 have n2 : ∀ x ∈ l2, x.id ≠ id := fun x hx e => i2 (by rw [hid, ← e]; exact List.mem_map.2 ⟨x, hx, rfl⟩)
 rw [hd, mdel_split hid n1] at h1
 have hs := h.sep
 have e0 : t :: d.hs = (t :: d.hm :: (hl d.q ++ l1.flatMap Thr.hs)) ++ r.hs ++ l2.flatMap Thr.hs := by simp [DT.hs, hd]
 have e1 : t :: DT.hs ⟨d.hm, d.last, d.run, d.q, d.queue, l1 ++ l2⟩ = (t :: d.hm :: (hl d.q ++ l1.flatMap Thr.hs)) ++ [] ++ l2.flatMap Thr.hs := by simp [DT.hs]
 have hlt := h.lt
 have hs0 := hs
 rw [e0, List.append_assoc, List.nodup_append] at hs0
 obtain ⟨s1, s2, s3⟩ := hs0
 rw [List.nodup_append] at s2
 have hmr : ∀ k, k ∈ hl d.q ++ (l1 ++ r :: l2).flatMap Thr.hs → k ≠ d.hm := by
  intro k hk e
  have hs' := hs
  simp only [DT.hs, hd, List.nodup_cons] at hs'
  exact hs'.2.1 (e ▸ hk)
 have htm : t ≠ d.hm := fun e => by
  have hs' := hs
  simp only [DT.hs, List.nodup_cons] at hs'
  exact hs'.1 (by rw [e]; exact List.mem_cons_self ..)
 have old : ∀ k, k ≠ d.hm → X'.at k = X.at k := fun k hk => by rw [h1]; exact at_set_ne hk
 have hrow : ∀ x ∈ l1 ++ r :: l2, ∀ k ∈ x.hs, X'.at k = X.at k := fun x hx k hk => old k (hmr k (List.mem_append_right _ (List.mem_flatMap.2 ⟨x, hx, hk⟩)))
 have sep' : (t :: DT.hs ⟨d.hm, d.last, d.run, d.q, d.queue, l1 ++ l2⟩).Nodup := by
  rw [e1]
  rw [e0] at hs
  refine nodup_swap (n := X.n) hs (fun k hk => ?_) List.nodup_nil (by simp)
  rcases List.mem_append.1 hk with hk | hk
  ·exact hlt k (by rw [e0]; exact List.mem_append_left _ (List.mem_append_left _ hk))
  ·exact hlt k (by rw [e0]; exact List.mem_append_right _ hk)
 refine ⟨⟨h.box.keep (old t htm), ?_, h.q.keep fun k hk => old k (hmr k (List.mem_append_left _ hk)), fun x hx => ?_, ?_, sep'⟩, ?_, ?_, ?_, hrow r (by simp)⟩
 ·rw [h1]; exact at_set_self h.map
 ·have : x ∈ l1 ++ r :: l2 := by
   rcases List.mem_append.1 hx with hx | hx
   ·exact List.mem_append_left _ hx
   ·exact List.mem_append_right _ (List.mem_cons_of_mem _ hx)
  exact (h.rows x (by rw [hd]; exact this)).keep (hrow x this)
 ·simp only [List.map_append, List.nodup_append]
  exact ⟨i1, i3, fun a ha b hb => i4 a ha b (List.mem_cons_of_mem _ hb)⟩
 ·refine (Mv.set (h := d.hm) (S := t :: d.hs) (by simp [DT.hs]) |>.weak (fun _ h => h) (T' := t :: DT.hs ⟨d.hm, d.last, d.run, d.q, d.queue, l1 ++ l2⟩) fun k hk => .inl ?_) |> (fun m => by rw [h1]; exact m)
  rw [e0]
  rw [e1] at hk
  rcases List.mem_append.1 hk with hk | hk
  ·rw [List.append_nil] at hk
   exact List.mem_append_left _ (List.mem_append_left _ hk)
  ·exact List.mem_append_right _ hk
 ·simp only [DT.ab, MT.del, hd, List.map_append, List.map_cons, List.filter_append]
  have k1 : ∀ q : List Thr, (∀ x ∈ q, x.id ≠ id) → (q.map (·.toAb)).filter (fun a => decide (a.id ≠ id)) = q.map (·.toAb) := fun q hq => by
   rw [List.filter_eq_self]
   intro a ha
   obtain ⟨x, hx, rfl⟩ := List.mem_map.1 ha
   simpa using hq x hx
  rw [k1 l1 n1, List.filter_cons_of_neg (by simp [hid]), k1 l2 n2]
 ·intro k hk e
  rw [e1, List.append_nil] at e
  rcases List.mem_append.1 e with e | e
  ·exact s3 k e k (List.mem_append_left _ hk) rfl
  ·exact s2.2.2 k hk k e rfl

theorem has_ready {m : MT} {id j : Int} : (m.ready id).has j ↔ m.has j := has_updAb (f := fun a => { a with st := 1 }) fun _ => rfl

theorem has_fold {m : MT} {j : Int} : ∀ l : List Int, (l.foldl MT.ready m).has j ↔ m.has j := by
 intro l
 induction l generalizing m with
 | nil => exact Iff.rfl
 | cons a l ih => exact ih.trans has_ready

theorem len_fold {m : MT} : ∀ l : List Int, (l.foldl MT.ready m).queue.length = m.queue.length + l.length := by
 intro l
 induction l generalizing m with
 | nil => rfl
 | cons a l ih => simp only [List.foldl_cons, ih, MT.ready, List.length_append, List.length_cons, List.length_nil]; omega

theorem x48 (h : Rep X t d) (hid : d.ab.run ≠ 0 → d.ab.has d.ab.run) (hj : ∀ a, d.ab.get d.ab.run = some a → a.joins.length < 1000000 ∧ ∀ j ∈ a.joins, ((d.ab.rest 5).del d.ab.run).has j) (hlen : d.ab.queue.length < 1000000) :
  XC Try.prog 48 [.sl cI, .pure (.int .i64)] [.ref (some t) yZ2 0 []] X fun p X' => ∃ l, SlAt X' cI p.1 l ∧ (l, p.2) = d.ab.endR.1 ∧ Post X t d X' d.ab.endR.2 ∧ ∀ k ∈ hl p.1, k ∈ t :: d.hs ∨ X.n ≤ k := by
 refine xcOf (X := X48) rfl FN48 (by kernel_rfl) (by decide) (E48 X t ((c58 h hid).mono ?_))
 rintro p X2 (⟨h1, rfl, rfl⟩ | ⟨h1, rfl, d2, s1, s2, s3, s4⟩)
 ·refine ⟨fun _ => ⟨[], rfl, ?_, ?_, fun k hk => by cases hk⟩, fun e => (by cases e)⟩
  ·have h1 : d.ab.run = 0 := h1
   unfold MT.endR; rw [if_pos h1]; rfl
  ·have h1 : d.ab.run = 0 := h1
   unfold MT.endR; rw [if_pos h1]; exact .refl h
 ·refine ⟨fun e => (by cases e), fun _ => ?_⟩
  have hr0 : d.ab.run ≠ 0 := h1
  have hid2 : ∃ a ∈ d2.ab.rows, a.id = d.run := by
   rw [s3]; exact (has_updAb (l := d.ab.rows) (f := fun a => { a with st := 5 }) (fun _ => rfl)).2 (hid hr0)
  obtain ⟨l1, r, l2, gd, ge, gm, gr, gn⟩ := s1.one hid2
  refine ⟨_, s1.box.el, ents d2.rows, s1.mp, ?_, fun e => by rw [gm] at e; cases e⟩
  intro v hv
  rw [gm] at hv; cases hv
  refine ⟨_, gr.box.el, _, s1.box.el, d2.hm, ents d2.rows, rfl, mp_at.2 s1.map, fun X11 e11 => ?_⟩
  obtain ⟨b1, b2, b3, b4, b5⟩ := s1.del gd ge e11
  -- the one that ends
  obtain ⟨a, hga⟩ : ∃ a, d.ab.get d.run = some a := by
   obtain ⟨m1, r0, m2, gd0, ge0, _, _, _⟩ := h.one (hid hr0)
   exact ⟨_, get_one h.ids gd0 ge0⟩
  have hja : a.joins = r.joins := by
   obtain ⟨m1, r0, m2, gd0, ge0, gm0, gr0, gn0⟩ := h.one (hid hr0)
   have e1 := get_one h.ids gd0 ge0
   have ge0' : r0.id = d.run := ge0
   have hga' : d.ab.get d.ab.run = some a := hga
   rw [e1] at hga'; cases hga'
   have e2 := get_one s1.ids gd ge
   have e3 : d2.ab.get d.run = (d.ab.rest 5).get d.run := by rw [s3]
   have u1 := upd_split (r' := { r0 with st := 5 }) (f := fun a => { a with st := 5 }) h.ids gd0 ge0 rfl
   have e4 : (d.ab.rest 5).get d.run = some ({ r0 with st := 5 } : Thr).toAb := by
    show List.find? _ (updAb d.ab.run _ (d.rows.map (·.toAb))) = _
    rw [← u1]
    exact get_one (d := ⟨d.hm, d.last, d.run, d.q, d.queue, m1 ++ { r0 with st := 5 } :: m2⟩) (by
     have := h.ids
     rw [gd0] at this
     simpa using this) rfl ge0
   rw [e3, e4] at e2
   have e5 : r0.joins = r.joins := congrArg (fun q : Option Ab => (q.getD ⟨0, 0, [], []⟩).joins) e2
   exact e5
  have hja2 := hj a hga
  rw [hja] at hja2
  have hend : d.ab.endR = ((r.joins, 0), r.joins.foldl MT.ready ((d.ab.rest 5).del d.ab.run)) := by
   unfold MT.endR
   rw [if_neg hr0, show d.ab.get d.ab.run = some a from hga]
   simp only [hja]
  have hjl := gr.jn.len
  have habd : DT.ab ⟨d2.hm, d2.last, d2.run, d2.q, d2.queue, l1 ++ l2⟩ = (d.ab.rest 5).del d.ab.run := by rw [b3, s3]; rfl
  refine Loops.intro (fun a : Nat × XH × DT × Toks => S48_0 t r.jn r.jn (((slN r.jn : Nat) : Int)) (a.1 : Int) a.2.1 a.2.2.2)
   (fun a => a.1 ≤ r.joins.length ∧ Rep a.2.1 t a.2.2.1 ∧ Mv X (t :: d.hs) a.2.1 (t :: a.2.2.1.hs) ∧ a.2.2.1.ab = (r.joins.take a.1).foldl MT.ready ((d.ab.rest 5).del d.ab.run) ∧
    SlAt a.2.1 cI r.jn r.joins ∧ ∀ k ∈ hl r.jn, k ∉ t :: a.2.2.1.hs) (fun a => r.joins.length - a.1) (0, X11, ⟨d2.hm, d2.last, d2.run, d2.q, d2.queue, l1 ++ l2⟩, ⟨0, []⟩) rfl
   ⟨Nat.zero_le _, b1, s2.trans b2, habd, gr.jn.keep fun k hk => b5 k (List.mem_cons_of_mem _ (List.mem_append_right _ hk)), fun k hk => b4 k (List.mem_cons_of_mem _ (List.mem_append_right _ hk))⟩ ?_
  rintro ⟨i, Xi, di, T⟩ ⟨j1, j2, j3, j4, j5, j6⟩
  simp only at j1 j2 j3 j4 j5 j6
  refine L48_0 t r.jn r.jn _ (i : Int) Xi T ⟨fun e => ?_, fun e => ?_⟩
  ·have hi : i < r.joins.length := by
    have : (i : Int) < ((slN r.jn : Nat) : Int) := by simpa using e
    rw [hjl] at this; omega
   obtain ⟨u, hu⟩ : ∃ u, r.jn = some u := by
    cases hq : r.jn with
    | none => rw [hq] at hjl; simp [slN] at hjl; omega
    | some u => exact ⟨u, rfl⟩
   have hul : u.len = r.joins.length := by rw [hu] at hjl; exact hjl
   have hsl : SlAt Xi cI (some u) r.joins := by rw [← hu]; exact j5
   refine ⟨u, hu, by omega, by omega, r.joins[i], ?_, ?_⟩
   ·rw [Int.toNat_natCast]; exact hsl.el hi
   have hh : di.ab.has r.joins[i] := by
    rw [j4]; exact (has_fold _).2 (hja2.2 _ (List.getElem_mem _))
   have hql : di.queue.length = d.queue.length + i := by
    have : di.ab.queue.length = ((r.joins.take i).foldl MT.ready ((d.ab.rest 5).del d.ab.run)).queue.length := by rw [j4]
    rw [len_fold] at this
    rw [List.length_take, Nat.min_eq_left j1] at this
    exact this
   have hlen' : d.queue.length < 1000000 := hlen
   refine (c56 j2 hh (by rw [hql]; unfold room; omega)).mono ?_
   rintro _ X15 ⟨d15, z1, z2, z3⟩
   rw [wrap64 (by omega) (by omega)]
   refine Again.mk (i + 1, X15, d15, T) rfl ⟨by simp only; omega, z1, j3.trans z2, ?_, ?_, ?_⟩ (by simp only; omega)
   ·simp only
    rw [z3, j4, List.take_succ_eq_append_getElem hi, List.foldl_append]
    rfl
   ·exact j5.keep fun k hk => z2.keep k (j5.lt k hk) (j6 k hk)
   ·intro k hk e
    rcases z2.own k e with e | e
    ·exact j6 k hk e
    ·exact absurd (j5.lt k hk) (by omega)
  ·have hi : i = r.joins.length := by
    have : ¬ (i : Int) < ((slN r.jn : Nat) : Int) := by simpa using e
    rw [hjl] at this; omega
   subst hi
   rw [List.take_length] at j4
   refine ⟨r.joins, j5, ?_, ?_, fun k hk => s2.own k (by simp [DT.hs, gd, Thr.hs, (show k ∈ hl r.jn from hk)])⟩
   ·rw [hend]; rfl
   ·rw [hend]; exact ⟨di, j2, j3, j4⟩

end Go.Proofs.Ytaaedebknacheaa.AB

set_option maxRecDepth 100000
set_option maxHeartbeats 2000000
namespace Go.Proofs.Ytaaedebknacheaa.AB
open Go
noncomputable def X14 : Cx := ⟨tt, [(49, [.cd .bool])], [(15, [(.ref yZ2)]), (17, [(.pure (.int .i64)), (.pure (.int .i64))]), (18, [(.pure (.int .i64)), (.pure .bool)]), (19, [(.pure (.int .i64))]), (20, [(.pure (.slice (.int .i64)))]), (47, [(.pure .bool), (.pure (.int .i64))]), (48, [(.sl (.pure (.int .i64))), (.pure (.int .i64))]), (49, [(.pure .bool)]), (53, [(.pure (.int .i64))])], [(14, [(1, 0, .xc), (4, 2, .xc), (5, 2, .xc), (6, 2, .xc), (7, 1, .xc), (8, 1, .rd), (9, 28, .rd), (11, 1, .xc), (12, 1, .xc), (13, 1, .xc), (14, 1, .xc), (15, 1, .xc), (16, 2, .rd), (17, 1, .rd), (18, 1, .xc), (19, 1, .xc), (20, 1, .xc), (21, 1, .xc)])], [], []⟩
theorem FN14 : fnsB Try.prog X14.fns := (show True from trivial)
theorem E14 {R : V → Prop} (h : (XC Try.prog 15 [(.ref yZ2)] [] XH.none (fun (p1 : (Option Nat)) (X2 : XH) => (((Option.isNone p1) = true → R (.bool false)) ∧
 ((Option.isNone p1) = false → (XC Try.prog 17 [(.pure (.int .i64)), (.pure (.int .i64))] [(.ref p1 yZ2 0 []), (.v (.agg [(.int .i64 (0 : Int)), (.int .i64 (0 : Int)), (.list (.int .i64) ([] : List Int) .no), (.list (.int .i64) ([] : List Int) .no)]))] X2 (fun (p3 : Int × Int) (X4 : XH) => (XC Try.prog 17 [(.pure (.int .i64)), (.pure (.int .i64))] [(.ref p1 yZ2 0 []), (.v (.agg [(.int .i64 (0 : Int)), (.int .i64 (0 : Int)), (.list (.int .i64) ([] : List Int) .no), (.list (.int .i64) ([] : List Int) .no)]))] X4 (fun (p5 : Int × Int) (X6 : XH) => (XC Try.prog 17 [(.pure (.int .i64)), (.pure (.int .i64))] [(.ref p1 yZ2 0 []), (.v (.agg [(.int .i64 (0 : Int)), (.int .i64 (0 : Int)), (.list (.int .i64) ([] : List Int) .no), (.list (.int .i64) ([] : List Int) .no)]))] X6 (fun (p7 : Int × Int) (X8 : XH) => (XC Try.prog 18 [(.pure (.int .i64)), (.pure .bool)] [(.ref p1 yZ2 0 []), (.v (.int .i64 (1 : Int)))] X8 (fun (p9 : Int × Bool) (X10 : XH) => (∃ (p11 : (List Int)), RC Try.prog 20 [(.pure (.slice (.int .i64)))] [(.ref p1 yZ2 0 [])] X10 p11 ∧ (∃ p12 : Bool, PC Try.prog 49 [(.list (.int .i64) p11 .no), (.list (.int .i64) (([(1 : Int), (3 : Int)] : List Int)) .no)] (.bool p12) ∧ (((p3.1 != (1 : Int)) = true → R (.bool false)) ∧ ((p3.1 != (1 : Int)) = false → (((p5.1 != (2 : Int)) = true → R (.bool false)) ∧ ((p5.1 != (2 : Int)) = false → (((p7.1 != (3 : Int)) = true → R (.bool false)) ∧ ((p7.1 != (3 : Int)) = false → (((p7.2 != (0 : Int)) = true → R (.bool false)) ∧ ((p7.2 != (0 : Int)) = false → (((p9.1 != (2 : Int)) = true → R (.bool false)) ∧ ((p9.1 != (2 : Int)) = false → (((!p9.2) = true → R (.bool false)) ∧ ((!p9.2) = false → (((!p12) = true → R (.bool false)) ∧ ((!p12) = false → (∃ (p13 : Int), RC Try.prog 53 [(.pure (.int .i64))] [(.ref p1 yZ2 0 [])] X10 p13 ∧ (((p13 != (2 : Int)) = true → R (.bool false)) ∧
 ((p13 != (2 : Int)) = false → (XC Try.prog 19 [(.pure (.int .i64))] [(.ref p1 yZ2 0 [])] X10 (fun (p14 : Int) (X15 : XH) => (XC Try.prog 18 [(.pure (.int .i64)), (.pure .bool)] [(.ref p1 yZ2 0 []), (.v (.int .i64 (0 : Int)))] X15 (fun (p16 : Int × Bool) (X17 : XH) => (XC Try.prog 47 [(.pure .bool), (.pure (.int .i64))] [(.ref p1 yZ2 0 []), (.v (.int .i64 (2 : Int)))] X17 (fun (p18 : Bool × Int) (X19 : XH) => (XC Try.prog 18 [(.pure (.int .i64)), (.pure .bool)] [(.ref p1 yZ2 0 []), (.v (.int .i64 (1 : Int)))] X19 (fun (p20 : Int × Bool) (X21 : XH) => (XC Try.prog 48 [(.sl (.pure (.int .i64))), (.pure (.int .i64))] [(.ref p1 yZ2 0 [])] X21 (fun (p22 : (Option SlH) × Int) (X23 : XH) => (∃ (p24 : Bool), RC Try.prog 49 [(.pure .bool)] [(.sl (.pure (.int .i64)) p22.1), (.v (.list (.int .i64) (([(1 : Int)] : List Int)) .no))] X23 p24 ∧ (∃ (p25 : (List Int)), RC Try.prog 20 [(.pure (.slice (.int .i64)))] [(.ref p1 yZ2 0 [])] X23 p25 ∧ (∃ p26 : Bool, PC Try.prog 49 [(.list (.int .i64) p25 .no), (.list (.int .i64) (([(3 : Int), (1 : Int)] : List Int)) .no)] (.bool p26) ∧ (XC Try.prog 47 [(.pure .bool), (.pure (.int .i64))] [(.ref p1 yZ2 0 []), (.v (.int .i64 (9 : Int)))] X23 (fun (p27 : Bool × Int) (X28 : XH) => (XC Try.prog 18 [(.pure (.int .i64)), (.pure .bool)] [(.ref p1 yZ2 0 []), (.v (.int .i64 (0 : Int)))] X28 (fun (p29 : Int × Bool) (X30 : XH) => (XC Try.prog 47 [(.pure .bool), (.pure (.int .i64))] [(.ref p1 yZ2 0 []), (.v (.int .i64 (9 : Int)))] X30 (fun (p31 : Bool × Int) (X32 : XH) => (XC Try.prog 47 [(.pure .bool), (.pure (.int .i64))] [(.ref p1 yZ2 0 []), (.v (.int .i64 (3 : Int)))] X32 (fun (p33 : Bool × Int) (X34 : XH) => (((p14 == (0 : Int)) = true → (((p16.1 == (1 : Int)) = true → (((!p18.1) = true → (((p18.2 == (0 : Int)) = true → (((p20.1 == (2 : Int)) = true → (((p22.2 == (0 : Int)) = true → ((p24 = true → ((p26 = true → (((p27.2 == (25 : Int)) = true → (((p29.1 == (3 : Int)) = true → (((p31.2 == (24 : Int)) = true → R (.bool ((p33.2 == (25 : Int))))) ∧ ((p31.2 == (24 : Int)) = false → R (.bool false)))) ∧ ((p29.1 == (3 : Int)) = false → R (.bool false)))) ∧ ((p27.2 == (25 : Int)) = false → R (.bool false)))) ∧ (p26 = false → R (.bool false)))) ∧ (p24 = false → R (.bool false)))) ∧ ((p22.2 == (0 : Int)) = false → R (.bool false)))) ∧ ((p20.1 == (2 : Int)) = false → R (.bool false)))) ∧ ((p18.2 == (0 : Int)) = false → R (.bool false)))) ∧ ((!p18.1) = false → R (.bool false)))) ∧ ((p16.1 == (1 : Int)) = false → R (.bool false)))) ∧ ((p14 == (0 : Int)) = false → R (.bool false)))))))))))))))))))))))))))))))))))))))))))))))))))))))) :
  fnK X14.tt (callN Try.prog X14 0) (X14.md 14) (X14.mk1 14) Try.f14 [] ⟨[], [some (.heap XH.none)], ⟨0, []⟩⟩ (topK R) := Eq.mp (by kernel_rfl) h
end Go.Proofs.Ytaaedebknacheaa.AB

namespace Go.Proofs.Ytaaedebknacheaa.AB
open Go

variable {X X' : XH} {t : Nat} {m m' : MT}

def RepM (X : XH) (t : Nat) (m : MT) : Prop := ∃ d, Rep X t d ∧ d.ab = m

theorem Post.toM {d : DT} {m : MT} (h : Post X t d X' m) : RepM X' t m := by
 obtain ⟨d', h1, _, h2⟩ := h; exact ⟨d', h1, h2⟩

abbrev I64 (x : Int) : Prop := -9223372036854775808 ≤ x ∧ x ≤ 9223372036854775807

theorem y15 (X : XH) : XC Try.prog 15 [.ref yZ2] [] X fun p X' => ∃ t, p = some t ∧ RepM X' t ⟨0, 0, [], []⟩ :=
 (c15 X).mono fun _ _ ⟨t, d, e1, _, h, _, e2⟩ => ⟨t, e1, d, h, e2⟩

theorem y17 (h : RepM X t m) {f : Fr} {r : Int × Int} (hf : Small f) (hn : Nums m) (hlen : m.queue.length < 1000000) (e : m.startR f = (r, m')) :
  XC Try.prog 17 [.pure (.int .i64), .pure (.int .i64)] [.ref (some t) yZ2 0 [], .v (.agg [.int .i64 f.1, .int .i64 f.2.1, .list (.int .i64) f.2.2.1 .no, .list (.int .i64) f.2.2.2 .no])] X fun p X' => p = r ∧ RepM X' t m' := by
 obtain ⟨d, h, rfl⟩ := h
 have := x17 h hf hn (by unfold room; omega)
 rw [e] at this
 exact this.mono fun _ _ ⟨e, h⟩ => ⟨e, Post.toM h⟩

theorem y18 (h : RepM X t m) {pick : Int} {r : Int × Bool} (hp : I64 pick) (hids : ∀ id ∈ m.queue, m.has id) (hlen : m.queue.length < 1000000) (e : m.nextR pick = (r, m')) :
  XC Try.prog 18 [.pure (.int .i64), .pure .bool] [.ref (some t) yZ2 0 [], .v (.int .i64 pick)] X fun p X' => p = r ∧ RepM X' t m' := by
 obtain ⟨d, h, rfl⟩ := h
 have := x18 h hp.1 hp.2 hids (by unfold room; omega)
 rw [e] at this
 exact this.mono fun _ _ ⟨e, h⟩ => ⟨e, Post.toM h⟩

theorem y19 (h : RepM X t m) {r : Int} (hid : m.run ≠ 0 → m.has m.run) (hlen : m.queue.length < 1000000) (e : m.yieldR = (r, m')) :
  XC Try.prog 19 [.pure (.int .i64)] [.ref (some t) yZ2 0 []] X fun p X' => p = r ∧ RepM X' t m' := by
 obtain ⟨d, h, rfl⟩ := h
 have := x19 h hid (by unfold room; omega)
 rw [e] at this
 exact this.mono fun _ _ ⟨e, h⟩ => ⟨e, Post.toM h⟩

theorem y47 (h : RepM X t m) {other : Int} {r : Bool × Int} (hid : m.run ≠ 0 → m.has m.run) (hlen : ∀ a ∈ m.rows, a.joins.length < 1000000) (e : m.joinR other = (r, m')) :
  XC Try.prog 47 [.pure .bool, .pure (.int .i64)] [.ref (some t) yZ2 0 [], .v (.int .i64 other)] X fun p X' => p = r ∧ RepM X' t m' := by
 obtain ⟨d, h, rfl⟩ := h
 have := x47 h (other := other) hid fun a ha => by have := hlen a ha; unfold room; omega
 rw [e] at this
 exact this.mono fun _ _ ⟨e, h⟩ => ⟨e, Post.toM h⟩

theorem y48 (h : RepM X t m) {l : List Int} {r : Int} (hid : m.run ≠ 0 → m.has m.run) (hj : ∀ a, m.get m.run = some a → a.joins.length < 1000000 ∧ ∀ j ∈ a.joins, ((m.rest 5).del m.run).has j) (hlen : m.queue.length < 1000000) (e : m.endR = ((l, r), m')) :
  XC Try.prog 48 [.sl cI, .pure (.int .i64)] [.ref (some t) yZ2 0 []] X fun p X' => SlAt X' cI p.1 l ∧ p.2 = r ∧ RepM X' t m' := by
 obtain ⟨d, h, rfl⟩ := h
 have := x48 h hid hj hlen
 rw [e] at this
 refine this.mono ?_
 rintro p X' ⟨l', h1, h2, h3, _⟩
 obtain ⟨rfl, rfl⟩ := Prod.mk.inj h2
 exact ⟨h1, rfl, Post.toM h3⟩

theorem y20 (h : RepM X t m) (hlen : m.queue.length < 1000000) : RC Try.prog 20 [.pure (.slice (.int .i64))] [.ref (some t) yZ2 0 []] X m.queue := by
 obtain ⟨d, h, rfl⟩ := h
 exact c20 h (by have : d.queue.length < 1000000 := hlen; unfold room; omega)

theorem y53 (h : RepM X t m) : RC Try.prog 53 [.pure (.int .i64)] [.ref (some t) yZ2 0 []] X m.run := by
 obtain ⟨d, h, rfl⟩ := h
 exact c53 h

theorem y21 (h : RepM X t m) (id : Int) : RC Try.prog 21 [.pure (.int .i64)] [.ref (some t) yZ2 0 [], .v (.int .i64 id)] X (m.state id) := by
 obtain ⟨d, h, rfl⟩ := h
 exact c21 h id

theorem y22 (h : RepM X t m) (id : Int) (hs : ∀ a ∈ m.rows, a.frames.length < 1000 ∧ ∀ f ∈ a.frames, Small f) : RC Try.prog 22 [cF, .pure .bool] [.ref (some t) yZ2 0 [], .v (.int .i64 id)] X (m.top id) := by
 obtain ⟨d, h, rfl⟩ := h
 exact c22 h id hs

theorem take_full {α : Type} {a b : List α} {n : Nat} (h : a.take n = b.take n) (ha : a.length ≤ n) (hb : b.length ≤ n) : a = b := by
 rwa [List.take_of_length_le ha, List.take_of_length_le hb] at h

theorem retB {b c : Bool} (h : b = c) : (V.bool b).norm = .bool c ∧ (V.bool c).nt = true := by
 subst h; exact ⟨rfl, rfl⟩

theorem p49 (a b : List Int) (ha : a.length < 9223372036854775807) : PC Try.prog 49 [.list (.int .i64) a .no, .list (.int .i64) b .no] (.bool (decide (a = b))) := by
 refine pcOf (X := X49) (d := 0) rfl trivial (by kernel_rfl) (by decide) (E49 a b ⟨fun h => retB ?_, fun h => ?_⟩)
 ·have h : (a.length : Int) ≠ b.length := by simpa using h
  exact (decide_eq_false fun e => h (by rw [e])).symm
 ·have hl : (a.length : Int) = b.length := by simpa using h
  refine Loops.intro (fun n : Nat => S49_0 a b n ⟨0, []⟩) (fun n => n ≤ a.length ∧ a.take n = b.take n) (fun n => a.length - n) 0 rfl ⟨Nat.zero_le _, by simp⟩ ?_
  rintro n ⟨hn, he⟩
  refine L49_0 a b n ⟨0, []⟩ ⟨fun h => ?_, fun h => ?_⟩
  ·have hlt : n < a.length := by simpa using h
   refine ⟨by omega, by omega, by omega, by omega, fun h => retB ?_, fun h => ?_⟩
   ·have h : a.getD n 0 ≠ b.getD n 0 := by simpa using h
    exact (decide_eq_false fun e => h (by rw [e])).symm
   ·have h : a.getD n 0 = b.getD n 0 := by simpa using h
    rw [wrap64 (by omega) (by omega)]
    exact Again.mk (n + 1) rfl ⟨by omega, take_succ_eq he hlt (by omega) h⟩ (by omega)
  ·have : ¬ ((n : Int) < a.length) := by simpa using h
   exact retB (decide_eq_true (take_full he (by omega) (by omega))).symm

theorem c49h {x : Option SlH} {a : List Int} (b : List Int) (hx : SlAt X cI x a) (ha : a.length < 9223372036854775807) : RC Try.prog 49 [.pure .bool] [.sl cI x, .v (.list (.int .i64) b .no)] X (decide (a = b)) := by
 have hlen := hx.len
 refine xcOf (X := X49h) (d := 0) rfl trivial (by kernel_rfl) (by decide) (E49h X x b ⟨fun h => ⟨?_, rfl⟩, fun h => ?_⟩)
 ·rw [hlen] at h
  have h : (a.length : Int) ≠ b.length := by simpa using h
  exact (decide_eq_false fun e => h (by rw [e])).symm
 ·rw [hlen] at h
  have hl : (a.length : Int) = b.length := by simpa using h
  refine Loops.intro (fun n : Nat => S49h_0 x b n X ⟨0, []⟩) (fun n => n ≤ a.length ∧ a.take n = b.take n) (fun n => a.length - n) 0 rfl ⟨Nat.zero_le _, by simp⟩ ?_
  rintro n ⟨hn, he⟩
  refine L49h_0 x b n X ⟨0, []⟩ ⟨fun h => ?_, fun h => ?_⟩
  ·rw [hlen] at h
   have hlt : n < a.length := by simpa using h
   obtain ⟨u, rfl⟩ : ∃ u, x = some u := by
    cases x with
    | none => simp [slN] at hlen; omega
    | some u => exact ⟨u, rfl⟩
   have hul : u.len = a.length := hlen
   refine ⟨u, rfl, by omega, by omega, a[n], ?_, by omega, by omega, fun h => ⟨?_, rfl⟩, fun h => ?_⟩
   ·rw [Int.toNat_natCast]; exact hx.el hlt
   ·have h : a[n] ≠ b.getD n 0 := by simpa using h
    refine (decide_eq_false fun e => h ?_).symm
    subst e; simp [List.getD, List.getElem?_eq_getElem hlt]
   ·have h : a[n] = b.getD n 0 := by simpa using h
    rw [wrap64 (by omega) (by omega)]
    refine Again.mk (n + 1) rfl ⟨by omega, take_succ_eq (d := 0) he hlt (by omega) ?_⟩ (by omega)
    rw [← h]; simp [List.getD, List.getElem?_eq_getElem hlt]
  ·rw [hlen] at h
   have : ¬ ((n : Int) < a.length) := by simpa using h
   exact ⟨(decide_eq_true (take_full he (by omega) (by omega))).symm, rfl⟩

abbrev F0 : Fr := (0, (0, ([], [])))

theorem sF0 : Small F0 := ⟨by decide, by decide⟩

instance (m : MT) : Decidable (Nums m) := inferInstanceAs (Decidable (_ ∧ _ ∧ _))

theorem p14 : PC Try.prog 14 [] (.bool true) := by
 have end2 : ∀ a, MT.get ⟨3, 2, [3], [⟨1, 4, [F0], []⟩, ⟨2, 2, [F0], [1]⟩, ⟨3, 1, [F0], []⟩]⟩ 2 = some a → a.joins.length < 1000000 ∧
   ∀ j ∈ a.joins, (MT.del (MT.rest ⟨3, 2, [3], [⟨1, 4, [F0], []⟩, ⟨2, 2, [F0], [1]⟩, ⟨3, 1, [F0], []⟩]⟩ 5) 2).has j := by
  intro a ha
  have : a = ⟨2, 2, [F0], [1]⟩ := (Option.some.inj ha).symm
  subst this
  exact ⟨by decide, by decide⟩
 refine lawOf (X := X14) rfl FN14 (by kernel_rfl) (by decide) (E14 ((y15 _).mono ?_))
 rintro _ X2 ⟨t, rfl, h0⟩
 refine ⟨fun e => (by cases e), fun _ => ?_⟩
 refine (y17 h0 (f := F0) sF0 (by decide) (by decide) (m' := ⟨1, 0, [1], [⟨1, 1, [F0], []⟩]⟩) (r := (1, 0)) rfl).mono ?_
 rintro _ X4 ⟨rfl, h1⟩
 refine (y17 h1 (f := F0) sF0 (by decide) (by decide) (m' := ⟨2, 0, [1, 2], [⟨1, 1, [F0], []⟩, ⟨2, 1, [F0], []⟩]⟩) (r := (2, 0)) rfl).mono ?_
 rintro _ X6 ⟨rfl, h2⟩
 refine (y17 h2 (f := F0) sF0 (by decide) (by decide) (m' := ⟨3, 0, [1, 2, 3], [⟨1, 1, [F0], []⟩, ⟨2, 1, [F0], []⟩, ⟨3, 1, [F0], []⟩]⟩) (r := (3, 0)) rfl).mono ?_
 rintro _ X8 ⟨rfl, h3⟩
 refine (y18 h3 (pick := 1) (by decide) (by decide) (by decide) (m' := ⟨3, 2, [1, 3], [⟨1, 1, [F0], []⟩, ⟨2, 2, [F0], []⟩, ⟨3, 1, [F0], []⟩]⟩) (r := (2, true)) rfl).mono ?_
 rintro _ X10 ⟨rfl, h4⟩
 refine ⟨_, y20 h4 (by decide), _, p49 _ _ (by decide), ?_⟩
 iterate 7 refine ⟨fun e => absurd e (by decide), fun _ => ?_⟩
 refine ⟨_, y53 h4, ?_⟩
 refine ⟨fun e => absurd e (by decide), fun _ => ?_⟩
 refine (y19 h4 (by decide) (by decide) (m' := ⟨3, 0, [1, 3, 2], [⟨1, 1, [F0], []⟩, ⟨2, 1, [F0], []⟩, ⟨3, 1, [F0], []⟩]⟩) (r := 0) rfl).mono ?_
 rintro _ X15 ⟨rfl, h5⟩
 refine (y18 h5 (pick := 0) (by decide) (by decide) (by decide) (m' := ⟨3, 1, [3, 2], [⟨1, 2, [F0], []⟩, ⟨2, 1, [F0], []⟩, ⟨3, 1, [F0], []⟩]⟩) (r := (1, true)) rfl).mono ?_
 rintro _ X17 ⟨rfl, h6⟩
 refine (y47 h6 (other := 2) (by decide) (by decide) (m' := ⟨3, 0, [3, 2], [⟨1, 4, [F0], []⟩, ⟨2, 1, [F0], [1]⟩, ⟨3, 1, [F0], []⟩]⟩) (r := (false, 0)) rfl).mono ?_
 rintro _ X19 ⟨rfl, h7⟩
 refine (y18 h7 (pick := 1) (by decide) (by decide) (by decide) (m' := ⟨3, 2, [3], [⟨1, 4, [F0], []⟩, ⟨2, 2, [F0], [1]⟩, ⟨3, 1, [F0], []⟩]⟩) (r := (2, true)) rfl).mono ?_
 rintro _ X21 ⟨rfl, h8⟩
 refine (y48 h8 (by decide) end2 (by decide) (m' := ⟨3, 0, [3, 1], [⟨1, 1, [F0], []⟩, ⟨3, 1, [F0], []⟩]⟩) (l := [1]) (r := 0) rfl).mono ?_
 rintro ⟨k, l⟩ X23 ⟨hk, rfl, h9⟩
 refine ⟨_, c49h [1] hk (by decide), _, y20 h9 (by decide), _, p49 _ _ (by decide), ?_⟩
 refine (y47 h9 (other := 9) (by decide) (by decide) (m' := ⟨3, 0, [3, 1], [⟨1, 1, [F0], []⟩, ⟨3, 1, [F0], []⟩]⟩) (r := (false, 25)) rfl).mono ?_
 rintro _ X28 ⟨rfl, h10⟩
 refine (y18 h10 (pick := 0) (by decide) (by decide) (by decide) (m' := ⟨3, 3, [1], [⟨1, 1, [F0], []⟩, ⟨3, 2, [F0], []⟩]⟩) (r := (3, true)) rfl).mono ?_
 rintro _ X30 ⟨rfl, h11⟩
 refine (y47 h11 (other := 9) (by decide) (by decide) (m' := ⟨3, 3, [1], [⟨1, 1, [F0], []⟩, ⟨3, 2, [F0], []⟩]⟩) (r := (false, 24)) rfl).mono ?_
 rintro _ X32 ⟨rfl, h12⟩
 refine (y47 h12 (other := 3) (by decide) (by decide) (m' := ⟨3, 3, [1], [⟨1, 1, [F0], []⟩, ⟨3, 2, [F0], []⟩]⟩) (r := (false, 25)) rfl).mono ?_
 rintro _ X34 ⟨rfl, h13⟩
 iterate 11 refine ⟨fun _ => ?_, fun e => absurd (show true = false from e) (by decide)⟩
 exact ⟨rfl, rfl⟩

end Go.Proofs.Ytaaedebknacheaa.AB

set_option maxRecDepth 100000
set_option maxHeartbeats 2000000
namespace Go.Proofs.Ytaaedebknacheaa.AB
open Go
noncomputable def X59g : Cx := ⟨tt, [], [], [(59, [(0, 0, .x (.sl (.pure (.int .i64)))), (1, 1, .lend), (2, 0, .x (.sl (.pure (.int .i64)))), (3, 0, .x (.pure (.int .i64))), (3, 2, .x (.pure (.int .i64)))])], [], []⟩
theorem FN59g : fnsB Try.prog X59g.fns := (show True from trivial)
theorem E59g (X : XH) (s0 : (List Int)) {R : ((Option SlH)) → XH → Prop} (h : (∀ (b1 : Bool), (b1 = true → s0 = []) → ((b1 = true → R none X) ∧
 (b1 = false → (∃ (l2 l3 : List Int), XH.view X (.pure (.int .i64)) none = some l2 ∧ (srcX X (.pure (.int .i64)) (.v (.list (.int .i64) s0 .no))) = some l3 ∧ (0 + (l3).length) * 8 ≤ room ∧ ∀ (X4 : XH) (s5 : Option SlH), XApp X (.pure (.int .i64)) (0 : Int) l2 l3 none X4 s5 → R s5 X4))))) :
  fnK X59g.tt (callN Try.prog X59g 0) (X59g.md 59) (X59g.mk1 59) Try.f59 [(.v (.list (.int .i64) s0 .no))] ⟨[], [some (.heap X)], ⟨0, []⟩⟩ (xfin [(.sl (.pure (.int .i64)))] R) := Eq.mp (by kernel_rfl) h
end Go.Proofs.Ytaaedebknacheaa.AB

set_option maxRecDepth 100000
set_option maxHeartbeats 2000000
namespace Go.Proofs.Ytaaedebknacheaa.AB
open Go
noncomputable def X55g : Cx := ⟨tt, [], [(59, [(.sl (.pure (.int .i64)))])], [(55, [(1, 2, .xc), (1, 5, .xc), (2000001, 0, .dflt), (2000001, 1, .dflt), (2000001, 3, .dflt), (2000001, 4, .dflt), (2000001, 2, .dflt), (2000001, 6, .dflt), (2000001, 5, .dflt), (2000001, 7, .dflt), (2000001, 8, .dflt), (2000001, 9, .dflt)])], [], []⟩
theorem FN55g : fnsB Try.prog X55g.fns := (show True from trivial)
theorem E55g (X : XH) (f0 : (Int × (Int × ((List Int) × (List Int))))) {R : ((Int × (Int × ((Option SlH) × (Option SlH))))) → XH → Prop} (h : (XC Try.prog 59 [(.sl (.pure (.int .i64)))] [(.v (.list (.int .i64) f0.2.2.1 .no))] X (fun (p1 : (Option SlH)) (X2 : XH) => (XC Try.prog 59 [(.sl (.pure (.int .i64)))] [(.v (.list (.int .i64) f0.2.2.2 .no))] X2 (fun (p3 : (Option SlH)) (X4 : XH) => R ((f0.1, (f0.2.1, (p1, p3)))) X4))))) :
 fnK X55g.tt (callN Try.prog X55g 0) (X55g.md 55) (X55g.mk1 55) Try.f55 [(.v (.agg [(.int .i64 f0.1), (.int .i64 f0.2.1), (.list (.int .i64) f0.2.2.1 .no), (.list (.int .i64) f0.2.2.2 .no)]))] ⟨[], [some (.heap X)], ⟨0, []⟩⟩ (xfin [(.pair (.pure (.int .i64)) (.pair (.pure (.int .i64)) (.pair (.sl (.pure (.int .i64))) (.sl (.pure (.int .i64))))))] R) := Eq.mp (by kernel_rfl) h
end Go.Proofs.Ytaaedebknacheaa.AB

set_option maxRecDepth 100000
set_option maxHeartbeats 2000000
namespace Go.Proofs.Ytaaedebknacheaa.AB
open Go
noncomputable def X55h : Cx := ⟨tt, [], [(59, [(.pure (.slice (.int .i64)))])], [(55, [(1, 2, .rd), (1, 5, .rd)])], [], []⟩
theorem FN55h : fnsB Try.prog X55h.fns := (show True from trivial)
theorem E55h (X : XH) (f0 : (Int × (Int × ((Option SlH) × (Option SlH))))) {R : ((Int × (Int × ((List Int) × (List Int))))) → XH → Prop} (h : (∃ (p1 : (List Int)), RC Try.prog 59 [(.pure (.slice (.int .i64)))] [(.sl (.pure (.int .i64)) f0.2.2.1)] X p1 ∧ (∃ (p2 : (List Int)), RC Try.prog 59 [(.pure (.slice (.int .i64)))] [(.sl (.pure (.int .i64)) f0.2.2.2)] X p2 ∧ R ((f0.1, (f0.2.1, (p1, p2)))) X))) :
 fnK X55h.tt (callN Try.prog X55h 0) (X55h.md 55) (X55h.mk1 55) Try.f55 [(.agg [(.v (.int .i64 f0.1)), (.v (.int .i64 f0.2.1)), (.sl (.pure (.int .i64)) f0.2.2.1), (.sl (.pure (.int .i64)) f0.2.2.2)])] ⟨[], [some (.heap X)], ⟨0, []⟩⟩ (xfin [(.pure (.pair (.int .i64) (.pair (.int .i64) (.pair (.slice (.int .i64)) (.slice (.int .i64))))))] R) := Eq.mp (by kernel_rfl) h
end Go.Proofs.Ytaaedebknacheaa.AB

set_option maxRecDepth 100000
set_option maxHeartbeats 2000000
namespace Go.Proofs.Ytaaedebknacheaa.AB
open Go
noncomputable def X17h : Cx := ⟨tt, [], [(55, [(.pure (.pair (.int .i64) (.pair (.int .i64) (.pair (.slice (.int .i64)) (.slice (.int .i64))))))]), (56, [])], [(17, [(4, 9, .rd), (4, 10, .x (.pure (.pair (.int .i64) (.pair (.int .i64) (.pair (.slice (.int .i64)) (.slice (.int .i64))))))), (4, 11, .x yZ3), (4, 12, .x yZ3), (5, 5, .xc)])], [], []⟩
theorem FN17h : fnsB Try.prog X17h.fns := (show True from trivial)
theorem E17h (X : XH) (t0 : Nat) (f1 : (Int × (Int × ((Option SlH) × (Option SlH))))) {R : (Int × Int) → XH → Prop} (h : (∃ (a1 : ((Option Nat) × (Int × (Int × (Option SlH))))), XH.el X yZ2 t0 0 = some a1 ∧ (∃ (es2 : List (Int × (Option Nat))), XH.vmp X (.int .i64) (.ref yZ3) a1.1 = some es2 ∧ (((decide (((es2).length : Int) ≥ (64 : Int))) = true → R ((0 : Int), (3 : Int)) X) ∧
 ((decide (((es2).length : Int) ≥ (64 : Int))) = false → (∃ (a3 : ((Option Nat) × (Int × (Int × (Option SlH))))), XH.el X yZ2 t0 0 = some a3 ∧ (∃ (a4 : ((Option Nat) × (Int × (Int × (Option SlH))))), XH.el X yZ2 t0 0 = some a4 ∧ (∀ (X5 : XH), X5 = (XH.setEl X yZ2 t0 0 ((a4.1, ((IntKind.wrap .i64 (a3.2.1 + (1 : Int))), a4.2.2)))) → (∃ (a6 : ((Option Nat) × (Int × (Int × (Option SlH))))), XH.el X5 yZ2 t0 0 = some a6 ∧ (∃ (a7 : ((Option Nat) × (Int × (Int × (Option SlH))))), XH.el X5 yZ2 t0 0 = some a7 ∧ (∃ (p8 : (Int × (Int × ((List Int) × (List Int))))), RC Try.prog 55 [(.pure (.pair (.int .i64) (.pair (.int .i64) (.pair (.slice (.int .i64)) (.slice (.int .i64))))))] [(.agg [(.v (.int .i64 f1.1)), (.v (.int .i64 f1.2.1)), (.sl (.pure (.int .i64)) f1.2.2.1), (.sl (.pure (.int .i64)) f1.2.2.2)])] X5 p8 ∧ (∀ (X9 : XH), X9 = (XH.add X5 (.arr (.pure (.pair (.int .i64) (.pair (.int .i64) (.pair (.slice (.int .i64)) (.slice (.int .i64)))))) ([(p8.1, (p8.2.1, (p8.2.2.1, p8.2.2.2)))] : List (Int × (Int × ((List Int) × (List Int))))))) → (∀ (X10 : XH), X10 = (XH.add X9 (.arr yZ3 [((some ⟨X5.n, 0, 1, 1⟩), ((0 : Int), none))])) → (∃ (h11 : Nat) (es12 : List (Int × (Option Nat))), a6.1 = some h11 ∧ XH.mp X10 (.int .i64) (.ref yZ3) h11 = some es12 ∧ (∀ (X13 : XH), X13 = (XH.set X10 h11 (.map (.int .i64) (.ref yZ3) (mset (Cd.keq (.int .i64) a7.2.1) a7.2.1 (some X9.n) es12))) → (∃ (a14 : ((Option Nat) × (Int × (Int × (Option SlH))))), XH.el X13 yZ2 t0 0 = some a14 ∧ (XC Try.prog 56 [] [(.ref (some t0) yZ2 0 []), (.v (.int .i64 a14.2.1))] X13 (fun (p15 : Unit) (X16 : XH) => (∃ (a17 : ((Option Nat) × (Int × (Int × (Option SlH))))), XH.el X16 yZ2 t0 0 = some a17 ∧ R (a17.2.1, (0 : Int)) X16))))))))))))))))))) :
  fnK X17h.tt (callN Try.prog X17h 0) (X17h.md 17) (X17h.mk1 17) Try.f17 [(.ref (some t0) yZ2 0 []), (.agg [(.v (.int .i64 f1.1)), (.v (.int .i64 f1.2.1)), (.sl (.pure (.int .i64)) f1.2.2.1), (.sl (.pure (.int .i64)) f1.2.2.2)])] ⟨[], [some (.heap X)], ⟨0, []⟩⟩ (xfin [(.pure (.int .i64)), (.pure (.int .i64))] R) := Eq.mp (by kernel_rfl) h
end Go.Proofs.Ytaaedebknacheaa.AB

set_option maxRecDepth 100000
set_option maxHeartbeats 2000000
namespace Go.Proofs.Ytaaedebknacheaa.AB
open Go
noncomputable def X22g : Cx := ⟨tt, [], [(55, [(.pair (.pure (.int .i64)) (.pair (.pure (.int .i64)) (.pair (.sl (.pure (.int .i64))) (.sl (.pure (.int .i64))))))]), (60, [(.ref yZ3), (.pure (.int .i64))])], [(22, [(1, 2, .rd), (3, 0, .x (.pair (.pure (.int .i64)) (.pair (.pure (.int .i64)) (.pair (.sl (.pure (.int .i64))) (.sl (.pure (.int .i64))))))), (4, 12, .xc)])], [], []⟩
theorem FN22g : fnsB Try.prog X22g.fns := (show True from trivial)
theorem E22g (X : XH) (t0 : Nat) (id1 : Int) {R : ((Int × (Int × ((Option SlH) × (Option SlH)))) × Bool) → XH → Prop} (h : (∃ (p1 : (Option Nat) × Int), RC Try.prog 60 [(.ref yZ3), (.pure (.int .i64))] [(.ref (some t0) yZ2 0 []), (.v (.int .i64 id1))] X p1 ∧ (((p1.2 != (0 : Int)) = true → R (((0 : Int), ((0 : Int), (none, none))), false) X) ∧
 ((p1.2 != (0 : Int)) = false → (refK p1.1 (fun (h2 : Nat) => (∃ (a3 : ((Option SlH) × (Int × (Option SlH)))), XH.el X yZ3 h2 0 = some a3 ∧ (refK p1.1 (fun (h4 : Nat) => (∃ (a5 : ((Option SlH) × (Int × (Option SlH)))), XH.el X yZ3 h4 0 = some a5 ∧ (∃ (u6 : SlH), a3.1 = some u6 ∧ 0 ≤ (IntKind.wrap .i64 ((((slN a5.1) : Nat) : Int) - (1 : Int))) ∧ (IntKind.wrap .i64 ((((slN a5.1) : Nat) : Int) - (1 : Int))) < ((u6.len : Nat) : Int) ∧ (∃ (a7 : (Int × (Int × ((List Int) × (List Int))))), XH.el X (.pure (.pair (.int .i64) (.pair (.int .i64) (.pair (.slice (.int .i64)) (.slice (.int .i64)))))) u6.h ((u6.off + ((IntKind.wrap .i64 ((((slN a5.1) : Nat) : Int) - (1 : Int)))).toNat)) = some a7 ∧ (XC Try.prog 55 [(.pair (.pure (.int .i64)) (.pair (.pure (.int .i64)) (.pair (.sl (.pure (.int .i64))) (.sl (.pure (.int .i64))))))] [(.v (.agg [(.int .i64 a7.1), (.int .i64 a7.2.1), (.list (.int .i64) a7.2.2.1 .no), (.list (.int .i64) a7.2.2.2 .no)]))] X (fun (p8 : (Int × (Int × ((Option SlH) × (Option SlH))))) (X9 : XH) => R ((p8.1, (p8.2.1, (p8.2.2.1, p8.2.2.2))), true) X9)))))))))))))) :
  fnK X22g.tt (callN Try.prog X22g 0) (X22g.md 22) (X22g.mk1 22) Try.f22 [(.ref (some t0) yZ2 0 []), (.v (.int .i64 id1))] ⟨[], [some (.heap X)], ⟨0, []⟩⟩ (xfin [(.pair (.pure (.int .i64)) (.pair (.pure (.int .i64)) (.pair (.sl (.pure (.int .i64))) (.sl (.pure (.int .i64)))))), (.pure .bool)] R) := Eq.mp (by kernel_rfl) h
end Go.Proofs.Ytaaedebknacheaa.AB

set_option maxRecDepth 100000
set_option maxHeartbeats 2000000
namespace Go.Proofs.Ytaaedebknacheaa.AB
open Go
noncomputable def X39 : Cx := ⟨tt, [], [], [], [(39, [(0, mkM 38 0 [1, 2], 1), (2, mkM 38 0 [1, 3], 1)])], []⟩
theorem FN39 : fnsB Try.prog X39.fns := (show True from trivial)
def M39_0 : List Bool × Nat := (mkM 38 0 [1, 2], 2)
def S39_0 (i2 : Int) (hq0 : XH) (hq1_0 : Int) (hq1_1 : Int) (hq1_2 : Option SlH) (hq1_3 : Option SlH) (T : Toks) : St :=
  mkS 38 [(1, (.ptr 1 0 0 0)), (2, (.v (.int .i64 i2)))] [(some (.heap hq0)), (some (.box (.agg [(.v (.int .i64 hq1_0)), (.v (.int .i64 hq1_1)), (.sl (.pure (.int .i64)) hq1_2), (.sl (.pure (.int .i64)) hq1_3)])))] T
noncomputable def B39_0 : (Exit → St → Prop) → St → Prop := (awp X39.tt (callN Try.prog X39 0) (X39.md 39) 1 (X39.mk1 39) 0 (codeAt [1, 0, 1, 0, 0] (bd Try.f39)))
def M39_2 : List Bool × Nat := (mkM 38 0 [1, 3], 2)
def S39_2 (i3 : Int) (hq0 : XH) (hq1_0 : Int) (hq1_1 : Int) (hq1_2 : Option SlH) (hq1_3 : Option SlH) (T : Toks) : St :=
  mkS 38 [(1, (.ptr 1 0 0 0)), (3, (.v (.int .i64 i3)))] [(some (.heap hq0)), (some (.box (.agg [(.v (.int .i64 hq1_0)), (.v (.int .i64 hq1_1)), (.sl (.pure (.int .i64)) hq1_2), (.sl (.pure (.int .i64)) hq1_3)])))] T
noncomputable def B39_2 : (Exit → St → Prop) → St → Prop := (awp X39.tt (callN Try.prog X39 0) (X39.md 39) 1 (X39.mk1 39) 2 (codeAt [1, 1, 1, 0, 0] (bd Try.f39)))
noncomputable def K39_0 (R : Unit → XH → Prop) : Exit → St → Prop := seqK ((awp X39.tt (callN Try.prog X39 0) (X39.md 39) 1 (X39.mk1 39) 0 (codeAt [1, 1] (bd Try.f39))) (retK tt Try.f39.results.toList fun x s' => xfin [] R x ⟨[], s'.hp, s'.T⟩)) (retK tt Try.f39.results.toList fun x s' => xfin [] R x ⟨[], s'.hp, s'.T⟩)
noncomputable def Q39_0 (R : Unit → XH → Prop) : Exit → St → Prop := (blockK 0 (K39_0 R))
noncomputable def Q39_2 (R : Unit → XH → Prop) : Exit → St → Prop := (blockK 2 (retK tt Try.f39.results.toList fun x s' => xfin [] R x ⟨[], s'.hp, s'.T⟩))
theorem E39 (X : XH) (f0 : (Int × (Int × ((Option SlH) × (Option SlH))))) {R : Unit → XH → Prop} (h : (Loops B39_0 M39_0 (Q39_0 R)
  (S39_0 (0 : Int) X f0.1 f0.2.1 f0.2.2.1 f0.2.2.2 ⟨0, []⟩))) :
  fnK X39.tt (callN Try.prog X39 0) (X39.md 39) (X39.mk1 39) Try.f39 [(.agg [(.v (.int .i64 f0.1)), (.v (.int .i64 f0.2.1)), (.sl (.pure (.int .i64)) f0.2.2.1), (.sl (.pure (.int .i64)) f0.2.2.2)])] ⟨[], [some (.heap X)], ⟨0, []⟩⟩ (xfin [] R) := Eq.mp (by kernel_rfl) h
theorem L39_0 (i2 : Int) (hq0 : XH) (hq1_0 : Int) (hq1_1 : Int) (hq1_2 : Option SlH) (hq1_3 : Option SlH) (T : Toks) {R : Unit → XH → Prop} {k0 : St → Prop}
 (h : (((decide (i2 < (((slN hq1_2) : Nat) : Int))) = true → (∃ (u1 : SlH), hq1_2 = some u1 ∧ 0 ≤ i2 ∧ i2 < ((u1.len : Nat) : Int) ∧ (∃ (a2 : Int), XH.el hq0 (.pure (.int .i64)) u1.h ((u1.off + (i2).toNat)) = some a2 ∧ (∃ (u3 : SlH), hq1_2 = some u3 ∧ 0 ≤ i2 ∧ i2 < ((u3.len : Nat) : Int) ∧ (∃ (a4 : Int), XH.el hq0 (.pure (.int .i64)) u3.h ((u3.off + (i2).toNat)) = some a4 ∧ (∀ (X5 : XH), X5 = (XH.setEl hq0 (.pure (.int .i64)) u3.h ((u3.off + (i2).toNat)) ((IntKind.wrap .i64 (((BitVec.ofInt (IntKind.bits .i64) a2 ^^^ BitVec.ofInt (IntKind.bits .i64) (85 : Int)).toNat : Int))))) → k0 (S39_0 ((IntKind.wrap .i64 (i2 + (1 : Int)))) X5 hq1_0 hq1_1 hq1_2 hq1_3 T))))))) ∧
 ((decide (i2 < (((slN hq1_2) : Nat) : Int))) = false → (Loops B39_2 M39_2 (Q39_2 R)
  (S39_2 (0 : Int) hq0 hq1_0 hq1_1 hq1_2 hq1_3 T))))) :
  B39_0 (loopQ M39_0 k0 (Q39_0 R)) (S39_0 i2 hq0 hq1_0 hq1_1 hq1_2 hq1_3 T) := Eq.mp (by kernel_rfl) h
theorem L39_2 (i3 : Int) (hq0 : XH) (hq1_0 : Int) (hq1_1 : Int) (hq1_2 : Option SlH) (hq1_3 : Option SlH) (T : Toks) {R : Unit → XH → Prop} {k2 : St → Prop}
 (h : (((decide (i3 < (((slN hq1_3) : Nat) : Int))) = true → (∃ (u6 : SlH), hq1_3 = some u6 ∧ 0 ≤ i3 ∧ i3 < ((u6.len : Nat) : Int) ∧ (∃ (a7 : Int), XH.el hq0 (.pure (.int .i64)) u6.h ((u6.off + (i3).toNat)) = some a7 ∧ (∃ (u8 : SlH), hq1_3 = some u8 ∧ 0 ≤ i3 ∧ i3 < ((u8.len : Nat) : Int) ∧ (∃ (a9 : Int), XH.el hq0 (.pure (.int .i64)) u8.h ((u8.off + (i3).toNat)) = some a9 ∧ (∀ (X10 : XH), X10 = (XH.setEl hq0 (.pure (.int .i64)) u8.h ((u8.off + (i3).toNat)) ((IntKind.wrap .i64 (((BitVec.ofInt (IntKind.bits .i64) a7 ^^^ BitVec.ofInt (IntKind.bits .i64) (85 : Int)).toNat : Int))))) → k2 (S39_2 ((IntKind.wrap .i64 (i3 + (1 : Int)))) X10 hq1_0 hq1_1 hq1_2 hq1_3 T))))))) ∧
 ((decide (i3 < (((slN hq1_3) : Nat) : Int))) = false → R () hq0))) :
  B39_2 (loopQ M39_2 k2 (Q39_2 R)) (S39_2 i3 hq0 hq1_0 hq1_1 hq1_2 hq1_3 T) := Eq.mp (by kernel_rfl) h
end Go.Proofs.Ytaaedebknacheaa.AB

namespace Go.Proofs.Ytaaedebknacheaa.AB
open Go


variable {X X' : XH} {t : Nat} {d : DT}

abbrev FrH : Type := Int × (Int × (Option SlH × Option SlH))
abbrev cFh : Xd := .pair (.pure (.int .i64)) (.pair (.pure (.int .i64)) (.pair (.sl (.pure (.int .i64))) (.sl (.pure (.int .i64)))))

def fhs (p : FrH) : List Nat := hl p.2.2.1 ++ hl p.2.2.2

structure FrAt (X : XH) (p : FrH) (f : Fr) : Prop where
 m : p.1 = f.1
 pc : p.2.1 = f.2.1
 l : SlAt X cI p.2.2.1 f.2.2.1
 s : SlAt X cI p.2.2.2 f.2.2.2

theorem FrAt.keep {p : FrH} {f : Fr} (h : FrAt X p f) (e : ∀ k ∈ fhs p, X'.at k = X.at k) : FrAt X' p f :=
 ⟨h.m, h.pc, h.l.keep fun k hk => e k (List.mem_append_left _ hk), h.s.keep fun k hk => e k (List.mem_append_right _ hk)⟩

theorem FrAt.lt {p : FrH} {f : Fr} (h : FrAt X p f) : ∀ k ∈ fhs p, k < X.n := fun k hk => (List.mem_append.1 hk).elim (h.l.lt k) (h.s.lt k)

theorem c59g (X : XH) {l : List Int} (hs : l.length * 8 ≤ room) : XC Try.prog 59 [.sl cI] [.v (.list (.int .i64) l .no)] X fun p X' => SlAt X' cI p l ∧ Mv X [] X' (hl p) := by
 refine xcOf (X := X59g) rfl FN59g (by kernel_rfl) (by decide) (E59g X l fun b hb => ⟨fun e => ⟨hb e, .refl _ _⟩, fun e => ⟨[], l, rfl, rfl, by simpa using hs, fun X' s' hx => ?_⟩⟩)
 have := hx.spec (x := none) rfl
 simpa [hl] using this

theorem c55g (X : XH) {f : Fr} (hs : Small f) : XC Try.prog 55 [cFh] [.v (.agg [.int .i64 f.1, .int .i64 f.2.1, .list (.int .i64) f.2.2.1 .no, .list (.int .i64) f.2.2.2 .no])] X fun p X' =>
  FrAt X' p f ∧ Mv X [] X' (fhs p) ∧ (fhs p).Nodup := by
 refine xcOf (X := X55g) rfl FN55g (by kernel_rfl) (by decide) (E55g X f ((c59g X hs.1).mono ?_))
 rintro p X2 ⟨h1, m1⟩
 refine (c59g X2 hs.2).mono ?_
 rintro q X4 ⟨h2, m2⟩
 have k : ∀ j ∈ hl p, X4.at j = X2.at j := fun j hj => m2.keep j (h1.lt j hj) (by simp)
 refine ⟨⟨rfl, rfl, h1.keep k, h2⟩, ⟨Nat.le_trans m1.n m2.n, fun j hj hn => ?_, fun j hj => ?_⟩, ?_⟩
 ·rw [m2.keep j (Nat.lt_of_lt_of_le hj m1.n) (by simp), m1.keep j hj (by simp)]
 ·rcases List.mem_append.1 hj with hj | hj
  ·exact m1.own j hj
  ·exact .inr ((m2.own j hj).elim (fun e => by simp at e) fun e => Nat.le_trans m1.n e)
 ·refine List.nodup_append.2 ⟨hl_nodup _, hl_nodup _, fun a ha b hb e => ?_⟩
  subst e
  have h3 := h1.lt a ha
  exact (m2.own a hb).elim (fun e => by simp at e) fun e => by omega

theorem c55h {p : FrH} {f : Fr} (h : FrAt X p f) (hs : Small f) : RC Try.prog 55 [cF] [.agg [.v (.int .i64 p.1), .v (.int .i64 p.2.1), .sl cI p.2.2.1, .sl cI p.2.2.2]] X f := by
 refine xcOf (X := X55h) rfl FN55h (by kernel_rfl) (by decide) (E55h X p ⟨_, c59h h.l hs.1, _, c59h h.s hs.2, ?_, rfl⟩)
 rw [h.m, h.pc]

theorem Rep.keepAll (h : Rep X t d) (e : ∀ k ∈ t :: d.hs, X'.at k = X.at k) : Rep X' t d := by
 refine ⟨h.box.keep (e _ (List.mem_cons_self ..)), (e _ (by simp [DT.hs])).trans h.map, h.q.keep fun k hk => e k (by simp [DT.hs, hk]), fun r hr => (h.rows r hr).keep fun k hk => e k ?_, h.ids, h.sep⟩
 simp only [DT.hs, List.mem_cons, List.mem_append, List.mem_flatMap]
 exact .inr (.inr (.inr ⟨r, hr, hk⟩))

theorem c17h (h : Rep X t d) {p : FrH} {f : Fr} (hp : FrAt X p f) (hdis : ∀ k ∈ fhs p, k ≠ t) (hf : Small f) (hn : Nums d.ab) (hlen : (d.queue.length + 1) * 8 ≤ room) (hrl : ¬ 64 ≤ d.ab.rows.length) :
  XC Try.prog 17 [.pure (.int .i64), .pure (.int .i64)] [.ref (some t) yZ2 0 [], .agg [.v (.int .i64 p.1), .v (.int .i64 p.2.1), .sl cI p.2.2.1, .sl cI p.2.2.2]] X fun r X' =>
   r = (d.last + 1, (0 : Int)) ∧ Post X t d X' (d.ab.start f) := by
 obtain ⟨hn1, hn2, hn3⟩ := hn
 have hn1 : 0 ≤ d.last := hn1
 have hn2 : d.last < 4611686018427387904 := hn2
 have hrl' : (ents d.rows).length = d.ab.rows.length := by simp [ents, DT.ab]
 have hw : IntKind.wrap .i64 (d.last + 1) = d.last + 1 := wrap64 (by omega) (by omega)
 refine xcOf (X := X17h) rfl FN17h (by kernel_rfl) (by decide) (E17h X t p ⟨_, h.box.el, ents d.rows, h.mp, fun e => ?_, fun e => ⟨_, h.box.el, _, h.box.el, fun X5 e5 => ?_⟩⟩)
 ·have e : (64 : Int) ≤ ((ents d.rows).length : Int) := by simpa using e
  omega
 ·rw [h.box.setEl] at e5
  have htq : t ∉ hl d.q := fun e => by
   have := h.sep
   simp only [DT.hs, List.nodup_cons, List.mem_cons, List.mem_append] at this
   exact this.1 (.inr (.inl e))
  have b5 : Box X5 yZ2 t (some d.hm, (d.last + 1, (d.run, d.q))) := by
   have := h.box.set (b := (some d.hm, (d.last + 1, (d.run, d.q))))
   rw [e5]
   dsimp only
   rw [hw]
   exact this
  obtain ⟨a1, a2⟩ := h.tab (last := d.last + 1) (run := d.run) (q := d.q) (queue := d.queue) (by rw [e5]; exact Mv.set (List.mem_cons_self ..)) (fun k hk => .inl hk) b5
   (h.q.keep fun k hk => by rw [e5]; exact at_set_ne fun e => htq (e ▸ hk))
  have hid : ∀ a ∈ d.ab.rows, a.id ≠ d.last + 1 := fun a ha e => by
   have h1 := hn3 a ha
   have h2 : d.ab.last = d.last := rfl
   omega
  have hp5 : FrAt X5 p f := hp.keep fun k hk => by rw [e5]; exact at_set_ne (hdis k hk)
  refine ⟨_, b5.el, _, b5.el, f, c55h hp5 hf, fun X9 e9 X10 e10 => ⟨d.hm, ents d.rows, rfl, ?_, fun X13 e13 => ?_⟩⟩
  ·refine mp_at.2 ?_
   have l1 := at_lt a1.map
   have l9 : X9.n = X5.n + 1 := by rw [e9]; rfl
   have l1 : d.hm < X5.n := l1
   rw [e10, at_add_old (by omega), e9, at_add_old l1]
   exact a1.map
  ·have hms := msetN (k := d.last + 1) (b := some X9.n) (rows_none (l := d.rows) (id := d.last + 1) fun r hr => hid r.toAb (List.mem_map.2 ⟨r, hr, rfl⟩))
   have e13 : X13 = X10.set d.hm (.map (.int .i64) (.ref yZ3) (ents d.rows ++ [(d.last + 1, some X9.n)])) := by
    rw [e13, ← hms]
   obtain ⟨d', r1, r2, r3, r4⟩ := a1.start (id := d.last + 1) (f := f) hid e9 e10 e13
   have hab : d'.last = d.last + 1 := congrArg MT.last r3
   have hrows : d'.ab.rows = d.ab.rows ++ [⟨d.last + 1, 0, [f], []⟩] := congrArg MT.rows r3
   have hc := c56 r1 (id := d.last + 1) ⟨⟨d.last + 1, 0, [f], []⟩, by rw [hrows]; simp, rfl⟩ (by rw [r4]; exact hlen)
   refine ⟨_, r1.box.el, ?_⟩
   show XC Try.prog 56 [] [_, .v (.int .i64 d'.last)] X13 _
   rw [hab]
   refine hc.mono ?_
   rintro _ X16 ⟨d16, s1, s2, s3⟩
   have hl16 : d16.last = d.last + 1 := by
    have : d16.ab.last = (d'.ab.ready (d.last + 1)).last := congrArg MT.last s3
    exact this.trans hab
   refine ⟨_, s1.box.el, ?_, d16, s1, (a2.trans r2).trans s2, ?_⟩
   ·show (d16.last, (0 : Int)) = _
    rw [hl16]
   ·rw [s3, r3]
    simp only [MT.ready, MT.start, MT.set, updAb, List.map_append, List.map_cons, List.map_nil, if_true]
    have : (d.ab.rows.map fun a => if a.id = d.last + 1 then { a with st := 1 } else a) = d.ab.rows := by
     refine (List.map_congr_left fun a ha => ?_).trans (List.map_id _)
     rw [if_neg (hid a ha)]; rfl
    exact (congrArg (fun l => (⟨d.last + 1, d.run, d.queue ++ [d.last + 1], l ++ [⟨d.last + 1, 1, [f], []⟩]⟩ : MT)) this)

theorem SlAt.setEl {c : Xd} {s : SlH} {l : List c.T} (h : SlAt X c (some s) l) {i : Nat} (hi : i < l.length) (v : c.T) :
  ∃ a, X.setEl c s.h (s.off + i) v = X.set s.h (.arr c a) ∧ SlAt (X.set s.h (.arr c a)) c (some s) (l.set i v) := by
 obtain ⟨a, h1, h2, h3, h4⟩ := h
 refine ⟨a.set (s.off + i) v, by unfold XH.setEl; rw [arr_at.2 h1], _, at_set_self h1, by simpa using h2, h3, ?_⟩
 subst h4
 refine List.ext_getElem? fun j => ?_
 simp only [List.length_take, List.length_drop] at hi
 rw [List.getElem?_set, List.getElem?_take, List.getElem?_take, List.getElem?_drop, List.getElem?_drop, List.getElem?_set]
 simp only [List.length_take, List.length_drop]
 by_cases hij : i = j
 ·subst hij
  rw [if_pos rfl, if_pos (by omega), if_pos rfl, if_pos (by omega), if_pos (by omega)]
 ·rw [if_neg hij, if_neg (show ¬ s.off + i = s.off + j by omega)]

theorem c39 {p : FrH} {l1 l2 : List Int} (h1 : SlAt X cI p.2.2.1 l1) (h2 : SlAt X cI p.2.2.2 l2) (hd : (fhs p).Nodup) (b1 : l1.length < 1000000) (b2 : l2.length < 1000000) :
  XC Try.prog 39 [] [.agg [.v (.int .i64 p.1), .v (.int .i64 p.2.1), .sl cI p.2.2.1, .sl cI p.2.2.2]] X fun _ X' => Mv X (fhs p) X' (fhs p) := by
 have hdis : ∀ k ∈ hl p.2.2.2, k ∉ hl p.2.2.1 := fun k hk e => (List.nodup_append.1 hd).2.2 k e k hk rfl
 refine xcOf (X := X39) rfl FN39 (by kernel_rfl) (by decide) (E39 X p ?_)
 refine Loops.intro (fun a : Nat × XH × Toks => S39_0 (a.1 : Int) a.2.1 p.1 p.2.1 p.2.2.1 p.2.2.2 a.2.2)
  (fun a => a.1 ≤ l1.length ∧ (∃ l, l.length = l1.length ∧ SlAt a.2.1 cI p.2.2.1 l) ∧ SlAt a.2.1 cI p.2.2.2 l2 ∧ Mv X (fhs p) a.2.1 (fhs p)) (fun a => l1.length - a.1) (0, X, ⟨0, []⟩) rfl ⟨Nat.zero_le _, ⟨l1, rfl, h1⟩, h2, .refl _ _⟩ ?_
 rintro ⟨i, Xi, T⟩ ⟨j1, ⟨l, j2, j3⟩, j4, j5⟩
 simp only at j1 j3 j4 j5
 have hln := j3.len
 refine L39_0 (i : Int) Xi p.1 p.2.1 p.2.2.1 p.2.2.2 T ⟨fun e => ?_, fun e => ?_⟩
 ·have hi : i < l.length := by
   have : (i : Int) < ((slN p.2.2.1 : Nat) : Int) := by simpa using e
   rw [hln] at this; omega
  obtain ⟨u, hu⟩ : ∃ u, p.2.2.1 = some u := by
   cases hq : p.2.2.1 with
   | none => rw [hq] at hln; simp [slN] at hln; omega
   | some u => exact ⟨u, rfl⟩
  have hul : u.len = l.length := by rw [hu] at hln; exact hln
  have hsl : SlAt Xi cI (some u) l := by rw [← hu]; exact j3
  refine ⟨u, hu, by omega, by omega, l[i], by rw [Int.toNat_natCast]; exact hsl.el hi, u, hu, by omega, by omega, l[i], by rw [Int.toNat_natCast]; exact hsl.el hi, fun X5 e5 => ?_⟩
  rw [Int.toNat_natCast] at e5
  obtain ⟨a, ha1, ha2⟩ := hsl.setEl hi (IntKind.wrap .i64 ((BitVec.ofInt (IntKind.bits .i64) l[i] ^^^ BitVec.ofInt (IntKind.bits .i64) (85 : Int)).toNat : Int))
  rw [ha1] at e5
  have hm : u.h ∈ hl p.2.2.1 := by rw [hu]; simp [hl]
  rw [wrap64 (by omega) (by omega)]
  refine Again.mk (i + 1, X5, T) rfl ⟨by simp only; omega, ⟨l.set i (IntKind.wrap .i64 ((BitVec.ofInt (IntKind.bits .i64) l[i] ^^^ BitVec.ofInt (IntKind.bits .i64) (85 : Int)).toNat : Int)), List.length_set.trans j2, ?_⟩, j4.keep fun k hk => ?_, j5.trans ?_⟩ (by simp only; omega)
  ·simp only; rw [hu, e5]; exact ha2
  ·simp only; rw [e5]; exact at_set_ne fun e => hdis k hk (e ▸ hm)
  ·simp only; rw [e5]; exact Mv.set (List.mem_append_left _ hm)
 ·refine Loops.intro (fun a : Nat × XH × Toks => S39_2 (a.1 : Int) a.2.1 p.1 p.2.1 p.2.2.1 p.2.2.2 a.2.2)
   (fun a => a.1 ≤ l2.length ∧ (∃ l, l.length = l2.length ∧ SlAt a.2.1 cI p.2.2.2 l) ∧ Mv X (fhs p) a.2.1 (fhs p)) (fun a => l2.length - a.1) (0, Xi, T) rfl ⟨Nat.zero_le _, ⟨l2, rfl, j4⟩, j5⟩ ?_
  rintro ⟨i, Xi, T⟩ ⟨j1, ⟨l, j2, j3⟩, j5⟩
  simp only at j1 j3 j5
  have hln := j3.len
  refine L39_2 (i : Int) Xi p.1 p.2.1 p.2.2.1 p.2.2.2 T ⟨fun e => ?_, fun e => j5⟩
  have hi : i < l.length := by
   have : (i : Int) < ((slN p.2.2.2 : Nat) : Int) := by simpa using e
   rw [hln] at this; omega
  obtain ⟨u, hu⟩ : ∃ u, p.2.2.2 = some u := by
   cases hq : p.2.2.2 with
   | none => rw [hq] at hln; simp [slN] at hln; omega
   | some u => exact ⟨u, rfl⟩
  have hul : u.len = l.length := by rw [hu] at hln; exact hln
  have hsl : SlAt Xi cI (some u) l := by rw [← hu]; exact j3
  refine ⟨u, hu, by omega, by omega, l[i], by rw [Int.toNat_natCast]; exact hsl.el hi, u, hu, by omega, by omega, l[i], by rw [Int.toNat_natCast]; exact hsl.el hi, fun X5 e5 => ?_⟩
  rw [Int.toNat_natCast] at e5
  obtain ⟨a, ha1, ha2⟩ := hsl.setEl hi (IntKind.wrap .i64 ((BitVec.ofInt (IntKind.bits .i64) l[i] ^^^ BitVec.ofInt (IntKind.bits .i64) (85 : Int)).toNat : Int))
  rw [ha1] at e5
  have hm : u.h ∈ hl p.2.2.2 := by rw [hu]; simp [hl]
  rw [wrap64 (by omega) (by omega)]
  refine Again.mk (i + 1, X5, T) rfl ⟨by simp only; omega, ⟨l.set i (IntKind.wrap .i64 ((BitVec.ofInt (IntKind.bits .i64) l[i] ^^^ BitVec.ofInt (IntKind.bits .i64) (85 : Int)).toNat : Int)), List.length_set.trans j2, ?_⟩, j5.trans ?_⟩ (by simp only; omega)
  ·simp only; rw [hu, e5]; exact ha2
  ·simp only; rw [e5]; exact Mv.set (List.mem_append_right _ hm)

theorem c22g (h : Rep X t d) {id : Int} {f : Fr} (ht : d.ab.top id = (f, true)) (hs : ∀ a ∈ d.ab.rows, a.frames.length < 1000 ∧ ∀ f ∈ a.frames, Small f) :
  XC Try.prog 22 [cFh, .pure .bool] [.ref (some t) yZ2 0 [], .v (.int .i64 id)] X fun p X' => p.2 = true ∧ FrAt X' p.1 f ∧ Mv X [] X' (fhs p.1) ∧ (fhs p.1).Nodup := by
 obtain ⟨x, hc, hx⟩ := c60 h id
 refine xcOf (X := X22g) rfl FN22g (by kernel_rfl) (by decide) (E22g X t id ⟨_, hc, fun e => ?_, fun e => ?_⟩)
 ·exfalso
  have e : errTop d.ab id ≠ 0 := by simpa using e
  unfold MT.top at ht
  unfold errTop at e
  cases hg : d.ab.get id with
  | none => rw [hg] at ht; cases ht
  | some a =>
   rw [hg] at e ht
   dsimp only at e ht
   by_cases hf : a.frames = []
   ·rw [hf] at ht; cases ht
   ·rw [if_neg hf] at e; exact absurd rfl e
 ·have e : errTop d.ab id = 0 := by simpa using e
  obtain ⟨l1, r, l2, hd, he, rfl, hr, hn, hf, hg⟩ := hx e
  have hsm := hs r.toAb (by simp [DT.ab, hd])
  have hlen := hr.fr.len
  have hpos : 0 < r.frames.length := List.length_pos_iff.2 hf
  obtain ⟨u, hu⟩ : ∃ u, r.fr = some u := by
   cases hfr : r.fr with
   | none => rw [hfr] at hlen; simp [slN] at hlen; omega
   | some u => exact ⟨u, rfl⟩
  have hlen' : u.len = r.frames.length := by rw [hu] at hlen; exact hlen
  have hw : IntKind.wrap .i64 ((((slN r.fr) : Nat) : Int) - (1 : Int)) = ((r.frames.length - 1 : Nat) : Int) := by
   rw [hlen, wrap64 (by omega) (by omega)]; omega
  have hfr : SlAt X cF (some u) r.frames := by rw [← hu]; exact hr.fr
  have hel := hfr.el (i := r.frames.length - 1) (by omega)
  have htf : r.frames[r.frames.length - 1] = f := by
   unfold MT.top at ht
   rw [hg] at ht
   dsimp only at ht
   rw [List.getLast?_eq_getElem?, List.getElem?_eq_getElem (by omega)] at ht
   exact congrArg Prod.fst ht
  refine ⟨_, hr.box.el, _, hr.box.el, u, hu, ?_, ?_, r.frames[r.frames.length - 1], ?_, ?_⟩
  ·dsimp only; rw [hw]; omega
  ·dsimp only; rw [hw, hlen']; omega
  ·dsimp only; rw [hw]
   rw [show (((r.frames.length - 1 : Nat) : Int)).toNat = r.frames.length - 1 by omega]
   exact hel
  ·rw [htf]
   exact (c55g X (htf ▸ hsm.2 _ (List.getElem_mem _))).mono fun p X9 hp => ⟨rfl, hp⟩

end Go.Proofs.Ytaaedebknacheaa.AB

set_option maxRecDepth 100000
set_option maxHeartbeats 2000000
namespace Go.Proofs.Ytaaedebknacheaa.AB
open Go
noncomputable def X40 : Cx := ⟨tt, [(55, [.cd (.pair (.int .i64) (.pair (.int .i64) (.pair (.slice (.int .i64)) (.slice (.int .i64)))))])], [], [(40, [(6, 7, .x (.pure (.pair (.int .i64) (.pair (.int .i64) (.pair (.slice (.int .i64)) (.slice (.int .i64))))))), (6, 8, .x (.pure (.pair (.int .i64) (.pair (.int .i64) (.pair (.slice (.int .i64)) (.slice (.int .i64))))))), (1000006, 0, .dflt)])], [], []⟩
theorem FN40 : fnsB Try.prog X40.fns := (show True from trivial)
theorem E40 (X : XH) (t0 : Nat) (id1 : Int) (f2 : (Int × (Int × ((List Int) × (List Int))))) {R : (Int) → XH → Prop} (h : (∃ (a1 : ((Option Nat) × (Int × (Int × (Option SlH))))), XH.el X yZ2 t0 0 = some a1 ∧ (∃ (es2 : List (Int × (Option Nat))), XH.vmp X (.int .i64) (.ref yZ3) a1.1 = some es2 ∧ (∀ (v3 : (Option Nat)), mfind (Cd.keq (.int .i64) id1) es2 = some v3 → (((Option.isNone v3) = true → R (24 : Int) X) ∧
 ((Option.isNone v3) = false → (refK v3 (fun (h4 : Nat) => (∃ (a5 : ((Option SlH) × (Int × (Option SlH)))), XH.el X yZ3 h4 0 = some a5 ∧ (((decide ((((slN a5.1) : Nat) : Int) ≥ (200 : Int))) = true → R (3 : Int) X) ∧
 ((decide ((((slN a5.1) : Nat) : Int) ≥ (200 : Int))) = false → (refK v3 (fun (h6 : Nat) => (∃ (a7 : ((Option SlH) × (Int × (Option SlH)))), XH.el X yZ3 h6 0 = some a7 ∧ (∃ p8 : (Int × (Int × ((List Int) × (List Int)))), PC Try.prog 55 [(.agg [(.int .i64 f2.1), (.int .i64 f2.2.1), (.list (.int .i64) f2.2.2.1 .no), (.list (.int .i64) f2.2.2.2 .no)])] ((.agg [(.int .i64 p8.1), (.int .i64 p8.2.1), (.list (.int .i64) p8.2.2.1 .no), (.list (.int .i64) p8.2.2.2 .no)])) ∧ (∀ (X9 : XH), X9 = (XH.add X (.arr (.pure (.pair (.int .i64) (.pair (.int .i64) (.pair (.slice (.int .i64)) (.slice (.int .i64)))))) ([(p8.1, (p8.2.1, (p8.2.2.1, p8.2.2.2)))] : List (Int × (Int × ((List Int) × (List Int))))))) → (∃ (l10 l11 : List (Int × (Int × ((List Int) × (List Int))))), XH.view X9 (.pure (.pair (.int .i64) (.pair (.int .i64) (.pair (.slice (.int .i64)) (.slice (.int .i64)))))) a7.1 = some l10 ∧ (srcX X9 (.pure (.pair (.int .i64) (.pair (.int .i64) (.pair (.slice (.int .i64)) (.slice (.int .i64)))))) (.sl (.pure (.pair (.int .i64) (.pair (.int .i64) (.pair (.slice (.int .i64)) (.slice (.int .i64)))))) (some ⟨X.n, 0, 1, 1⟩))) = some l11 ∧ ((slN a7.1) + (l11).length) * 64 ≤ room ∧ ∀ (X12 : XH) (s13 : Option SlH), XApp X9 (.pure (.pair (.int .i64) (.pair (.int .i64) (.pair (.slice (.int .i64)) (.slice (.int .i64)))))) (((0 : Int), ((0 : Int), (([] : List Int), ([] : List Int))))) l10 l11 a7.1 X12 s13 → (refK v3 (fun (h14 : Nat) => (∃ (a15 : ((Option SlH) × (Int × (Option SlH)))), XH.el X12 yZ3 h14 0 = some a15 ∧ (∀ (X16 : XH), X16 = (XH.setEl X12 yZ3 h14 0 (s13, a15.2)) → R (0 : Int) X16)))))))))))))))))) ∧ (mfind (Cd.keq (.int .i64) id1) es2 = none → ((true = true → R (24 : Int) X) ∧
 (true = false → False)))))) :
  fnK X40.tt (callN Try.prog X40 0) (X40.md 40) (X40.mk1 40) Try.f40 [(.ref (some t0) yZ2 0 []), (.v (.int .i64 id1)), (.v (.agg [(.int .i64 f2.1), (.int .i64 f2.2.1), (.list (.int .i64) f2.2.2.1 .no), (.list (.int .i64) f2.2.2.2 .no)]))] ⟨[], [some (.heap X)], ⟨0, []⟩⟩ (xfin [(.pure (.int .i64))] R) := Eq.mp (by kernel_rfl) h
end Go.Proofs.Ytaaedebknacheaa.AB

set_option maxRecDepth 100000
set_option maxHeartbeats 2000000
namespace Go.Proofs.Ytaaedebknacheaa.AB
open Go
noncomputable def X41g : Cx := ⟨tt, [], [(55, [(.pair (.pure (.int .i64)) (.pair (.pure (.int .i64)) (.pair (.sl (.pure (.int .i64))) (.sl (.pure (.int .i64))))))])], [(41, [(0, 0, .x (.sl (.pair (.pure (.int .i64)) (.pair (.pure (.int .i64)) (.pair (.sl (.pure (.int .i64))) (.sl (.pure (.int .i64)))))))), (3, 0, .x (.sl (.pair (.pure (.int .i64)) (.pair (.pure (.int .i64)) (.pair (.sl (.pure (.int .i64))) (.sl (.pure (.int .i64)))))))), (4, 0, .x (.sl (.pair (.pure (.int .i64)) (.pair (.pure (.int .i64)) (.pair (.sl (.pure (.int .i64))) (.sl (.pure (.int .i64)))))))), (8, 2, .xc), (8, 3, .x (.pair (.pure (.int .i64)) (.pair (.pure (.int .i64)) (.pair (.sl (.pure (.int .i64))) (.sl (.pure (.int .i64))))))), (8, 4, .x (.pair (.pure (.int .i64)) (.pair (.pure (.int .i64)) (.pair (.sl (.pure (.int .i64))) (.sl (.pure (.int .i64)))))))])], [(41, [(0, mkM 33 0 [6, 20, 21, 22], 0)])], []⟩
theorem FN41g : fnsB Try.prog X41g.fns := (show True from trivial)
def M41g_0 : List Bool × Nat := (mkM 33 0 [6, 20, 21, 22], 1)
def S41g_0 (l6 : Option SlH) (t20 : Option SlH) (t21 : Int) (t22 : Int) (hq0 : XH) (T : Toks) : St :=
  mkS 33 [(6, (.sl (.pair (.pure (.int .i64)) (.pair (.pure (.int .i64)) (.pair (.sl (.pure (.int .i64))) (.sl (.pure (.int .i64)))))) l6)), (20, (.sl (.pure (.pair (.int .i64) (.pair (.int .i64) (.pair (.slice (.int .i64)) (.slice (.int .i64)))))) t20)), (21, (.v (.int .i64 t21))), (22, (.v (.int .i64 t22)))] [(some (.heap hq0))] T
noncomputable def B41g_0 : (Exit → St → Prop) → St → Prop := (awp X41g.tt (callN Try.prog X41g 0) (X41g.md 41) 1 (X41g.mk1 41) 0 (codeAt [1, 1, 1, 1, 0, 1, 0, 0] (bd Try.f41)))
noncomputable def K41g_0 (R : ((Option SlH)) → XH → Prop) : Exit → St → Prop := seqK ((awp X41g.tt (callN Try.prog X41g 0) (X41g.md 41) 1 (X41g.mk1 41) 0 (codeAt [1, 1, 1, 1, 1] (bd Try.f41))) (retK tt Try.f41.results.toList fun x s' => xfin [(.sl (.pair (.pure (.int .i64)) (.pair (.pure (.int .i64)) (.pair (.sl (.pure (.int .i64))) (.sl (.pure (.int .i64)))))))] R x ⟨[], s'.hp, s'.T⟩)) (retK tt Try.f41.results.toList fun x s' => xfin [(.sl (.pair (.pure (.int .i64)) (.pair (.pure (.int .i64)) (.pair (.sl (.pure (.int .i64))) (.sl (.pure (.int .i64)))))))] R x ⟨[], s'.hp, s'.T⟩)
noncomputable def Q41g_0 (R : ((Option SlH)) → XH → Prop) : Exit → St → Prop := (blockK 0 (K41g_0 R))
theorem E41g (X : XH) (t0 : Nat) (id1 : Int) {R : ((Option SlH)) → XH → Prop} (h : (∃ (a1 : ((Option Nat) × (Int × (Int × (Option SlH))))), XH.el X yZ2 t0 0 = some a1 ∧ (∃ (es2 : List (Int × (Option Nat))), XH.vmp X (.int .i64) (.ref yZ3) a1.1 = some es2 ∧ (∀ (v3 : (Option Nat)), mfind (Cd.keq (.int .i64) id1) es2 = some v3 → (((Option.isNone v3) = true → R none X) ∧
 ((Option.isNone v3) = false → (refK v3 (fun (h4 : Nat) => (∃ (a5 : ((Option SlH) × (Int × (Option SlH)))), XH.el X yZ3 h4 0 = some a5 ∧ (Loops B41g_0 M41g_0 (Q41g_0 R)
  (S41g_0 none a5.1 ((((slN a5.1) : Nat) : Int)) (0 : Int) X ⟨0, []⟩)))))))) ∧ (mfind (Cd.keq (.int .i64) id1) es2 = none → ((true = true → R none X) ∧
 (true = false → False)))))) :
  fnK X41g.tt (callN Try.prog X41g 0) (X41g.md 41) (X41g.mk1 41) Try.f41 [(.ref (some t0) yZ2 0 []), (.v (.int .i64 id1))] ⟨[], [some (.heap X)], ⟨0, []⟩⟩ (xfin [(.sl (.pair (.pure (.int .i64)) (.pair (.pure (.int .i64)) (.pair (.sl (.pure (.int .i64))) (.sl (.pure (.int .i64)))))))] R) := Eq.mp (by kernel_rfl) h
theorem L41g_0 (l6 : Option SlH) (t20 : Option SlH) (t21 : Int) (t22 : Int) (hq0 : XH) (T : Toks) {R : ((Option SlH)) → XH → Prop} {k0 : St → Prop}
 (h : (((decide (t22 < t21)) = true → (∃ (u6 : SlH), t20 = some u6 ∧ 0 ≤ t22 ∧ t22 < ((u6.len : Nat) : Int) ∧ (∃ (a7 : (Int × (Int × ((List Int) × (List Int))))), XH.el hq0 (.pure (.pair (.int .i64) (.pair (.int .i64) (.pair (.slice (.int .i64)) (.slice (.int .i64)))))) u6.h ((u6.off + (t22).toNat)) = some a7 ∧ (XC Try.prog 55 [(.pair (.pure (.int .i64)) (.pair (.pure (.int .i64)) (.pair (.sl (.pure (.int .i64))) (.sl (.pure (.int .i64))))))] [(.v (.agg [(.int .i64 a7.1), (.int .i64 a7.2.1), (.list (.int .i64) a7.2.2.1 .no), (.list (.int .i64) a7.2.2.2 .no)]))] hq0 (fun (p8 : (Int × (Int × ((Option SlH) × (Option SlH))))) (X9 : XH) => (∀ (X10 : XH), X10 = (XH.add X9 (.arr (.pair (.pure (.int .i64)) (.pair (.pure (.int .i64)) (.pair (.sl (.pure (.int .i64))) (.sl (.pure (.int .i64)))))) ([(p8.1, (p8.2.1, (p8.2.2.1, p8.2.2.2)))] : List (Int × (Int × ((Option SlH) × (Option SlH))))))) → (∃ (l11 l12 : List (Int × (Int × ((Option SlH) × (Option SlH))))), XH.view X10 (.pair (.pure (.int .i64)) (.pair (.pure (.int .i64)) (.pair (.sl (.pure (.int .i64))) (.sl (.pure (.int .i64)))))) l6 = some l11 ∧ (srcX X10 (.pair (.pure (.int .i64)) (.pair (.pure (.int .i64)) (.pair (.sl (.pure (.int .i64))) (.sl (.pure (.int .i64)))))) (.sl (.pair (.pure (.int .i64)) (.pair (.pure (.int .i64)) (.pair (.sl (.pure (.int .i64))) (.sl (.pure (.int .i64)))))) (some ⟨X9.n, 0, 1, 1⟩))) = some l12 ∧ ((slN l6) + (l12).length) * 64 ≤ room ∧ ∀ (X13 : XH) (s14 : Option SlH), XApp X10 (.pair (.pure (.int .i64)) (.pair (.pure (.int .i64)) (.pair (.sl (.pure (.int .i64))) (.sl (.pure (.int .i64)))))) (((0 : Int), ((0 : Int), (none, none)))) l11 l12 l6 X13 s14 → k0 (S41g_0 s14 t20 t21 ((IntKind.wrap .i64 (t22 + (1 : Int)))) X13 T)))))))) ∧
 ((decide (t22 < t21)) = false → R l6 hq0))) :
  B41g_0 (loopQ M41g_0 k0 (Q41g_0 R)) (S41g_0 l6 t20 t21 t22 hq0 T) := Eq.mp (by kernel_rfl) h
end Go.Proofs.Ytaaedebknacheaa.AB

set_option maxRecDepth 100000
set_option maxHeartbeats 2000000
namespace Go.Proofs.Ytaaedebknacheaa.AB
open Go
noncomputable def X42 : Cx := ⟨tt, [], [(60, [(.ref yZ3), (.pure (.int .i64))])], [(42, [(1, 2, .rd)])], [], []⟩
theorem FN42 : fnsB Try.prog X42.fns := (show True from trivial)
theorem E42 (X : XH) (t0 : Nat) (id1 : Int) {R : ((Int × (Int × ((List Int) × (List Int)))) × Int) → XH → Prop} (h : (∃ (p1 : (Option Nat) × Int), RC Try.prog 60 [(.ref yZ3), (.pure (.int .i64))] [(.ref (some t0) yZ2 0 []), (.v (.int .i64 id1))] X p1 ∧ (((p1.2 != (0 : Int)) = true → R (((0 : Int), ((0 : Int), (([] : List Int), ([] : List Int)))), p1.2) X) ∧
 ((p1.2 != (0 : Int)) = false → (refK p1.1 (fun (h2 : Nat) => (∃ (a3 : ((Option SlH) × (Int × (Option SlH)))), XH.el X yZ3 h2 0 = some a3 ∧ (refK p1.1 (fun (h4 : Nat) => (∃ (a5 : ((Option SlH) × (Int × (Option SlH)))), XH.el X yZ3 h4 0 = some a5 ∧ (∃ (u6 : SlH), a5.1 = some u6 ∧ 0 ≤ (IntKind.wrap .i64 ((((slN a3.1) : Nat) : Int) - (1 : Int))) ∧ (IntKind.wrap .i64 ((((slN a3.1) : Nat) : Int) - (1 : Int))) < ((u6.len : Nat) : Int) ∧ (∃ (a7 : (Int × (Int × ((List Int) × (List Int))))), XH.el X (.pure (.pair (.int .i64) (.pair (.int .i64) (.pair (.slice (.int .i64)) (.slice (.int .i64)))))) u6.h ((u6.off + ((IntKind.wrap .i64 ((((slN a3.1) : Nat) : Int) - (1 : Int)))).toNat)) = some a7 ∧ (refK p1.1 (fun (h8 : Nat) => (∃ (a9 : ((Option SlH) × (Int × (Option SlH)))), XH.el X yZ3 h8 0 = some a9 ∧ (0 ≤ (IntKind.wrap .i64 ((((slN a3.1) : Nat) : Int) - (1 : Int))) ∧ (IntKind.wrap .i64 ((((slN a3.1) : Nat) : Int) - (1 : Int))) ≤ (((slC a9.1) : Nat) : Int) ∧ (0 ≤ (IntKind.wrap .i64 ((((slN a3.1) : Nat) : Int) - (1 : Int))) ∧ (IntKind.wrap .i64 ((((slN a3.1) : Nat) : Int) - (1 : Int))) ≤ ((((IntKind.wrap .i64 ((((slN a3.1) : Nat) : Int) - (1 : Int)))).toNat : Nat) : Int) ∧ (refK p1.1 (fun (h10 : Nat) => (∃ (a11 : ((Option SlH) × (Int × (Option SlH)))), XH.el X yZ3 h10 0 = some a11 ∧ (∀ (X12 : XH), X12 = (XH.setEl X yZ3 h10 0 (((slCut a9.1 0 (((IntKind.wrap .i64 ((((slN a3.1) : Nat) : Int) - (1 : Int)))).toNat) (((IntKind.wrap .i64 ((((slN a3.1) : Nat) : Int) - (1 : Int)))).toNat)), a11.2))) → R ((a7.1, (a7.2.1, (a7.2.2.1, a7.2.2.2))), (0 : Int)) X12))))))))))))))))))))) :
  fnK X42.tt (callN Try.prog X42 0) (X42.md 42) (X42.mk1 42) Try.f42 [(.ref (some t0) yZ2 0 []), (.v (.int .i64 id1))] ⟨[], [some (.heap X)], ⟨0, []⟩⟩ (xfin [(.pure (.pair (.int .i64) (.pair (.int .i64) (.pair (.slice (.int .i64)) (.slice (.int .i64)))))), (.pure (.int .i64))] R) := Eq.mp (by kernel_rfl) h
end Go.Proofs.Ytaaedebknacheaa.AB

set_option maxRecDepth 100000
set_option maxHeartbeats 2000000
namespace Go.Proofs.Ytaaedebknacheaa.AB
open Go
noncomputable def X43 : Cx := ⟨tt, [(49, [.cd .bool])], [], [], [], []⟩
theorem FN43 : fnsB Try.prog X43.fns := (show True from trivial)
theorem E43 (a0 : (Int × (Int × ((List Int) × (List Int))))) (b1 : (Int × (Int × ((List Int) × (List Int))))) {R : V → Prop} (h : (∃ p1 : Bool, PC Try.prog 49 [(.list (.int .i64) a0.2.2.1 .no), (.list (.int .i64) b1.2.2.1 .no)] (.bool p1) ∧ (∃ p2 : Bool, PC Try.prog 49 [(.list (.int .i64) a0.2.2.2 .no), (.list (.int .i64) b1.2.2.2 .no)] (.bool p2) ∧ ((p1 = true → ((p2 = true → (((a0.1 == b1.1) = true → R (.bool (a0.2.1 == b1.2.1))) ∧ ((a0.1 == b1.1) = false → R (.bool false)))) ∧ (p2 = false → R (.bool false)))) ∧ (p1 = false → R (.bool false)))))) :
 fnK X43.tt (callN Try.prog X43 0) (X43.md 43) (X43.mk1 43) Try.f43 [(.v (.agg [(.int .i64 a0.1), (.int .i64 a0.2.1), (.list (.int .i64) a0.2.2.1 .no), (.list (.int .i64) a0.2.2.2 .no)])), (.v (.agg [(.int .i64 b1.1), (.int .i64 b1.2.1), (.list (.int .i64) b1.2.2.1 .no), (.list (.int .i64) b1.2.2.2 .no)]))] ⟨[], [], ⟨0, []⟩⟩ (topK R) := Eq.mp (by kernel_rfl) h
end Go.Proofs.Ytaaedebknacheaa.AB

namespace Go.Proofs.Ytaaedebknacheaa.AB
open Go

variable {X X' : XH} {t : Nat} {d : DT}

def MT.push (m : MT) (id : Int) (f : Fr) : MT := { m with rows := updAb id (fun a => { a with frames := a.frames ++ [f] }) m.rows }
def MT.pop (m : MT) (id : Int) : MT := { m with rows := updAb id (fun a => { a with frames := a.frames.dropLast }) m.rows }

theorem Thr.nodup3 {r : Thr} (h : r.hs.Nodup) : (r.h ∉ hl r.fr ∧ r.h ∉ hl r.jn) ∧ ∀ k ∈ hl r.fr, k ∉ hl r.jn := by
 have h1 := List.nodup_cons.1 h
 have h2 := List.nodup_append.1 h1.2
 exact ⟨⟨fun e => h1.1 (List.mem_append_left _ e), fun e => h1.1 (List.mem_append_right _ e)⟩, fun k hk hj => h2.2.2 k hk k hj rfl⟩

theorem Rep.setFr (h : Rep X t d) {l1 l2 : List Thr} {r : Thr} {id : Int} {g : Ab → Ab} (hd : d.rows = l1 ++ r :: l2) (he : r.id = id) (hr : ThrAt X r) (hn : r.hs.Nodup)
  {X2 X3 : XH} {q : Option SlH} {fs : List Fr} (mv : Mv X (hl r.fr) X2 (hl q)) (sq : SlAt X2 cF q fs) (e3 : X3 = X2.setEl yZ3 r.h 0 (q, (r.st, r.jn))) (hg : g r.toAb = { r.toAb with frames := fs }) :
  Post X t d X3 ⟨d.ab.last, d.ab.run, d.ab.queue, updAb id g d.ab.rows⟩ := by
 obtain ⟨⟨n1, n2⟩, n3⟩ := Thr.nodup3 hn
 have hq : ∀ k ∈ hl q, k ∈ hl r.fr ∨ X.n ≤ k := mv.own
 have nq : r.h ∉ hl q := fun e => (hq _ e).elim n1 fun e => absurd hr.box.lt (by omega)
 have b2 := hr.box.keep (mv.keep _ hr.box.lt n1)
 rw [b2.setEl] at e3
 have mv3 : Mv X r.hs X3 (Thr.hs { r with frames := fs, fr := q }) := by
  rw [e3]
  refine (mv.weak (T := r.hs) (T' := r.h :: (hl q ++ hl r.jn)) (fun k hk => List.mem_cons_of_mem _ (List.mem_append_left _ hk)) fun k hk => ?_).trans (Mv.set (List.mem_cons_self ..))
  rcases List.mem_cons.1 hk with rfl | hk
  ·exact .inr (List.mem_cons_self ..)
  ·rcases List.mem_append.1 hk with hk | hk
   ·exact .inl hk
   ·exact .inr (List.mem_cons_of_mem _ (List.mem_append_right _ hk))
 have hn' : (Thr.hs { r with frames := fs, fr := q }).Nodup := by
  refine List.nodup_cons.2 ⟨fun e => ?_, List.nodup_append.2 ⟨hl_nodup _, hl_nodup _, fun a ha b hb e => ?_⟩⟩
  ·exact (List.mem_append.1 e).elim nq n2
  ·subst e
   exact (hq a ha).elim (fun e => n3 a e hb) fun e => absurd (hr.jn.lt a hb) (by omega)
 have hr' : ThrAt X3 { r with frames := fs, fr := q } := by
  refine ⟨by rw [e3]; exact b2.set, sq.keep fun k hk => ?_, hr.jn.keep fun k hk => ?_⟩
  ·rw [e3]; exact at_set_ne fun e => nq (e ▸ hk)
  ·rw [e3, at_set_ne fun e : k = r.h => n2 (e ▸ hk)]
   exact mv.keep k (hr.jn.lt k hk) fun e => n3 k e hk
 obtain ⟨z1, z2⟩ := h.row (r' := { r with frames := fs, fr := q }) hd rfl rfl mv3 hn' hr'
 refine ⟨_, z1, z2, ?_⟩
 have hu := upd_split (r' := { r with frames := fs, fr := q }) (f := g) h.ids hd he hg.symm
 simp only [DT.ab]
 rw [hu]

theorem c40 (h : Rep X t d) {id : Int} {f : Fr} (hid : ∃ a ∈ d.ab.rows, a.id = id) (hfl : ∀ a ∈ d.ab.rows, a.frames.length < 200) (hf : Small f) :
  XC Try.prog 40 [.pure (.int .i64)] [.ref (some t) yZ2 0 [], .v (.int .i64 id), .v (.agg [.int .i64 f.1, .int .i64 f.2.1, .list (.int .i64) f.2.2.1 .no, .list (.int .i64) f.2.2.2 .no])] X fun p X' =>
   p = (0 : Int) ∧ Post X t d X' (d.ab.push id f) := by
 obtain ⟨l1, r, l2, hd, he, hm, hr, hn⟩ := h.one hid
 have hlen := hr.fr.len
 have hl200 := hfl r.toAb (by simp [DT.ab, hd])
 have hl200 : r.frames.length < 200 := hl200
 refine xcOf (X := X40) rfl FN40 (by kernel_rfl) (by decide) (E40 X t id f ⟨_, h.box.el, ents d.rows, h.mp, ?_, fun e => by rw [hm] at e; cases e⟩)
 intro v hv
 rw [hm] at hv; cases hv
 refine ⟨fun e => (by cases e), fun _ => ⟨_, hr.box.el, fun e => ?_, fun e => ⟨_, hr.box.el, f, c55 hf, fun X9 e9 => ?_⟩⟩⟩
 ·exfalso
  have e : (200 : Int) ≤ ((slN r.fr : Nat) : Int) := by simpa using e
  rw [hlen] at e; omega
 have k9 : ∀ k, k < X.n → X9.at k = X.at k := fun k hk => by rw [e9]; exact at_add_old hk
 have s9 : SlAt X9 cF r.fr r.frames := hr.fr.keep fun k hk => k9 k (hr.fr.lt k hk)
 have n9 : SlAt X9 cF (some ⟨X.n, 0, 1, 1⟩) [f] := ⟨[f], by rw [e9]; exact at_add_new _ _, by simp, by simp, rfl⟩
 refine ⟨r.frames, [f], s9.view, ?_, ?_, fun X12 s13 hx => ?_⟩
 ·show (if e : cF = cF then _ else none) = _
  rw [dif_pos rfl]
  exact n9.view
 ·dsimp only; rw [hlen]; unfold room; simp only [List.length_cons, List.length_nil]; omega
 obtain ⟨b1, b2⟩ := hx.spec s9
 obtain ⟨⟨n1, n2⟩, n3⟩ := Thr.nodup3 hn
 have mv : Mv X (hl r.fr) X12 (hl s13) := by
  refine Mv.trans (S' := hl r.fr) ⟨by rw [e9]; exact Nat.le_succ _, fun k hk _ => k9 k hk, fun k hk => .inl hk⟩ b2
 have b12 := hr.box.keep (mv.keep _ hr.box.lt n1)
 refine ⟨_, b12.el, fun X16 e16 => ⟨rfl, h.setFr hd he hr hn mv b1 e16 rfl⟩⟩

theorem c42 (h : Rep X t d) {id : Int} {f : Fr} (ht : d.ab.top id = (f, true)) (hfl : ∀ a ∈ d.ab.rows, a.frames.length < 1000) :
  XC Try.prog 42 [cF, .pure (.int .i64)] [.ref (some t) yZ2 0 [], .v (.int .i64 id)] X fun p X' => p = (f, (0 : Int)) ∧ Post X t d X' (d.ab.pop id) := by
 obtain ⟨x, hc, hx⟩ := c60 h id
 refine xcOf (X := X42) rfl FN42 (by kernel_rfl) (by decide) (E42 X t id ⟨_, hc, fun e => ?_, fun e => ?_⟩)
 ·exfalso
  have e : errTop d.ab id ≠ 0 := by simpa using e
  unfold MT.top at ht
  unfold errTop at e
  cases hg : d.ab.get id with
  | none => rw [hg] at ht; cases ht
  | some a =>
   rw [hg] at e ht
   dsimp only at e ht
   by_cases hf : a.frames = []
   ·rw [hf] at ht; cases ht
   ·rw [if_neg hf] at e; exact absurd rfl e
 ·have e : errTop d.ab id = 0 := by simpa using e
  obtain ⟨l1, r, l2, hd, he, rfl, hr, hn, hf, hg⟩ := hx e
  have hsm := hfl r.toAb (by simp [DT.ab, hd])
  have hsm : r.frames.length < 1000 := hsm
  have hlen := hr.fr.len
  have hpos : 0 < r.frames.length := List.length_pos_iff.2 hf
  obtain ⟨u, hu⟩ : ∃ u, r.fr = some u := by
   cases hfr : r.fr with
   | none => rw [hfr] at hlen; simp [slN] at hlen; omega
   | some u => exact ⟨u, rfl⟩
  have hlen' : u.len = r.frames.length := by rw [hu] at hlen; exact hlen
  have hw : IntKind.wrap .i64 ((((slN r.fr) : Nat) : Int) - (1 : Int)) = ((r.frames.length - 1 : Nat) : Int) := by
   rw [hlen, wrap64 (by omega) (by omega)]; omega
  have hfr : SlAt X cF (some u) r.frames := by rw [← hu]; exact hr.fr
  have hel := hfr.el (i := r.frames.length - 1) (by omega)
  have hcap : u.len ≤ u.cap := hfr.le
  have htf : r.frames[r.frames.length - 1] = f := by
   unfold MT.top at ht
   rw [hg] at ht
   dsimp only at ht
   rw [List.getLast?_eq_getElem?, List.getElem?_eq_getElem (by omega)] at ht
   exact congrArg Prod.fst ht
  have hnat : (((r.frames.length - 1 : Nat) : Int)).toNat = r.frames.length - 1 := by omega
  refine ⟨_, hr.box.el, _, hr.box.el, u, hu, ?_, ?_, f, ?_, _, hr.box.el, ?_, ?_, ?_, ?_, _, hr.box.el, fun X12 e12 => ⟨rfl, ?_⟩⟩
  ·dsimp only; rw [hw]; omega
  ·dsimp only; rw [hw, hlen']; omega
  ·dsimp only; rw [hw, hnat, ← htf]; exact hel
  ·dsimp only; rw [hw]; omega
  ·dsimp only; rw [hw, hu]; simp only [slC]; omega
  ·dsimp only; rw [hw]; omega
  ·dsimp only; rw [hw, hnat]; exact Int.le_refl _
  ·dsimp only at e12
   rw [hw, hnat, hu] at e12
   have hcut := hfr.cut (p := 0) (q := r.frames.length - 1) (m := r.frames.length - 1) (Nat.zero_le _) (Nat.le_refl _) (by omega) (by omega)
   rw [List.drop_zero] at hcut
   have hh : hl (slCut (some u) 0 (r.frames.length - 1) (r.frames.length - 1)) = hl r.fr := by rw [hu]; rfl
   refine h.setFr hd he hr hn (X2 := X) (q := slCut (some u) 0 (r.frames.length - 1) (r.frames.length - 1)) (fs := r.frames.take (r.frames.length - 1)) (by rw [hh]; exact .refl _ _) hcut e12 ?_
   simp only [List.dropLast_eq_take]

theorem c42e (h : Rep X t d) {id : Int} {a : Ab} (hg : d.ab.get id = some a) (hf : a.frames = []) :
  XC Try.prog 42 [cF, .pure (.int .i64)] [.ref (some t) yZ2 0 [], .v (.int .i64 id)] X fun p X' => p.2 = (25 : Int) ∧ X' = X := by
 obtain ⟨x, hc, hx⟩ := c60 h id
 have he : errTop d.ab id = 25 := by simp [errTop, hg, hf]
 refine xcOf (X := X42) rfl FN42 (by kernel_rfl) (by decide) (E42 X t id ⟨_, hc, fun e => ⟨he, rfl⟩, fun e => ?_⟩)
 exfalso
 have e : errTop d.ab id = 0 := by simpa using e
 rw [he] at e; cases e

theorem p43 (a b : Fr) (h1 : a.2.2.1.length < 9223372036854775807) (h2 : a.2.2.2.length < 9223372036854775807) :
  PC Try.prog 43 [.agg [.int .i64 a.1, .int .i64 a.2.1, .list (.int .i64) a.2.2.1 .no, .list (.int .i64) a.2.2.2 .no], .agg [.int .i64 b.1, .int .i64 b.2.1, .list (.int .i64) b.2.2.1 .no, .list (.int .i64) b.2.2.2 .no]] (.bool (decide (a = b))) := by
 refine pcOf (X := X43) (d := 0) rfl trivial (by kernel_rfl) (by decide) (E43 a b ⟨_, p49 _ _ h1, _, p49 _ _ h2, fun e1 => ⟨fun e2 => ⟨fun e3 => retB ?_, fun e3 => retB ?_⟩, fun e2 => retB ?_⟩, fun e1 => retB ?_⟩)
 ·have f1 := of_decide_eq_true e1
  have f2 := of_decide_eq_true e2
  have f3 : a.1 = b.1 := by simpa using e3
  clear e1 e2 e3
  obtain ⟨a1, a2, a3, a4⟩ := a
  obtain ⟨b1, b2, b3, b4⟩ := b
  simp only at f1 f2 f3
  subst f1 f2 f3
  by_cases h : a2 = b2
  ·subst h; simp
  ·simp [h]
 ·have e3 : a.1 ≠ b.1 := by simpa using e3
  exact (decide_eq_false fun e => e3 (by rw [e])).symm
 ·have e2 := of_decide_eq_false e2
  exact (decide_eq_false fun e => e2 (by rw [e])).symm
 ·have e1 := of_decide_eq_false e1
  exact (decide_eq_false fun e => e1 (by rw [e])).symm

theorem c41g (h : Rep X t d) {id : Int} {a : Ab} (hid : ∃ a ∈ d.ab.rows, a.id = id) (hg : d.ab.get id = some a) (hs : a.frames.length < 1000 ∧ ∀ f ∈ a.frames, Small f) :
  XC Try.prog 41 [.sl cFh] [.ref (some t) yZ2 0 [], .v (.int .i64 id)] X fun p X' => ∃ ps : List FrH, SlAt X' cFh p ps ∧ ps.length = a.frames.length ∧
   (∀ (i : Nat) q f, ps[i]? = some q → a.frames[i]? = some f → FrAt X' q f) ∧ Mv X [] X' (hl p ++ ps.flatMap fhs) ∧ (hl p ++ ps.flatMap fhs).Nodup := by
 obtain ⟨l1, r, l2, hd, he, hm, hr, hn⟩ := h.one hid
 have hga := get_one h.ids hd he
 rw [hga] at hg; cases hg
 have hs : r.frames.length < 1000 ∧ ∀ f ∈ r.frames, Small f := hs
 have hlen := hr.fr.len
 refine xcOf (X := X41g) rfl FN41g (by kernel_rfl) (by decide) (E41g X t id ⟨_, h.box.el, ents d.rows, h.mp, ?_, fun e => by rw [hm] at e; cases e⟩)
 intro v hv
 rw [hm] at hv; cases hv
 refine ⟨fun e => (by cases e), fun _ => ⟨_, hr.box.el, ?_⟩⟩
 show Loops B41g_0 M41g_0 _ (S41g_0 none r.fr ((slN r.fr : Nat) : Int) 0 X ⟨0, []⟩)
 refine Loops.intro (fun b : Nat × Option SlH × XH × Toks => S41g_0 b.2.1 r.fr ((slN r.fr : Nat) : Int) (b.1 : Int) b.2.2.1 b.2.2.2)
  (fun b => b.1 ≤ r.frames.length ∧ ∃ ps : List FrH, SlAt b.2.2.1 cFh b.2.1 ps ∧ ps.length = b.1 ∧ (∀ (i : Nat) q f, ps[i]? = some q → r.frames[i]? = some f → FrAt b.2.2.1 q f) ∧
   Mv X [] b.2.2.1 (hl b.2.1 ++ ps.flatMap fhs) ∧ (hl b.2.1 ++ ps.flatMap fhs).Nodup) (fun b => r.frames.length - b.1) (0, none, X, ⟨0, []⟩) rfl
  ⟨Nat.zero_le _, [], rfl, rfl, fun i q f e => by simp at e, .refl _ _, List.nodup_nil⟩ ?_
 rintro ⟨i, x, Xi, T⟩ ⟨j0, ps, j1, j2, j3, j4, j5⟩
 simp only at j0 j1 j2 j3 j4 j5
 refine L41g_0 x r.fr _ (i : Int) Xi T ⟨fun e => ?_, fun e => ?_⟩
 ·have hi : i < r.frames.length := by
   have : (i : Int) < ((slN r.fr : Nat) : Int) := by simpa using e
   rw [hlen] at this; omega
  obtain ⟨u, hu⟩ : ∃ u, r.fr = some u := by
   cases hq : r.fr with
   | none => rw [hq] at hlen; simp [slN] at hlen; omega
   | some u => exact ⟨u, rfl⟩
  have hul : u.len = r.frames.length := by rw [hu] at hlen; exact hlen
  have hfi : SlAt Xi cF (some u) r.frames := by
   rw [← hu]
   exact hr.fr.keep fun k hk => j4.keep k (hr.fr.lt k hk) (by simp)
  refine ⟨u, hu, by omega, by omega, r.frames[i], by rw [Int.toNat_natCast]; exact hfi.el hi, ?_⟩
  refine (c55g Xi (hs.2 _ (List.getElem_mem hi))).mono fun (p8 : FrH) X9 ⟨q1, q2, q3⟩ X10 e10 => ?_
  have own : ∀ k ∈ hl x ++ ps.flatMap fhs, X.n ≤ k := fun k hk => (j4.own k hk).elim (fun e => by simp at e) fun e => e
  have hxlt : ∀ k ∈ hl x, k < Xi.n := j1.lt
  have hplt : ∀ k ∈ ps.flatMap fhs, k < Xi.n := fun k hk => by
   obtain ⟨q, hq, hk⟩ := List.mem_flatMap.1 hk
   obtain ⟨m, hm⟩ := List.getElem?_of_mem hq
   have hml : m < r.frames.length := by
    have := (List.getElem?_eq_some_iff.1 hm).1
    omega
   exact (j3 m q _ hm (List.getElem?_eq_getElem hml)).lt k hk
  have own8 : ∀ k ∈ fhs p8, Xi.n ≤ k := fun k hk => (q2.own k hk).elim (fun e => by simp at e) fun e => e
  have lt8 : ∀ k ∈ fhs p8, k < X9.n := q1.lt
  have k10 : ∀ k, k < Xi.n → X10.at k = Xi.at k := fun k hk => by
   rw [e10, at_add_old (Nat.lt_of_lt_of_le hk q2.n)]
   exact q2.keep k hk (by simp)
  have n10 : X10.n = X9.n + 1 := by rw [e10]; rfl
  have s10 : SlAt X10 cFh x ps := j1.keep fun k hk => k10 k (hxlt k hk)
  have sn : SlAt X10 cFh (some ⟨X9.n, 0, 1, 1⟩) [p8] := ⟨[p8], by rw [e10]; exact at_add_new _ _, Nat.le_refl 1, Nat.le_refl 1, rfl⟩
  refine ⟨ps, [p8], s10.view, ?_, ?_, fun X13 s14 hx => ?_⟩
  ·show (if e : cFh = cFh then _ else none) = _
   rw [dif_pos rfl]
   exact sn.view
  ·rw [j1.len]; unfold room; simp only [List.length_cons, List.length_nil]; omega
  obtain ⟨b1, b2⟩ := hx.spec s10
  have nn := List.nodup_append.1 j5
  have k13 : ∀ k, k < X10.n → k ∉ hl x → X13.at k = X10.at k := b2.keep
  have h8x : ∀ k ∈ fhs p8, k ∉ hl x := fun k hk e => by have := own8 k hk; have := hxlt k e; omega
  have h9 : ∀ k ∈ fhs p8, X13.at k = X9.at k := fun k hk => by
   have := lt8 k hk
   rw [k13 k (by omega) (h8x k hk), e10, at_add_old this]
  rw [wrap64 (by omega) (by omega)]
  refine Again.mk (i + 1, s14, X13, T) rfl ⟨hi, ps ++ [p8], b1, by simp [j2], fun m q f hq hf => ?_, ⟨?_, fun k hk hn => ?_, fun k hk => ?_⟩, ?_⟩ (by simp only; omega)
  ·rcases Nat.lt_or_ge m ps.length with h' | h'
   ·rw [List.getElem?_append_left h'] at hq
    refine (j3 m q f hq hf).keep fun k hk => ?_
    have hmem : k ∈ ps.flatMap fhs := List.mem_flatMap.2 ⟨q, List.mem_of_getElem? hq, hk⟩
    have := hplt k hmem
    have := q2.n
    rw [k13 k (by omega) fun e => nn.2.2 k e k hmem rfl, k10 k (hplt k hmem)]
   ·have hm1 : m = ps.length := by
     have := (List.getElem?_eq_some_iff.1 hq).1
     simp at this; omega
    subst hm1
    rw [List.getElem?_append_right (Nat.le_refl _), Nat.sub_self] at hq
    simp at hq; subst hq
    rw [j2, List.getElem?_eq_getElem hi] at hf
    cases hf
    exact q1.keep h9
  ·have := q2.n; have := j4.n; have := b2.n; simp only; omega
  ·have h1 := j4.n
   have h2 := q2.n
   simp only
   rw [k13 k (by omega) fun e => by have := own k (List.mem_append_left _ e); omega, k10 k (by omega)]
   exact j4.keep k hk (by simp)
  ·refine .inr ?_
   have h1 := j4.n
   have h2 := q2.n
   rcases List.mem_append.1 hk with hk | hk
   ·rcases b2.own k hk with e | e
    ·exact own k (List.mem_append_left _ e)
    ·omega
   ·rw [List.flatMap_append] at hk
    rcases List.mem_append.1 hk with hk | hk
    ·exact own k (List.mem_append_right _ hk)
    ·have := own8 k (by simpa using hk); omega
  ·have h2 := q2.n
   simp only
   rw [List.flatMap_append]
   refine List.nodup_append.2 ⟨hl_nodup _, List.nodup_append.2 ⟨nn.2.1, by simpa using q3, fun k hk k' hk' e => ?_⟩, fun k hk k' hk' e => ?_⟩
   ·subst e
    have := own8 k (by simpa using hk')
    have := hplt k hk
    omega
   ·subst e
    rcases b2.own k hk with e | e
    ·rcases List.mem_append.1 hk' with hk' | hk'
     ·exact nn.2.2 k e k hk' rfl
     ·exact h8x k (by simpa using hk') e
    ·rcases List.mem_append.1 hk' with hk' | hk'
     ·have := hplt k hk'; omega
     ·have := lt8 k (by simpa using hk'); omega
 ·have hi : i = r.frames.length := by
   have : ¬ (i : Int) < ((slN r.fr : Nat) : Int) := by simpa using e
   rw [hlen] at this; omega
  subst hi
  exact ⟨ps, j1, j2, j3, j4, j5⟩

end Go.Proofs.Ytaaedebknacheaa.AB

namespace Go.Proofs.Ytaaedebknacheaa.AB
open Go


abbrev cRT : Xd := yZ0
abbrev cRH : Xd := yZ1

structure TH where
 fr : List Fr
 st : Int
 jn : Int

def TH.v (t : TH) (x : Option SlH) : cRH.T := (x, (t.st, t.jn))

abbrev RE := TH × Option SlH

structure RTab where
 l : List TH
 queue : List Int
 joins : List Int

structure RD where
 L : Option SlH
 hs : List RE
 q : Option SlH
 queue : List Int
 jx : Option SlH
 joins : List Int

def RD.ab (d : RD) : RTab := ⟨d.hs.map (·.1), d.queue, d.joins⟩
def fl (l : List RE) : List Nat := l.flatMap fun e => hl e.2
def RD.ks (d : RD) (r : Nat) : List Nat := (r :: hl d.L) ++ (hl d.q ++ hl d.jx) ++ fl d.hs

structure RRep (X : XH) (r : Nat) (d : RD) : Prop where
 box : Box X cRT r (d.L, (d.q, d.jx))
 arr : SlAt X cRH d.L (d.hs.map fun e => e.1.v e.2)
 qs : SlAt X cI d.q d.queue
 js : SlAt X cI d.jx d.joins
 ws : ∀ e ∈ d.hs, SlAt X cF e.2 e.1.fr
 sep : (d.ks r).Nodup

def RGoes (X : XH) (r : Nat) (d : RD) (X' : XH) (R : RTab) : Prop := ∃ d', RRep X' r d' ∧ Mv X (d.ks r) X' (d'.ks r) ∧ d'.ab = R

variable {X X' : XH} {r : Nat} {d : RD} {A C : List RE} {e : RE}

theorem mem_fl {l : List RE} {k : Nat} : k ∈ fl l ↔ ∃ e ∈ l, k ∈ hl e.2 := List.mem_flatMap

theorem mem_rks {k : Nat} : k ∈ d.ks r ↔ k = r ∨ k ∈ hl d.L ∨ k ∈ hl d.q ∨ k ∈ hl d.jx ∨ ∃ e ∈ d.hs, k ∈ hl e.2 := by
 simp [RD.ks, mem_fl, or_assoc]

theorem RRep.lt (h : RRep X r d) : ∀ k ∈ d.ks r, k < X.n := by
 intro k hk
 rcases mem_rks.1 hk with rfl | hk | hk | hk | ⟨e, he, hk⟩
 ·exact h.box.lt
 ·exact h.arr.lt k hk
 ·exact h.qs.lt k hk
 ·exact h.js.lt k hk
 ·exact (h.ws e he).lt k hk

theorem RRep.keep (h : RRep X r d) (e : ∀ k ∈ d.ks r, X'.at k = X.at k) : RRep X' r d :=
 ⟨h.box.keep (e r (mem_rks.2 (.inl rfl))), h.arr.keep fun k hk => e k (mem_rks.2 (.inr (.inl hk))), h.qs.keep fun k hk => e k (mem_rks.2 (.inr (.inr (.inl hk)))), h.js.keep fun k hk => e k (mem_rks.2 (.inr (.inr (.inr (.inl hk))))),
  fun x hx => (h.ws x hx).keep fun k hk => e k (mem_rks.2 (.inr (.inr (.inr (.inr ⟨x, hx, hk⟩))))), h.sep⟩

theorem RRep.mv {S S' : List Nat} (h : RRep X r d) (m : Mv X S X' S') (hd : ∀ k ∈ d.ks r, k ∉ S) : RRep X' r d := h.keep fun k hk => m.keep k (h.lt k hk) (hd k hk)

theorem RGoes.refl (h : RRep X r d) : RGoes X r d X d.ab := ⟨d, h, .refl _ _, rfl⟩

theorem RGoes.trans {X2 : XH} {d2 : RD} {R : RTab} (m : Mv X (d.ks r) X2 (d2.ks r)) (h : RGoes X2 r d2 X' R) : RGoes X r d X' R := by
 obtain ⟨d', h1, h2, h3⟩ := h
 exact ⟨d', h1, m.trans h2, h3⟩

theorem RRep.at (h : RRep X r d) (hs : d.hs = A ++ e :: C) : ∃ u, d.L = some u ∧ A.length < u.len ∧ X.el cRH u.h (u.off + A.length) = some (e.1.v e.2) := by
 have ha := h.arr
 have hlen := ha.len
 rw [hs] at ha hlen
 cases hL : d.L with
 | none => rw [hL] at hlen; simp [slN] at hlen
 | some u =>
  rw [hL] at ha hlen
  refine ⟨u, rfl, by simp [slN] at hlen; omega, ?_⟩
  have := ha.el (i := A.length) (by simp)
  rw [this]
  simp

theorem RRep.len (h : RRep X r d) : slN d.L = d.hs.length := by have := h.arr.len; simpa using this

theorem fl_split : fl (A ++ e :: C) = fl A ++ (hl e.2 ++ fl C) := by simp [fl]

theorem RRep.put (h : RRep X r d) (hs : d.hs = A ++ e :: C) {u : SlH} (hu : d.L = some u) (m : TH) {X1 X2 : XH} {x1 : Option SlH} (hq : SlAt X1 cF x1 m.fr) (mv : Mv X (hl e.2) X1 (hl x1))
  (e2 : X2 = X1.setEl cRH u.h (u.off + A.length) (m.v x1)) :
  RRep X2 r { d with hs := A ++ (m, x1) :: C } ∧ Mv X (d.ks r) X2 (RD.ks { d with hs := A ++ (m, x1) :: C } r) := by
 have he : e ∈ d.hs := by rw [hs]; simp
 have e0 : d.ks r = ((r :: hl d.L) ++ (hl d.q ++ hl d.jx) ++ fl A) ++ hl e.2 ++ fl C := by simp [RD.ks, hs, fl_split]
 have e1 : RD.ks { d with hs := A ++ (m, x1) :: C } r = ((r :: hl d.L) ++ (hl d.q ++ hl d.jx) ++ fl A) ++ hl x1 ++ fl C := by simp [RD.ks, fl_split]
 have hsep := h.sep
 rw [e0] at hsep
 have hlt := h.lt
 have sep' := nodup_swap (n := X.n) hsep (fun k hk => hlt k (by
  rw [e0]
  rcases List.mem_append.1 hk with hk | hk
  ·exact List.mem_append_left _ (List.mem_append_left _ hk)
  ·exact List.mem_append_right _ hk)) (hl_nodup x1) mv.own
 have out : ∀ k, k ∈ (r :: hl d.L) ++ (hl d.q ++ hl d.jx) ++ fl A ∨ k ∈ fl C → k ∉ hl e.2 := by
  rw [List.append_assoc, List.nodup_append] at hsep
  obtain ⟨s1, s2, s3⟩ := hsep
  rw [List.nodup_append] at s2
  rintro k (hk | hk) hn
  ·exact s3 k hk k (List.mem_append_left _ hn) rfl
  ·exact s2.2.2 k hn k hk rfl
 have huL : u.h ∈ hl d.L := by rw [hu]; simp [hl]
 have hut : u.h ∈ r :: hl d.L := List.mem_cons_of_mem _ huL
 have hns : u.h ≠ r ∧ (∀ k ∈ hl d.q ++ hl d.jx, k ≠ u.h) ∧ (∀ k ∈ fl A, k ≠ u.h) ∧ (∀ k ∈ hl x1, k ≠ u.h) ∧ ∀ k ∈ fl C, k ≠ u.h := by
  have s := sep'
  simp only [List.append_assoc] at s
  obtain ⟨s1, s2, s3⟩ := List.nodup_append.1 s
  refine ⟨fun q => (List.nodup_cons.1 s1).1 (q ▸ huL), fun k hk q => s3 _ hut k ?_ q.symm, fun k hk q => s3 _ hut k ?_ q.symm, fun k hk q => s3 _ hut k ?_ q.symm, fun k hk q => s3 _ hut k ?_ q.symm⟩
  ·simp only [List.mem_append] at hk ⊢
   rcases hk with hk | hk
   ·exact .inl hk
   ·exact .inr (.inl hk)
  ·simp only [List.mem_append]; exact .inr (.inr (.inl hk))
  ·simp only [List.mem_append]; exact .inr (.inr (.inr (.inl hk)))
  ·simp only [List.mem_append]; exact .inr (.inr (.inr (.inr hk)))
 obtain ⟨n1, n2, n3, n4, n5⟩ := hns
 have old : ∀ k ∈ d.ks r, k ∉ hl e.2 → X1.at k = X.at k := fun k hk hn => mv.keep k (hlt k hk) hn
 have harr : SlAt X1 cRH (some u) (d.hs.map fun e => e.1.v e.2) := by
  rw [← hu]
  exact h.arr.keep fun k hk => old k (mem_rks.2 (.inr (.inl hk))) (out k (.inl (List.mem_append_left _ (List.mem_append_left _ (List.mem_cons_of_mem _ hk)))))
 obtain ⟨a, k1, k2⟩ := harr.setEl (i := A.length) (by rw [hs]; simp) (m.v x1)
 have hset : ((d.hs.map fun e => e.1.v e.2).set A.length (m.v x1)) = (A ++ (m, x1) :: C).map fun e => e.1.v e.2 := by
  rw [hs, List.map_append, List.map_append, List.map_cons, List.map_cons, List.set_append_right _ _ (by simp)]
  simp
 rw [hset] at k2
 rw [k1] at e2
 subst e2
 have all : ∀ k, k ∈ (r :: hl d.L) ++ (hl d.q ++ hl d.jx) ++ fl A ∨ k ∈ fl C → k ≠ u.h → (X1.set u.h (.arr cRH a)).at k = X.at k := fun k hk hne => by
  rw [at_set_ne hne]
  refine old k ?_ (out k hk)
  rw [e0]
  rcases hk with hk | hk
  ·exact List.mem_append_left _ (List.mem_append_left _ hk)
  ·exact List.mem_append_right _ hk
 refine ⟨⟨?_, by rw [← hu] at k2; exact k2, ?_, ?_, fun y hy => ?_, by rw [e1]; exact sep'⟩, ?_⟩
 ·exact h.box.keep (all r (.inl (by simp)) n1.symm)
 ·exact h.qs.keep fun k hk => all k (.inl (by simp [hk])) (n2 k (List.mem_append_left _ hk))
 ·exact h.js.keep fun k hk => all k (.inl (by simp [hk])) (n2 k (List.mem_append_right _ hk))
 ·rcases List.mem_append.1 hy with hy | hy
  ·refine (h.ws y (by rw [hs]; exact List.mem_append_left _ hy)).keep fun k hk => ?_
   have hk' : k ∈ fl A := mem_fl.2 ⟨y, hy, hk⟩
   exact all k (.inl (List.mem_append_right _ hk')) (n3 k hk')
  ·rcases List.mem_cons.1 hy with rfl | hy
   ·exact hq.keep fun k hk => at_set_ne (n4 k hk)
   ·refine (h.ws y (by rw [hs]; exact List.mem_append_right _ (List.mem_cons_of_mem _ hy))).keep fun k hk => ?_
    have hk' : k ∈ fl C := mem_fl.2 ⟨y, hy, hk⟩
    exact all k (.inr hk') (n5 k hk')
 ·rw [e0, e1]
  have m1 : Mv X (((r :: hl d.L) ++ (hl d.q ++ hl d.jx) ++ fl A) ++ hl e.2 ++ fl C) X1 (((r :: hl d.L) ++ (hl d.q ++ hl d.jx) ++ fl A) ++ hl x1 ++ fl C) := by
   refine mv.weak (fun k hk => List.mem_append_left _ (List.mem_append_right _ hk)) fun k hk => ?_
   rcases List.mem_append.1 hk with hk | hk
   ·rcases List.mem_append.1 hk with hk | hk
    ·exact .inr (List.mem_append_left _ (List.mem_append_left _ hk))
    ·exact .inl hk
   ·exact .inr (List.mem_append_right _ hk)
  exact m1.trans (Mv.set (by simp [huL]))

theorem RRep.tabTo (h : RRep X r d) {X1 X2 : XH} {q1 j1 : Option SlH} {queue joins : List Int} (mv : Mv X (hl d.q ++ hl d.jx) X1 (hl q1 ++ hl j1)) (hn : (hl q1 ++ hl j1).Nodup) (hq : SlAt X1 cI q1 queue) (hj : SlAt X1 cI j1 joins)
  (e2 : X2 = X1.setEl cRT r 0 (d.L, (q1, j1))) :
  RRep X2 r { d with q := q1, jx := j1, queue := queue, joins := joins } ∧ Mv X (d.ks r) X2 (RD.ks { d with q := q1, jx := j1, queue := queue, joins := joins } r) := by
 have hsep := h.sep
 have hlt := h.lt
 unfold RD.ks at hsep
 have sep' := nodup_swap (n := X.n) hsep (fun k hk => hlt k (by
  unfold RD.ks
  rcases List.mem_append.1 hk with hk | hk
  ·exact List.mem_append_left _ (List.mem_append_left _ hk)
  ·exact List.mem_append_right _ hk)) hn mv.own
 have out : ∀ k, k ∈ (r :: hl d.L) ∨ k ∈ fl d.hs → k ∉ hl d.q ++ hl d.jx := by
  rw [List.append_assoc, List.nodup_append] at hsep
  obtain ⟨s1, s2, s3⟩ := hsep
  rw [List.nodup_append] at s2
  rintro k (hk | hk) hn
  ·exact s3 k hk k (List.mem_append_left _ hn) rfl
  ·exact s2.2.2 k hn k hk rfl
 have old : ∀ k, k ∈ (r :: hl d.L) ∨ k ∈ fl d.hs → X1.at k = X.at k := fun k hk => mv.keep k (hlt k (by
  unfold RD.ks
  rcases hk with hk | hk
  ·exact List.mem_append_left _ (List.mem_append_left _ hk)
  ·exact List.mem_append_right _ hk)) (out k hk)
 have hb : Box X1 cRT r (d.L, (d.q, d.jx)) := h.box.keep (old r (.inl (List.mem_cons_self ..)))
 rw [hb.setEl] at e2
 subst e2
 have nr : ∀ k, k ∈ hl d.L ∨ k ∈ hl q1 ++ hl j1 ∨ k ∈ fl d.hs → k ≠ r := by
  have s := sep'
  simp only [List.append_assoc, List.cons_append] at s
  have s1 := (List.nodup_cons.1 s).1
  intro k hk q
  subst q
  refine s1 ?_
  simp only [List.mem_append] at hk ⊢
  rcases hk with hk | (hk | hk) | hk
  ·exact .inl hk
  ·exact .inr (.inl hk)
  ·exact .inr (.inr (.inl hk))
  ·exact .inr (.inr (.inr hk))
 refine ⟨⟨hb.set, h.arr.keep fun k hk => ?_, hq.keep fun k hk => at_set_ne (nr k (.inr (.inl (List.mem_append_left _ hk)))), hj.keep fun k hk => at_set_ne (nr k (.inr (.inl (List.mem_append_right _ hk)))), fun y hy => (h.ws y hy).keep fun k hk => ?_, sep'⟩, ?_⟩
 ·rw [at_set_ne (nr k (.inl hk))]; exact old k (.inl (List.mem_cons_of_mem _ hk))
 ·have hk' : k ∈ fl d.hs := mem_fl.2 ⟨y, hy, hk⟩
  rw [at_set_ne (nr k (.inr (.inr hk')))]; exact old k (.inr hk')
 ·have m1 : Mv X ((r :: hl d.L) ++ (hl d.q ++ hl d.jx) ++ fl d.hs) X1 ((r :: hl d.L) ++ (hl q1 ++ hl j1) ++ fl d.hs) := by
   refine mv.weak (fun k hk => List.mem_append_left _ (List.mem_append_right _ hk)) fun k hk => ?_
   rcases List.mem_append.1 hk with hk | hk
   ·rcases List.mem_append.1 hk with hk | hk
    ·exact .inr (List.mem_append_left _ (List.mem_append_left _ hk))
    ·exact .inl hk
   ·exact .inr (List.mem_append_right _ hk)
  exact m1.trans (Mv.set (by simp))

theorem RRep.qj (h : RRep X r d) : (∀ k ∈ hl d.q, k ∉ hl d.jx) ∧ r ∉ hl d.q ∧ r ∉ hl d.jx := by
 have hsep := h.sep
 unfold RD.ks at hsep
 rw [List.append_assoc, List.nodup_append] at hsep
 obtain ⟨s1, s2, s3⟩ := hsep
 rw [List.nodup_append] at s2
 refine ⟨fun k hk hj => (List.nodup_append.1 s2.1).2.2 k hk k hj rfl, fun q => s3 r (List.mem_cons_self ..) r (List.mem_append_left _ (List.mem_append_left _ q)) rfl, fun q => s3 r (List.mem_cons_self ..) r (List.mem_append_left _ (List.mem_append_right _ q)) rfl⟩

theorem RRep.queueTo (h : RRep X r d) {X1 X2 : XH} {q1 : Option SlH} {queue : List Int} (mv : Mv X (hl d.q) X1 (hl q1)) (hq : SlAt X1 cI q1 queue) (e2 : X2 = X1.setEl cRT r 0 (d.L, (q1, d.jx))) :
  RRep X2 r { d with q := q1, queue := queue } ∧ Mv X (d.ks r) X2 (RD.ks { d with q := q1, queue := queue } r) := by
 obtain ⟨q1', q2', q3'⟩ := h.qj
 refine h.tabTo (mv.weak (fun k hk => List.mem_append_left _ hk) fun k hk => ?_) (List.nodup_append.2 ⟨hl_nodup _, hl_nodup _, fun a ha b hb q => ?_⟩) hq (h.js.keep fun k hk => mv.keep k (h.js.lt k hk) fun q => q1' k q hk) e2
 ·rcases List.mem_append.1 hk with hk | hk
  ·exact .inl hk
  ·exact .inr (List.mem_append_right _ hk)
 ·subst q
  rcases mv.own a ha with q | q
  ·exact q1' a q hb
  ·have := h.js.lt a hb; omega

theorem RRep.joinsTo (h : RRep X r d) {X1 X2 : XH} {j1 : Option SlH} {joins : List Int} (mv : Mv X (hl d.jx) X1 (hl j1)) (hj : SlAt X1 cI j1 joins) (e2 : X2 = X1.setEl cRT r 0 (d.L, (d.q, j1))) :
  RRep X2 r { d with jx := j1, joins := joins } ∧ Mv X (d.ks r) X2 (RD.ks { d with jx := j1, joins := joins } r) := by
 obtain ⟨q1', q2', q3'⟩ := h.qj
 refine h.tabTo (mv.weak (fun k hk => List.mem_append_right _ hk) fun k hk => ?_) (List.nodup_append.2 ⟨hl_nodup _, hl_nodup _, fun a ha b hb q => ?_⟩) (h.qs.keep fun k hk => mv.keep k (h.qs.lt k hk) fun q => q1' k hk q) hj e2
 ·rcases List.mem_append.1 hk with hk | hk
  ·exact .inr (List.mem_append_left _ hk)
  ·exact .inl hk
 ·subst q
  rcases mv.own a hb with q | q
  ·exact q1' a ha q
  ·have := h.qs.lt a ha; omega

theorem RRep.more (h : RRep X r d) {p : Fr} {X4 X5 X8 X11 : XH} {s9 : Option SlH} (e4 : X4 = X.add (.arr cF [p])) (e5 : X5 = X4.add (.arr cRH [((some ⟨X.n, 0, 1, 1⟩ : Option SlH), ((0 : Int), (0 : Int)))]))
  (hx : XApp X5 cRH ((none : Option SlH), ((0 : Int), (0 : Int))) (d.hs.map fun e => e.1.v e.2) [((some ⟨X.n, 0, 1, 1⟩ : Option SlH), ((0 : Int), (0 : Int)))] d.L X8 s9) (e11 : X11 = X8.setEl cRT r 0 (s9, (d.q, d.jx))) :
  RRep X11 r { d with L := s9, hs := d.hs ++ [(⟨[p], 0, 0⟩, some ⟨X.n, 0, 1, 1⟩)] } ∧ Mv X (d.ks r) X11 (RD.ks { d with L := s9, hs := d.hs ++ [(⟨[p], 0, 0⟩, some ⟨X.n, 0, 1, 1⟩)] } r) := by
 have n4 : X4.n = X.n + 1 := by rw [e4]; rfl
 have n5 : X5.n = X.n + 2 := by rw [e5]; show X4.n + 1 = _; omega
 have k5 : ∀ k, k < X.n → X5.at k = X.at k := fun k hk => by rw [e5, at_add_old (by omega), e4, at_add_old hk]
 have hlt := h.lt
 have a5 : SlAt X5 cRH d.L (d.hs.map fun e => e.1.v e.2) := h.arr.keep fun k hk => k5 k (h.arr.lt k hk)
 obtain ⟨b1, b2⟩ := hx.spec a5
 have hsep := h.sep
 have e0 : d.ks r = [r] ++ hl d.L ++ ((hl d.q ++ hl d.jx) ++ fl d.hs) := by simp [RD.ks]
 rw [e0] at hsep
 have sep1 := nodup_swap (n := X5.n) hsep (fun k hk => by
  have := hlt k (by
   rw [e0]
   rcases List.mem_append.1 hk with hk | hk
   ·exact List.mem_append_left _ (List.mem_append_left _ hk)
   ·exact List.mem_append_right _ hk)
  omega) (hl_nodup s9) b2.own
 have e1 : RD.ks { d with L := s9, hs := d.hs ++ [(⟨[p], 0, 0⟩, some ⟨X.n, 0, 1, 1⟩)] } r = ([r] ++ hl s9 ++ ((hl d.q ++ hl d.jx) ++ fl d.hs)) ++ [X.n] := by simp [RD.ks, fl, hl]
 have in0 : ∀ k, k ∈ [r] ++ ((hl d.q ++ hl d.jx) ++ fl d.hs) → k ∈ d.ks r := fun k hk => by
  rw [e0]
  rcases List.mem_append.1 hk with hk | hk
  ·exact List.mem_append_left _ (List.mem_append_left _ hk)
  ·exact List.mem_append_right _ hk
 have own9 : ∀ k ∈ hl s9, k ∈ hl d.L ∨ X.n + 2 ≤ k := fun k hk => (b2.own k hk).imp id fun q => by omega
 have out : ∀ k, k ∈ [r] ++ ((hl d.q ++ hl d.jx) ++ fl d.hs) → k ∉ hl d.L := by
  rw [List.append_assoc, List.nodup_append] at hsep
  obtain ⟨s1, s2, s3⟩ := hsep
  rw [List.nodup_append] at s2
  intro k hk hn
  rcases List.mem_append.1 hk with hk | hk
  ·exact s3 k hk k (List.mem_append_left _ hn) rfl
  ·exact s2.2.2 k hn k hk rfl
 have k8 : ∀ k, k ∈ [r] ++ ((hl d.q ++ hl d.jx) ++ fl d.hs) → X8.at k = X.at k := fun k hk => by
  have hkl := hlt k (in0 k hk)
  rw [b2.keep k (by omega) (out k hk), k5 k hkl]
 have hb8 : Box X8 cRT r (d.L, (d.q, d.jx)) := h.box.keep (k8 r (by simp))
 rw [hb8.setEl] at e11
 have nr : ∀ k, k ∈ hl s9 ++ ((hl d.q ++ hl d.jx) ++ fl d.hs) → k ≠ r := fun k hk q => by
  have s := sep1
  simp only [List.singleton_append, List.cons_append] at s
  exact (List.nodup_cons.1 s).1 (q ▸ hk)
 have hrn : r < X.n := h.box.lt
 have hnew : X11.at X.n = some (.arr cF [p]) := by
  have : X.n ∉ hl d.L := fun q => by have := h.arr.lt _ q; omega
  rw [e11, at_set_ne (by omega), b2.keep X.n (by omega) this, e5, at_add_old (by omega), e4]
  exact at_add_new _ _
 have sep' : (RD.ks { d with L := s9, hs := d.hs ++ [(⟨[p], 0, 0⟩, some ⟨X.n, 0, 1, 1⟩)] } r).Nodup := by
  rw [e1]
  refine List.nodup_append.2 ⟨sep1, by simp, fun a ha b hb q => ?_⟩
  simp only [List.mem_singleton] at hb
  have hcases : a ∈ hl s9 ∨ a ∈ [r] ++ ((hl d.q ++ hl d.jx) ++ fl d.hs) := by
   simp only [List.mem_append] at ha ⊢
   rcases ha with (ha | ha) | ha
   ·exact .inr (.inl ha)
   ·exact .inl ha
   ·exact .inr (.inr ha)
  rcases hcases with ha | ha
  ·rcases own9 a ha with q' | q'
   ·have := h.arr.lt a q'; omega
   ·omega
  ·have := hlt a (in0 a ha); omega
 refine ⟨⟨by rw [e11]; exact hb8.set, ?_, ?_, ?_, fun y hy => ?_, sep'⟩, ?_⟩
 ·have : (d.hs ++ [((⟨[p], 0, 0⟩ : TH), (some ⟨X.n, 0, 1, 1⟩ : Option SlH))]).map (fun e => e.1.v e.2) = (d.hs.map fun e => e.1.v e.2) ++ [((some ⟨X.n, 0, 1, 1⟩ : Option SlH), ((0 : Int), (0 : Int)))] := by
   rw [List.map_append]; rfl
  rw [e11]
  show SlAt _ cRH s9 ((d.hs ++ [_]).map _)
  rw [this]
  exact b1.keep fun k hk => at_set_ne (nr k (List.mem_append_left _ hk))
 ·exact h.qs.keep fun k hk => by
   rw [e11, at_set_ne (nr k (by simp [hk]))]; exact k8 k (by simp [hk])
 ·exact h.js.keep fun k hk => by
   rw [e11, at_set_ne (nr k (by simp [hk]))]; exact k8 k (by simp [hk])
 ·rcases List.mem_append.1 hy with hy | hy
  ·refine (h.ws y hy).keep fun k hk => ?_
   have hk' : k ∈ fl d.hs := mem_fl.2 ⟨y, hy, hk⟩
   rw [e11, at_set_ne (nr k (List.mem_append_right _ (List.mem_append_right _ hk')))]; exact k8 k (List.mem_append_right _ (List.mem_append_right _ hk'))
  ·simp only [List.mem_singleton] at hy
   subst hy
   exact ⟨[p], hnew, Nat.le_refl _, Nat.le_refl _, rfl⟩
 ·refine ⟨by rw [e11]; show X.n ≤ X8.n; have := b2.n; omega, fun k hk hn => ?_, fun k hk => ?_⟩
  ·have hkL : k ∉ hl d.L := fun q => hn (mem_rks.2 (.inr (.inl q)))
   have hkr : k ≠ r := fun q => hn (mem_rks.2 (.inl q))
   rw [e11, at_set_ne hkr, b2.keep k (by omega) hkL, k5 k hk]
  ·rw [e1] at hk
   rcases List.mem_append.1 hk with hk | hk
   ·rcases List.mem_append.1 hk with hk | hk
    ·rcases List.mem_append.1 hk with hk | hk
     ·exact .inl (in0 k (List.mem_append_left _ hk))
     ·rcases own9 k hk with q | q
      ·exact .inl (mem_rks.2 (.inr (.inl q)))
      ·exact .inr (by omega)
    ·exact .inl (in0 k (List.mem_append_right _ hk))
   ·simp only [List.mem_singleton] at hk
    exact .inr (by omega)

end Go.Proofs.Ytaaedebknacheaa.AB

set_option maxRecDepth 100000
set_option maxHeartbeats 2000000
namespace Go.Proofs.Ytaaedebknacheaa.AB
open Go
noncomputable def X101 : Cx := ⟨tt, [], [], [], [], []⟩
theorem FN101 : fnsB Try.prog X101.fns := (show True from trivial)
theorem E101 (f0 : (Int × (Int × ((List Int) × (List Int))))) {R : V → Prop} (h : (Tok.own .exact ([]) ∧ ((([] : List Int)).length + (f0.2.2.1).length) * 8 ≤ room ∧ (Tok.own .exact (0 :: []) ∧ ((([] : List Int)).length + (f0.2.2.2).length) * 8 ≤ room ∧ R (.agg [(.int .i64 f0.1), (.int .i64 f0.2.1), (.list (.int .i64) ((([] : List Int) ++ f0.2.2.1)) .no), (.list (.int .i64) ((([] : List Int) ++ f0.2.2.2)) .no)])))) :
 fnK X101.tt (callN Try.prog X101 0) (X101.md 101) (X101.mk1 101) Try.f101 [(.v (.agg [(.int .i64 f0.1), (.int .i64 f0.2.1), (.list (.int .i64) f0.2.2.1 .no), (.list (.int .i64) f0.2.2.2 .no)]))] ⟨[], [], ⟨0, []⟩⟩ (topK R) := Eq.mp (by kernel_rfl) h
end Go.Proofs.Ytaaedebknacheaa.AB

set_option maxRecDepth 100000
set_option maxHeartbeats 2000000
namespace Go.Proofs.Ytaaedebknacheaa.AB
open Go
noncomputable def X103 : Cx := ⟨tt, [], [], [], [], []⟩
theorem FN103 : fnsB Try.prog X103.fns := (show True from trivial)
theorem E103 (X : XH) (t0 : Nat) (id1 : Int) {R : (Bool) → XH → Prop} (h : (((decide (id1 ≥ (1 : Int))) = true → (∃ (a1 : ((Option SlH) × ((Option SlH) × (Option SlH)))), XH.el X yZ0 t0 0 = some a1 ∧ (((decide (id1 ≤ (((slN a1.1) : Nat) : Int))) = true → (∃ (a2 : ((Option SlH) × ((Option SlH) × (Option SlH)))), XH.el X yZ0 t0 0 = some a2 ∧ (∃ (u3 : SlH), a2.1 = some u3 ∧ 0 ≤ (IntKind.wrap .i64 (id1 - (1 : Int))) ∧ (IntKind.wrap .i64 (id1 - (1 : Int))) < ((u3.len : Nat) : Int) ∧ (∃ (a4 : ((Option SlH) × (Int × Int))), XH.el X yZ1 u3.h ((u3.off + ((IntKind.wrap .i64 (id1 - (1 : Int)))).toNat)) = some a4 ∧ R ((a4.2.1 != (5 : Int))) X)))) ∧ ((decide (id1 ≤ (((slN a1.1) : Nat) : Int))) = false → R false X)))) ∧ ((decide (id1 ≥ (1 : Int))) = false → R false X))) :
 fnK X103.tt (callN Try.prog X103 0) (X103.md 103) (X103.mk1 103) Try.f103 [(.ref (some t0) yZ0 0 []), (.v (.int .i64 id1))] ⟨[], [some (.heap X)], ⟨0, []⟩⟩ (xfin [(.pure .bool)] R) := Eq.mp (by kernel_rfl) h
end Go.Proofs.Ytaaedebknacheaa.AB

set_option maxRecDepth 100000
set_option maxHeartbeats 2000000
namespace Go.Proofs.Ytaaedebknacheaa.AB
open Go
noncomputable def X54 : Cx := ⟨tt, [], [], [], [(54, [(0, mkM 24 0 [0, 3], 0)])], []⟩
theorem FN54 : fnsB Try.prog X54.fns := (show True from trivial)
def M54_0 : List Bool × Nat := (mkM 24 0 [0, 3], 1)
def S54_0 (t0 : Nat) (i3 : Int) (hq0 : XH) (T : Toks) : St :=
  mkS 24 [(0, (.ref (some t0) yZ0 0 [])), (3, (.v (.int .i64 i3)))] [(some (.heap hq0))] T
noncomputable def B54_0 : (Exit → St → Prop) → St → Prop := (awp X54.tt (callN Try.prog X54 0) (X54.md 54) 1 (X54.mk1 54) 0 (codeAt [1, 0, 1, 0, 0] (bd Try.f54)))
noncomputable def K54_0 (R : (Int) → XH → Prop) : Exit → St → Prop := seqK ((awp X54.tt (callN Try.prog X54 0) (X54.md 54) 1 (X54.mk1 54) 0 (codeAt [1, 1] (bd Try.f54))) (retK tt Try.f54.results.toList fun x s' => xfin [(.pure (.int .i64))] R x ⟨[], s'.hp, s'.T⟩)) (retK tt Try.f54.results.toList fun x s' => xfin [(.pure (.int .i64))] R x ⟨[], s'.hp, s'.T⟩)
noncomputable def Q54_0 (R : (Int) → XH → Prop) : Exit → St → Prop := (blockK 0 (K54_0 R))
theorem E54 (X : XH) (t0 : Nat) {R : (Int) → XH → Prop} (h : (Loops B54_0 M54_0 (Q54_0 R)
  (S54_0 t0 (0 : Int) X ⟨0, []⟩))) :
  fnK X54.tt (callN Try.prog X54 0) (X54.md 54) (X54.mk1 54) Try.f54 [(.ref (some t0) yZ0 0 [])] ⟨[], [some (.heap X)], ⟨0, []⟩⟩ (xfin [(.pure (.int .i64))] R) := Eq.mp (by kernel_rfl) h
theorem L54_0 (t0 : Nat) (i3 : Int) (hq0 : XH) (T : Toks) {R : (Int) → XH → Prop} {k0 : St → Prop}
 (h : (∃ (a1 : ((Option SlH) × ((Option SlH) × (Option SlH)))), XH.el hq0 yZ0 t0 0 = some a1 ∧ (((decide (i3 < (((slN a1.1) : Nat) : Int))) = true → (∃ (a2 : ((Option SlH) × ((Option SlH) × (Option SlH)))), XH.el hq0 yZ0 t0 0 = some a2 ∧ (∃ (u3 : SlH), a2.1 = some u3 ∧ 0 ≤ i3 ∧ i3 < ((u3.len : Nat) : Int) ∧ (∃ (a4 : ((Option SlH) × (Int × Int))), XH.el hq0 yZ1 u3.h ((u3.off + (i3).toNat)) = some a4 ∧ (((a4.2.1 == (2 : Int)) = true → R ((IntKind.wrap .i64 (i3 + (1 : Int)))) hq0) ∧
 ((a4.2.1 == (2 : Int)) = false → k0 (S54_0 t0 ((IntKind.wrap .i64 (i3 + (1 : Int)))) hq0 T))))))) ∧
 ((decide (i3 < (((slN a1.1) : Nat) : Int))) = false → R (0 : Int) hq0)))) :
  B54_0 (loopQ M54_0 k0 (Q54_0 R)) (S54_0 t0 i3 hq0 T) := Eq.mp (by kernel_rfl) h
end Go.Proofs.Ytaaedebknacheaa.AB

set_option maxRecDepth 100000
set_option maxHeartbeats 2000000
namespace Go.Proofs.Ytaaedebknacheaa.AB
open Go
noncomputable def X52 : Cx := ⟨tt, [], [], [], [(52, [(0, mkM 29 0 [0, 3, 4], 0)])], []⟩
theorem FN52 : fnsB Try.prog X52.fns := (show True from trivial)
def M52_0 : List Bool × Nat := (mkM 29 0 [0, 3, 4], 1)
def S52_0 (t0 : Nat) (out3 : List Int) (out3k : Tok) (i4 : Int) (hq0 : XH) (T : Toks) : St :=
  mkS 29 [(0, (.ref (some t0) yZ0 0 [])), (3, (.v (.list (.int .i64) out3 out3k))), (4, (.v (.int .i64 i4)))] [(some (.heap hq0))] T
noncomputable def B52_0 : (Exit → St → Prop) → St → Prop := (awp X52.tt (callN Try.prog X52 0) (X52.md 52) 1 (X52.mk1 52) 0 (codeAt [1, 1, 0, 1, 0, 0] (bd Try.f52)))
noncomputable def K52_0 (R : ((List Int)) → XH → Prop) : Exit → St → Prop := seqK ((awp X52.tt (callN Try.prog X52 0) (X52.md 52) 1 (X52.mk1 52) 0 (codeAt [1, 1, 1] (bd Try.f52))) (retK tt Try.f52.results.toList fun x s' => xfin [(.pure (.slice (.int .i64)))] R x ⟨[], s'.hp, s'.T⟩)) (retK tt Try.f52.results.toList fun x s' => xfin [(.pure (.slice (.int .i64)))] R x ⟨[], s'.hp, s'.T⟩)
noncomputable def Q52_0 (R : ((List Int)) → XH → Prop) : Exit → St → Prop := (blockK 0 (K52_0 R))
theorem E52 (X : XH) (t0 : Nat) {R : ((List Int)) → XH → Prop} (h : (Loops B52_0 M52_0 (Q52_0 R)
  (S52_0 t0 ([] : List Int) .exact (0 : Int) X ⟨0, []⟩))) :
  fnK X52.tt (callN Try.prog X52 0) (X52.md 52) (X52.mk1 52) Try.f52 [(.ref (some t0) yZ0 0 [])] ⟨[], [some (.heap X)], ⟨0, []⟩⟩ (xfin [(.pure (.slice (.int .i64)))] R) := Eq.mp (by kernel_rfl) h
theorem L52_0 (t0 : Nat) (out3 : List Int) (out3k : Tok) (i4 : Int) (hq0 : XH) (T : Toks) {R : ((List Int)) → XH → Prop} {k0 : St → Prop}
 (h : (∃ (a1 : ((Option SlH) × ((Option SlH) × (Option SlH)))), XH.el hq0 yZ0 t0 0 = some a1 ∧ (((decide (i4 < (((slN a1.1) : Nat) : Int))) = true → (∃ (a2 : ((Option SlH) × ((Option SlH) × (Option SlH)))), XH.el hq0 yZ0 t0 0 = some a2 ∧ (∃ (u3 : SlH), a2.1 = some u3 ∧ 0 ≤ i4 ∧ i4 < ((u3.len : Nat) : Int) ∧ (∃ (a4 : ((Option SlH) × (Int × Int))), XH.el hq0 yZ1 u3.h ((u3.off + (i4).toNat)) = some a4 ∧ (((a4.2.1 != (5 : Int)) = true → (Tok.own out3k T.l ∧ ((out3).length + (([(IntKind.wrap .i64 (i4 + (1 : Int)))] : List Int)).length) * 8 ≤ room ∧ k0 (S52_0 t0 ((out3 ++ ([(IntKind.wrap .i64 (i4 + (1 : Int)))] : List Int))) (.tk T.n) ((IntKind.wrap .i64 (i4 + (1 : Int)))) hq0 ⟨(T.n + 1), (T.n :: Tok.drop out3k T.l)⟩))) ∧
 ((a4.2.1 != (5 : Int)) = false → k0 (S52_0 t0 out3 out3k ((IntKind.wrap .i64 (i4 + (1 : Int)))) hq0 T))))))) ∧
 ((decide (i4 < (((slN a1.1) : Nat) : Int))) = false → R out3 hq0)))) :
  B52_0 (loopQ M52_0 k0 (Q52_0 R)) (S52_0 t0 out3 out3k i4 hq0 T) := Eq.mp (by kernel_rfl) h
end Go.Proofs.Ytaaedebknacheaa.AB

set_option maxRecDepth 100000
set_option maxHeartbeats 2000000
namespace Go.Proofs.Ytaaedebknacheaa.AB
open Go
noncomputable def X88 : Cx := ⟨tt, [(101, [.cd (.pair (.int .i64) (.pair (.int .i64) (.pair (.slice (.int .i64)) (.slice (.int .i64)))))])], [(103, [(.pure .bool)])], [(88, [(1, 2, .rd)])], [], []⟩
theorem FN88 : fnsB Try.prog X88.fns := (show True from trivial)
theorem E88 (X : XH) (t0 : Nat) (id1 : Int) {R : ((Int × (Int × ((List Int) × (List Int)))) × Bool) → XH → Prop} (h : (∃ (p1 : Bool), RC Try.prog 103 [(.pure .bool)] [(.ref (some t0) yZ0 0 []), (.v (.int .i64 id1))] X p1 ∧ (((!p1) = true → R (((0 : Int), ((0 : Int), (([] : List Int), ([] : List Int)))), false) X) ∧ ((!p1) = false → (∃ (a2 : ((Option SlH) × ((Option SlH) × (Option SlH)))), XH.el X yZ0 t0 0 = some a2 ∧ (∃ (u3 : SlH), a2.1 = some u3 ∧ 0 ≤ (IntKind.wrap .i64 (id1 - (1 : Int))) ∧ (IntKind.wrap .i64 (id1 - (1 : Int))) < ((u3.len : Nat) : Int) ∧ (∃ (a4 : ((Option SlH) × (Int × Int))), XH.el X yZ1 u3.h ((u3.off + ((IntKind.wrap .i64 (id1 - (1 : Int)))).toNat)) = some a4 ∧ ((((((slN a4.1) : Nat) : Int) == (0 : Int)) = true → R (((0 : Int), ((0 : Int), (([] : List Int), ([] : List Int)))), false) X) ∧
 (((((slN a4.1) : Nat) : Int) == (0 : Int)) = false → (∃ (a5 : ((Option SlH) × ((Option SlH) × (Option SlH)))), XH.el X yZ0 t0 0 = some a5 ∧ (∃ (u6 : SlH), a5.1 = some u6 ∧ 0 ≤ (IntKind.wrap .i64 (id1 - (1 : Int))) ∧ (IntKind.wrap .i64 (id1 - (1 : Int))) < ((u6.len : Nat) : Int) ∧ (∃ (a7 : ((Option SlH) × (Int × Int))), XH.el X yZ1 u6.h ((u6.off + ((IntKind.wrap .i64 (id1 - (1 : Int)))).toNat)) = some a7 ∧ (∃ (a8 : ((Option SlH) × ((Option SlH) × (Option SlH)))), XH.el X yZ0 t0 0 = some a8 ∧ (∃ (u9 : SlH), a8.1 = some u9 ∧ 0 ≤ (IntKind.wrap .i64 (id1 - (1 : Int))) ∧ (IntKind.wrap .i64 (id1 - (1 : Int))) < ((u9.len : Nat) : Int) ∧ (∃ (a10 : ((Option SlH) × (Int × Int))), XH.el X yZ1 u9.h ((u9.off + ((IntKind.wrap .i64 (id1 - (1 : Int)))).toNat)) = some a10 ∧ (∃ (u11 : SlH), a7.1 = some u11 ∧ 0 ≤ (IntKind.wrap .i64 ((((slN a10.1) : Nat) : Int) - (1 : Int))) ∧ (IntKind.wrap .i64 ((((slN a10.1) : Nat) : Int) - (1 : Int))) < ((u11.len : Nat) : Int) ∧ (∃ (a12 : (Int × (Int × ((List Int) × (List Int))))), XH.el X (.pure (.pair (.int .i64) (.pair (.int .i64) (.pair (.slice (.int .i64)) (.slice (.int .i64)))))) u11.h ((u11.off + ((IntKind.wrap .i64 ((((slN a10.1) : Nat) : Int) - (1 : Int)))).toNat)) = some a12 ∧ (∃ p13 : (Int × (Int × ((List Int) × (List Int)))), PC Try.prog 101 [(.agg [(.int .i64 a12.1), (.int .i64 a12.2.1), (.list (.int .i64) a12.2.2.1 .no), (.list (.int .i64) a12.2.2.2 .no)])] ((.agg [(.int .i64 p13.1), (.int .i64 p13.2.1), (.list (.int .i64) p13.2.2.1 .no), (.list (.int .i64) p13.2.2.2 .no)])) ∧ R ((p13.1, (p13.2.1, (p13.2.2.1, p13.2.2.2))), true) X)))))))))))))))))) :
  fnK X88.tt (callN Try.prog X88 0) (X88.md 88) (X88.mk1 88) Try.f88 [(.ref (some t0) yZ0 0 []), (.v (.int .i64 id1))] ⟨[], [some (.heap X)], ⟨0, []⟩⟩ (xfin [(.pure (.pair (.int .i64) (.pair (.int .i64) (.pair (.slice (.int .i64)) (.slice (.int .i64)))))), (.pure .bool)] R) := Eq.mp (by kernel_rfl) h
end Go.Proofs.Ytaaedebknacheaa.AB

namespace Go.Proofs.Ytaaedebknacheaa.AB
open Go

variable {X X' : XH} {r : Nat} {d : RD} {id : Int} {x : TH}

def RTab.at (R : RTab) (id : Int) : Option TH := if 1 ≤ id then R.l[(id - 1).toNat]? else none

theorem RTab.at_some {R : RTab} (h1 : 1 ≤ id) (h2 : id ≤ R.l.length) : ∃ x, R.at id = some x := by
 unfold RTab.at
 rw [if_pos h1, List.getElem?_eq_getElem (by omega)]
 exact ⟨_, rfl⟩

theorem RTab.at_none {R : RTab} (h : id < 1 ∨ (R.l.length : Int) < id) : R.at id = none := by
 unfold RTab.at
 rcases h with h | h
 ·rw [if_neg (by omega)]
 ·split
  ·rw [List.getElem?_eq_none (by omega)]
  ·rfl

theorem RTab.at_le {R : RTab} (h : R.at id = some x) : 1 ≤ id ∧ id ≤ R.l.length := by
 unfold RTab.at at h
 split at h
 ·have := (List.getElem?_eq_some_iff.1 h).1
  omega
 ·cases h

theorem RD.ab_len : d.ab.l.length = d.hs.length := by simp [RD.ab]

theorem RRep.get (h : RRep X r d) (hn : d.hs.length ≤ 1000000) (hx : d.ab.at id = some x) :
  ∃ A e C u, d.hs = A ++ e :: C ∧ e.1 = x ∧ id = (A.length : Int) + 1 ∧ d.L = some u ∧ 0 ≤ IntKind.wrap .i64 (id - (1 : Int)) ∧ IntKind.wrap .i64 (id - (1 : Int)) < ((u.len : Nat) : Int) ∧
   X.el cRH u.h (u.off + (IntKind.wrap .i64 (id - (1 : Int))).toNat) = some (x.v e.2) ∧ (IntKind.wrap .i64 (id - (1 : Int))).toNat = A.length := by
 have hle := RTab.at_le hx
 rw [RD.ab_len] at hle
 unfold RTab.at at hx
 rw [if_pos hle.1] at hx
 have hi : (id - 1).toNat < d.hs.length := by omega
 have hs : d.hs = d.hs.take (id - 1).toNat ++ d.hs[(id - 1).toNat] :: d.hs.drop ((id - 1).toNat + 1) := by simp
 obtain ⟨u, h1, h2, h3⟩ := h.at hs
 have hl : (d.hs.take (id - 1).toNat).length = (id - 1).toNat := by rw [List.length_take]; omega
 have he : (d.hs[(id - 1).toNat]).1 = x := by
  have : d.ab.l[(id - 1).toNat]? = some (d.hs[(id - 1).toNat]).1 := by
   show (d.hs.map (·.1))[(id - 1).toNat]? = _
   rw [List.getElem?_map, List.getElem?_eq_getElem hi]; rfl
  rw [this] at hx
  exact Option.some.inj hx
 have hw : IntKind.wrap .i64 (id - (1 : Int)) = id - 1 := wrap64 (by omega) (by omega)
 rw [hl] at h2 h3
 rw [he] at h3
 refine ⟨_, _, _, u, hs, he, ?_, h1, ?_, ?_, ?_, ?_⟩
 ·rw [hl]; omega
 ·rw [hw]; omega
 ·rw [hw]; omega
 ·rw [hw]; exact h3
 ·rw [hw, hl]

theorem c101 {f : Fr} (h : Small f) : PC Try.prog 101 [.agg [.int .i64 f.1, .int .i64 f.2.1, .list (.int .i64) f.2.2.1 .no, .list (.int .i64) f.2.2.2 .no]] (.agg [.int .i64 f.1, .int .i64 f.2.1, .list (.int .i64) f.2.2.1 .no, .list (.int .i64) f.2.2.2 .no]) :=
 pcOf (X := X101) rfl FN101 (by kernel_rfl) (by decide) (E101 f ⟨trivial, by simpa using h.1, trivial, by simpa using h.2, rfl, rfl⟩)

def RTab.isLive (R : RTab) (id : Int) : Bool :=
 match R.at id with
 | some x => x.st != 5
 | none => false

theorem c103 (h : RRep X r d) (hn : d.hs.length ≤ 1000000) (id : Int) : RC Try.prog 103 [.pure .bool] [.ref (some r) cRT 0 [], .v (.int .i64 id)] X (d.ab.isLive id) := by
 have hlen := h.len
 refine xcOf (X := X103) rfl FN103 (by kernel_rfl) (by decide) (E103 X r id ⟨fun e => ⟨_, h.box.el, fun e2 => ?_, fun e2 => ?_⟩, fun e => ?_⟩)
 ·have e : 1 ≤ id := by simpa using e
  have e2 : id ≤ ((slN d.L : Nat) : Int) := by simpa using e2
  obtain ⟨x, hx⟩ := RTab.at_some (R := d.ab) e (by rw [RD.ab_len]; omega)
  obtain ⟨A, y, C, u, hs, hy, hid, hu, w0, w1, wel, hw⟩ := h.get hn hx
  refine ⟨_, h.box.el, u, hu, w0, w1, _, wel, ?_, rfl⟩
  unfold RTab.isLive
  rw [hx]; rfl
 ·have e2 : ¬ id ≤ ((slN d.L : Nat) : Int) := by simpa using e2
  have := RTab.at_none (R := d.ab) (id := id) (.inr (by rw [RD.ab_len]; omega))
  refine ⟨?_, rfl⟩
  unfold RTab.isLive
  rw [this]
 ·have e : ¬ 1 ≤ id := by simpa using e
  have := RTab.at_none (R := d.ab) (id := id) (.inl (by omega))
  refine ⟨?_, rfl⟩
  unfold RTab.isLive
  rw [this]

theorem RRep.at' (h : RRep X r d) {i : Nat} (hi : i < d.hs.length) : ∃ u, d.L = some u ∧ 0 ≤ (i : Int) ∧ (i : Int) < ((u.len : Nat) : Int) ∧ X.el cRH u.h (u.off + (i : Int).toNat) = some ((d.hs[i]).1.v (d.hs[i]).2) := by
 obtain ⟨u, h1, h2, h3⟩ := h.at (A := d.hs.take i) (e := d.hs[i]) (C := d.hs.drop (i + 1)) (by simp)
 have e : (d.hs.take i).length = i := by simp; omega
 rw [e] at h2 h3
 exact ⟨u, h1, by omega, by omega, by rw [Int.toNat_natCast]; exact h3⟩

def RTab.cur (R : RTab) : Int :=
 match R.l.findIdx? (fun x => x.st == 2) with
 | some i => (i : Int) + 1
 | none => 0

theorem cur_none {R : RTab} (h : ∀ x ∈ R.l, x.st ≠ 2) : R.cur = 0 := by
 unfold RTab.cur
 rw [List.findIdx?_eq_none_iff.2 fun x hx => by simpa using h x hx]

theorem cur_at {R : RTab} {i : Nat} (hi : i < R.l.length) (h : (R.l[i]).st = 2) (ha : ∀ x ∈ R.l.take i, x.st ≠ 2) : R.cur = (i : Int) + 1 := by
 unfold RTab.cur
 have : R.l.findIdx? (fun x => x.st == 2) = some i := by
  rw [List.findIdx?_eq_some_iff_getElem]
  refine ⟨hi, by simpa using h, fun j hj => ?_⟩
  have := ha (R.l[j]'(by omega)) (List.mem_take_iff_getElem.2 ⟨j, by omega, rfl⟩)
  simpa using this
 rw [this]

theorem wrap_succ {i : Nat} (h : i ≤ 1000000) : IntKind.wrap .i64 ((i : Int) + (1 : Int)) = ((i + 1 : Nat) : Int) := by
 rw [wrap64 (by omega) (by omega)]; omega

theorem ab_get {i : Nat} (hi : i < d.hs.length) : d.ab.l[i]'(by rw [RD.ab_len]; exact hi) = (d.hs[i]).1 := by simp [RD.ab]

theorem c54 (h : RRep X r d) (hn : d.hs.length ≤ 1000000) : RC Try.prog 54 [.pure (.int .i64)] [.ref (some r) cRT 0 []] X d.ab.cur := by
 have hlen := h.len
 refine xcOf (X := X54) rfl FN54 (by kernel_rfl) (by decide) (E54 X r ?_)
 refine Loops.intro (fun i : Nat => S54_0 r (i : Int) X ⟨0, []⟩) (fun i => i ≤ d.hs.length ∧ ∀ y ∈ d.hs.take i, y.1.st ≠ 2) (fun i => d.hs.length - i) 0 rfl ⟨Nat.zero_le _, fun y hy => by simp at hy⟩ ?_
 rintro i ⟨hi, hall⟩
 refine L54_0 r i X ⟨0, []⟩ ⟨_, h.box.el, fun e => ?_, fun e => ?_⟩
 ·have e : (i : Int) < ((slN d.L : Nat) : Int) := of_decide_eq_true e
  have hi' : i < d.hs.length := by omega
  obtain ⟨u, h1, h2, h3, h4⟩ := h.at' hi'
  refine ⟨_, h.box.el, u, h1, h2, h3, _, h4, fun e2 => ?_, fun e2 => ?_⟩
  ·have e2 : (d.hs[i]).1.st = 2 := by simpa [TH.v] using e2
   rw [wrap_succ (by omega)]
   refine ⟨?_, rfl⟩
   rw [cur_at (R := d.ab) (i := i) (by rw [RD.ab_len]; exact hi') (by rw [ab_get hi']; exact e2) fun y hy => ?_]
   ·rfl
   ·simp only [RD.ab, ← List.map_take] at hy
    obtain ⟨z, hz, rfl⟩ := List.mem_map.1 hy
    exact hall z hz
  ·have e2 : (d.hs[i]).1.st ≠ 2 := by simpa [TH.v] using e2
   rw [wrap_succ (by omega)]
   refine Again.mk (i + 1) rfl ⟨hi', fun y hy => ?_⟩ (by omega)
   rw [List.take_succ_eq_append_getElem hi', List.mem_append, List.mem_singleton] at hy
   rcases hy with hy | rfl
   ·exact hall y hy
   ·exact e2
 ·have e : ¬ (i : Int) < ((slN d.L : Nat) : Int) := of_decide_eq_false e
  have hi' : i = d.hs.length := by omega
  subst hi'
  rw [List.take_length] at hall
  refine ⟨?_, rfl⟩
  rw [cur_none]
  intro m hm
  obtain ⟨z, hz, rfl⟩ := List.mem_map.1 hm
  exact hall z hz

def liveL (k : Nat) : List TH → List Int
 | [] => []
 | x :: l => if x.st = 5 then liveL (k + 1) l else ((k : Int) + 1) :: liveL (k + 1) l

def RTab.lives (R : RTab) : List Int := liveL 0 R.l

theorem liveL_append : ∀ (a b : List TH) (k : Nat), liveL k (a ++ b) = liveL k a ++ liveL (k + a.length) b
 | [], b, k => rfl
 | x :: a, b, k => by
  have := liveL_append a b (k + 1)
  simp only [List.cons_append, liveL, this, List.length_cons, show k + (a.length + 1) = k + 1 + a.length by omega]
  split <;> simp

theorem liveL_len : ∀ (a : List TH) (k : Nat), (liveL k a).length ≤ a.length
 | [], k => Nat.le_refl _
 | x :: a, k => by
  have := liveL_len a (k + 1)
  simp only [liveL, List.length_cons]
  split
  ·omega
  ·simp only [List.length_cons]; omega

theorem c52 (h : RRep X r d) (hn : d.hs.length ≤ 1000000) : RC Try.prog 52 [.pure (.slice (.int .i64))] [.ref (some r) cRT 0 []] X d.ab.lives := by
 have hlen := h.len
 refine xcOf (X := X52) rfl FN52 (by kernel_rfl) (by decide) (E52 X r ?_)
 refine Loops.intro (fun q : Nat × Tok × Toks => S52_0 r (liveL 0 ((d.hs.take q.1).map (·.1))) q.2.1 (q.1 : Int) X q.2.2) (fun q => q.1 ≤ d.hs.length ∧ q.2.1.fresh q.2.2) (fun q => d.hs.length - q.1) (0, .exact, ⟨0, []⟩) rfl ⟨Nat.zero_le _, trivial⟩ ?_
 rintro ⟨i, k, T⟩ ⟨hi, hk⟩
 have hi : i ≤ d.hs.length := hi
 refine L52_0 r _ k i X T ⟨_, h.box.el, fun e => ?_, fun e => ?_⟩
 ·have e : (i : Int) < ((slN d.L : Nat) : Int) := of_decide_eq_true e
  have hi' : i < d.hs.length := by omega
  obtain ⟨u, h1, h2, h3, h4⟩ := h.at' hi'
  have hll := liveL_len ((d.hs.take i).map (·.1)) 0
  simp only [List.length_map, List.length_take] at hll
  have hst : liveL 0 ((d.hs.take (i + 1)).map (·.1)) = liveL 0 ((d.hs.take i).map (·.1)) ++ liveL i [(d.hs[i]).1] := by
   rw [List.take_succ_eq_append_getElem hi', List.map_append, liveL_append, List.length_map, List.length_take, Nat.min_eq_left hi, Nat.zero_add]
   rfl
  refine ⟨_, h.box.el, u, h1, h2, h3, _, h4, fun e2 => ⟨hk.own, ?_, ?_⟩, fun e2 => ?_⟩
  ·simp only [List.length_cons, List.length_nil]
   unfold room; omega
  ·have e2 : (d.hs[i]).1.st ≠ 5 := by simpa [TH.v] using e2
   rw [wrap_succ (by omega)]
   refine Again.mk (i + 1, .tk T.n, ⟨T.n + 1, T.n :: Tok.drop k T.l⟩) ?_ ⟨hi', Tok.fresh_new _ _⟩ (by show d.hs.length - (i + 1) < d.hs.length - i; omega)
   simp only
   rw [hst]
   simp only [liveL, if_neg e2]
   rfl
  ·have e2 : (d.hs[i]).1.st = 5 := by simpa [TH.v] using e2
   rw [wrap_succ (by omega)]
   refine Again.mk (i + 1, k, T) ?_ ⟨hi', hk⟩ (by show d.hs.length - (i + 1) < d.hs.length - i; omega)
   simp only
   rw [hst]
   simp only [liveL, if_pos e2, List.append_nil]
 ·have e : ¬ (i : Int) < ((slN d.L : Nat) : Int) := of_decide_eq_false e
  have hi' : i = d.hs.length := by omega
  refine ⟨?_, rfl⟩
  show liveL 0 ((d.hs.take i).map (·.1)) = _
  rw [hi', List.take_length]
  rfl

def RTab.top (R : RTab) (id : Int) : Fr × Bool :=
 match R.at id with
 | none => ((0, (0, ([], []))), false)
 | some x => if x.st = 5 then ((0, (0, ([], []))), false) else match x.fr.getLast? with
  | none => ((0, (0, ([], []))), false)
  | some f => (f, true)

structure RTab.Fit (R : RTab) : Prop where
 n : R.l.length ≤ 1000000
 fr : ∀ x ∈ R.l, x.fr.length ≤ 1000 ∧ ∀ f ∈ x.fr, Small f

theorem RTab.at_mem {R : RTab} (h : R.at id = some x) : x ∈ R.l := by
 unfold RTab.at at h
 split at h
 ·exact List.mem_of_getElem? h
 ·cases h

theorem last_el {x : Option SlH} {l : List Fr} (h : SlAt X cF x l) (hl : l.length ≤ 1000) (hp : l ≠ []) : ∃ u, x = some u ∧ 0 ≤ IntKind.wrap .i64 (((slN x : Nat) : Int) - (1 : Int)) ∧ IntKind.wrap .i64 (((slN x : Nat) : Int) - (1 : Int)) < ((u.len : Nat) : Int) ∧
  ∃ f, l.getLast? = some f ∧ X.el cF u.h (u.off + (IntKind.wrap .i64 (((slN x : Nat) : Int) - (1 : Int))).toNat) = some f ∧ (IntKind.wrap .i64 (((slN x : Nat) : Int) - (1 : Int))).toNat = l.length - 1 ∧ IntKind.wrap .i64 (((slN x : Nat) : Int) - (1 : Int)) ≤ ((slC x : Nat) : Int) := by
 have hlen := h.len
 have hle := h.le
 have hpos : 0 < l.length := List.length_pos_iff.2 hp
 obtain ⟨u, hu⟩ : ∃ u, x = some u := by
  cases hx : x with
  | none => rw [hx] at hlen; simp [slN] at hlen; omega
  | some u => exact ⟨u, rfl⟩
 have hw : IntKind.wrap .i64 (((slN x : Nat) : Int) - (1 : Int)) = ((l.length - 1 : Nat) : Int) := by
  rw [hlen, wrap64 (by omega) (by omega)]; omega
 rw [hw]
 have hul : u.len = l.length := by rw [hu] at hlen; exact hlen
 rw [hu] at h
 refine ⟨u, hu, by omega, by omega, l[l.length - 1], ?_, ?_, by omega, by omega⟩
 ·rw [List.getLast?_eq_getElem?, List.getElem?_eq_getElem (by omega)]
 ·rw [Int.toNat_natCast]; exact h.el (by omega)

theorem c88 (h : RRep X r d) (hf : d.ab.Fit) (id : Int) : RC Try.prog 88 [cF, .pure .bool] [.ref (some r) cRT 0 [], .v (.int .i64 id)] X (d.ab.top id) := by
 have hn : d.hs.length ≤ 1000000 := by have := hf.n; rwa [RD.ab_len] at this
 refine xcOf (X := X88) rfl FN88 (by kernel_rfl) (by decide) (E88 X r id ⟨_, c103 h hn id, fun e => ?_, fun e => ?_⟩)
 ·refine ⟨?_, rfl⟩
  have e : d.ab.isLive id = false := by simpa using e
  unfold RTab.isLive at e
  unfold RTab.top
  cases hx : d.ab.at id with
  | none => rfl
  | some x =>
   rw [hx] at e
   have e : x.st = 5 := by simpa using e
   simp only [if_pos e]
   rfl
 ·have e : d.ab.isLive id = true := by simpa using e
  unfold RTab.isLive at e
  cases hx : d.ab.at id with
  | none => rw [hx] at e; cases e
  | some x =>
   rw [hx] at e
   have e : x.st ≠ 5 := by simpa using e
   obtain ⟨A, y, C, u, hs, hy, hid, hu, w0, w1, wel, hw⟩ := h.get hn hx
   have hy' : y ∈ d.hs := by rw [hs]; simp
   have hsl := h.ws y hy'
   rw [hy] at hsl
   have hfx := hf.fr x (RTab.at_mem hx)
   have hlen := hsl.len
   refine ⟨_, h.box.el, u, hu, w0, w1, _, wel, fun e2 => ?_, fun e2 => ?_⟩
   ·have e2 : slN y.2 = 0 := by simpa [TH.v] using e2
    have : x.fr = [] := List.eq_nil_of_length_eq_zero (by omega)
    refine ⟨?_, rfl⟩
    unfold RTab.top
    rw [hx]
    simp only [if_neg e, this]
    rfl
   ·have e2 : slN y.2 ≠ 0 := by simpa [TH.v] using e2
    have hp : x.fr ≠ [] := fun q => e2 (by rw [hlen, q]; rfl)
    obtain ⟨s, hs2, v0, v1, f, hf1, hf2, hf3, _⟩ := last_el hsl hfx.1 hp
    refine ⟨_, h.box.el, u, hu, w0, w1, _, wel, _, h.box.el, u, hu, w0, w1, _, wel, s, hs2, v0, v1, f, hf2, f, c101 (hfx.2 f (List.mem_of_getLast? hf1)), ?_, rfl⟩
    unfold RTab.top
    rw [hx]
    simp only [if_neg e, hf1]
    rfl

end Go.Proofs.Ytaaedebknacheaa.AB

set_option maxRecDepth 100000
set_option maxHeartbeats 2000000
namespace Go.Proofs.Ytaaedebknacheaa.AB
open Go
noncomputable def X102 : Cx := ⟨tt, [], [], [(102, [(1, 7, .x (.pure (.int .i64)))])], [], []⟩
theorem FN102 : fnsB Try.prog X102.fns := (show True from trivial)
theorem E102 (X : XH) (t0 : Nat) (id1 : Int) {R : Unit → XH → Prop} (h : (∃ (a1 : ((Option SlH) × ((Option SlH) × (Option SlH)))), XH.el X yZ0 t0 0 = some a1 ∧ (∃ (u2 : SlH), a1.1 = some u2 ∧ 0 ≤ (IntKind.wrap .i64 (id1 - (1 : Int))) ∧ (IntKind.wrap .i64 (id1 - (1 : Int))) < ((u2.len : Nat) : Int) ∧ (∃ (a3 : ((Option SlH) × (Int × Int))), XH.el X yZ1 u2.h ((u2.off + ((IntKind.wrap .i64 (id1 - (1 : Int)))).toNat)) = some a3 ∧ (∀ (X4 : XH), X4 = (XH.setEl X yZ1 u2.h ((u2.off + ((IntKind.wrap .i64 (id1 - (1 : Int)))).toNat)) ((a3.1, ((1 : Int), a3.2.2)))) → (∃ (a5 : ((Option SlH) × ((Option SlH) × (Option SlH)))), XH.el X4 yZ0 t0 0 = some a5 ∧ (∃ (l6 l7 : List Int), XH.view X4 (.pure (.int .i64)) a5.2.1 = some l6 ∧ (srcX X4 (.pure (.int .i64)) (.v (.list (.int .i64) ([id1] : List Int) .exact))) = some l7 ∧ ((slN a5.2.1) + (l7).length) * 8 ≤ room ∧ ∀ (X8 : XH) (s9 : Option SlH), XApp X4 (.pure (.int .i64)) (0 : Int) l6 l7 a5.2.1 X8 s9 → (∃ (a10 : ((Option SlH) × ((Option SlH) × (Option SlH)))), XH.el X8 yZ0 t0 0 = some a10 ∧ (∀ (X11 : XH), X11 = (XH.setEl X8 yZ0 t0 0 ((a10.1, (s9, a10.2.2)))) → R () X11))))))))) :
 fnK X102.tt (callN Try.prog X102 0) (X102.md 102) (X102.mk1 102) Try.f102 [(.ref (some t0) yZ0 0 []), (.v (.int .i64 id1))] ⟨[], [some (.heap X)], ⟨0, []⟩⟩ (xfin [] R) := Eq.mp (by kernel_rfl) h
end Go.Proofs.Ytaaedebknacheaa.AB

set_option maxRecDepth 100000
set_option maxHeartbeats 2000000
namespace Go.Proofs.Ytaaedebknacheaa.AB
open Go
noncomputable def X75 : Cx := ⟨tt, [(101, [.cd (.pair (.int .i64) (.pair (.int .i64) (.pair (.slice (.int .i64)) (.slice (.int .i64)))))])], [(52, [(.pure (.slice (.int .i64)))]), (102, [])], [(75, [(1, 1, .rd), (3, 7, .x (.pure (.pair (.int .i64) (.pair (.int .i64) (.pair (.slice (.int .i64)) (.slice (.int .i64))))))), (3, 8, .x yZ1), (3, 9, .x yZ1), (3, 10, .x yZ1), (4, 6, .xc)])], [], []⟩
theorem FN75 : fnsB Try.prog X75.fns := (show True from trivial)
theorem E75 (X : XH) (t0 : Nat) (f1 : (Int × (Int × ((List Int) × (List Int))))) {R : (Int × Int) → XH → Prop} (h : (∃ (p1 : (List Int)), RC Try.prog 52 [(.pure (.slice (.int .i64)))] [(.ref (some t0) yZ0 0 [])] X p1 ∧ (((decide (((p1).length : Int) ≥ (64 : Int))) = true → R ((0 : Int), (3 : Int)) X) ∧
 ((decide (((p1).length : Int) ≥ (64 : Int))) = false → (∃ (a2 : ((Option SlH) × ((Option SlH) × (Option SlH)))), XH.el X yZ0 t0 0 = some a2 ∧ (∃ p3 : (Int × (Int × ((List Int) × (List Int)))), PC Try.prog 101 [(.agg [(.int .i64 f1.1), (.int .i64 f1.2.1), (.list (.int .i64) f1.2.2.1 .no), (.list (.int .i64) f1.2.2.2 .no)])] ((.agg [(.int .i64 p3.1), (.int .i64 p3.2.1), (.list (.int .i64) p3.2.2.1 .no), (.list (.int .i64) p3.2.2.2 .no)])) ∧ (∀ (X4 : XH), X4 = (XH.add X (.arr (.pure (.pair (.int .i64) (.pair (.int .i64) (.pair (.slice (.int .i64)) (.slice (.int .i64)))))) ([(p3.1, (p3.2.1, (p3.2.2.1, p3.2.2.2)))] : List (Int × (Int × ((List Int) × (List Int))))))) → (∀ (X5 : XH), X5 = (XH.add X4 (.arr yZ1 ([((some ⟨X.n, 0, 1, 1⟩), ((0 : Int), (0 : Int)))] : List ((Option SlH) × (Int × Int))))) → (∃ (l6 l7 : List ((Option SlH) × (Int × Int))), XH.view X5 yZ1 a2.1 = some l6 ∧ (srcX X5 yZ1 (.sl yZ1 (some ⟨X4.n, 0, 1, 1⟩))) = some l7 ∧ ((slN a2.1) + (l7).length) * 40 ≤ room ∧ ∀ (X8 : XH) (s9 : Option SlH), XApp X5 yZ1 ((none, ((0 : Int), (0 : Int)))) l6 l7 a2.1 X8 s9 → (∃ (a10 : ((Option SlH) × ((Option SlH) × (Option SlH)))), XH.el X8 yZ0 t0 0 = some a10 ∧ (∀ (X11 : XH), X11 = (XH.setEl X8 yZ0 t0 0 (s9, a10.2)) → (∃ (a12 : ((Option SlH) × ((Option SlH) × (Option SlH)))), XH.el X11 yZ0 t0 0 = some a12 ∧ (XC Try.prog 102 [] [(.ref (some t0) yZ0 0 []), (.v (.int .i64 ((((slN a12.1) : Nat) : Int))))] X11 (fun (p13 : Unit) (X14 : XH) => (∃ (a15 : ((Option SlH) × ((Option SlH) × (Option SlH)))), XH.el X14 yZ0 t0 0 = some a15 ∧ R ((((slN a15.1) : Nat) : Int), (0 : Int)) X14))))))))))))))) :
  fnK X75.tt (callN Try.prog X75 0) (X75.md 75) (X75.mk1 75) Try.f75 [(.ref (some t0) yZ0 0 []), (.v (.agg [(.int .i64 f1.1), (.int .i64 f1.2.1), (.list (.int .i64) f1.2.2.1 .no), (.list (.int .i64) f1.2.2.2 .no)]))] ⟨[], [some (.heap X)], ⟨0, []⟩⟩ (xfin [(.pure (.int .i64)), (.pure (.int .i64))] R) := Eq.mp (by kernel_rfl) h
end Go.Proofs.Ytaaedebknacheaa.AB

