/- Parts of the proof: what functions of the program compute, on plain values. -/
import Derived.Test.YtaaedebknacheaaABc2
import Derived.Test.YtaaedebknacheaaProg
import Derived.KernelRfl
set_option linter.unusedVariables false
set_option linter.unusedSimpArgs false
namespace Go.Proofs.Ytaaedebknacheaa.AB
open Go
def tt : TT := [
 ⟨.other, 0, 0, .undef, .unit, false, false⟩,
 ⟨.func, 1, 8, .nilf, .unit, true, false⟩,
 ⟨.int .i64, 1, 8, (.int .i64 (0 : Int)), (.int .i64), true, true⟩,
 ⟨.int .i64, 1, 8, (.int .i64 (0 : Int)), (.int .i64), true, true⟩,
 ⟨.bool, 1, 1, .ff, .bool, true, true⟩,
 ⟨.int .u8, 1, 1, (.int .u8 (0 : Int)), (.int .u8), true, true⟩,
 ⟨.int .u8, 1, 1, (.int .u8 (0 : Int)), (.int .u8), true, true⟩,
 ⟨.strct [(0, 2), (1, 3), (2, 4), (3, 6)], 4, 24, (.agg [(.int .i64 (0 : Int)), (.int .i64 (0 : Int)), .ff, (.int .u8 (0 : Int))]), (.pair (.int .i64) (.pair (.int .i64) (.pair .bool (.int .u8)))), true, true⟩,
 ⟨.strct [(0, 2), (1, 3), (2, 4), (3, 6)], 4, 24, (.agg [(.int .i64 (0 : Int)), (.int .i64 (0 : Int)), .ff, (.int .u8 (0 : Int))]), (.pair (.int .i64) (.pair (.int .i64) (.pair .bool (.int .u8)))), true, true⟩,
 ⟨.str, 1, 16, (.str ([] : List UInt8)), .str, true, true⟩,
 ⟨.str, 1, 16, (.str ([] : List UInt8)), .str, true, true⟩,
 ⟨.str, 1, 16, (.str ([] : List UInt8)), .str, true, true⟩,
 ⟨.int .u64, 1, 8, (.int .u64 (0 : Int)), (.int .u64), true, true⟩,
 ⟨.strct [(0, 9), (1, 12)], 2, 24, (.agg [(.str ([] : List UInt8)), (.int .u64 (0 : Int))]), (.pair .str (.int .u64)), true, true⟩,
 ⟨.strct [(0, 9), (1, 12)], 2, 24, (.agg [(.str ([] : List UInt8)), (.int .u64 (0 : Int))]), (.pair .str (.int .u64)), true, true⟩,
 ⟨.ptr 168, 1, 8, .nilp, .unit, true, false⟩,
 ⟨.ptr 171, 1, 8, .nilp, .unit, true, false⟩,
 ⟨.ptr 179, 1, 8, .nilp, .unit, true, false⟩,
 ⟨.strct [(0, 17)], 1, 8, (.agg [.nilp]), .unit, true, false⟩,
 ⟨.strct [(0, 17)], 1, 8, (.agg [.nilp]), .unit, true, false⟩,
 ⟨.iface, 1, 16, .nili, .unit, true, false⟩,
 ⟨.int .i32, 1, 4, (.int .i32 (0 : Int)), (.int .i32), true, true⟩,
 ⟨.slice 3, 1, 24, (.list (.int .i64) ([] : List Int) .exact), (.slice (.int .i64)), true, true⟩,
 ⟨.func, 1, 8, .nilf, .unit, true, false⟩,
 ⟨.ptr 91, 1, 8, .nilp, .unit, true, false⟩,
 ⟨.func, 1, 8, .nilf, .unit, true, false⟩,
 ⟨.func, 1, 8, .nilf, .unit, true, false⟩,
 ⟨.int .i64, 1, 8, (.int .i64 (0 : Int)), (.int .i64), true, true⟩,
 ⟨.other, 0, 0, .undef, .unit, false, false⟩,
 ⟨.func, 1, 8, .nilf, .unit, true, false⟩,
 ⟨.strct [(0, 3), (1, 3), (2, 22), (3, 22)], 4, 64, (.agg [(.int .i64 (0 : Int)), (.int .i64 (0 : Int)), (.list (.int .i64) ([] : List Int) .exact), (.list (.int .i64) ([] : List Int) .exact)]), (.pair (.int .i64) (.pair (.int .i64) (.pair (.slice (.int .i64)) (.slice (.int .i64))))), true, true⟩,
 ⟨.strct [(0, 3), (1, 3), (2, 22), (3, 22)], 4, 64, (.agg [(.int .i64 (0 : Int)), (.int .i64 (0 : Int)), (.list (.int .i64) ([] : List Int) .exact), (.list (.int .i64) ([] : List Int) .exact)]), (.pair (.int .i64) (.pair (.int .i64) (.pair (.slice (.int .i64)) (.slice (.int .i64))))), true, true⟩,
 ⟨.other, 0, 0, .undef, .unit, false, false⟩,
 ⟨.func, 1, 8, .nilf, .unit, true, false⟩,
 ⟨.func, 1, 8, .nilf, .unit, true, false⟩,
 ⟨.func, 1, 8, .nilf, .unit, true, false⟩,
 ⟨.func, 1, 8, .nilf, .unit, true, false⟩,
 ⟨.other, 0, 0, .undef, .unit, false, false⟩,
 ⟨.func, 1, 8, .nilf, .unit, true, false⟩,
 ⟨.func, 1, 8, .nilf, .unit, true, false⟩,
 ⟨.other, 0, 0, .undef, .unit, false, false⟩,
 ⟨.func, 1, 8, .nilf, .unit, true, false⟩,
 ⟨.func, 1, 8, .nilf, .unit, true, false⟩,
 ⟨.func, 1, 8, .nilf, .unit, true, false⟩,
 ⟨.func, 1, 8, .nilf, .unit, true, false⟩,
 ⟨.func, 1, 8, .nilf, .unit, true, false⟩,
 ⟨.slice 51, 1, 24, (.list (.pair (.int .i64) (.pair (.int .i64) (.pair (.int .i64) (.pair (.slice (.int .i64)) (.slice (.int .i64)))))) (([] : List (Int × (Int × (Int × ((List Int) × (List Int))))))) .exact), (.slice (.pair (.int .i64) (.pair (.int .i64) (.pair (.int .i64) (.pair (.slice (.int .i64)) (.slice (.int .i64))))))), true, true⟩,
 ⟨.other, 0, 0, .undef, .unit, false, false⟩,
 ⟨.func, 1, 8, .nilf, .unit, true, false⟩,
 ⟨.slice 5, 1, 24, (.list (.int .u8) ([] : List Int) .exact), (.slice (.int .u8)), true, true⟩,
 ⟨.strct [(0, 3), (1, 3), (2, 3), (3, 22), (4, 22)], 5, 72, (.agg [(.int .i64 (0 : Int)), (.int .i64 (0 : Int)), (.int .i64 (0 : Int)), (.list (.int .i64) ([] : List Int) .exact), (.list (.int .i64) ([] : List Int) .exact)]), (.pair (.int .i64) (.pair (.int .i64) (.pair (.int .i64) (.pair (.slice (.int .i64)) (.slice (.int .i64)))))), true, true⟩,
 ⟨.strct [(0, 3), (1, 3), (2, 3), (3, 22), (4, 22)], 5, 72, (.agg [(.int .i64 (0 : Int)), (.int .i64 (0 : Int)), (.int .i64 (0 : Int)), (.list (.int .i64) ([] : List Int) .exact), (.list (.int .i64) ([] : List Int) .exact)]), (.pair (.int .i64) (.pair (.int .i64) (.pair (.int .i64) (.pair (.slice (.int .i64)) (.slice (.int .i64)))))), true, true⟩,
 ⟨.func, 1, 8, .nilf, .unit, true, false⟩,
 ⟨.func, 1, 8, .nilf, .unit, true, false⟩,
 ⟨.func, 1, 8, .nilf, .unit, true, false⟩,
 ⟨.func, 1, 8, .nilf, .unit, true, false⟩,
 ⟨.func, 1, 8, .nilf, .unit, true, false⟩,
 ⟨.func, 1, 8, .nilf, .unit, true, false⟩,
 ⟨.func, 1, 8, .nilf, .unit, true, false⟩,
 ⟨.func, 1, 8, .nilf, .unit, true, false⟩,
 ⟨.func, 1, 8, .nilf, .unit, true, false⟩,
 ⟨.slice 31, 1, 24, (.list (.pair (.int .i64) (.pair (.int .i64) (.pair (.slice (.int .i64)) (.slice (.int .i64))))) (([] : List (Int × (Int × ((List Int) × (List Int)))))) .exact), (.slice (.pair (.int .i64) (.pair (.int .i64) (.pair (.slice (.int .i64)) (.slice (.int .i64)))))), true, true⟩,
 ⟨.func, 1, 8, .nilf, .unit, true, false⟩,
 ⟨.other, 0, 0, .undef, .unit, false, false⟩,
 ⟨.func, 1, 8, .nilf, .unit, true, false⟩,
 ⟨.func, 1, 8, .nilf, .unit, true, false⟩,
 ⟨.strct [(0, 3), (1, 3), (2, 22), (3, 22)], 4, 64, (.agg [(.int .i64 (0 : Int)), (.int .i64 (0 : Int)), (.list (.int .i64) ([] : List Int) .exact), (.list (.int .i64) ([] : List Int) .exact)]), (.pair (.int .i64) (.pair (.int .i64) (.pair (.slice (.int .i64)) (.slice (.int .i64))))), true, true⟩,
 ⟨.func, 1, 8, .nilf, .unit, true, false⟩,
 ⟨.func, 1, 8, .nilf, .unit, true, false⟩,
 ⟨.other, 0, 0, .undef, .unit, false, false⟩,
 ⟨.func, 1, 8, .nilf, .unit, true, false⟩,
 ⟨.func, 1, 8, .nilf, .unit, true, false⟩,
 ⟨.other, 0, 0, .undef, .unit, false, false⟩,
 ⟨.func, 1, 8, .nilf, .unit, true, false⟩,
 ⟨.other, 0, 0, .undef, .unit, false, false⟩,
 ⟨.func, 1, 8, .nilf, .unit, true, false⟩,
 ⟨.slice 82, 1, 24, (.list (.pair (.int .i64) (.pair (.int .i64) (.pair (.int .i64) (.pair (.int .i64) (.pair (.slice (.int .i64)) (.slice (.int .i64))))))) (([] : List (Int × (Int × (Int × (Int × ((List Int) × (List Int)))))))) .exact), (.slice (.pair (.int .i64) (.pair (.int .i64) (.pair (.int .i64) (.pair (.int .i64) (.pair (.slice (.int .i64)) (.slice (.int .i64)))))))), true, true⟩,
 ⟨.ptr 80, 1, 8, .nilp, .unit, true, false⟩,
 ⟨.slice 87, 1, 24, (.list (.pair (.slice (.pair (.int .i64) (.pair (.int .i64) (.pair (.slice (.int .i64)) (.slice (.int .i64)))))) (.pair (.int .i64) (.int .i64))) (([] : List ((List (Int × (Int × ((List Int) × (List Int))))) × (Int × Int)))) .exact), (.slice (.pair (.slice (.pair (.int .i64) (.pair (.int .i64) (.pair (.slice (.int .i64)) (.slice (.int .i64)))))) (.pair (.int .i64) (.int .i64)))), true, true⟩,
 ⟨.strct [(0, 78), (1, 22), (2, 22)], 3, 72, (.agg [(.list (.pair (.slice (.pair (.int .i64) (.pair (.int .i64) (.pair (.slice (.int .i64)) (.slice (.int .i64)))))) (.pair (.int .i64) (.int .i64))) (([] : List ((List (Int × (Int × ((List Int) × (List Int))))) × (Int × Int)))) .exact), (.list (.int .i64) ([] : List Int) .exact), (.list (.int .i64) ([] : List Int) .exact)]), (.pair (.slice (.pair (.slice (.pair (.int .i64) (.pair (.int .i64) (.pair (.slice (.int .i64)) (.slice (.int .i64)))))) (.pair (.int .i64) (.int .i64)))) (.pair (.slice (.int .i64)) (.slice (.int .i64)))), true, true⟩,
 ⟨.strct [(0, 78), (1, 22), (2, 22)], 3, 72, (.agg [(.list (.pair (.slice (.pair (.int .i64) (.pair (.int .i64) (.pair (.slice (.int .i64)) (.slice (.int .i64)))))) (.pair (.int .i64) (.int .i64))) (([] : List ((List (Int × (Int × ((List Int) × (List Int))))) × (Int × Int)))) .exact), (.list (.int .i64) ([] : List Int) .exact), (.list (.int .i64) ([] : List Int) .exact)]), (.pair (.slice (.pair (.slice (.pair (.int .i64) (.pair (.int .i64) (.pair (.slice (.int .i64)) (.slice (.int .i64)))))) (.pair (.int .i64) (.int .i64)))) (.pair (.slice (.int .i64)) (.slice (.int .i64)))), true, true⟩,
 ⟨.strct [(0, 3), (1, 3), (2, 31)], 6, 80, (.agg [(.int .i64 (0 : Int)), (.int .i64 (0 : Int)), (.int .i64 (0 : Int)), (.int .i64 (0 : Int)), (.list (.int .i64) ([] : List Int) .exact), (.list (.int .i64) ([] : List Int) .exact)]), (.pair (.int .i64) (.pair (.int .i64) (.pair (.int .i64) (.pair (.int .i64) (.pair (.slice (.int .i64)) (.slice (.int .i64))))))), true, true⟩,
 ⟨.strct [(0, 3), (1, 3), (2, 31)], 6, 80, (.agg [(.int .i64 (0 : Int)), (.int .i64 (0 : Int)), (.int .i64 (0 : Int)), (.int .i64 (0 : Int)), (.list (.int .i64) ([] : List Int) .exact), (.list (.int .i64) ([] : List Int) .exact)]), (.pair (.int .i64) (.pair (.int .i64) (.pair (.int .i64) (.pair (.int .i64) (.pair (.slice (.int .i64)) (.slice (.int .i64))))))), true, true⟩,
 ⟨.func, 1, 8, .nilf, .unit, true, false⟩,
 ⟨.func, 1, 8, .nilf, .unit, true, false⟩,
 ⟨.slice 66, 1, 24, (.list (.pair (.int .i64) (.pair (.int .i64) (.pair (.slice (.int .i64)) (.slice (.int .i64))))) (([] : List (Int × (Int × ((List Int) × (List Int)))))) .exact), (.slice (.pair (.int .i64) (.pair (.int .i64) (.pair (.slice (.int .i64)) (.slice (.int .i64)))))), true, true⟩,
 ⟨.strct [(0, 85), (1, 3), (2, 3)], 3, 40, (.agg [(.list (.pair (.int .i64) (.pair (.int .i64) (.pair (.slice (.int .i64)) (.slice (.int .i64))))) (([] : List (Int × (Int × ((List Int) × (List Int)))))) .exact), (.int .i64 (0 : Int)), (.int .i64 (0 : Int))]), (.pair (.slice (.pair (.int .i64) (.pair (.int .i64) (.pair (.slice (.int .i64)) (.slice (.int .i64)))))) (.pair (.int .i64) (.int .i64))), true, true⟩,
 ⟨.strct [(0, 85), (1, 3), (2, 3)], 3, 40, (.agg [(.list (.pair (.int .i64) (.pair (.int .i64) (.pair (.slice (.int .i64)) (.slice (.int .i64))))) (([] : List (Int × (Int × ((List Int) × (List Int)))))) .exact), (.int .i64 (0 : Int)), (.int .i64 (0 : Int))]), (.pair (.slice (.pair (.int .i64) (.pair (.int .i64) (.pair (.slice (.int .i64)) (.slice (.int .i64)))))) (.pair (.int .i64) (.int .i64))), true, true⟩,
 ⟨.func, 1, 8, .nilf, .unit, true, false⟩,
 ⟨.map 3 92, 1, 8, .nilm, .unit, true, false⟩,
 ⟨.strct [(0, 89), (1, 3), (2, 3), (3, 22)], 4, 48, (.agg [.nilm, (.int .i64 (0 : Int)), (.int .i64 (0 : Int)), (.list (.int .i64) ([] : List Int) .exact)]), .unit, true, false⟩,
 ⟨.strct [(0, 89), (1, 3), (2, 3), (3, 22)], 4, 48, (.agg [.nilm, (.int .i64 (0 : Int)), (.int .i64 (0 : Int)), (.list (.int .i64) ([] : List Int) .exact)]), .unit, true, false⟩,
 ⟨.ptr 95, 1, 8, .nilp, .unit, true, false⟩,
 ⟨.func, 1, 8, .nilf, .unit, true, false⟩,
 ⟨.strct [(0, 61), (1, 3), (2, 22)], 3, 56, (.agg [(.list (.pair (.int .i64) (.pair (.int .i64) (.pair (.slice (.int .i64)) (.slice (.int .i64))))) (([] : List (Int × (Int × ((List Int) × (List Int)))))) .exact), (.int .i64 (0 : Int)), (.list (.int .i64) ([] : List Int) .exact)]), (.pair (.slice (.pair (.int .i64) (.pair (.int .i64) (.pair (.slice (.int .i64)) (.slice (.int .i64)))))) (.pair (.int .i64) (.slice (.int .i64)))), true, true⟩,
 ⟨.strct [(0, 61), (1, 3), (2, 22)], 3, 56, (.agg [(.list (.pair (.int .i64) (.pair (.int .i64) (.pair (.slice (.int .i64)) (.slice (.int .i64))))) (([] : List (Int × (Int × ((List Int) × (List Int)))))) .exact), (.int .i64 (0 : Int)), (.list (.int .i64) ([] : List Int) .exact)]), (.pair (.slice (.pair (.int .i64) (.pair (.int .i64) (.pair (.slice (.int .i64)) (.slice (.int .i64)))))) (.pair (.int .i64) (.slice (.int .i64)))), true, true⟩,
 ⟨.func, 1, 8, .nilf, .unit, true, false⟩,
 ⟨.func, 1, 8, .nilf, .unit, true, false⟩,
 ⟨.func, 1, 8, .nilf, .unit, true, false⟩,
 ⟨.func, 1, 8, .nilf, .unit, true, false⟩,
 ⟨.other, 0, 0, .undef, .unit, false, false⟩,
 ⟨.func, 1, 8, .nilf, .unit, true, false⟩,
 ⟨.strct [(0, 9), (1, 5)], 2, 24, (.agg [(.str ([] : List UInt8)), (.int .u8 (0 : Int))]), (.pair .str (.int .u8)), true, true⟩,
 ⟨.strct [(0, 9), (1, 5)], 2, 24, (.agg [(.str ([] : List UInt8)), (.int .u8 (0 : Int))]), (.pair .str (.int .u8)), true, true⟩,
 ⟨.arr 64 103, 128, 1536, (.agg [(.str ([] : List UInt8)), (.int .u8 (0 : Int)), (.str ([] : List UInt8)), (.int .u8 (0 : Int)), (.str ([] : List UInt8)), (.int .u8 (0 : Int)), (.str ([] : List UInt8)), (.int .u8 (0 : Int)), (.str ([] : List UInt8)), (.int .u8 (0 : Int)), (.str ([] : List UInt8)), (.int .u8 (0 : Int)), (.str ([] : List UInt8)), (.int .u8 (0 : Int)), (.str ([] : List UInt8)), (.int .u8 (0 : Int)), (.str ([] : List UInt8)), (.int .u8 (0 : Int)), (.str ([] : List UInt8)), (.int .u8 (0 : Int)), (.str ([] : List UInt8)), (.int .u8 (0 : Int)), (.str ([] : List UInt8)), (.int .u8 (0 : Int)), (.str ([] : List UInt8)), (.int .u8 (0 : Int)), (.str ([] : List UInt8)), (.int .u8 (0 : Int)), (.str ([] : List UInt8)), (.int .u8 (0 : Int)), (.str ([] : List UInt8)), (.int .u8 (0 : Int)), (.str ([] : List UInt8)), (.int .u8 (0 : Int)), (.str ([] : List UInt8)), (.int .u8 (0 : Int)), (.str ([] : List UInt8)), (.int .u8 (0 : Int)), (.str ([] : List UInt8)), (.int .u8 (0 : Int)), (.str ([] : List UInt8)), (.int .u8 (0 : Int)), (.str ([] : List UInt8)), (.int .u8 (0 : Int)), (.str ([] : List UInt8)), (.int .u8 (0 : Int)), (.str ([] : List UInt8)), (.int .u8 (0 : Int)), (.str ([] : List UInt8)), (.int .u8 (0 : Int)), (.str ([] : List UInt8)), (.int .u8 (0 : Int)), (.str ([] : List UInt8)), (.int .u8 (0 : Int)), (.str ([] : List UInt8)), (.int .u8 (0 : Int)), (.str ([] : List UInt8)), (.int .u8 (0 : Int)), (.str ([] : List UInt8)), (.int .u8 (0 : Int)), (.str ([] : List UInt8)), (.int .u8 (0 : Int)), (.str ([] : List UInt8)), (.int .u8 (0 : Int)), (.str ([] : List UInt8)), (.int .u8 (0 : Int)), (.str ([] : List UInt8)), (.int .u8 (0 : Int)), (.str ([] : List UInt8)), (.int .u8 (0 : Int)), (.str ([] : List UInt8)), (.int .u8 (0 : Int)), (.str ([] : List UInt8)), (.int .u8 (0 : Int)), (.str ([] : List UInt8)), (.int .u8 (0 : Int)), (.str ([] : List UInt8)), (.int .u8 (0 : Int)), (.str ([] : List UInt8)), (.int .u8 (0 : Int)), (.str ([] : List UInt8)), (.int .u8 (0 : Int)), (.str ([] : List UInt8)), (.int .u8 (0 : Int)), (.str ([] : List UInt8)), (.int .u8 (0 : Int)), (.str ([] : List UInt8)), (.int .u8 (0 : Int)), (.str ([] : List UInt8)), (.int .u8 (0 : Int)), (.str ([] : List UInt8)), (.int .u8 (0 : Int)), (.str ([] : List UInt8)), (.int .u8 (0 : Int)), (.str ([] : List UInt8)), (.int .u8 (0 : Int)), (.str ([] : List UInt8)), (.int .u8 (0 : Int)), (.str ([] : List UInt8)), (.int .u8 (0 : Int)), (.str ([] : List UInt8)), (.int .u8 (0 : Int)), (.str ([] : List UInt8)), (.int .u8 (0 : Int)), (.str ([] : List UInt8)), (.int .u8 (0 : Int)), (.str ([] : List UInt8)), (.int .u8 (0 : Int)), (.str ([] : List UInt8)), (.int .u8 (0 : Int)), (.str ([] : List UInt8)), (.int .u8 (0 : Int)), (.str ([] : List UInt8)), (.int .u8 (0 : Int)), (.str ([] : List UInt8)), (.int .u8 (0 : Int)), (.str ([] : List UInt8)), (.int .u8 (0 : Int)), (.str ([] : List UInt8)), (.int .u8 (0 : Int)), (.str ([] : List UInt8)), (.int .u8 (0 : Int)), (.str ([] : List UInt8)), (.int .u8 (0 : Int)), (.str ([] : List UInt8)), (.int .u8 (0 : Int)), (.str ([] : List UInt8)), (.int .u8 (0 : Int))]), .unit, true, false⟩,
 ⟨.func, 1, 8, .nilf, .unit, true, false⟩,
 ⟨.slice 9, 1, 24, (.list .str (([] : List (List UInt8))) .exact), (.slice .str), true, true⟩,
 ⟨.func, 1, 8, .nilf, .unit, true, false⟩,
 ⟨.other, 0, 0, .undef, .unit, false, false⟩,
 ⟨.func, 1, 8, .nilf, .unit, true, false⟩,
 ⟨.func, 1, 8, .nilf, .unit, true, false⟩,
 ⟨.other, 0, 0, .undef, .unit, false, false⟩,
 ⟨.func, 1, 8, .nilf, .unit, true, false⟩,
 ⟨.func, 1, 8, .nilf, .unit, true, false⟩,
 ⟨.func, 1, 8, .nilf, .unit, true, false⟩,
 ⟨.func, 1, 8, .nilf, .unit, true, false⟩,
 ⟨.func, 1, 8, .nilf, .unit, true, false⟩,
 ⟨.func, 1, 8, .nilf, .unit, true, false⟩,
 ⟨.func, 1, 8, .nilf, .unit, true, false⟩,
 ⟨.func, 1, 8, .nilf, .unit, true, false⟩,
 ⟨.func, 1, 8, .nilf, .unit, true, false⟩,
 ⟨.func, 1, 8, .nilf, .unit, true, false⟩,
 ⟨.func, 1, 8, .nilf, .unit, true, false⟩,
 ⟨.func, 1, 8, .nilf, .unit, true, false⟩,
 ⟨.func, 1, 8, .nilf, .unit, true, false⟩,
 ⟨.func, 1, 8, .nilf, .unit, true, false⟩,
 ⟨.other, 0, 0, .undef, .unit, false, false⟩,
 ⟨.func, 1, 8, .nilf, .unit, true, false⟩,
 ⟨.func, 1, 8, .nilf, .unit, true, false⟩,
 ⟨.other, 0, 0, .undef, .unit, false, false⟩,
 ⟨.func, 1, 8, .nilf, .unit, true, false⟩,
 ⟨.func, 1, 8, .nilf, .unit, true, false⟩,
 ⟨.ptr 3, 1, 8, .nilp, .unit, true, false⟩,
 ⟨.map 3 3, 1, 8, .nilm, .unit, true, false⟩,
 ⟨.func, 1, 8, .nilf, .unit, true, false⟩,
 ⟨.func, 1, 8, .nilf, .unit, true, false⟩,
 ⟨.slice 4, 1, 24, (.list .bool ([] : List Bool) .exact), (.slice .bool), true, true⟩,
 ⟨.func, 1, 8, .nilf, .unit, true, false⟩,
 ⟨.func, 1, 8, .nilf, .unit, true, false⟩,
 ⟨.int .u64, 1, 8, (.int .u64 (0 : Int)), (.int .u64), true, true⟩,
 ⟨.func, 1, 8, .nilf, .unit, true, false⟩,
 ⟨.func, 1, 8, .nilf, .unit, true, false⟩,
 ⟨.slice 132, 1, 24, .nils, .unit, true, false⟩,
 ⟨.func, 1, 8, .nilf, .unit, true, false⟩,
 ⟨.func, 1, 8, .nilf, .unit, true, false⟩,
 ⟨.func, 1, 8, .nilf, .unit, true, false⟩,
 ⟨.func, 1, 8, .nilf, .unit, true, false⟩,
 ⟨.func, 1, 8, .nilf, .unit, true, false⟩,
 ⟨.int .i64, 1, 8, (.int .i64 (0 : Int)), (.int .i64), true, true⟩,
 ⟨.other, 0, 0, .undef, .unit, false, false⟩,
 ⟨.func, 1, 8, .nilf, .unit, true, false⟩,
 ⟨.func, 1, 8, .nilf, .unit, true, false⟩,
 ⟨.func, 1, 8, .nilf, .unit, true, false⟩,
 ⟨.func, 1, 8, .nilf, .unit, true, false⟩,
 ⟨.func, 1, 8, .nilf, .unit, true, false⟩,
 ⟨.int .u32, 1, 4, (.int .u32 (0 : Int)), (.int .u32), true, true⟩,
 ⟨.func, 1, 8, .nilf, .unit, true, false⟩,
 ⟨.int .u64, 1, 8, (.int .u64 (0 : Int)), (.int .u64), true, true⟩,
 ⟨.int .u64, 1, 8, (.int .u64 (0 : Int)), (.int .u64), true, true⟩,
 ⟨.func, 1, 8, .nilf, .unit, true, false⟩,
 ⟨.func, 1, 8, .nilf, .unit, true, false⟩,
 ⟨.func, 1, 8, .nilf, .unit, true, false⟩,
 ⟨.func, 1, 8, .nilf, .unit, true, false⟩,
 ⟨.ptr 158, 1, 8, .nilp, .unit, true, false⟩,
 ⟨.other, 0, 0, .undef, .unit, false, false⟩,
 ⟨.func, 1, 8, .nilf, .unit, true, false⟩,
 ⟨.func, 1, 8, .nilf, .unit, true, false⟩,
 ⟨.strct [(0, 17), (1, 17), (2, 17), (3, 9)], 4, 40, (.agg [.nilp, .nilp, .nilp, (.str ([] : List UInt8))]), .unit, true, false⟩,
 ⟨.strct [(0, 17), (1, 17), (2, 17), (3, 9)], 4, 40, (.agg [.nilp, .nilp, .nilp, (.str ([] : List UInt8))]), .unit, true, false⟩,
 ⟨.arr 0 16, 0, 0, (.agg []), .unit, true, false⟩,
 ⟨.strct [(0, 169)], 0, 0, (.agg []), .unit, true, false⟩,
 ⟨.strct [(0, 169)], 0, 0, (.agg []), .unit, true, false⟩,
 ⟨.int .u8, 1, 1, (.int .u8 (0 : Int)), (.int .u8), true, true⟩,
 ⟨.int .u8, 1, 1, (.int .u8 (0 : Int)), (.int .u8), true, true⟩,
 ⟨.func, 1, 8, .nilf, .unit, true, false⟩,
 ⟨.ptr 5, 1, 8, .nilp, .unit, true, false⟩,
 ⟨.int .i32, 1, 4, (.int .i32 (0 : Int)), (.int .i32), true, true⟩,
 ⟨.int .i32, 1, 4, (.int .i32 (0 : Int)), (.int .i32), true, true⟩,
 ⟨.strct [(0, 12), (1, 12), (2, 155), (3, 172), (4, 5), (5, 5), (6, 173), (7, 174), (8, 175), (9, 176), (10, 177)], 11, 48, (.agg [(.int .u64 (0 : Int)), (.int .u64 (0 : Int)), (.int .u32 (0 : Int)), (.int .u8 (0 : Int)), (.int .u8 (0 : Int)), (.int .u8 (0 : Int)), (.int .u8 (0 : Int)), .nilf, .nilp, (.int .i32 (0 : Int)), (.int .i32 (0 : Int))]), .unit, true, false⟩,
 ⟨.strct [(0, 12), (1, 12), (2, 155), (3, 172), (4, 5), (5, 5), (6, 173), (7, 174), (8, 175), (9, 176), (10, 177)], 11, 48, (.agg [(.int .u64 (0 : Int)), (.int .u64 (0 : Int)), (.int .u32 (0 : Int)), (.int .u8 (0 : Int)), (.int .u8 (0 : Int)), (.int .u8 (0 : Int)), (.int .u8 (0 : Int)), .nilf, .nilp, (.int .i32 (0 : Int)), (.int .i32 (0 : Int))]), .unit, true, false⟩,
 ⟨.other, 0, 0, .undef, .unit, false, false⟩]
theorem tt_ok : TTOK Try.prog tt := ttok_of (by kernel_rfl)
end Go.Proofs.Ytaaedebknacheaa.AB

set_option linter.unusedVariables false
set_option linter.unusedSimpArgs false
namespace Go.Proofs.Ytaaedebknacheaa.AB
open Go

theorem mix : Try.prog.follows .mixedOrders = true := by kernel_rfl

theorem pcOf {X : Cx} (hX : X.tt = tt) (hfn : fnsB Try.prog X.fns) {d : Nat} {f : FuncId} {fn : Func} (hf : Try.prog.funcs[f]? = some fn) (hname : fn.name ≠ "runtime.NumGoroutine") {args : List V} {r : V}
    (h : fnK X.tt (callN Try.prog X d) (X.md f) (X.mk1 f) fn (args.map .v) ⟨[], [], ⟨0, []⟩⟩ (topK fun v => v.norm = r ∧ r.nt = true)) : PC Try.prog f args r := by
  have htt : TTOK Try.prog X.tt := by rw [hX]; exact tt_ok
  exact PC.of htt (callN_sound htt mix (fun f fn => fnsB_spec hfn f fn) d) (callN_det d) mix hf hname h

theorem wrap64 {x : Int} (h1 : -9223372036854775808 ≤ x) (h2 : x ≤ 9223372036854775807) : IntKind.wrap .i64 x = x := by
  have e : IntKind.wrap .i64 x = (if 9223372036854775808 ≤ x % 18446744073709551616 then x % 18446744073709551616 - 18446744073709551616 else x % 18446744073709551616) := by
    simp [IntKind.wrap, IntKind.bits, IntKind.signed]
  rw [e]
  split <;> omega

theorem take_succ_eq {α : Type} [DecidableEq α] {a b : List α} {n : Nat} {d : α} (h : a.take n = b.take n) (hn : n < a.length) (hm : n < b.length) (he : a.getD n d = b.getD n d) : a.take (n + 1) = b.take (n + 1) := by
  rw [List.take_succ_eq_append_getElem hn, List.take_succ_eq_append_getElem hm, h]
  simp only [List.getD, List.getElem?_eq_getElem hn, List.getElem?_eq_getElem hm, Option.getD_some] at he
  rw [he]

/-- a list of ours that may be appended to -/
def Tok.fresh (t : Tok) (T : Toks) : Prop :=
  match t with
  | .no => False
  | .exact => True
  | .tk n => n ∈ T.l ∧ n < T.n

def Tok.ne (t u : Tok) : Prop :=
  match t, u with
  | .tk a, .tk b => a ≠ b
  | _, _ => True

theorem Tok.fresh.own {t : Tok} {T : Toks} (h : t.fresh T) : t.own T.l := by
  cases t with
  | no => exact h
  | exact => trivial
  | tk n => exact h.1

theorem Tok.fresh.up {t : Tok} {n m : Nat} {l : List Nat} (h : t.fresh ⟨n, l⟩) (hm : n ≤ m) : t.fresh ⟨m, l⟩ := by
  cases t with
  | no => exact h
  | exact => trivial
  | tk k => exact ⟨h.1, Nat.lt_of_lt_of_le h.2 hm⟩

theorem Tok.fresh_new (n : Nat) (l : List Nat) : (Tok.tk n).fresh ⟨n + 1, n :: l⟩ := ⟨by simp, Nat.lt_succ_self _⟩

theorem Tok.fresh.keep {t u : Tok} {T : Toks} (h : t.fresh T) (hne : u.ne t) : t.fresh ⟨T.n + 1, T.n :: u.drop T.l⟩ := by
  cases t with
  | no => exact h
  | exact => trivial
  | tk n =>
    refine ⟨List.mem_cons_of_mem _ ?_, Nat.lt_succ_of_lt h.2⟩
    cases u with
    | no => exact h.1
    | exact => exact h.1
    | tk m =>
      show n ∈ List.filter _ _
      rw [List.mem_filter]
      exact ⟨h.1, by simpa using fun e : n = m => hne e.symm⟩

theorem Tok.fresh.ne_new {t : Tok} {T : Toks} (h : t.fresh T) : t.ne (.tk T.n) := by
  cases t with
  | no => exact h.elim
  | exact => trivial
  | tk n => exact Nat.ne_of_lt h.2

theorem Tok.fresh.new_ne {t : Tok} {T : Toks} (h : t.fresh T) : (Tok.tk T.n).ne t := by
  cases t with
  | no => exact h.elim
  | exact => trivial
  | tk n => exact Nat.ne_of_gt h.2

/-- the elements of a list of lists may each be appended to -/
def FrT (ts : Nat → Tok) (T : Toks) : Prop := (∀ j, (ts j).fresh T) ∧ ∀ i j, i ≠ j → (ts i).ne (ts j)

theorem FrT.exact (T : Toks) : FrT (fun _ => .exact) T := ⟨fun _ => trivial, fun _ _ _ => trivial⟩

theorem FrT.upd {ts : Nat → Tok} {T : Toks} (h : FrT ts T) (i : Nat) : FrT (fun j => if j = i then .tk T.n else ts j) ⟨T.n + 1, T.n :: (ts i).drop T.l⟩ := by
  refine ⟨fun j => ?_, fun j k hjk => ?_⟩
  · by_cases e : j = i
    · simp only [e, if_true]; exact Tok.fresh_new _ _
    · simp only [e, if_false]; exact (h.1 j).keep (h.2 i j (fun e' => e e'.symm))
  · by_cases e : j = i
    · by_cases e' : k = i
      · exact absurd (e.trans e'.symm) hjk
      · simp only [e, e', if_true, if_false]; exact (h.1 k).new_ne
    · by_cases e' : k = i
      · simp only [e, e', if_true, if_false]; exact (h.1 j).ne_new
      · simp only [e, e', if_false]; exact h.2 j k hjk

end Go.Proofs.Ytaaedebknacheaa.AB

set_option linter.unusedVariables false
set_option linter.unusedSimpArgs false
set_option maxRecDepth 100000
set_option maxHeartbeats 2000000
namespace Go.Proofs.Ytaaedebknacheaa.AB
open Go
/-! crucible/crucibleref4.Ends -/
noncomputable def X31 : Cx := ⟨tt, [], [], [], []⟩
theorem FN31 : fnsB Try.prog X31.fns := (show True from trivial)
theorem E31 (op0 : Int) {R : V → Prop} (h : (((op0 == (20 : Int)) = true → R (.bool true)) ∧ ((op0 == (20 : Int)) = false → (((op0 == (30 : Int)) = true → R (.bool true)) ∧ ((op0 == (30 : Int)) = false → (((decide (op0 ≥ (44 : Int))) = true → R (.bool ((decide (op0 ≤ (46 : Int)))))) ∧ ((decide (op0 ≥ (44 : Int))) = false → R (.bool false)))))))) :
  fnK X31.tt (callN Try.prog X31 0) (X31.md 31) (X31.mk1 31) Try.f31 [(.v (.int .i64 op0))] ⟨[], [], ⟨0, []⟩⟩ (topK R) := Eq.mp (by kernel_rfl) h
end Go.Proofs.Ytaaedebknacheaa.AB

set_option linter.unusedVariables false
set_option linter.unusedSimpArgs false
set_option maxRecDepth 100000
set_option maxHeartbeats 2000000
namespace Go.Proofs.Ytaaedebknacheaa.AB
open Go
/-! crucible/code.Ends -/
noncomputable def X30 : Cx := ⟨tt, [], [], [], []⟩
theorem FN30 : fnsB Try.prog X30.fns := (show True from trivial)
theorem E30 (op0 : Int) {R : V → Prop} (h : (((op0 == (20 : Int)) = true → (((op0 == (20 : Int)) = true → R (.bool true)) ∧
 ((op0 == (20 : Int)) = false → R (.bool false)))) ∧
 ((op0 == (20 : Int)) = false → (((op0 == (30 : Int)) = true → (((op0 == (30 : Int)) = true → R (.bool true)) ∧
 ((op0 == (30 : Int)) = false → R (.bool false)))) ∧
 ((op0 == (30 : Int)) = false → (((op0 == (44 : Int)) = true → (((op0 == (44 : Int)) = true → R (.bool true)) ∧
 ((op0 == (44 : Int)) = false → R (.bool false)))) ∧
 ((op0 == (44 : Int)) = false → (((op0 == (45 : Int)) = true → (((op0 == (45 : Int)) = true → R (.bool true)) ∧
 ((op0 == (45 : Int)) = false → R (.bool false)))) ∧
 ((op0 == (45 : Int)) = false → (((op0 == (46 : Int)) = true → R (.bool true)) ∧
 ((op0 == (46 : Int)) = false → R (.bool false)))))))))))) :
  fnK X30.tt (callN Try.prog X30 0) (X30.md 30) (X30.mk1 30) Try.f30 [(.v (.int .i64 op0))] ⟨[], [], ⟨0, []⟩⟩ (topK R) := Eq.mp (by kernel_rfl) h
end Go.Proofs.Ytaaedebknacheaa.AB

set_option linter.unusedVariables false
set_option linter.unusedSimpArgs false
namespace Go.Proofs.Ytaaedebknacheaa.AB
open Go

theorem retB {b c : Bool} (h : b = c) : (V.bool b).norm = .bool c ∧ (V.bool c).nt = true := ⟨congrArg _ h, rfl⟩
theorem retI {k : IntKind} {b c : Int} (h : b = c) : (V.int k b).norm = .int k c ∧ (V.int k c).nt = true := ⟨congrArg _ h, rfl⟩

/-- the ops behind which nothing comes -/
def isEnd (op : Int) : Bool := op == 20 || op == 30 || (decide (44 ≤ op) && decide (op ≤ 46))

theorem p31 (op : Int) : PC Try.prog 31 [.int .i64 op] (.bool (isEnd op)) := by
  refine pcOf (X := X31) (d := 0) rfl trivial (by kernel_rfl) (by decide) (E31 op ⟨fun h => ?_, fun h => ⟨fun h2 => ?_, fun h2 => ⟨fun h3 => ?_, fun h3 => ?_⟩⟩⟩)
  · exact retB (by simp [isEnd, h])
  · exact retB (by simp [isEnd, h2])
  · have h3' : 44 ≤ op := by simpa using h3
    exact retB (by simp [isEnd, h, h2, h3'])
  · have h3' : ¬ 44 ≤ op := by simpa using h3
    exact retB (by simp [isEnd, h, h2, h3'])

theorem p30 (op : Int) : PC Try.prog 30 [.int .i64 op] (.bool (isEnd op)) := by
  refine pcOf (X := X30) (d := 0) rfl trivial (by kernel_rfl) (by decide) (E30 op ⟨fun h => ⟨fun _ => ?_, fun h' => ?_⟩, fun h1 => ⟨fun h => ⟨fun _ => ?_, fun h' => ?_⟩, fun h2 => ⟨fun h => ⟨fun _ => ?_, fun h' => ?_⟩, fun h3 =>
    ⟨fun h => ⟨fun _ => ?_, fun h' => ?_⟩, fun h4 => ⟨fun h => ?_, fun h5 => ?_⟩⟩⟩⟩⟩)
  all_goals simp only [beq_iff_eq, beq_eq_false_iff_ne] at *
  all_goals refine retB ?_
  all_goals simp only [isEnd]
  all_goals first
    | omega
    | (have e : ∀ a b : Bool, (a = true ↔ b = true) → a = b := by decide
       refine e _ _ ?_
       simp only [Bool.or_eq_true, Bool.and_eq_true, beq_iff_eq, decide_eq_true_eq, true_iff, false_iff, Bool.false_eq_true]
       omega)

end Go.Proofs.Ytaaedebknacheaa.AB

set_option linter.unusedVariables false
set_option linter.unusedSimpArgs false
set_option maxRecDepth 100000
set_option maxHeartbeats 2000000
namespace Go.Proofs.Ytaaedebknacheaa.AB
open Go
/-! crucible/crucibleref4.Index -/
noncomputable def X38 : Cx := ⟨tt, [], [], [(38, [(0, mkM 20 0 [0, 1, 5], 0)])], []⟩
theorem FN38 : fnsB Try.prog X38.fns := (show True from trivial)
def M38_0 : List Bool × Nat := (mkM 20 0 [0, 1, 5], 0)
def S38_0 (l0 : List (Int × (Int × (Int × ((List Int) × (List Int)))))) (pc1 : Int) (i5 : Int) (T : Toks) : St :=
  mkS 20 [(0, (.v (.list (.pair (.int .i64) (.pair (.int .i64) (.pair (.int .i64) (.pair (.slice (.int .i64)) (.slice (.int .i64)))))) l0 .no))), (1, (.v (.int .i64 pc1))), (5, (.v (.int .i64 i5)))] [] T
noncomputable def B38_0 : (Exit → St → Prop) → St → Prop := (awp X38.tt (callN Try.prog X38 0) (X38.md 38) 0 (X38.mk1 38) 0 (codeAt [1, 0, 1, 0, 0] (bd Try.f38)))
noncomputable def K38_0 (R : V → Prop) : Exit → St → Prop := seqK ((awp X38.tt (callN Try.prog X38 0) (X38.md 38) 0 (X38.mk1 38) 0 (codeAt [1, 1] (bd Try.f38))) (retK tt Try.f38.results.toList fun x s' => topK R x ⟨[], s'.hp, s'.T⟩)) (retK tt Try.f38.results.toList fun x s' => topK R x ⟨[], s'.hp, s'.T⟩)
noncomputable def Q38_0 (R : V → Prop) : Exit → St → Prop := (blockK 0 (K38_0 R))
theorem E38 (l0 : (List (Int × (Int × (Int × ((List Int) × (List Int))))))) (pc1 : Int) {R : V → Prop} (h : (Loops B38_0 M38_0 (Q38_0 R)
  (S38_0 l0 pc1 (0 : Int) ⟨0, []⟩))) :
  fnK X38.tt (callN Try.prog X38 0) (X38.md 38) (X38.mk1 38) Try.f38 [(.v (.list (.pair (.int .i64) (.pair (.int .i64) (.pair (.int .i64) (.pair (.slice (.int .i64)) (.slice (.int .i64)))))) l0 .no)), (.v (.int .i64 pc1))] ⟨[], [], ⟨0, []⟩⟩ (topK R) := Eq.mp (by kernel_rfl) h
theorem L38_0 (l0 : List (Int × (Int × (Int × ((List Int) × (List Int)))))) (pc1 : Int) (i5 : Int) (T : Toks) {R : V → Prop} {k0 : St → Prop}
 (h : (((decide (i5 < ((l0).length : Int))) = true → (0 ≤ i5 ∧ i5 < ((l0).length : Int) ∧ ((((l0.getD (i5).toNat (0, (0, (0, ([], []))))).1 == pc1) = true → R (.int .i64 i5)) ∧
 (((l0.getD (i5).toNat (0, (0, (0, ([], []))))).1 == pc1) = false → k0 (S38_0 l0 pc1 ((IntKind.wrap .i64 (i5 + (1 : Int)))) T))))) ∧
 ((decide (i5 < ((l0).length : Int))) = false → R (.int .i64 (-1 : Int))))) :
  B38_0 (loopQ M38_0 k0 (Q38_0 R)) (S38_0 l0 pc1 i5 T) := Eq.mp (by kernel_rfl) h
end Go.Proofs.Ytaaedebknacheaa.AB

set_option linter.unusedVariables false
set_option linter.unusedSimpArgs false
namespace Go.Proofs.Ytaaedebknacheaa.AB
open Go

abbrev Ins : Type := Int × (Int × (Int × ((List Int) × (List Int))))
abbrev cIns : Cd := .pair (.int .i64) (.pair (.int .i64) (.pair (.int .i64) (.pair (.slice (.int .i64)) (.slice (.int .i64)))))

/-- where a place of code stands in a list -/
def idx (l : List Ins) (pc : Int) : Int := match l.findIdx? (fun x => x.1 == pc) with
  | some i => (i : Int)
  | none => -1

theorem p38 (l : List Ins) (pc : Int) (hl : l.length < 9223372036854775807) : PC Try.prog 38 [.list cIns l .no, .int .i64 pc] (.int .i64 (idx l pc)) := by
  refine pcOf (X := X38) (d := 0) rfl trivial (by kernel_rfl) (by decide) (E38 l pc ?_)
  refine Loops.intro (fun n : Nat => S38_0 l pc n ⟨0, []⟩) (fun n => n ≤ l.length ∧ ∀ i, i < n → ∀ h : i < l.length, (l[i]).1 ≠ pc) (fun n => l.length - n) 0 rfl ⟨Nat.zero_le _, fun i hi => absurd hi (Nat.not_lt_zero _)⟩ ?_
  rintro n ⟨hn, hb⟩
  refine L38_0 l pc n ⟨0, []⟩ ⟨fun h => ?_, fun h => ?_⟩
  · have hlt : n < l.length := by simpa using h
    have hg : l.getD n (0, (0, (0, ([], [])))) = l[n] := by simp [List.getD, hlt]
    refine ⟨by omega, by omega, fun h => ?_, fun h => ?_⟩
    · have he : (l[n]).1 = pc := by rw [← hg]; simpa using h
      refine retI ?_
      have : l.findIdx? (fun x => x.1 == pc) = some n := by
        rw [List.findIdx?_eq_some_iff_getElem]
        exact ⟨hlt, by simpa using he, fun j hj => by simpa using hb j hj (by omega)⟩
      unfold idx; rw [this]
    · have he : (l[n]).1 ≠ pc := by rw [← hg]; simpa using h
      rw [wrap64 (by omega) (by omega)]
      refine Again.mk (n + 1) rfl ⟨by omega, fun i hi hil => ?_⟩ (by omega)
      rcases Nat.lt_or_ge i n with h' | h'
      · exact hb i h' hil
      · have : i = n := by omega
        subst this; exact he
  · have hge : n = l.length := by
      have : ¬ ((n : Int) < l.length) := by simpa using h
      omega
    refine retI ?_
    have : l.findIdx? (fun x => x.1 == pc) = none := by
      rw [List.findIdx?_eq_none_iff]
      intro x hx
      obtain ⟨i, hi, rfl⟩ := List.getElem_of_mem hx
      simpa using hb i (by omega) hi
    unfold idx; rw [this]

end Go.Proofs.Ytaaedebknacheaa.AB

set_option linter.unusedVariables false
set_option linter.unusedSimpArgs false
set_option maxRecDepth 100000
set_option maxHeartbeats 2000000
namespace Go.Proofs.Ytaaedebknacheaa.AB
open Go
/-! crucible/crucibleref4.one -/
noncomputable def X65 : Cx := ⟨tt, [(29, [.cd (.int .u8)]), (93, [.cd (.int .i64)]), (94, [.cd (.int .i64)])], [], [(65, [(2, mkM 115 0 [1, 4, 8, 9, 12, 13], 2)])], []⟩
theorem FN65 : fnsB Try.prog X65.fns := (show True from trivial)
def M65_2 : List Bool × Nat := (mkM 115 0 [1, 4, 8, 9, 12, 13], 2)
def S65_2 (pc1 : Int) (rest9 : List UInt8) (n12 : Int) (i13 : Int) (hq0_0 : Int) (hq0_1 : Int) (hq0_2 : Int) (hq0_3 : List Int) (hq0_3k : Tok) (hq0_4 : List Int) (hq0_4k : Tok) (hq1_0 : Int) (hq1_1 : Int) (hq1_2 : Int) (hq1_3 : List Int) (hq1_3k : Tok) (hq1_4 : List Int) (hq1_4k : Tok) (T : Toks) : St :=
  mkS 115 [(1, (.v (.int .i64 pc1))), (4, (.ptr 0 0 0 0)), (8, (.ptr 1 0 0 0)), (9, (.v (.str rest9))), (12, (.v (.int .i64 n12))), (13, (.v (.int .i64 i13)))] [(some (.box (.v (.agg [(.int .i64 hq0_0), (.int .i64 hq0_1), (.int .i64 hq0_2), (.list (.int .i64) hq0_3 hq0_3k), (.list (.int .i64) hq0_4 hq0_4k)])))), (some (.box (.v (.agg [(.int .i64 hq1_0), (.int .i64 hq1_1), (.int .i64 hq1_2), (.list (.int .i64) hq1_3 hq1_3k), (.list (.int .i64) hq1_4 hq1_4k)]))))] T
noncomputable def B65_2 : (Exit → St → Prop) → St → Prop := (awp X65.tt (callN Try.prog X65 0) (X65.md 65) 0 (X65.mk1 65) 2 (codeAt [1, 1, 1, 1, 1, 1, 1, 1, 1, 1, 1, 1, 0, 1, 0, 0] (bd Try.f65)))
noncomputable def K65_0 (R : V → Prop) : Exit → St → Prop := seqK ((awp X65.tt (callN Try.prog X65 0) (X65.md 65) 0 (X65.mk1 65) 0 (codeAt [1, 1, 1, 1, 1, 1, 1, 1, 1, 1, 1, 1, 1] (bd Try.f65))) (retK tt Try.f65.results.toList fun x s' => topK R x ⟨[], s'.hp, s'.T⟩)) (retK tt Try.f65.results.toList fun x s' => topK R x ⟨[], s'.hp, s'.T⟩)
noncomputable def Q65_2 (R : V → Prop) : Exit → St → Prop := (blockK 2 (K65_0 R))
theorem E65 (code0 : (List UInt8)) (pc1 : Int) {R : V → Prop} (h : (0 ≤ pc1 ∧ pc1 < ((code0).length : Int) ∧ (0 ≤ (IntKind.wrap .i64 (pc1 + (1 : Int))) ∧ (IntKind.wrap .i64 (pc1 + (1 : Int))) ≤ ((code0).length : Int) ∧ (∃ p1 : Int, PC Try.prog 29 [(.int .i64 ((IntKind.wrap .i64 ((code0.getD (pc1).toNat 0).toNat : Int))))] (.int .u8 p1) ∧ (((p1 == (0 : Int)) = true → R (.tup [(.agg [(.int .i64 pc1), (.int .i64 ((IntKind.wrap .i64 ((code0.getD (pc1).toNat 0).toNat : Int)))), (.int .i64 (0 : Int)), (.list (.int .i64) ([] : List Int) .no), (.list (.int .i64) ([] : List Int) .no)]), (.int .i64 (0 : Int)), (.int .i64 (11 : Int))])) ∧
 ((p1 == (0 : Int)) = false → (((p1 == (45 : Int)) = true → R (.tup [(.agg [(.int .i64 pc1), (.int .i64 ((IntKind.wrap .i64 ((code0.getD (pc1).toNat 0).toNat : Int)))), (.int .i64 (0 : Int)), (.list (.int .i64) ([] : List Int) .no), (.list (.int .i64) ([] : List Int) .no)]), (.int .i64 (1 : Int)), (.int .i64 (0 : Int))])) ∧
 ((p1 == (45 : Int)) = false → (((p1 == (98 : Int)) = true → (((decide (((((code0.take (code0).length).drop ((IntKind.wrap .i64 (pc1 + (1 : Int)))).toNat)).length : Int) < (1 : Int))) = true → R (.tup [(.agg [(.int .i64 pc1), (.int .i64 ((IntKind.wrap .i64 ((code0.getD (pc1).toNat 0).toNat : Int)))), (.int .i64 (0 : Int)), (.list (.int .i64) ([] : List Int) .no), (.list (.int .i64) ([] : List Int) .no)]), (.int .i64 (0 : Int)), (.int .i64 (5 : Int))])) ∧
 ((decide (((((code0.take (code0).length).drop ((IntKind.wrap .i64 (pc1 + (1 : Int)))).toNat)).length : Int) < (1 : Int))) = false → (((p1 == (98 : Int)) = true → (0 ≤ (0 : Int) ∧ (0 : Int) < ((((code0.take (code0).length).drop ((IntKind.wrap .i64 (pc1 + (1 : Int)))).toNat)).length : Int) ∧ R (.tup [(.agg [(.int .i64 pc1), (.int .i64 ((IntKind.wrap .i64 ((code0.getD (pc1).toNat 0).toNat : Int)))), (.int .i64 ((IntKind.wrap .i64 (((((code0.take (code0).length).drop ((IntKind.wrap .i64 (pc1 + (1 : Int)))).toNat)).getD ((0 : Int)).toNat 0).toNat : Int)))), (.list (.int .i64) ([] : List Int) .no), (.list (.int .i64) ([] : List Int) .no)]), (.int .i64 (2 : Int)), (.int .i64 (0 : Int))]))) ∧
 ((p1 == (98 : Int)) = false → (((p1 == (110 : Int)) = true → (∃ p2 : Int, PC Try.prog 93 [(.str (((code0.take (code0).length).drop ((IntKind.wrap .i64 (pc1 + (1 : Int)))).toNat)))] (.int .i64 p2) ∧ R (.tup [(.agg [(.int .i64 pc1), (.int .i64 ((IntKind.wrap .i64 ((code0.getD (pc1).toNat 0).toNat : Int)))), (.int .i64 p2), (.list (.int .i64) ([] : List Int) .no), (.list (.int .i64) ([] : List Int) .no)]), (.int .i64 (3 : Int)), (.int .i64 (0 : Int))]))) ∧
 ((p1 == (110 : Int)) = false → (((p1 == (106 : Int)) = true → (∃ p3 : Int, PC Try.prog 94 [(.str (((code0.take (code0).length).drop ((IntKind.wrap .i64 (pc1 + (1 : Int)))).toNat)))] (.int .i64 p3) ∧ R (.tup [(.agg [(.int .i64 pc1), (.int .i64 ((IntKind.wrap .i64 ((code0.getD (pc1).toNat 0).toNat : Int)))), (.int .i64 (0 : Int)), (.list (.int .i64) ([] : List Int) .no), (.list (.int .i64) (([(IntKind.wrap .i64 (pc1 + p3))] : List Int)) .no)]), (.int .i64 (3 : Int)), (.int .i64 (0 : Int))]))) ∧
 ((p1 == (106 : Int)) = false → (∃ p4 : Int, PC Try.prog 94 [(.str (((code0.take (code0).length).drop ((IntKind.wrap .i64 (pc1 + (1 : Int)))).toNat)))] (.int .i64 p4) ∧ (0 ≤ (2 : Int) ∧ (2 : Int) ≤ ((((code0.take (code0).length).drop ((IntKind.wrap .i64 (pc1 + (1 : Int)))).toNat)).length : Int) ∧ (∃ p5 : Int, PC Try.prog 93 [(.str ((((((code0.take (code0).length).drop ((IntKind.wrap .i64 (pc1 + (1 : Int)))).toNat)).take (((code0.take (code0).length).drop ((IntKind.wrap .i64 (pc1 + (1 : Int)))).toNat)).length).drop ((2 : Int)).toNat)))] (.int .i64 p5) ∧ (((decide (((((code0.take (code0).length).drop ((IntKind.wrap .i64 (pc1 + (1 : Int)))).toNat)).length : Int) < (IntKind.wrap .i64 ((4 : Int) + (IntKind.wrap .i64 ((4 : Int) * p5)))))) = true → R (.tup [(.agg [(.int .i64 pc1), (.int .i64 ((IntKind.wrap .i64 ((code0.getD (pc1).toNat 0).toNat : Int)))), (.int .i64 (0 : Int)), (.list (.int .i64) ([] : List Int) .no), (.list (.int .i64) (([(IntKind.wrap .i64 (pc1 + p4))] : List Int)) .no)]), (.int .i64 (0 : Int)), (.int .i64 (5 : Int))])) ∧
 ((decide (((((code0.take (code0).length).drop ((IntKind.wrap .i64 (pc1 + (1 : Int)))).toNat)).length : Int) < (IntKind.wrap .i64 ((4 : Int) + (IntKind.wrap .i64 ((4 : Int) * p5)))))) = false → (Loops B65_2 M65_2 (Q65_2 R)
  (S65_2 pc1 (((code0.take (code0).length).drop ((IntKind.wrap .i64 (pc1 + (1 : Int)))).toNat)) p5 (0 : Int) (0 : Int) (0 : Int) (0 : Int) ([] : List Int) .exact ([] : List Int) .exact pc1 ((IntKind.wrap .i64 ((code0.getD (pc1).toNat 0).toNat : Int))) (0 : Int) ([] : List Int) .exact (([(IntKind.wrap .i64 (pc1 + p4))] : List Int)) .exact ⟨0, []⟩)))))))))))))))) ∧
 ((p1 == (98 : Int)) = false → (((p1 == (115 : Int)) = true → (((decide (((((code0.take (code0).length).drop ((IntKind.wrap .i64 (pc1 + (1 : Int)))).toNat)).length : Int) < (4 : Int))) = true → R (.tup [(.agg [(.int .i64 pc1), (.int .i64 ((IntKind.wrap .i64 ((code0.getD (pc1).toNat 0).toNat : Int)))), (.int .i64 (0 : Int)), (.list (.int .i64) ([] : List Int) .no), (.list (.int .i64) ([] : List Int) .no)]), (.int .i64 (0 : Int)), (.int .i64 (5 : Int))])) ∧
 ((decide (((((code0.take (code0).length).drop ((IntKind.wrap .i64 (pc1 + (1 : Int)))).toNat)).length : Int) < (4 : Int))) = false → (((p1 == (98 : Int)) = true → (0 ≤ (0 : Int) ∧ (0 : Int) < ((((code0.take (code0).length).drop ((IntKind.wrap .i64 (pc1 + (1 : Int)))).toNat)).length : Int) ∧ R (.tup [(.agg [(.int .i64 pc1), (.int .i64 ((IntKind.wrap .i64 ((code0.getD (pc1).toNat 0).toNat : Int)))), (.int .i64 ((IntKind.wrap .i64 (((((code0.take (code0).length).drop ((IntKind.wrap .i64 (pc1 + (1 : Int)))).toNat)).getD ((0 : Int)).toNat 0).toNat : Int)))), (.list (.int .i64) ([] : List Int) .no), (.list (.int .i64) ([] : List Int) .no)]), (.int .i64 (2 : Int)), (.int .i64 (0 : Int))]))) ∧
 ((p1 == (98 : Int)) = false → (((p1 == (110 : Int)) = true → (∃ p6 : Int, PC Try.prog 93 [(.str (((code0.take (code0).length).drop ((IntKind.wrap .i64 (pc1 + (1 : Int)))).toNat)))] (.int .i64 p6) ∧ R (.tup [(.agg [(.int .i64 pc1), (.int .i64 ((IntKind.wrap .i64 ((code0.getD (pc1).toNat 0).toNat : Int)))), (.int .i64 p6), (.list (.int .i64) ([] : List Int) .no), (.list (.int .i64) ([] : List Int) .no)]), (.int .i64 (3 : Int)), (.int .i64 (0 : Int))]))) ∧
 ((p1 == (110 : Int)) = false → (((p1 == (106 : Int)) = true → (∃ p7 : Int, PC Try.prog 94 [(.str (((code0.take (code0).length).drop ((IntKind.wrap .i64 (pc1 + (1 : Int)))).toNat)))] (.int .i64 p7) ∧ R (.tup [(.agg [(.int .i64 pc1), (.int .i64 ((IntKind.wrap .i64 ((code0.getD (pc1).toNat 0).toNat : Int)))), (.int .i64 (0 : Int)), (.list (.int .i64) ([] : List Int) .no), (.list (.int .i64) (([(IntKind.wrap .i64 (pc1 + p7))] : List Int)) .no)]), (.int .i64 (3 : Int)), (.int .i64 (0 : Int))]))) ∧
 ((p1 == (106 : Int)) = false → (∃ p8 : Int, PC Try.prog 94 [(.str (((code0.take (code0).length).drop ((IntKind.wrap .i64 (pc1 + (1 : Int)))).toNat)))] (.int .i64 p8) ∧ (0 ≤ (2 : Int) ∧ (2 : Int) ≤ ((((code0.take (code0).length).drop ((IntKind.wrap .i64 (pc1 + (1 : Int)))).toNat)).length : Int) ∧ (∃ p9 : Int, PC Try.prog 93 [(.str ((((((code0.take (code0).length).drop ((IntKind.wrap .i64 (pc1 + (1 : Int)))).toNat)).take (((code0.take (code0).length).drop ((IntKind.wrap .i64 (pc1 + (1 : Int)))).toNat)).length).drop ((2 : Int)).toNat)))] (.int .i64 p9) ∧ (((decide (((((code0.take (code0).length).drop ((IntKind.wrap .i64 (pc1 + (1 : Int)))).toNat)).length : Int) < (IntKind.wrap .i64 ((4 : Int) + (IntKind.wrap .i64 ((4 : Int) * p9)))))) = true → R (.tup [(.agg [(.int .i64 pc1), (.int .i64 ((IntKind.wrap .i64 ((code0.getD (pc1).toNat 0).toNat : Int)))), (.int .i64 (0 : Int)), (.list (.int .i64) ([] : List Int) .no), (.list (.int .i64) (([(IntKind.wrap .i64 (pc1 + p8))] : List Int)) .no)]), (.int .i64 (0 : Int)), (.int .i64 (5 : Int))])) ∧
 ((decide (((((code0.take (code0).length).drop ((IntKind.wrap .i64 (pc1 + (1 : Int)))).toNat)).length : Int) < (IntKind.wrap .i64 ((4 : Int) + (IntKind.wrap .i64 ((4 : Int) * p9)))))) = false → (Loops B65_2 M65_2 (Q65_2 R)
  (S65_2 pc1 (((code0.take (code0).length).drop ((IntKind.wrap .i64 (pc1 + (1 : Int)))).toNat)) p9 (0 : Int) (0 : Int) (0 : Int) (0 : Int) ([] : List Int) .exact ([] : List Int) .exact pc1 ((IntKind.wrap .i64 ((code0.getD (pc1).toNat 0).toNat : Int))) (0 : Int) ([] : List Int) .exact (([(IntKind.wrap .i64 (pc1 + p8))] : List Int)) .exact ⟨0, []⟩)))))))))))))))) ∧
 ((p1 == (115 : Int)) = false → (((decide (((((code0.take (code0).length).drop ((IntKind.wrap .i64 (pc1 + (1 : Int)))).toNat)).length : Int) < (2 : Int))) = true → R (.tup [(.agg [(.int .i64 pc1), (.int .i64 ((IntKind.wrap .i64 ((code0.getD (pc1).toNat 0).toNat : Int)))), (.int .i64 (0 : Int)), (.list (.int .i64) ([] : List Int) .no), (.list (.int .i64) ([] : List Int) .no)]), (.int .i64 (0 : Int)), (.int .i64 (5 : Int))])) ∧
 ((decide (((((code0.take (code0).length).drop ((IntKind.wrap .i64 (pc1 + (1 : Int)))).toNat)).length : Int) < (2 : Int))) = false → (((p1 == (98 : Int)) = true → (0 ≤ (0 : Int) ∧ (0 : Int) < ((((code0.take (code0).length).drop ((IntKind.wrap .i64 (pc1 + (1 : Int)))).toNat)).length : Int) ∧ R (.tup [(.agg [(.int .i64 pc1), (.int .i64 ((IntKind.wrap .i64 ((code0.getD (pc1).toNat 0).toNat : Int)))), (.int .i64 ((IntKind.wrap .i64 (((((code0.take (code0).length).drop ((IntKind.wrap .i64 (pc1 + (1 : Int)))).toNat)).getD ((0 : Int)).toNat 0).toNat : Int)))), (.list (.int .i64) ([] : List Int) .no), (.list (.int .i64) ([] : List Int) .no)]), (.int .i64 (2 : Int)), (.int .i64 (0 : Int))]))) ∧
 ((p1 == (98 : Int)) = false → (((p1 == (110 : Int)) = true → (∃ p10 : Int, PC Try.prog 93 [(.str (((code0.take (code0).length).drop ((IntKind.wrap .i64 (pc1 + (1 : Int)))).toNat)))] (.int .i64 p10) ∧ R (.tup [(.agg [(.int .i64 pc1), (.int .i64 ((IntKind.wrap .i64 ((code0.getD (pc1).toNat 0).toNat : Int)))), (.int .i64 p10), (.list (.int .i64) ([] : List Int) .no), (.list (.int .i64) ([] : List Int) .no)]), (.int .i64 (3 : Int)), (.int .i64 (0 : Int))]))) ∧
 ((p1 == (110 : Int)) = false → (((p1 == (106 : Int)) = true → (∃ p11 : Int, PC Try.prog 94 [(.str (((code0.take (code0).length).drop ((IntKind.wrap .i64 (pc1 + (1 : Int)))).toNat)))] (.int .i64 p11) ∧ R (.tup [(.agg [(.int .i64 pc1), (.int .i64 ((IntKind.wrap .i64 ((code0.getD (pc1).toNat 0).toNat : Int)))), (.int .i64 (0 : Int)), (.list (.int .i64) ([] : List Int) .no), (.list (.int .i64) (([(IntKind.wrap .i64 (pc1 + p11))] : List Int)) .no)]), (.int .i64 (3 : Int)), (.int .i64 (0 : Int))]))) ∧
 ((p1 == (106 : Int)) = false → (∃ p12 : Int, PC Try.prog 94 [(.str (((code0.take (code0).length).drop ((IntKind.wrap .i64 (pc1 + (1 : Int)))).toNat)))] (.int .i64 p12) ∧ (0 ≤ (2 : Int) ∧ (2 : Int) ≤ ((((code0.take (code0).length).drop ((IntKind.wrap .i64 (pc1 + (1 : Int)))).toNat)).length : Int) ∧ (∃ p13 : Int, PC Try.prog 93 [(.str ((((((code0.take (code0).length).drop ((IntKind.wrap .i64 (pc1 + (1 : Int)))).toNat)).take (((code0.take (code0).length).drop ((IntKind.wrap .i64 (pc1 + (1 : Int)))).toNat)).length).drop ((2 : Int)).toNat)))] (.int .i64 p13) ∧ (((decide (((((code0.take (code0).length).drop ((IntKind.wrap .i64 (pc1 + (1 : Int)))).toNat)).length : Int) < (IntKind.wrap .i64 ((4 : Int) + (IntKind.wrap .i64 ((4 : Int) * p13)))))) = true → R (.tup [(.agg [(.int .i64 pc1), (.int .i64 ((IntKind.wrap .i64 ((code0.getD (pc1).toNat 0).toNat : Int)))), (.int .i64 (0 : Int)), (.list (.int .i64) ([] : List Int) .no), (.list (.int .i64) (([(IntKind.wrap .i64 (pc1 + p12))] : List Int)) .no)]), (.int .i64 (0 : Int)), (.int .i64 (5 : Int))])) ∧
 ((decide (((((code0.take (code0).length).drop ((IntKind.wrap .i64 (pc1 + (1 : Int)))).toNat)).length : Int) < (IntKind.wrap .i64 ((4 : Int) + (IntKind.wrap .i64 ((4 : Int) * p13)))))) = false → (Loops B65_2 M65_2 (Q65_2 R)
  (S65_2 pc1 (((code0.take (code0).length).drop ((IntKind.wrap .i64 (pc1 + (1 : Int)))).toNat)) p13 (0 : Int) (0 : Int) (0 : Int) (0 : Int) ([] : List Int) .exact ([] : List Int) .exact pc1 ((IntKind.wrap .i64 ((code0.getD (pc1).toNat 0).toNat : Int))) (0 : Int) ([] : List Int) .exact (([(IntKind.wrap .i64 (pc1 + p12))] : List Int)) .exact ⟨0, []⟩))))))))))))))))))))))))))) :
  fnK X65.tt (callN Try.prog X65 0) (X65.md 65) (X65.mk1 65) Try.f65 [(.v (.str code0)), (.v (.int .i64 pc1))] ⟨[], [], ⟨0, []⟩⟩ (topK R) := Eq.mp (by kernel_rfl) h
theorem L65_2 (pc1 : Int) (rest9 : List UInt8) (n12 : Int) (i13 : Int) (hq0_0 : Int) (hq0_1 : Int) (hq0_2 : Int) (hq0_3 : List Int) (hq0_3k : Tok) (hq0_4 : List Int) (hq0_4k : Tok) (hq1_0 : Int) (hq1_1 : Int) (hq1_2 : Int) (hq1_3 : List Int) (hq1_3k : Tok) (hq1_4 : List Int) (hq1_4k : Tok) (T : Toks) {R : V → Prop} {k2 : St → Prop}
 (h : (((decide (i13 < n12)) = true → (0 ≤ (IntKind.wrap .i64 ((4 : Int) + (IntKind.wrap .i64 ((4 : Int) * i13)))) ∧ (IntKind.wrap .i64 ((4 : Int) + (IntKind.wrap .i64 ((4 : Int) * i13)))) ≤ ((rest9).length : Int) ∧ (∃ p14 : Int, PC Try.prog 93 [(.str (((rest9.take (rest9).length).drop ((IntKind.wrap .i64 ((4 : Int) + (IntKind.wrap .i64 ((4 : Int) * i13))))).toNat)))] (.int .i64 p14) ∧ (Tok.own hq1_3k T.l ∧ ((hq1_3).length + (([p14] : List Int)).length) * 8 ≤ room ∧ (∀ (m15 : Nat), (T.n + 1) ≤ m15 → (0 ≤ (IntKind.wrap .i64 ((6 : Int) + (IntKind.wrap .i64 ((4 : Int) * i13)))) ∧ (IntKind.wrap .i64 ((6 : Int) + (IntKind.wrap .i64 ((4 : Int) * i13)))) ≤ ((rest9).length : Int) ∧ (∃ p16 : Int, PC Try.prog 94 [(.str (((rest9.take (rest9).length).drop ((IntKind.wrap .i64 ((6 : Int) + (IntKind.wrap .i64 ((4 : Int) * i13))))).toNat)))] (.int .i64 p16) ∧ (Tok.own hq1_4k (T.n :: Tok.drop hq1_3k T.l) ∧ ((hq1_4).length + (([(IntKind.wrap .i64 (pc1 + p16))] : List Int)).length) * 8 ≤ room ∧ (∀ (m17 : Nat), (m15 + 1) ≤ m17 → k2 (S65_2 pc1 rest9 n12 ((IntKind.wrap .i64 (i13 + (1 : Int)))) hq0_0 hq0_1 hq0_2 hq0_3 hq0_3k hq0_4 hq0_4k hq1_0 hq1_1 hq1_2 ((hq1_3 ++ ([p14] : List Int))) (.tk T.n) ((hq1_4 ++ ([(IntKind.wrap .i64 (pc1 + p16))] : List Int))) (.tk m15) ⟨m17, (m15 :: Tok.drop hq1_4k (T.n :: Tok.drop hq1_3k T.l))⟩)))))))))) ∧
 ((decide (i13 < n12)) = false → R (.tup [(.agg [(.int .i64 hq1_0), (.int .i64 hq1_1), (.int .i64 hq1_2), (.list (.int .i64) hq1_3 .no), (.list (.int .i64) hq1_4 .no)]), (.int .i64 ((IntKind.wrap .i64 ((5 : Int) + (IntKind.wrap .i64 ((4 : Int) * n12)))))), (.int .i64 (0 : Int))])))) :
  B65_2 (loopQ M65_2 k2 (Q65_2 R)) (S65_2 pc1 rest9 n12 i13 hq0_0 hq0_1 hq0_2 hq0_3 hq0_3k hq0_4 hq0_4k hq1_0 hq1_1 hq1_2 hq1_3 hq1_3k hq1_4 hq1_4k T) := Eq.mp (by kernel_rfl) h
end Go.Proofs.Ytaaedebknacheaa.AB

set_option linter.unusedVariables false
set_option linter.unusedSimpArgs false
set_option maxRecDepth 100000
set_option maxHeartbeats 2000000
namespace Go.Proofs.Ytaaedebknacheaa.AB
open Go
/-! crucible/crucibleref4.ends -/
noncomputable def X66 : Cx := ⟨tt, [(31, [.cd .bool])], [], [(66, [(0, mkM 74 0 [0, 1, 5, 6], 1), (2, mkM 74 0 [0, 1, 5, 7], 1), (4, mkM 74 0 [0, 1, 5, 7, 8], 1)])], []⟩
theorem FN66 : fnsB Try.prog X66.fns := (show True from trivial)
def M66_0 : List Bool × Nat := (mkM 74 0 [0, 1, 5, 6], 1)
def S66_0 (l0 : List (Int × (Int × (Int × ((List Int) × (List Int)))))) (size1 : Int) (at5n : Nat) (i6 : Int) (hq0 : List Bool) (hq0s : Nat → Tok) (T : Toks) : St :=
  mkS 74 [(0, (.v (.list (.pair (.int .i64) (.pair (.int .i64) (.pair (.int .i64) (.pair (.slice (.int .i64)) (.slice (.int .i64)))))) l0 .no))), (1, (.v (.int .i64 size1))), (5, (.arr 0 0 0 at5n)), (6, (.v (.int .i64 i6)))] [(some (.arr 0 .bool hq0 hq0s))] T
noncomputable def B66_0 : (Exit → St → Prop) → St → Prop := (awp X66.tt (callN Try.prog X66 0) (X66.md 66) 0 (X66.mk1 66) 0 (codeAt [1, 1, 0, 1, 0, 0] (bd Try.f66)))
def M66_2 : List Bool × Nat := (mkM 74 0 [0, 1, 5, 7], 1)
def S66_2 (l0 : List (Int × (Int × (Int × ((List Int) × (List Int)))))) (size1 : Int) (at5n : Nat) (i7 : Int) (hq0 : List Bool) (hq0s : Nat → Tok) (T : Toks) : St :=
  mkS 74 [(0, (.v (.list (.pair (.int .i64) (.pair (.int .i64) (.pair (.int .i64) (.pair (.slice (.int .i64)) (.slice (.int .i64)))))) l0 .no))), (1, (.v (.int .i64 size1))), (5, (.arr 0 0 0 at5n)), (7, (.v (.int .i64 i7)))] [(some (.arr 0 .bool hq0 hq0s))] T
noncomputable def B66_2 : (Exit → St → Prop) → St → Prop := (awp X66.tt (callN Try.prog X66 0) (X66.md 66) 0 (X66.mk1 66) 2 (codeAt [1, 1, 1, 0, 1, 0, 0] (bd Try.f66)))
def M66_4 : List Bool × Nat := (mkM 74 0 [0, 1, 5, 7, 8], 1)
def S66_4 (l0 : List (Int × (Int × (Int × ((List Int) × (List Int)))))) (size1 : Int) (at5n : Nat) (i7 : Int) (k8 : Int) (hq0 : List Bool) (hq0s : Nat → Tok) (T : Toks) : St :=
  mkS 74 [(0, (.v (.list (.pair (.int .i64) (.pair (.int .i64) (.pair (.int .i64) (.pair (.slice (.int .i64)) (.slice (.int .i64)))))) l0 .no))), (1, (.v (.int .i64 size1))), (5, (.arr 0 0 0 at5n)), (7, (.v (.int .i64 i7))), (8, (.v (.int .i64 k8)))] [(some (.arr 0 .bool hq0 hq0s))] T
noncomputable def B66_4 : (Exit → St → Prop) → St → Prop := (awp X66.tt (callN Try.prog X66 0) (X66.md 66) 0 (X66.mk1 66) 4 (codeAt [1, 1, 1, 0, 1, 0, 0, 1, 0, 0, 1, 0, 0] (bd Try.f66)))
noncomputable def K66_0 (R : V → Prop) : Exit → St → Prop := seqK ((awp X66.tt (callN Try.prog X66 0) (X66.md 66) 0 (X66.mk1 66) 0 (codeAt [1, 1, 1] (bd Try.f66))) (retK tt Try.f66.results.toList fun x s' => topK R x ⟨[], s'.hp, s'.T⟩)) (retK tt Try.f66.results.toList fun x s' => topK R x ⟨[], s'.hp, s'.T⟩)
noncomputable def Q66_0 (R : V → Prop) : Exit → St → Prop := (blockK 0 (K66_0 R))
noncomputable def K66_1 (R : V → Prop) : Exit → St → Prop := seqK ((awp X66.tt (callN Try.prog X66 0) (X66.md 66) 0 (X66.mk1 66) 0 (codeAt [1, 1, 1, 1] (bd Try.f66))) (retK tt Try.f66.results.toList fun x s' => topK R x ⟨[], s'.hp, s'.T⟩)) (retK tt Try.f66.results.toList fun x s' => topK R x ⟨[], s'.hp, s'.T⟩)
noncomputable def Q66_2 (R : V → Prop) : Exit → St → Prop := (blockK 2 (K66_1 R))
noncomputable def K66_2 (R : V → Prop) (k2 : St → Prop) : Exit → St → Prop := seqK ((awp X66.tt (callN Try.prog X66 0) (X66.md 66) 0 (X66.mk1 66) 2 (codeAt [1, 1, 1, 0, 1, 0, 0, 1, 1] (bd Try.f66))) (loopQ M66_2 k2 (blockK 2 (K66_1 R)))) (loopQ M66_2 k2 (blockK 2 (K66_1 R)))
noncomputable def Q66_4 (R : V → Prop) (k2 : St → Prop) : Exit → St → Prop := (blockK 4 (blockK 3 (K66_2 R k2)))
theorem E66 (l0 : (List (Int × (Int × (Int × ((List Int) × (List Int))))))) (size1 : Int) {R : V → Prop} (h : (0 ≤ size1 ∧ size1 ≤ size1 ∧ size1 * (1 : Int) ≤ (room : Int) ∧ size1 ≤ 9223372036854775807 ∧ (Loops B66_0 M66_0 (Q66_0 R)
  (S66_0 l0 size1 ((size1).toNat) (0 : Int) ((List.replicate (size1).toNat false)) (fun _ => .no) ⟨0, []⟩)))) :
  fnK X66.tt (callN Try.prog X66 0) (X66.md 66) (X66.mk1 66) Try.f66 [(.v (.list (.pair (.int .i64) (.pair (.int .i64) (.pair (.int .i64) (.pair (.slice (.int .i64)) (.slice (.int .i64)))))) l0 .no)), (.v (.int .i64 size1))] ⟨[], [], ⟨0, []⟩⟩ (topK R) := Eq.mp (by kernel_rfl) h
theorem L66_0 (l0 : List (Int × (Int × (Int × ((List Int) × (List Int)))))) (size1 : Int) (at5n : Nat) (i6 : Int) (hq0 : List Bool) (hq0s : Nat → Tok) (T : Toks) {R : V → Prop} {k0 : St → Prop}
 (h : (((decide (i6 < ((l0).length : Int))) = true → (0 ≤ i6 ∧ i6 < ((l0).length : Int) ∧ (0 = 0 ∧ 0 ≤ (l0.getD (i6).toNat (0, (0, (0, ([], []))))).1 ∧ (l0.getD (i6).toNat (0, (0, (0, ([], []))))).1 < ((at5n : Nat) : Int) ∧ (0 = 0 ∧ (0 + ((l0.getD (i6).toNat (0, (0, (0, ([], []))))).1).toNat) < (hq0).length ∧ k0 (S66_0 l0 size1 at5n ((IntKind.wrap .i64 (i6 + (1 : Int)))) ((hq0.set ((0 + ((l0.getD (i6).toNat (0, (0, (0, ([], []))))).1).toNat)) true)) ((fun j => if j = (0 + ((l0.getD (i6).toNat (0, (0, (0, ([], []))))).1).toNat) then .no else hq0s j)) T))))) ∧
 ((decide (i6 < ((l0).length : Int))) = false → (Loops B66_2 M66_2 (Q66_2 R)
  (S66_2 l0 size1 at5n (0 : Int) hq0 hq0s T))))) :
  B66_0 (loopQ M66_0 k0 (Q66_0 R)) (S66_0 l0 size1 at5n i6 hq0 hq0s T) := Eq.mp (by kernel_rfl) h
theorem L66_2 (l0 : List (Int × (Int × (Int × ((List Int) × (List Int)))))) (size1 : Int) (at5n : Nat) (i7 : Int) (hq0 : List Bool) (hq0s : Nat → Tok) (T : Toks) {R : V → Prop} {k2 : St → Prop}
 (h : (((decide (i7 < ((l0).length : Int))) = true → (Loops B66_4 M66_4 (Q66_4 R k2)
  (S66_4 l0 size1 at5n i7 (0 : Int) hq0 hq0s T))) ∧
 ((decide (i7 < ((l0).length : Int))) = false → (0 ≤ (IntKind.wrap .i64 (((l0).length : Int) - (1 : Int))) ∧ (IntKind.wrap .i64 (((l0).length : Int) - (1 : Int))) < ((l0).length : Int) ∧ (∃ p1 : Bool, PC Try.prog 31 [(.int .i64 ((l0.getD ((IntKind.wrap .i64 (((l0).length : Int) - (1 : Int)))).toNat (0, (0, (0, ([], []))))).2.1))] (.bool p1) ∧ (((!p1) = true → R (.int .i64 (13 : Int))) ∧
 ((!p1) = false → R (.int .i64 (0 : Int))))))))) :
  B66_2 (loopQ M66_2 k2 (Q66_2 R)) (S66_2 l0 size1 at5n i7 hq0 hq0s T) := Eq.mp (by kernel_rfl) h
theorem L66_4 (l0 : List (Int × (Int × (Int × ((List Int) × (List Int)))))) (size1 : Int) (at5n : Nat) (i7 : Int) (k8 : Int) (hq0 : List Bool) (hq0s : Nat → Tok) (T : Toks) {R : V → Prop} {k2 : St → Prop} {k4 : St → Prop}
 (h : (0 ≤ i7 ∧ i7 < ((l0).length : Int) ∧ (((decide (k8 < (((l0.getD (i7).toNat (0, (0, (0, ([], []))))).2.2.2.2).length : Int))) = true → (0 ≤ i7 ∧ i7 < ((l0).length : Int) ∧ (0 ≤ k8 ∧ k8 < (((l0.getD (i7).toNat (0, (0, (0, ([], []))))).2.2.2.2).length : Int) ∧ (((decide ((((l0.getD (i7).toNat (0, (0, (0, ([], []))))).2.2.2.2).getD (k8).toNat 0) < (0 : Int))) = true → R (.int .i64 (12 : Int))) ∧ ((decide ((((l0.getD (i7).toNat (0, (0, (0, ([], []))))).2.2.2.2).getD (k8).toNat 0) < (0 : Int))) = false → (((decide ((((l0.getD (i7).toNat (0, (0, (0, ([], []))))).2.2.2.2).getD (k8).toNat 0) ≥ size1)) = true → R (.int .i64 (12 : Int))) ∧ ((decide ((((l0.getD (i7).toNat (0, (0, (0, ([], []))))).2.2.2.2).getD (k8).toNat 0) ≥ size1)) = false → (0 = 0 ∧ 0 ≤ (((l0.getD (i7).toNat (0, (0, (0, ([], []))))).2.2.2.2).getD (k8).toNat 0) ∧ (((l0.getD (i7).toNat (0, (0, (0, ([], []))))).2.2.2.2).getD (k8).toNat 0) < ((at5n : Nat) : Int) ∧ (0 = 0 ∧ (0 + ((((l0.getD (i7).toNat (0, (0, (0, ([], []))))).2.2.2.2).getD (k8).toNat 0)).toNat) < (hq0).length ∧ (((!((hq0.getD ((0 + ((((l0.getD (i7).toNat (0, (0, (0, ([], []))))).2.2.2.2).getD (k8).toNat 0)).toNat)) false))) = true → R (.int .i64 (12 : Int))) ∧
 ((!((hq0.getD ((0 + ((((l0.getD (i7).toNat (0, (0, (0, ([], []))))).2.2.2.2).getD (k8).toNat 0)).toNat)) false))) = false → k4 (S66_4 l0 size1 at5n i7 ((IntKind.wrap .i64 (k8 + (1 : Int)))) hq0 hq0s T)))))))))))) ∧
 ((decide (k8 < (((l0.getD (i7).toNat (0, (0, (0, ([], []))))).2.2.2.2).length : Int))) = false → k2 (S66_2 l0 size1 at5n ((IntKind.wrap .i64 (i7 + (1 : Int)))) hq0 hq0s T))))) :
  B66_4 (loopQ M66_4 k4 (Q66_4 R k2)) (S66_4 l0 size1 at5n i7 k8 hq0 hq0s T) := Eq.mp (by kernel_rfl) h
end Go.Proofs.Ytaaedebknacheaa.AB

set_option linter.unusedVariables false
set_option linter.unusedSimpArgs false
set_option maxRecDepth 100000
set_option maxHeartbeats 2000000
namespace Go.Proofs.Ytaaedebknacheaa.AB
open Go
/-! crucible/crucibleref4.Decode -/
noncomputable def X36 : Cx := ⟨tt, [(65, [.cd (.pair (.int .i64) (.pair (.int .i64) (.pair (.int .i64) (.pair (.slice (.int .i64)) (.slice (.int .i64)))))), .cd (.int .i64), .cd (.int .i64)]), (66, [.cd (.int .i64)])], [], [(36, [(0, mkM 44 0 [0, 4, 5], 0)])], []⟩
theorem FN36 : fnsB Try.prog X36.fns := (show True from trivial)
def M36_0 : List Bool × Nat := (mkM 44 0 [0, 4, 5], 0)
def S36_0 (code0 : List UInt8) (l4 : List (Int × (Int × (Int × ((List Int) × (List Int)))))) (l4k : Tok) (pc5 : Int) (T : Toks) : St :=
  mkS 44 [(0, (.v (.str code0))), (4, (.v (.list (.pair (.int .i64) (.pair (.int .i64) (.pair (.int .i64) (.pair (.slice (.int .i64)) (.slice (.int .i64)))))) l4 l4k))), (5, (.v (.int .i64 pc5)))] [] T
noncomputable def B36_0 : (Exit → St → Prop) → St → Prop := (awp X36.tt (callN Try.prog X36 0) (X36.md 36) 0 (X36.mk1 36) 0 (codeAt [1, 1, 1, 1, 1, 0, 0, 0] (bd Try.f36)))
noncomputable def K36_0 (R : V → Prop) : Exit → St → Prop := seqK ((awp X36.tt (callN Try.prog X36 0) (X36.md 36) 0 (X36.mk1 36) 0 (codeAt [1, 1, 1, 1, 1, 1] (bd Try.f36))) (retK tt Try.f36.results.toList fun x s' => topK R x ⟨[], s'.hp, s'.T⟩)) (retK tt Try.f36.results.toList fun x s' => topK R x ⟨[], s'.hp, s'.T⟩)
noncomputable def Q36_0 (R : V → Prop) : Exit → St → Prop := (blockK 0 (K36_0 R))
theorem E36 (code0 : (List UInt8)) {R : V → Prop} (h : (((code0 == ([] : List UInt8)) = true → R (.tup [(.list (.pair (.int .i64) (.pair (.int .i64) (.pair (.int .i64) (.pair (.slice (.int .i64)) (.slice (.int .i64)))))) (([] : List (Int × (Int × (Int × ((List Int) × (List Int))))))) .no), (.int .i64 (5 : Int))])) ∧
 ((code0 == ([] : List UInt8)) = false → (((decide (((code0).length : Int) > (4096 : Int))) = true → R (.tup [(.list (.pair (.int .i64) (.pair (.int .i64) (.pair (.int .i64) (.pair (.slice (.int .i64)) (.slice (.int .i64)))))) (([] : List (Int × (Int × (Int × ((List Int) × (List Int))))))) .no), (.int .i64 (2 : Int))])) ∧
 ((decide (((code0).length : Int) > (4096 : Int))) = false → (Loops B36_0 M36_0 (Q36_0 R)
  (S36_0 code0 (([] : List (Int × (Int × (Int × ((List Int) × (List Int))))))) .exact (0 : Int) ⟨0, []⟩))))))) :
  fnK X36.tt (callN Try.prog X36 0) (X36.md 36) (X36.mk1 36) Try.f36 [(.v (.str code0))] ⟨[], [], ⟨0, []⟩⟩ (topK R) := Eq.mp (by kernel_rfl) h
theorem L36_0 (code0 : List UInt8) (l4 : List (Int × (Int × (Int × ((List Int) × (List Int)))))) (l4k : Tok) (pc5 : Int) (T : Toks) {R : V → Prop} {k0 : St → Prop}
 (h : (((decide (pc5 < ((code0).length : Int))) = true → (∃ p1 : (Int × (Int × (Int × ((List Int) × (List Int))))) × Int × Int, PC Try.prog 65 [(.str code0), (.int .i64 pc5)] ((.tup [(.agg [(.int .i64 p1.1.1), (.int .i64 p1.1.2.1), (.int .i64 p1.1.2.2.1), (.list (.int .i64) p1.1.2.2.2.1 .no), (.list (.int .i64) p1.1.2.2.2.2 .no)]), (.int .i64 p1.2.1), (.int .i64 p1.2.2)])) ∧ (((p1.2.2 != (0 : Int)) = true → R (.tup [(.list (.pair (.int .i64) (.pair (.int .i64) (.pair (.int .i64) (.pair (.slice (.int .i64)) (.slice (.int .i64)))))) (([] : List (Int × (Int × (Int × ((List Int) × (List Int))))))) .no), (.int .i64 p1.2.2)])) ∧
 ((p1.2.2 != (0 : Int)) = false → (Tok.own l4k T.l ∧ ((l4).length + (([(p1.1.1, (p1.1.2.1, (p1.1.2.2.1, (p1.1.2.2.2.1, p1.1.2.2.2.2))))] : List (Int × (Int × (Int × ((List Int) × (List Int))))))).length) * 72 ≤ room ∧ k0 (S36_0 code0 ((l4 ++ ([(p1.1.1, (p1.1.2.1, (p1.1.2.2.1, (p1.1.2.2.2.1, p1.1.2.2.2.2))))] : List (Int × (Int × (Int × ((List Int) × (List Int)))))))) (.tk T.n) ((IntKind.wrap .i64 (pc5 + p1.2.1))) ⟨(T.n + 1), (T.n :: Tok.drop l4k T.l)⟩)))))) ∧
 ((decide (pc5 < ((code0).length : Int))) = false → (∃ p2 : Int, PC Try.prog 66 [(.list (.pair (.int .i64) (.pair (.int .i64) (.pair (.int .i64) (.pair (.slice (.int .i64)) (.slice (.int .i64)))))) l4 .no), (.int .i64 (((code0).length : Int)))] (.int .i64 p2) ∧ (((p2 != (0 : Int)) = true → R (.tup [(.list (.pair (.int .i64) (.pair (.int .i64) (.pair (.int .i64) (.pair (.slice (.int .i64)) (.slice (.int .i64)))))) (([] : List (Int × (Int × (Int × ((List Int) × (List Int))))))) .no), (.int .i64 p2)])) ∧
 ((p2 != (0 : Int)) = false → R (.tup [(.list (.pair (.int .i64) (.pair (.int .i64) (.pair (.int .i64) (.pair (.slice (.int .i64)) (.slice (.int .i64)))))) l4 .no), (.int .i64 (0 : Int))]))))))) :
  B36_0 (loopQ M36_0 k0 (Q36_0 R)) (S36_0 code0 l4 l4k pc5 T) := Eq.mp (by kernel_rfl) h
end Go.Proofs.Ytaaedebknacheaa.AB

set_option linter.unusedVariables false
set_option linter.unusedSimpArgs false
namespace Go.Proofs.Ytaaedebknacheaa.AB
open Go

abbrev D0 : Ins := (0, (0, (0, ([], []))))

/-- is a place of code the start of an instruction -/
def isPc (l : List Ins) (pc : Int) : Bool := l.any fun x => x.1 == pc

/-- the error of jumps and of the end -/
def endsE (l : List Ins) : Int :=
  if l.all (fun x => x.2.2.2.2.all fun to => isPc l to) then (if isEnd (l.getD (l.length - 1) D0).2.1 then 0 else 13) else 12

theorem getD_lt {α : Type} {l : List α} {n : Nat} {d : α} (h : n < l.length) : l.getD n d = l[n] := by
  simp [List.getD, h]

theorem any_take_succ {α : Type} (l : List α) (p : α → Bool) {n : Nat} (h : n < l.length) : (l.take (n + 1)).any p = ((l.take n).any p || p l[n]) := by
  rw [List.take_succ_eq_append_getElem h, List.any_append]; simp only [List.any_cons, List.any_nil, Bool.or_false]

theorem all_take_succ {α : Type} (l : List α) (p : α → Bool) {n : Nat} (h : n < l.length) : (l.take (n + 1)).all p = ((l.take n).all p && p l[n]) := by
  rw [List.take_succ_eq_append_getElem h, List.all_append]; simp only [List.all_cons, List.all_nil, Bool.and_true]

theorem not_all {α : Type} (l : List α) (p : α → Bool) {n : Nat} (h : n < l.length) (hp : p l[n] = false) : l.all p = false := by
  cases hh : l.all p with
  | false => rfl
  | true => rw [List.all_eq_true] at hh; rw [hh _ (List.getElem_mem h)] at hp; cases hp

theorem getD_set' {l : List Bool} {j k : Nat} (hj : j < l.length) : (l.set j true).getD k false = (l.getD k false || j == k) := by
  simp only [List.getD, List.getElem?_set]
  by_cases e : j = k
  · subst e; simp [hj]
  · simp [e]

theorem p66 (l : List Ins) (size : Nat) (hs : size ≤ 1000000) (hl : 0 < l.length) (hl2 : l.length ≤ 1000000) (hp : ∀ x ∈ l, 0 ≤ x.1 ∧ x.1 < size) (hk : ∀ x ∈ l, x.2.2.2.2.length ≤ 1000000) :
    PC Try.prog 66 [.list cIns l .no, .int .i64 size] (.int .i64 (endsE l)) := by
  have hroom : room = 140737488355328 := rfl
  refine pcOf (X := X66) (d := 0) rfl trivial (by kernel_rfl) (by decide) (E66 l size ⟨by omega, by omega, by omega, by omega, ?_⟩)
  have second : ∀ (hq0 : List Bool) (hq0s : Nat → Tok) (T : Toks), hq0.length = size → (∀ j : Nat, hq0.getD j false = l.any (fun x => x.1 == (j : Int))) →
      Loops B66_2 M66_2 (Q66_2 fun v => v.norm = .int .i64 (endsE l) ∧ (V.int .i64 (endsE l)).nt = true) (S66_2 l size (Int.toNat size) 0 hq0 hq0s T) := by
    intro hq0 hq0s T h1 h2
    refine Loops.intro (fun n : Nat => S66_2 l size (Int.toNat size) n hq0 hq0s T) (fun n => n ≤ l.length ∧ (l.take n).all (fun x => x.2.2.2.2.all fun to => isPc l to) = true) (fun n => l.length - n) 0 rfl ⟨Nat.zero_le _, by simp⟩ ?_
    rintro n ⟨hn, ha⟩
    refine L66_2 l size (Int.toNat size) n hq0 hq0s T ⟨fun h => ?_, fun h => ?_⟩
    · have hlt : n < l.length := by simpa using h
      refine Loops.intro (fun k : Nat => S66_4 l size (Int.toNat size) n k hq0 hq0s T) (fun k => k ≤ l[n].2.2.2.2.length ∧ (l[n].2.2.2.2.take k).all (fun to => isPc l to) = true) (fun k => l[n].2.2.2.2.length - k) 0 rfl ⟨Nat.zero_le _, by simp⟩ ?_
      rintro k ⟨hkn, hka⟩
      have hlk := hk _ (List.getElem_mem hlt)
      refine L66_4 l size (Int.toNat size) n k hq0 hq0s T ?_
      simp only [Int.toNat_natCast, getD_lt hlt]
      refine ⟨by omega, by omega, fun h => ?_, fun h => ?_⟩
      · have hklt : k < l[n].2.2.2.2.length := by simpa using h
        simp only [getD_lt hklt, decide_eq_true_eq, decide_eq_false_iff_not]
        have bad : isPc l l[n].2.2.2.2[k] = false → V.norm (.int .i64 12) = .int .i64 (endsE l) ∧ (V.int .i64 (endsE l)).nt = true := by
          intro hb
          refine retI ?_
          unfold endsE
          rw [if_neg]
          rw [Bool.not_eq_true]
          exact not_all _ _ hlt (not_all _ _ hklt hb)
        have out : (l[n].2.2.2.2[k] < 0 ∨ l[n].2.2.2.2[k] ≥ size) → isPc l l[n].2.2.2.2[k] = false := by
          intro ho
          unfold isPc
          rw [List.any_eq_false]
          intro x hx
          have := hp x hx
          simp only [beq_iff_eq]
          omega
        refine ⟨by omega, by omega, by omega, by omega, fun h => bad (out (.inl h)), fun h1' => ⟨fun h => bad (out (.inr h)), fun h2' => ⟨trivial, by omega, by omega, trivial, by omega, fun h => bad ?_, fun h => ?_⟩⟩⟩
        · have h := h
          rw [Nat.zero_add, h2] at h
          unfold isPc
          rw [Int.toNat_of_nonneg (by omega)] at h
          simpa using h
        · have hin : isPc l l[n].2.2.2.2[k] = true := by
            rw [Nat.zero_add, h2, Int.toNat_of_nonneg (by omega)] at h
            unfold isPc
            simpa using h
          rw [wrap64 (by omega) (by omega)]
          exact Again.mk (k + 1) rfl ⟨by omega, by rw [all_take_succ _ _ hklt, hka, hin]; rfl⟩ (by omega)
      · have hke : k = l[n].2.2.2.2.length := by
          have : ¬ ((k : Int) < l[n].2.2.2.2.length) := by simpa using h
          omega
        rw [wrap64 (by omega) (by omega)]
        refine Again.mk (n + 1) rfl ⟨by omega, ?_⟩ (by omega)
        rw [all_take_succ _ _ hlt, ha]
        subst hke
        rw [List.take_length] at hka
        simpa using hka
    · have hge : n = l.length := by
        have : ¬ ((n : Int) < l.length) := by simpa using h
        omega
      subst hge
      rw [List.take_length] at ha
      have e : IntKind.wrap .i64 ((l.length : Int) - 1) = ((l.length - 1 : Nat) : Int) := by rw [wrap64 (by omega) (by omega)]; omega
      simp only [e, Int.toNat_natCast]
      refine ⟨by omega, by omega, _, p31 _, fun h => retI ?_, fun h => retI ?_⟩
      · unfold endsE; rw [if_pos ha, if_neg (by simpa using h)]
      · unfold endsE; rw [if_pos ha, if_pos (by simpa using h)]
  refine Loops.intro (fun a : Nat × List Bool × (Nat → Tok) => S66_0 l size (Int.toNat size) a.1 a.2.1 a.2.2 ⟨0, []⟩) (fun a => a.1 ≤ l.length ∧ a.2.1.length = size ∧ ∀ j : Nat, a.2.1.getD j false = (l.take a.1).any (fun x => x.1 == (j : Int)))
    (fun a => l.length - a.1) (0, List.replicate (Int.toNat size) false, fun _ => .no) rfl ⟨Nat.zero_le _, by simp, fun j => by simp [List.getD, List.getElem?_replicate]; split <;> rfl⟩ ?_
  rintro ⟨n, hq0, hq0s⟩ ⟨hn, h1, h2⟩
  refine L66_0 l size (Int.toNat size) n hq0 hq0s ⟨0, []⟩ ⟨fun h => ?_, fun h => ?_⟩
  · have hlt : n < l.length := by simpa using h
    have := hp _ (List.getElem_mem hlt)
    simp only at h1 h2 hn
    simp only [Int.toNat_natCast, getD_lt hlt]
    rw [wrap64 (by omega) (by omega)]
    refine ⟨by omega, by omega, trivial, by omega, by omega, trivial, by omega, ?_⟩
    refine Again.mk (n + 1, _, _) rfl ⟨by simp only; omega, by simpa using h1, fun j => ?_⟩ (by simp only; omega)
    simp only
    rw [getD_set' (by omega), any_take_succ _ _ hlt, h2]
    congr 1
    rw [Nat.zero_add, Bool.eq_iff_iff]
    simp only [beq_iff_eq]
    omega
  · have hge : n = l.length := by
      have : ¬ ((n : Int) < l.length) := by simpa using h
      omega
    subst hge
    refine second hq0 hq0s _ h1 fun j => ?_
    have := h2 j
    simp only [List.take_length] at this
    exact this

end Go.Proofs.Ytaaedebknacheaa.AB

set_option linter.unusedVariables false
set_option linter.unusedSimpArgs false
set_option maxRecDepth 100000
set_option maxHeartbeats 2000000
namespace Go.Proofs.Ytaaedebknacheaa.AB
open Go
/-! crucible/crucibleref4.Form -/
noncomputable def X29 : Cx := ⟨tt, [], [], [], []⟩
theorem FN29 : fnsB Try.prog X29.fns := (show True from trivial)
theorem E29 (op0 : Int) {R : V → Prop} (h : (((decide (op0 < (0 : Int))) = true → R (.int .u8 (0 : Int))) ∧ ((decide (op0 < (0 : Int))) = false → (((decide (op0 > (63 : Int))) = true → R (.int .u8 (0 : Int))) ∧
 ((decide (op0 > (63 : Int))) = false → (((op0 == (30 : Int)) = true → R (.int .u8 (115 : Int))) ∧
 ((op0 == (30 : Int)) = false → (((decide (op0 ≥ (20 : Int))) = true → (((decide (op0 ≤ (29 : Int))) = true → R (.int .u8 (106 : Int))) ∧
 ((decide (op0 ≤ (29 : Int))) = false → (((op0 == (4 : Int)) = true → R (.int .u8 (98 : Int))) ∧ ((op0 == (4 : Int)) = false → (((op0 == (5 : Int)) = true → R (.int .u8 (98 : Int))) ∧
 ((op0 == (5 : Int)) = false → (((op0 == (1 : Int)) = true → R (.int .u8 (110 : Int))) ∧ ((op0 == (1 : Int)) = false → (((op0 == (2 : Int)) = true → R (.int .u8 (110 : Int))) ∧ ((op0 == (2 : Int)) = false → (((op0 == (31 : Int)) = true → R (.int .u8 (110 : Int))) ∧ ((op0 == (31 : Int)) = false → (((op0 == (32 : Int)) = true → R (.int .u8 (110 : Int))) ∧ ((op0 == (32 : Int)) = false → (((decide (op0 ≥ (36 : Int))) = true → (((decide (op0 ≤ (43 : Int))) = true → R (.int .u8 (110 : Int))) ∧ ((decide (op0 ≤ (43 : Int))) = false → (((op0 == (47 : Int)) = true → R (.int .u8 (110 : Int))) ∧ ((op0 == (47 : Int)) = false → (((op0 == (48 : Int)) = true → R (.int .u8 (110 : Int))) ∧ ((op0 == (48 : Int)) = false → (((op0 == (51 : Int)) = true → R (.int .u8 (110 : Int))) ∧
 ((op0 == (51 : Int)) = false → R (.int .u8 (45 : Int))))))))))) ∧ ((decide (op0 ≥ (36 : Int))) = false → (((op0 == (47 : Int)) = true → R (.int .u8 (110 : Int))) ∧ ((op0 == (47 : Int)) = false → (((op0 == (48 : Int)) = true → R (.int .u8 (110 : Int))) ∧ ((op0 == (48 : Int)) = false → (((op0 == (51 : Int)) = true → R (.int .u8 (110 : Int))) ∧
 ((op0 == (51 : Int)) = false → R (.int .u8 (45 : Int))))))))))))))))))))))))) ∧ ((decide (op0 ≥ (20 : Int))) = false → (((op0 == (4 : Int)) = true → R (.int .u8 (98 : Int))) ∧ ((op0 == (4 : Int)) = false → (((op0 == (5 : Int)) = true → R (.int .u8 (98 : Int))) ∧
 ((op0 == (5 : Int)) = false → (((op0 == (1 : Int)) = true → R (.int .u8 (110 : Int))) ∧ ((op0 == (1 : Int)) = false → (((op0 == (2 : Int)) = true → R (.int .u8 (110 : Int))) ∧ ((op0 == (2 : Int)) = false → (((op0 == (31 : Int)) = true → R (.int .u8 (110 : Int))) ∧ ((op0 == (31 : Int)) = false → (((op0 == (32 : Int)) = true → R (.int .u8 (110 : Int))) ∧ ((op0 == (32 : Int)) = false → (((decide (op0 ≥ (36 : Int))) = true → (((decide (op0 ≤ (43 : Int))) = true → R (.int .u8 (110 : Int))) ∧ ((decide (op0 ≤ (43 : Int))) = false → (((op0 == (47 : Int)) = true → R (.int .u8 (110 : Int))) ∧ ((op0 == (47 : Int)) = false → (((op0 == (48 : Int)) = true → R (.int .u8 (110 : Int))) ∧ ((op0 == (48 : Int)) = false → (((op0 == (51 : Int)) = true → R (.int .u8 (110 : Int))) ∧
 ((op0 == (51 : Int)) = false → R (.int .u8 (45 : Int))))))))))) ∧ ((decide (op0 ≥ (36 : Int))) = false → (((op0 == (47 : Int)) = true → R (.int .u8 (110 : Int))) ∧ ((op0 == (47 : Int)) = false → (((op0 == (48 : Int)) = true → R (.int .u8 (110 : Int))) ∧ ((op0 == (48 : Int)) = false → (((op0 == (51 : Int)) = true → R (.int .u8 (110 : Int))) ∧
 ((op0 == (51 : Int)) = false → R (.int .u8 (45 : Int))))))))))))))))))))))))))))))) :
  fnK X29.tt (callN Try.prog X29 0) (X29.md 29) (X29.mk1 29) Try.f29 [(.v (.int .i64 op0))] ⟨[], [], ⟨0, []⟩⟩ (topK R) := Eq.mp (by kernel_rfl) h
end Go.Proofs.Ytaaedebknacheaa.AB

set_option linter.unusedVariables false
set_option linter.unusedSimpArgs false
namespace Go.Proofs.Ytaaedebknacheaa.AB
open Go

/-- the form of an op -/
def form (op : Int) : Int :=
  if op < 0 ∨ op > 63 then 0 else if op = 30 then 115 else if 20 ≤ op ∧ op ≤ 29 then 106 else if op = 4 ∨ op = 5 then 98
  else if op = 1 ∨ op = 2 ∨ op = 31 ∨ op = 32 ∨ (36 ≤ op ∧ op ≤ 43) ∨ op = 47 ∨ op = 48 ∨ op = 51 then 110 else 45

theorem p29 (op : Int) : PC Try.prog 29 [.int .i64 op] (.int .u8 (form op)) := by
  refine pcOf (X := X29) (d := 0) rfl trivial (by kernel_rfl) (by decide) (E29 op ?_)
  simp only [beq_iff_eq, beq_eq_false_iff_ne, decide_eq_true_eq, decide_eq_false_iff_not]
  repeat' (first | refine retI ?_ | apply And.intro | intro _)
  all_goals
    unfold form
    repeat' split
  all_goals omega

end Go.Proofs.Ytaaedebknacheaa.AB

set_option linter.unusedVariables false
set_option linter.unusedSimpArgs false
set_option maxRecDepth 100000
set_option maxHeartbeats 2000000
namespace Go.Proofs.Ytaaedebknacheaa.AB
open Go
/-! crucible/crucibleref4.two -/
noncomputable def X93 : Cx := ⟨tt, [], [], [], []⟩
theorem FN93 : fnsB Try.prog X93.fns := (show True from trivial)
theorem E93 (s0 : (List UInt8)) {R : V → Prop} (h : (0 ≤ (0 : Int) ∧ (0 : Int) < ((s0).length : Int) ∧ (0 ≤ (1 : Int) ∧ (1 : Int) < ((s0).length : Int) ∧ R (.int .i64 ((IntKind.wrap .i64 ((IntKind.wrap .i64 ((256 : Int) * (IntKind.wrap .i64 ((s0.getD ((0 : Int)).toNat 0).toNat : Int)))) + (IntKind.wrap .i64 ((s0.getD ((1 : Int)).toNat 0).toNat : Int))))))))) :
  fnK X93.tt (callN Try.prog X93 0) (X93.md 93) (X93.mk1 93) Try.f93 [(.v (.str s0))] ⟨[], [], ⟨0, []⟩⟩ (topK R) := Eq.mp (by kernel_rfl) h
end Go.Proofs.Ytaaedebknacheaa.AB

set_option linter.unusedVariables false
set_option linter.unusedSimpArgs false
set_option maxRecDepth 100000
set_option maxHeartbeats 2000000
namespace Go.Proofs.Ytaaedebknacheaa.AB
open Go
/-! crucible/crucibleref4.jump -/
noncomputable def X94 : Cx := ⟨tt, [(93, [.cd (.int .i64)])], [], [], []⟩
theorem FN94 : fnsB Try.prog X94.fns := (show True from trivial)
theorem E94 (s0 : (List UInt8)) {R : V → Prop} (h : (∃ p1 : Int, PC Try.prog 93 [(.str s0)] (.int .i64 p1) ∧ (((decide (p1 ≥ (32768 : Int))) = true → R (.int .i64 ((IntKind.wrap .i64 (p1 - (65536 : Int)))))) ∧
 ((decide (p1 ≥ (32768 : Int))) = false → R (.int .i64 p1))))) :
  fnK X94.tt (callN Try.prog X94 0) (X94.md 94) (X94.mk1 94) Try.f94 [(.v (.str s0))] ⟨[], [], ⟨0, []⟩⟩ (topK R) := Eq.mp (by kernel_rfl) h
end Go.Proofs.Ytaaedebknacheaa.AB

set_option linter.unusedVariables false
set_option linter.unusedSimpArgs false
namespace Go.Proofs.Ytaaedebknacheaa.AB
open Go

def byte (s : List UInt8) (i : Nat) : Int := ((s.getD i 0).toNat : Int)

theorem byte_lt (s : List UInt8) (i : Nat) : 0 ≤ byte s i ∧ byte s i < 256 := by
  have := UInt8.toNat_lt (s.getD i 0)
  unfold byte
  omega

def u16 (s : List UInt8) : Int := 256 * byte s 0 + byte s 1
def s16 (s : List UInt8) : Int := if u16 s ≥ 32768 then u16 s - 65536 else u16 s

theorem p93 (s : List UInt8) (h : 2 ≤ s.length) : PC Try.prog 93 [.str s] (.int .i64 (u16 s)) := by
  have h0 := byte_lt s 0
  have h1 := byte_lt s 1
  refine pcOf (X := X93) (d := 0) rfl trivial (by kernel_rfl) (by decide) (E93 s ⟨by omega, by omega, by omega, by omega, retI ?_⟩)
  show IntKind.wrap .i64 (IntKind.wrap .i64 (256 * IntKind.wrap .i64 (byte s 0)) + IntKind.wrap .i64 (byte s 1)) = _
  rw [wrap64 (x := byte s 0) (by omega) (by omega), wrap64 (x := byte s 1) (by omega) (by omega), wrap64 (x := 256 * byte s 0) (by omega) (by omega), wrap64 (by omega) (by omega)]
  rfl

theorem p94 (s : List UInt8) (h : 2 ≤ s.length) : PC Try.prog 94 [.str s] (.int .i64 (s16 s)) := by
  have h0 := byte_lt s 0
  have h1 := byte_lt s 1
  refine pcOf (X := X94) (d := 0) rfl trivial (by kernel_rfl) (by decide) (E94 s ⟨_, p93 s h, fun h => ?_, fun h => ?_⟩)
  · have hge : u16 s ≥ 32768 := by simpa using h
    refine retI ?_
    rw [wrap64 (by unfold u16 at *; omega) (by unfold u16 at *; omega)]
    unfold s16; rw [if_pos hge]
  · have hge : ¬ u16 s ≥ 32768 := by simpa using h
    refine retI ?_
    unfold s16; rw [if_neg hge]

end Go.Proofs.Ytaaedebknacheaa.AB

set_option linter.unusedVariables false
set_option linter.unusedSimpArgs false
namespace Go.Proofs.Ytaaedebknacheaa.AB
open Go

def keysOf (rest : List UInt8) (n : Nat) : List Int := (List.range n).map fun i => u16 (rest.drop (4 + 4 * i))
def tosOf (rest : List UInt8) (pc : Int) (n : Nat) : List Int := (List.range n).map fun i => pc + s16 (rest.drop (6 + 4 * i))

/-- the instruction at a place of code, how many bytes it has, and the error -/
def oneI (s : List UInt8) (pc : Nat) : Ins × Int × Int :=
  let op := byte s pc
  let rest := s.drop (pc + 1)
  let short : Ins × Int × Int := ((pc, op, 0, [], []), 0, 5)
  if form op = 0 then ((pc, op, 0, [], []), 0, 11)
  else if form op = 45 then ((pc, op, 0, [], []), 1, 0)
  else if form op = 98 then if rest.length < 1 then short else ((pc, op, byte rest 0, [], []), 2, 0)
  else if form op = 110 then if rest.length < 2 then short else ((pc, op, u16 rest, [], []), 3, 0)
  else if form op = 106 then if rest.length < 2 then short else ((pc, op, 0, [], [pc + s16 rest]), 3, 0)
  else if rest.length < 4 then short
  else if (rest.length : Int) < 4 + 4 * u16 (rest.drop 2) then ((pc, op, 0, [], [pc + s16 rest]), 0, 5)
  else ((pc, op, 0, keysOf rest (u16 (rest.drop 2)).toNat, (pc + s16 rest) :: tosOf rest pc (u16 (rest.drop 2)).toNat), 5 + 4 * u16 (rest.drop 2), 0)

theorem form_cases (op : Int) : form op = 0 ∨ form op = 45 ∨ form op = 98 ∨ form op = 110 ∨ form op = 106 ∨ form op = 115 := by
  unfold form
  repeat' split
  all_goals simp

theorem wrapByte (b : UInt8) : IntKind.wrap .i64 (b.toNat : Int) = (b.toNat : Int) := by
  have := UInt8.toNat_lt b
  exact wrap64 (by omega) (by omega)

theorem wrapB (s : List UInt8) (i : Nat) : IntKind.wrap .i64 ((s.getD i 0).toNat : Int) = byte s i := wrapByte _
theorem wrapB' (s : List UInt8) (i : Nat) : IntKind.wrap .i64 (byte s i) = byte s i := wrapByte _

theorem u16_lt (s : List UInt8) : 0 ≤ u16 s ∧ u16 s < 65536 := by
  have h0 := byte_lt s 0
  have h1 := byte_lt s 1
  unfold u16
  omega

theorem s16_lt (s : List UInt8) : -32768 ≤ s16 s ∧ s16 s < 32768 := by
  have := u16_lt s
  unfold s16
  split <;> omega

theorem retV {v r : V} (h : v = r) (hn : r.norm = r ∧ r.nt = true) : v.norm = r ∧ r.nt = true := by subst h; exact hn

/-- what one gives -/
abbrev oneV (p : Ins × Int × Int) : V := .tup [.agg [.int .i64 p.1.1, .int .i64 p.1.2.1, .int .i64 p.1.2.2.1, .list (.int .i64) p.1.2.2.2.1 .no, .list (.int .i64) p.1.2.2.2.2 .no], .int .i64 p.2.1, .int .i64 p.2.2]

theorem p65 (s : List UInt8) (pc : Nat) (h : pc < s.length) (hs : s.length ≤ 1000000) : PC Try.prog 65 [.str s, .int .i64 pc] (oneV (oneI s pc)) := by
  have hroom : room = 140737488355328 := rfl
  have b0 := byte_lt s pc
  have e1 : IntKind.wrap .i64 ((pc : Int) + 1) = ((pc + 1 : Nat) : Int) := by rw [wrap64 (by omega) (by omega)]; omega
  have e2 : ((s.getD pc 0).toNat : Int) = byte s pc := rfl
  have hfin : ∀ p : Ins × Int × Int, (oneV p).norm = oneV p ∧ (oneV p).nt = true := fun p => ⟨rfl, rfl⟩
  refine pcOf (X := X65) (d := 0) rfl trivial (by kernel_rfl) (by decide) (E65 s pc ?_)
  simp only [e1, wrapB, Int.toNat_natCast, List.take_length, e2, wrapB']
  refine ⟨by omega, by omega, by omega, by omega, _, p29 _, ?_⟩
  have hlen : (s.drop (pc + 1)).length = s.length - (pc + 1) := by simp
  generalize hrest : s.drop (pc + 1) = rest at *
  have b1 := byte_lt rest 0
  rcases form_cases (byte s pc) with hf | hf | hf | hf | hf | hf
  all_goals simp only [hf, Int.reduceBEq, Bool.false_eq_true, Bool.true_eq_false, forall_const, false_implies, and_true, true_and, reduceIte, Int.reduceEq, decide_eq_true_eq, decide_eq_false_iff_not]
  · exact ⟨by simp [oneI, hf, V.norm, V.norm1, V.norm0], rfl⟩
  · exact ⟨by simp [oneI, hf, V.norm, V.norm1, V.norm0], rfl⟩
  · refine ⟨fun h => ?_, fun h => ⟨by omega, by omega, ?_⟩⟩
    · have : rest.length < 1 := by omega
      exact ⟨by simp [oneI, hf, hrest, this, V.norm, V.norm1, V.norm0], rfl⟩
    · have : ¬ rest.length < 1 := by omega
      exact ⟨by simp [oneI, hf, hrest, this, V.norm, V.norm1, V.norm0], rfl⟩
  · refine ⟨fun h => ?_, fun h => ⟨_, p93 _ (by omega), ?_⟩⟩
    · have : rest.length < 2 := by omega
      exact ⟨by simp [oneI, hf, hrest, this, V.norm, V.norm1, V.norm0], rfl⟩
    · have : ¬ rest.length < 2 := by omega
      exact ⟨by simp [oneI, hf, hrest, this, V.norm, V.norm1, V.norm0], rfl⟩
  · refine ⟨fun h => ?_, fun h => ⟨_, p94 _ (by omega), ?_⟩⟩
    · have : rest.length < 2 := by omega
      exact ⟨by simp [oneI, hf, hrest, this, V.norm, V.norm1, V.norm0], rfl⟩
    · have : ¬ rest.length < 2 := by omega
      have this' := this
      have := s16_lt rest
      rw [wrap64 (by omega) (by omega)]
      exact ⟨by simp [oneI, hf, hrest, this', V.norm, V.norm1, V.norm0], rfl⟩
  · refine ⟨fun h => ?_, fun h => ⟨_, p94 _ (by omega), by omega, by omega, _, p93 _ (by simp; omega), ?_⟩⟩
    · have : rest.length < 4 := by omega
      exact ⟨by simp [oneI, hf, hrest, this, V.norm, V.norm1, V.norm0], rfl⟩
    · have : ¬ rest.length < 4 := by omega
      have g1 := s16_lt rest
      have e4 : (2 : Int).toNat = 2 := rfl
      rw [e4]
      have g2 := u16_lt (rest.drop 2)
      rw [wrap64 (x := pc + s16 rest) (by omega) (by omega), wrap64 (x := 4 * u16 (rest.drop 2)) (by omega) (by omega), wrap64 (x := 4 + 4 * u16 (rest.drop 2)) (by omega) (by omega)]
      refine ⟨fun h4 => ⟨by simp [oneI, hf, hrest, this, h4, V.norm, V.norm1, V.norm0], rfl⟩, fun h4 => ?_⟩
      generalize hn : u16 (rest.drop 2) = n at *
      have hone : oneI s pc = (((pc : Int), byte s pc, 0, keysOf rest n.toNat, (pc + s16 rest) :: tosOf rest pc n.toNat), 5 + 4 * n, 0) := by simp [oneI, hf, hrest, this, hn, h4]
      refine Loops.intro (fun a : Nat × Tok × Tok × Toks => S65_2 pc rest n a.1 0 0 0 [] .exact [] .exact pc (byte s pc) 0 (keysOf rest a.1) a.2.1 ((pc + s16 rest) :: tosOf rest pc a.1) a.2.2.1 a.2.2.2)
        (fun a => a.1 ≤ n.toNat ∧ a.2.1.fresh a.2.2.2 ∧ a.2.2.1.fresh a.2.2.2 ∧ a.2.1.ne a.2.2.1) (fun a => n.toNat - a.1) (0, .exact, .exact, ⟨0, []⟩) rfl ⟨Nat.zero_le _, trivial, trivial, trivial⟩ ?_
      rintro ⟨i, k1, k2, T⟩ ⟨hi, o1, o2, o3⟩
      simp only at hi o1 o2 o3
      have o2' := o2.keep o3
      refine L65_2 pc rest n i 0 0 0 [] .exact [] .exact pc (byte s pc) 0 (keysOf rest i) k1 ((pc + s16 rest) :: tosOf rest pc i) k2 T ⟨fun h => ?_, fun h => ?_⟩
      · have hlt : (i : Int) < n := by simpa using h
        have w1 : IntKind.wrap .i64 (4 + IntKind.wrap .i64 (4 * i)) = ((4 + 4 * i : Nat) : Int) := by
          rw [wrap64 (x := 4 * i) (by omega) (by omega), wrap64 (by omega) (by omega)]; omega
        have w2 : IntKind.wrap .i64 (6 + IntKind.wrap .i64 (4 * i)) = ((6 + 4 * i : Nat) : Int) := by
          rw [wrap64 (x := 4 * i) (by omega) (by omega), wrap64 (by omega) (by omega)]; omega
        have g3 := s16_lt (rest.drop (6 + 4 * i))
        rw [w1, w2, Int.toNat_natCast, Int.toNat_natCast, List.take_length]
        refine ⟨by omega, by omega, _, p93 _ (by simp; omega), o1.own, by simp [keysOf]; omega, fun m1 hm1 => ⟨by omega, by omega, _, p94 _ (by simp; omega), o2'.own, by simp [tosOf]; omega, fun m hm => ?_⟩⟩
        rw [wrap64 (x := pc + s16 (rest.drop (6 + 4 * i))) (by omega) (by omega), wrap64 (x := (i : Int) + 1) (by omega) (by omega)]
        refine Again.mk (i + 1, .tk T.n, .tk m1, _) ?_ ⟨by simp only; omega, (((Tok.fresh_new T.n (k1.drop T.l)).up hm1).keep (u := k2) (by have := o2.ne_new; exact this)).up hm, (Tok.fresh_new _ _).up hm, ((Tok.fresh_new T.n (k1.drop T.l)).up hm1).ne_new⟩ (by simp only; omega)
        simp only [keysOf, tosOf, List.range_succ, List.map_append, List.map_cons, List.map_nil]; rfl
      · have hge : (i : Int) = n := by
          have : ¬ ((i : Int) < n) := by simpa using h
          omega
        have : i = n.toNat := by omega
        subst this
        rw [wrap64 (x := 4 * n) (by omega) (by omega), wrap64 (x := 5 + 4 * n) (by omega) (by omega)]
        exact ⟨by rw [hone]; rfl, rfl⟩

end Go.Proofs.Ytaaedebknacheaa.AB

set_option linter.unusedVariables false
set_option linter.unusedSimpArgs false
namespace Go.Proofs.Ytaaedebknacheaa.AB
open Go

/-- the instructions of code from a place on, and the error -/
def scan (s : List UInt8) : Nat → Nat → List Ins × Int
  | 0, _ => ([], 0)
  | fuel + 1, pc => if pc < s.length then
      (if (oneI s pc).2.2 ≠ 0 then ([], (oneI s pc).2.2) else
        match scan s fuel (pc + (oneI s pc).2.1.toNat) with
        | (l, e) => if e ≠ 0 then ([], e) else ((oneI s pc).1 :: l, 0))
    else ([], 0)

def decodeI (s : List UInt8) : List Ins × Int :=
  if s = [] then ([], 5) else if s.length > 4096 then ([], 2) else
    match scan s s.length 0 with
    | (l, e) => if e ≠ 0 then ([], e) else if endsE l ≠ 0 then ([], endsE l) else (l, 0)

theorem oneI_ok {s : List UInt8} {pc : Nat} (h : pc < s.length) (he : (oneI s pc).2.2 = 0) :
    (oneI s pc).1.1 = pc ∧ 1 ≤ (oneI s pc).2.1 ∧ pc + (oneI s pc).2.1 ≤ s.length ∧ (oneI s pc).1.2.2.2.2.length ≤ 65536 ∧ (oneI s pc).1.2.2.2.1.length ≤ 65536 ∧ 0 ≤ (oneI s pc).1.2.1 ∧ (oneI s pc).1.2.1 < 256 := by
  have b := byte_lt s pc
  have u := u16_lt ((s.drop (pc + 1)).drop 2)
  have hl : (s.drop (pc + 1)).length = s.length - (pc + 1) := by simp
  generalize hp : oneI s pc = p at *
  unfold oneI at hp
  simp only at hp
  generalize hr : s.drop (pc + 1) = rest at *
  repeat' split at hp
  all_goals subst hp
  all_goals first
    | (simp at he; done)
    | skip
  all_goals simp only [keysOf, tosOf, List.length_nil, List.length_cons, List.length_map, List.length_range]
  all_goals (try refine ⟨trivial, ?_⟩)
  all_goals omega

theorem scan_ok (s : List UInt8) (hs : s.length ≤ 1000000) : ∀ (fuel pc : Nat), s.length ≤ pc + fuel → ∀ l, scan s fuel pc = (l, 0) →
    (∀ x ∈ l, (pc : Int) ≤ x.1 ∧ x.1 < s.length ∧ x.2.2.2.2.length ≤ 65536 ∧ x.2.2.2.1.length ≤ 65536 ∧ 0 ≤ x.2.1 ∧ x.2.1 < 256) ∧ l.Pairwise (fun a b => a.1 < b.1) ∧ pc + l.length ≤ max pc s.length ∧
      (pc < s.length → ∃ x r, l = x :: r ∧ x.1 = pc) := by
  intro fuel
  induction fuel with
  | zero =>
    intro pc hf l h
    simp only [scan, Prod.mk.injEq] at h
    obtain ⟨rfl, _⟩ := h
    refine ⟨fun x hx => (by cases hx), List.Pairwise.nil, by simp; omega, fun h => by omega⟩
  | succ n ih =>
    intro pc hf l h
    unfold scan at h
    split at h
    · rename_i hlt
      split at h
      · rename_i he
        simp only [Prod.mk.injEq] at h
        exact absurd h.2 he
      · rename_i he
        have he : (oneI s pc).2.2 = 0 := by simpa using he
        obtain ⟨k1, k2, k3, k4, k5, k6, k7⟩ := oneI_ok hlt he
        generalize hq : scan s n (pc + (oneI s pc).2.1.toNat) = q at h
        obtain ⟨l', e⟩ := q
        simp only at h
        split at h
        · rename_i he'
          simp only [Prod.mk.injEq] at h
          exact absurd h.2 he'
        · rename_i he'
          have he' : e = 0 := by simpa using he'
          subst he'
          simp only [Prod.mk.injEq, and_true] at h
          subst h
          obtain ⟨j1, j2, j3, j4⟩ := ih _ (by omega) l' hq
          refine ⟨fun x hx => ?_, List.Pairwise.cons (fun x hx => ?_) j2, by simp only [List.length_cons]; omega, fun _ => ⟨_, _, rfl, k1⟩⟩
          · rcases List.mem_cons.1 hx with rfl | hx
            · exact ⟨by omega, by omega, k4, k5, k6, k7⟩
            · obtain ⟨i1, i2, i3⟩ := j1 x hx
              exact ⟨by omega, i2, i3⟩
          · obtain ⟨i1, i2, i3⟩ := j1 x hx
            omega
    · rename_i hlt
      simp only [Prod.mk.injEq] at h
      obtain ⟨rfl, _⟩ := h
      exact ⟨fun x hx => (by cases hx), List.Pairwise.nil, by simp; omega, fun h => by omega⟩

/-- code that has been read -/
structure Code4 (s : List UInt8) (l : List Ins) : Prop where
  pos : ∀ x ∈ l, 0 ≤ x.1 ∧ x.1 < s.length
  tos : ∀ x ∈ l, x.2.2.2.2.length ≤ 65536
  keys : ∀ x ∈ l, x.2.2.2.1.length ≤ 65536
  ops : ∀ x ∈ l, 0 ≤ x.2.1 ∧ x.2.1 < 256
  inc : l.Pairwise (fun a b => a.1 < b.1)
  len : l.length ≤ s.length
  size : s.length ≤ 4096
  first : ∃ x r, l = x :: r ∧ x.1 = 0
  lands : ∀ x ∈ l, ∀ to ∈ x.2.2.2.2, isPc l to = true
  last : isEnd (l.getD (l.length - 1) D0).2.1 = true

theorem decodeI_ok {s : List UInt8} {l : List Ins} (h : decodeI s = (l, 0)) : Code4 s l := by
  unfold decodeI at h
  split at h
  · exact absurd (congrArg Prod.snd h) (by simp)
  rename_i hne
  split at h
  · exact absurd (congrArg Prod.snd h) (by simp)
  rename_i hlen
  have hpos : 0 < s.length := List.length_pos_iff.2 hne
  generalize hq : scan s s.length 0 = q at h
  obtain ⟨l', e⟩ := q
  simp only at h
  split at h
  · rename_i he'
    simp only [Prod.mk.injEq] at h
    exact absurd h.2 he'
  rename_i he'
  have he' : e = 0 := by simpa using he'
  subst he'
  split at h
  · rename_i he'
    simp only [Prod.mk.injEq] at h
    exact absurd h.2 he'
  rename_i he'
  simp only [Prod.mk.injEq, and_true] at h
  subst h
  obtain ⟨j1, j2, j3, j4⟩ := scan_ok s (by omega) s.length 0 (by omega) l' hq
  have he : endsE l' = 0 := by simpa using he'
  unfold endsE at he
  split at he
  case isFalse => exact absurd he (by decide)
  rename_i ha
  split at he
  case isFalse => exact absurd he (by decide)
  rename_i hb
  refine ⟨fun x hx => ⟨by have := (j1 x hx).1; omega, (j1 x hx).2.1⟩, fun x hx => (j1 x hx).2.2.1, fun x hx => (j1 x hx).2.2.2.1, fun x hx => (j1 x hx).2.2.2.2, j2, by omega, by omega, j4 hpos, fun x hx to hto => ?_, hb⟩
  rw [List.all_eq_true] at ha
  have := ha x hx
  rw [List.all_eq_true] at this
  exact this to hto

theorem scan_fuel (s : List UInt8) : ∀ (f g pc : Nat), s.length ≤ pc + f → s.length ≤ pc + g → scan s f pc = scan s g pc := by
  intro f
  induction f with
  | zero =>
    intro g pc hf hg
    cases g with
    | zero => rfl
    | succ g => unfold scan; rw [if_neg (by omega)]
  | succ f ih =>
    intro g pc hf hg
    cases g with
    | zero => unfold scan; rw [if_neg (by omega)]
    | succ g =>
      unfold scan
      by_cases hlt : pc < s.length
      · rw [if_pos hlt, if_pos hlt]
        by_cases he : (oneI s pc).2.2 ≠ 0
        · rw [if_pos he, if_pos he]
        · rw [if_neg he, if_neg he]
          have he : (oneI s pc).2.2 = 0 := by simpa using he
          obtain ⟨k1, k2, k3⟩ := oneI_ok hlt he
          rw [ih g _ (by omega) (by omega)]
      · rw [if_neg hlt, if_neg hlt]

/-- what is left to be read -/
abbrev scanAt (s : List UInt8) (pc : Nat) : List Ins × Int := scan s (s.length - pc) pc

theorem scanAt_step {s : List UInt8} {pc : Nat} (h : pc < s.length) : scanAt s pc = (if (oneI s pc).2.2 ≠ 0 then ([], (oneI s pc).2.2) else
        match scanAt s (pc + (oneI s pc).2.1.toNat) with
        | (l, e) => if e ≠ 0 then ([], e) else ((oneI s pc).1 :: l, 0)) := by
  unfold scanAt
  have : s.length - pc = (s.length - pc - 1) + 1 := by omega
  rw [this]
  conv => lhs; unfold scan
  rw [if_pos h]
  by_cases he : (oneI s pc).2.2 ≠ 0
  · rw [if_pos he, if_pos he]
  · rw [if_neg he, if_neg he]
    have he : (oneI s pc).2.2 = 0 := by simpa using he
    obtain ⟨k1, k2, k3⟩ := oneI_ok h he
    rw [scan_fuel s _ (s.length - (pc + (oneI s pc).2.1.toNat)) _ (by omega) (by omega)]

theorem scan_err (s : List UInt8) (f pc : Nat) (l : List Ins) (e : Int) (h : scan s f pc = (l, e)) (he : e ≠ 0) : l = [] := by
  cases f with
  | zero => simp only [scan, Prod.mk.injEq] at h; exact h.1.symm
  | succ f =>
    unfold scan at h
    split at h
    · split at h
      · exact (Prod.mk.inj h).1.symm
      · split at h
        split at h
        · exact (Prod.mk.inj h).1.symm
        · exact absurd (Prod.mk.inj h).2.symm he
    · exact (Prod.mk.inj h).1.symm

/-- what Decode gives -/
abbrev decV (p : List Ins × Int) : V := .tup [.list cIns p.1 .no, .int .i64 p.2]

theorem p36 (s : List UInt8) : PC Try.prog 36 [.str s] (decV (decodeI s)) := by
  have hroom : room = 140737488355328 := rfl
  refine pcOf (X := X36) (d := 0) rfl trivial (by kernel_rfl) (by decide) (E36 s ⟨fun h => ?_, fun hne => ⟨fun h => ?_, fun hlen => ?_⟩⟩)
  · have h : s = [] := by simpa using h
    subst h
    exact ⟨rfl, rfl⟩
  · have hne : s ≠ [] := by simpa using hne
    have h : s.length > 4096 := by have : (s.length : Int) > 4096 := by simpa using h
                                   omega
    exact ⟨by unfold decodeI; rw [if_neg hne, if_pos h]; rfl, rfl⟩
  · have hne : s ≠ [] := by simpa using hne
    have hlen : ¬ s.length > 4096 := by have : ¬ (s.length : Int) > 4096 := by simpa using hlen
                                        omega
    have hpos : 0 < s.length := List.length_pos_iff.2 hne
    refine Loops.intro (fun a : Nat × List Ins × Tok × Toks => S36_0 s a.2.1 a.2.2.1 a.1 a.2.2.2)
      (fun a => a.1 ≤ s.length ∧ a.2.2.1.fresh a.2.2.2 ∧ a.2.1.length ≤ a.1 ∧ (∀ e l, scanAt s a.1 = (l, e) → scanAt s 0 = if e ≠ 0 then ([], e) else (a.2.1 ++ l, 0))) (fun a => s.length - a.1) (0, [], .exact, ⟨0, []⟩) rfl
      ⟨Nat.zero_le _, trivial, Nat.le_refl _, fun e l h => ?_⟩ ?_
    · simp only
      by_cases hz : e = 0
      · subst hz; simpa using h
      · rw [h, if_pos hz, scan_err _ _ _ _ _ h hz]
    rintro ⟨pc, l, tk, T⟩ ⟨j1, j2, j3, j4⟩
    simp only at j1 j2 j3 j4
    have fin : ∀ p : List Ins × Int, decodeI s = p → (decV p).norm = decV (decodeI s) ∧ (decV (decodeI s)).nt = true := fun p h => by rw [h]; exact ⟨rfl, rfl⟩
    have hdec : ∀ l e, scanAt s 0 = (l, e) → decodeI s = if e ≠ 0 then ([], e) else if endsE l ≠ 0 then ([], endsE l) else (l, 0) := fun l e h => by
      unfold decodeI; rw [if_neg hne, if_neg hlen]; unfold scanAt at h; rw [Nat.sub_zero] at h; rw [h]
    refine L36_0 s l tk pc T ⟨fun h => ⟨oneI s pc, ?_, fun he => ?_, fun he => ?_⟩, fun h => ?_⟩
    · have hlt : pc < s.length := by have : (pc : Int) < s.length := by simpa using h
                                     omega
      exact p65 s pc hlt (by omega)
    · have hlt : pc < s.length := by have : (pc : Int) < s.length := by simpa using h
                                     omega
      have he : (oneI s pc).2.2 ≠ 0 := by simpa using he
      have hs := scanAt_step hlt
      rw [if_pos he] at hs
      have := j4 _ _ hs
      rw [if_pos he] at this
      have := hdec _ _ this
      rw [if_pos he] at this
      exact fin _ this
    · have hlt : pc < s.length := by have : (pc : Int) < s.length := by simpa using h
                                     omega
      have he : (oneI s pc).2.2 = 0 := by simpa using he
      have hs := scanAt_step hlt
      obtain ⟨k1, k2, k3⟩ := oneI_ok hlt he
      rw [if_neg (by simpa using he)] at hs
      rw [wrap64 (by omega) (by omega)]
      refine ⟨j2.own, by simp; omega, Again.mk (pc + (oneI s pc).2.1.toNat, l ++ [(oneI s pc).1], .tk T.n, _) (by simp only; congr 1; omega) ⟨by simp only; omega, Tok.fresh_new _ _, by simp; omega, fun e l' h' => ?_⟩ (by simp only; omega)⟩
      rw [h'] at hs
      by_cases hz : e = 0
      · subst hz
        have := j4 _ _ hs
        simpa using this
      · have := j4 _ _ (by simpa [hz] using hs)
        simpa [hz] using this
    · have hge : pc = s.length := by have : ¬ (pc : Int) < s.length := by simpa using h
                                     omega
      subst hge
      have hs : scanAt s 0 = (l, 0) := by
        have := j4 0 [] (by unfold scanAt; rw [Nat.sub_self]; rfl)
        simpa using this
      have hd := hdec _ _ hs
      obtain ⟨i1, i2, i3, i4⟩ := scan_ok s (by omega) s.length 0 (by omega) l hs
      obtain ⟨x, r, hx, _⟩ := i4 hpos
      refine ⟨_, p66 l s.length (by omega) (by rw [hx]; simp) (by omega) (fun x hx => ⟨by have := (i1 x hx).1; omega, (i1 x hx).2.1⟩) (fun x hx => by have := (i1 x hx).2.2.1; omega), fun h => ?_, fun h => ?_⟩
      · refine fin ([], endsE l) ?_
        rw [hd, if_neg (by simp), if_pos (by simpa using h)]
      · refine fin (l, 0) ?_
        rw [hd, if_neg (by simp), if_neg (by simpa using h)]

end Go.Proofs.Ytaaedebknacheaa.AB

set_option linter.unusedVariables false
set_option linter.unusedSimpArgs false
namespace Go.Proofs.Ytaaedebknacheaa.AB
open Go

theorem byte_drop (s : List UInt8) (a i : Nat) : byte (s.drop a) i = byte s (a + i) := by
  unfold byte
  simp [List.getD, List.getElem?_drop]

theorem u16_drop (s : List UInt8) (a : Nat) : u16 (s.drop a) = 256 * byte s a + byte s (a + 1) := by
  unfold u16
  rw [byte_drop, byte_drop, Nat.add_zero]

/-- how many bytes an instruction has -/
def sizeI (x : Ins) : Int :=
  if form x.2.1 = 98 then 2 else if form x.2.1 = 110 ∨ form x.2.1 = 106 then 3 else if form x.2.1 = 115 then 5 + 4 * x.2.2.2.1.length else 1

theorem oneI_size {s : List UInt8} {pc : Nat} (he : (oneI s pc).2.2 = 0) : (oneI s pc).2.1 = sizeI (oneI s pc).1 ∧ (oneI s pc).1.2.1 = byte s pc ∧ (oneI s pc).1.1 = pc := by
  have u := u16_lt ((s.drop (pc + 1)).drop 2)
  generalize hp : oneI s pc = p at *
  unfold oneI at hp
  simp only at hp
  generalize hr : s.drop (pc + 1) = rest at *
  rcases form_cases (byte s pc) with hf | hf | hf | hf | hf | hf
  all_goals simp only [hf, Int.reduceEq, if_true, if_false] at hp
  all_goals repeat' split at hp
  all_goals subst hp
  all_goals first
    | (simp at he; done)
    | skip
  all_goals simp [sizeI, hf, keysOf]
  all_goals omega

/-- the same operands behind an op of the same form, somewhere else -/
theorem oneI_agree {s s' : List UInt8} {pc pc' : Nat} {d : Int} (hd : (pc' : Int) = pc + d) (he : (oneI s pc).2.2 = 0) (hlen : (pc' : Int) + (oneI s pc).2.1 ≤ s'.length)
    (hf : form (byte s' pc') = form (byte s pc)) (hb : ∀ j : Nat, 1 ≤ j → (j : Int) < (oneI s pc).2.1 → byte s' (pc' + j) = byte s (pc + j)) :
    oneI s' pc' = (((pc' : Int), byte s' pc', (oneI s pc).1.2.2.1, (oneI s pc).1.2.2.2.1, (oneI s pc).1.2.2.2.2.map (· + d)), (oneI s pc).2.1, 0) := by
  have u := u16_lt ((s.drop (pc + 1)).drop 2)
  have hl : (s'.drop (pc' + 1)).length = s'.length - (pc' + 1) := by simp
  have hl0 : (s.drop (pc + 1)).length = s.length - (pc + 1) := by simp
  have u16' : ∀ k : Nat, ((k + 1 : Nat) : Int) + 1 < (oneI s pc).2.1 → u16 ((s'.drop (pc' + 1)).drop k) = u16 ((s.drop (pc + 1)).drop k) := by
    intro k hk
    rw [List.drop_drop, List.drop_drop, u16_drop, u16_drop]
    have h1 := hb (1 + k) (by omega) (by omega)
    have h2 := hb (1 + k + 1) (by omega) (by omega)
    rw [show pc' + 1 + k = pc' + (1 + k) by omega, show pc + 1 + k = pc + (1 + k) by omega, h1, show pc' + (1 + k) + 1 = pc' + (1 + k + 1) by omega, h2]
    rfl
  have s16' : ∀ k : Nat, ((k + 1 : Nat) : Int) + 1 < (oneI s pc).2.1 → s16 ((s'.drop (pc' + 1)).drop k) = s16 ((s.drop (pc + 1)).drop k) := fun k hk => by
    unfold s16; rw [u16' k hk]
  have u0 : (2 : Int) < (oneI s pc).2.1 → u16 (s'.drop (pc' + 1)) = u16 (s.drop (pc + 1)) := fun h => by have := u16' 0 (by omega); simpa using this
  have s0 : (2 : Int) < (oneI s pc).2.1 → s16 (s'.drop (pc' + 1)) = s16 (s.drop (pc + 1)) := fun h => by have := s16' 0 (by omega); simpa using this
  have b0 : (1 : Int) < (oneI s pc).2.1 → byte (s'.drop (pc' + 1)) 0 = byte (s.drop (pc + 1)) 0 := fun h => by
    rw [byte_drop, byte_drop]; exact hb 1 (by omega) (by omega)
  generalize hp : oneI s pc = p at *
  unfold oneI at hp
  simp only at hp
  unfold oneI
  simp only [hf]
  rcases form_cases (byte s pc) with hf | hf | hf | hf | hf | hf
  all_goals simp only [hf, Int.reduceEq, if_true, if_false] at hp ⊢
  · subst hp; simp at he
  · subst hp; simp
  · split at hp
    · subst hp; simp at he
    · subst hp
      simp only at *
      rw [if_neg (by omega), b0 (by omega)]
      simp
  · split at hp
    · subst hp; simp at he
    · subst hp
      simp only at *
      rw [if_neg (by omega), u0 (by omega)]
      simp
  · split at hp
    · subst hp; simp at he
    · subst hp
      simp only at *
      rw [if_neg (by omega), s0 (by omega)]
      simp
      omega
  · split at hp
    · subst hp; simp at he
    · rename_i h4
      split at hp
      · subst hp; simp at he
      · rename_i h5
        subst hp
        simp only at *
        rw [u16' 2 (by omega), s0 (by omega), if_neg (by omega), if_neg (by omega)]
        have hk : keysOf (s'.drop (pc' + 1)) (u16 ((s.drop (pc + 1)).drop 2)).toNat = keysOf (s.drop (pc + 1)) (u16 ((s.drop (pc + 1)).drop 2)).toNat := by
          unfold keysOf
          refine List.map_congr_left fun i hi => ?_
          rw [List.mem_range] at hi
          exact u16' _ (by omega)
        have ht : tosOf (s'.drop (pc' + 1)) pc' (u16 ((s.drop (pc + 1)).drop 2)).toNat = (tosOf (s.drop (pc + 1)) pc (u16 ((s.drop (pc + 1)).drop 2)).toNat).map (· + d) := by
          unfold tosOf
          rw [List.map_map]
          refine List.map_congr_left fun i hi => ?_
          rw [List.mem_range] at hi
          rw [s16' _ (by omega)]
          simp only [Function.comp]
          omega
        rw [hk, ht]
        simp
        omega

/-- code, instruction by instruction -/
inductive Chn (s : List UInt8) : Nat → List Ins → Prop where
  | nil : Chn s s.length []
  | cons {pc : Nat} {l : List Ins} (h : pc < s.length) (he : (oneI s pc).2.2 = 0) (hr : Chn s (pc + (oneI s pc).2.1.toNat) l) : Chn s pc ((oneI s pc).1 :: l)

theorem Chn.of {s : List UInt8} : ∀ (n pc : Nat) {l : List Ins}, s.length - pc ≤ n → pc ≤ s.length → scanAt s pc = (l, 0) → Chn s pc l := by
  intro n
  induction n with
  | zero =>
    intro pc l hn hp h
    have : pc = s.length := by omega
    subst this
    unfold scanAt at h
    rw [Nat.sub_self] at h
    simp only [scan, Prod.mk.injEq] at h
    rw [← h.1]
    exact .nil
  | succ n ih =>
    intro pc l hn hp h
    rcases Nat.lt_or_ge pc s.length with hlt | hge
    · rw [scanAt_step hlt] at h
      split at h
      · rename_i he
        exact absurd (Prod.mk.inj h).2 he
      · rename_i he
        have he : (oneI s pc).2.2 = 0 := by simpa using he
        obtain ⟨k1, k2, k3, _⟩ := oneI_ok hlt he
        generalize hq : scanAt s (pc + (oneI s pc).2.1.toNat) = q at h
        obtain ⟨l', e⟩ := q
        simp only at h
        split at h
        · rename_i he'
          exact absurd (Prod.mk.inj h).2 he'
        · rename_i he'
          have he' : e = 0 := by simpa using he'
          subst he'
          rw [← (Prod.mk.inj h).1]
          exact .cons hlt he (ih _ (by omega) (by omega) hq)
    · have : pc = s.length := by omega
      subst this
      unfold scanAt at h
      rw [Nat.sub_self] at h
      simp only [scan, Prod.mk.injEq] at h
      rw [← h.1]
      exact .nil

theorem Chn.scan {s : List UInt8} {pc : Nat} {l : List Ins} (h : Chn s pc l) : scanAt s pc = (l, 0) := by
  induction h with
  | nil => unfold scanAt; rw [Nat.sub_self]; rfl
  | cons h he hr ih =>
    rw [scanAt_step h, if_neg (by simpa using he), ih]
    rfl

end Go.Proofs.Ytaaedebknacheaa.AB

set_option linter.unusedVariables false
set_option linter.unusedSimpArgs false
set_option maxRecDepth 100000
set_option maxHeartbeats 2000000
namespace Go.Proofs.Ytaaedebknacheaa.AB
open Go
/-! crucible/code.Name -/
noncomputable def X24 : Cx := ⟨tt, [], [(24, [(3, 0, .inl)])], [], [(61, Try.f61)]⟩
theorem FN24 : fnsB Try.prog X24.fns := (show (Try.prog.funcs[61]? = some Try.f61 ∧ Try.f61.name ≠ "runtime.NumGoroutine" ∧ True) from ⟨by kernel_rfl, by decide, trivial⟩)
theorem E24 (op0 : Int) {R : V → Prop} (h : (((decide (op0 < (0 : Int))) = true → R (.tup [(.str ([] : List UInt8)), (.bool false)])) ∧ ((decide (op0 < (0 : Int))) = false → (((decide (op0 > (63 : Int))) = true → R (.tup [(.str ([] : List UInt8)), (.bool false)])) ∧
 ((decide (op0 > (63 : Int))) = false → (0 ≤ op0 ∧ op0 < 64 ∧ R (.tup [(.str ((([(([110, 111, 112] : List UInt8), (45 : Int)), (([105, 110, 116] : List UInt8), (110 : Int)), (([116, 101, 120, 116] : List UInt8), (110 : Int)), (([110, 117, 108, 108] : List UInt8), (45 : Int)), (([108, 111, 97, 100] : List UInt8), (98 : Int)), (([115, 116, 111, 114, 101] : List UInt8), (98 : Int)), (([112, 111, 112] : List UInt8), (45 : Int)), (([100, 117, 112] : List UInt8), (45 : Int)), (([115, 119, 97, 112] : List UInt8), (45 : Int)), (([97, 100, 100] : List UInt8), (45 : Int)), (([115, 117, 98] : List UInt8), (45 : Int)), (([109, 117, 108] : List UInt8), (45 : Int)), (([100, 105, 118] : List UInt8), (45 : Int)), (([114, 101, 109] : List UInt8), (45 : Int)), (([110, 101, 103] : List UInt8), (45 : Int)), (([97, 110, 100] : List UInt8), (45 : Int)), (([111, 114] : List UInt8), (45 : Int)), (([120, 111, 114] : List UInt8), (45 : Int)), (([115, 104, 108] : List UInt8), (45 : Int)), (([115, 104, 114] : List UInt8), (45 : Int)), (([103, 111, 116, 111] : List UInt8), (106 : Int)), (([105, 102, 101, 113] : List UInt8), (106 : Int)), (([105, 102, 110, 101] : List UInt8), (106 : Int)), (([105, 102, 108, 116] : List UInt8), (106 : Int)), (([105, 102, 103, 101] : List UInt8), (106 : Int)), (([99, 109, 112, 101, 113] : List UInt8), (106 : Int)), (([99, 109, 112, 108, 116] : List UInt8), (106 : Int)), (([105, 102, 110, 117, 108, 108] : List UInt8), (106 : Int)), (([105, 102, 115, 111, 109, 101] : List UInt8), (106 : Int)), (([115, 97, 109, 101] : List UInt8), (106 : Int)), (([115, 119, 105, 116, 99, 104] : List UInt8), (115 : Int)), (([110, 101, 119] : List UInt8), (110 : Int)), (([97, 114, 114, 97, 121] : List UInt8), (110 : Int)), (([108, 101, 110] : List UInt8), (45 : Int)), (([97, 103, 101, 116] : List UInt8), (45 : Int)), (([97, 112, 117, 116] : List UInt8), (45 : Int)), (([103, 101, 116] : List UInt8), (110 : Int)), (([112, 117, 116] : List UInt8), (110 : Int)), (([115, 103, 101, 116] : List UInt8), (110 : Int)), (([115, 112, 117, 116] : List UInt8), (110 : Int)), (([118, 105, 114, 116] : List UInt8), (110 : Int)), (([105, 102, 97, 99, 101] : List UInt8), (110 : Int)), (([115, 116, 97, 116] : List UInt8), (110 : Int)), (([115, 112, 101, 99] : List UInt8), (110 : Int)), (([114, 101, 116] : List UInt8), (45 : Int)), (([118, 114, 101, 116] : List UInt8), (45 : Int)), (([116, 104, 114, 111, 119] : List UInt8), (45 : Int)), (([99, 97, 115, 116] : List UInt8), (110 : Int)), (([105, 115] : List UInt8), (110 : Int)), (([101, 110, 116, 101, 114] : List UInt8), (45 : Int)), (([101, 120, 105, 116] : List UInt8), (45 : Int)), (([115, 112, 97, 119, 110] : List UInt8), (110 : Int)), (([106, 111, 105, 110] : List UInt8), (45 : Int)), (([121, 105, 101, 108, 100] : List UInt8), (45 : Int)), (([112, 114, 105, 110, 116] : List UInt8), (45 : Int)), (([112, 114, 105, 110, 116, 115] : List UInt8), (45 : Int)), (([119, 101, 97, 107] : List UInt8), (45 : Int)), (([100, 101, 114, 101, 102] : List UInt8), (45 : Int)), (([115, 108, 101, 110] : List UInt8), (45 : Int)), (([115, 99, 104, 97, 114] : List UInt8), (45 : Int)), (([115, 99, 97, 116] : List UInt8), (45 : Int)), (([105, 110, 116, 101, 114, 110] : List UInt8), (45 : Int)), (([108, 111, 97, 100, 101, 114] : List UInt8), (45 : Int)), (([109, 97, 107, 101] : List UInt8), (45 : Int))] : List ((List UInt8) × Int)).getD (op0).toNat ([], 0)).1)), (.bool true)]))))))) :
  fnK X24.tt (callN Try.prog X24 1) (X24.md 24) (X24.mk1 24) Try.f24 [(.v (.int .i64 op0))] ⟨[], [], ⟨0, []⟩⟩ (topK R) := Eq.mp (by kernel_rfl) h
end Go.Proofs.Ytaaedebknacheaa.AB

set_option linter.unusedVariables false
set_option linter.unusedSimpArgs false
set_option maxRecDepth 100000
set_option maxHeartbeats 2000000
namespace Go.Proofs.Ytaaedebknacheaa.AB
open Go
/-! crucible/crucibleref4.Name -/
noncomputable def X25 : Cx := ⟨tt, [(62, [.cd (.slice .str)])], [], [], []⟩
theorem FN25 : fnsB Try.prog X25.fns := (show True from trivial)
theorem E25 (op0 : Int) {R : V → Prop} (h : (((decide (op0 < (0 : Int))) = true → R (.tup [(.str ([] : List UInt8)), (.bool false)])) ∧ ((decide (op0 < (0 : Int))) = false → (((decide (op0 > (63 : Int))) = true → R (.tup [(.str ([] : List UInt8)), (.bool false)])) ∧
 ((decide (op0 > (63 : Int))) = false → (∃ p1 : (List (List UInt8)), PC Try.prog 62 [] (.list .str p1 .no) ∧ (0 ≤ op0 ∧ op0 < ((p1).length : Int) ∧ R (.tup [(.str ((p1.getD (op0).toNat []))), (.bool true)])))))))) :
  fnK X25.tt (callN Try.prog X25 0) (X25.md 25) (X25.mk1 25) Try.f25 [(.v (.int .i64 op0))] ⟨[], [], ⟨0, []⟩⟩ (topK R) := Eq.mp (by kernel_rfl) h
end Go.Proofs.Ytaaedebknacheaa.AB

set_option linter.unusedVariables false
set_option linter.unusedSimpArgs false
set_option maxRecDepth 100000
set_option maxHeartbeats 2000000
namespace Go.Proofs.Ytaaedebknacheaa.AB
open Go
/-! crucible/code.Op -/
noncomputable def X26 : Cx := ⟨tt, [], [(26, [(1, 0, .inl)])], [(26, [(0, mkM 17 0 [0, 6, 7], 1)])], [(61, Try.f61)]⟩
theorem FN26 : fnsB Try.prog X26.fns := (show (Try.prog.funcs[61]? = some Try.f61 ∧ Try.f61.name ≠ "runtime.NumGoroutine" ∧ True) from ⟨by kernel_rfl, by decide, trivial⟩)
def M26_0 : List Bool × Nat := (mkM 17 0 [0, 6, 7], 1)
def S26_0 (name0 : List UInt8) (t7 : Int) (T : Toks) : St :=
  mkS 17 [(0, (.v (.str name0))), (6, (.v (V.agg (List.cons (V.str ([110, 111, 112] : List UInt8)) (List.cons (V.int IntKind.u8 (45 : Int)) (List.cons (V.str ([105, 110, 116] : List UInt8)) (List.cons (V.int IntKind.u8 (110 : Int)) (List.cons (V.str ([116, 101, 120, 116] : List UInt8)) (List.cons (V.int IntKind.u8 (110 : Int)) (List.cons (V.str ([110, 117, 108, 108] : List UInt8)) (List.cons (V.int IntKind.u8 (45 : Int)) (List.cons (V.str ([108, 111, 97, 100] : List UInt8)) (List.cons (V.int IntKind.u8 (98 : Int)) (List.cons (V.str ([115, 116, 111, 114, 101] : List UInt8)) (List.cons (V.int IntKind.u8 (98 : Int)) (List.cons (V.str ([112, 111, 112] : List UInt8)) (List.cons (V.int IntKind.u8 (45 : Int)) (List.cons (V.str ([100, 117, 112] : List UInt8)) (List.cons (V.int IntKind.u8 (45 : Int)) (List.cons (V.str ([115, 119, 97, 112] : List UInt8)) (List.cons (V.int IntKind.u8 (45 : Int)) (List.cons (V.str ([97, 100, 100] : List UInt8)) (List.cons (V.int IntKind.u8 (45 : Int)) (List.cons (V.str ([115, 117, 98] : List UInt8)) (List.cons (V.int IntKind.u8 (45 : Int)) (List.cons (V.str ([109, 117, 108] : List UInt8)) (List.cons (V.int IntKind.u8 (45 : Int)) (List.cons (V.str ([100, 105, 118] : List UInt8)) (List.cons (V.int IntKind.u8 (45 : Int)) (List.cons (V.str ([114, 101, 109] : List UInt8)) (List.cons (V.int IntKind.u8 (45 : Int)) (List.cons (V.str ([110, 101, 103] : List UInt8)) (List.cons (V.int IntKind.u8 (45 : Int)) (List.cons (V.str ([97, 110, 100] : List UInt8)) (List.cons (V.int IntKind.u8 (45 : Int)) (List.cons (V.str ([111, 114] : List UInt8)) (List.cons (V.int IntKind.u8 (45 : Int)) (List.cons (V.str ([120, 111, 114] : List UInt8)) (List.cons (V.int IntKind.u8 (45 : Int)) (List.cons (V.str ([115, 104, 108] : List UInt8)) (List.cons (V.int IntKind.u8 (45 : Int)) (List.cons (V.str ([115, 104, 114] : List UInt8)) (List.cons (V.int IntKind.u8 (45 : Int)) (List.cons (V.str ([103, 111, 116, 111] : List UInt8)) (List.cons (V.int IntKind.u8 (106 : Int)) (List.cons (V.str ([105, 102, 101, 113] : List UInt8)) (List.cons (V.int IntKind.u8 (106 : Int)) (List.cons (V.str ([105, 102, 110, 101] : List UInt8)) (List.cons (V.int IntKind.u8 (106 : Int)) (List.cons (V.str ([105, 102, 108, 116] : List UInt8)) (List.cons (V.int IntKind.u8 (106 : Int)) (List.cons (V.str ([105, 102, 103, 101] : List UInt8)) (List.cons (V.int IntKind.u8 (106 : Int)) (List.cons (V.str ([99, 109, 112, 101, 113] : List UInt8)) (List.cons (V.int IntKind.u8 (106 : Int)) (List.cons (V.str ([99, 109, 112, 108, 116] : List UInt8)) (List.cons (V.int IntKind.u8 (106 : Int)) (List.cons (V.str ([105, 102, 110, 117, 108, 108] : List UInt8)) (List.cons (V.int IntKind.u8 (106 : Int)) (List.cons (V.str ([105, 102, 115, 111, 109, 101] : List UInt8)) (List.cons (V.int IntKind.u8 (106 : Int)) (List.cons (V.str ([115, 97, 109, 101] : List UInt8)) (List.cons (V.int IntKind.u8 (106 : Int)) (List.cons (V.str ([115, 119, 105, 116, 99, 104] : List UInt8)) (List.cons (V.int IntKind.u8 (115 : Int)) (List.cons (V.str ([110, 101, 119] : List UInt8)) (List.cons (V.int IntKind.u8 (110 : Int)) (List.cons (V.str ([97, 114, 114, 97, 121] : List UInt8)) (List.cons (V.int IntKind.u8 (110 : Int)) (List.cons (V.str ([108, 101, 110] : List UInt8)) (List.cons (V.int IntKind.u8 (45 : Int)) (List.cons (V.str ([97, 103, 101, 116] : List UInt8)) (List.cons (V.int IntKind.u8 (45 : Int)) (List.cons (V.str ([97, 112, 117, 116] : List UInt8)) (List.cons (V.int IntKind.u8 (45 : Int)) (List.cons (V.str ([103, 101, 116] : List UInt8)) (List.cons (V.int IntKind.u8 (110 : Int)) (List.cons (V.str ([112, 117, 116] : List UInt8)) (List.cons (V.int IntKind.u8 (110 : Int)) (List.cons (V.str ([115, 103, 101, 116] : List UInt8)) (List.cons (V.int IntKind.u8 (110 : Int)) (List.cons (V.str ([115, 112, 117, 116] : List UInt8)) (List.cons (V.int IntKind.u8 (110 : Int)) (List.cons (V.str ([118, 105, 114, 116] : List UInt8)) (List.cons (V.int IntKind.u8 (110 : Int)) (List.cons (V.str ([105, 102, 97, 99, 101] : List UInt8)) (List.cons (V.int IntKind.u8 (110 : Int)) (List.cons (V.str ([115, 116, 97, 116] : List UInt8)) (List.cons (V.int IntKind.u8 (110 : Int)) (List.cons (V.str ([115, 112, 101, 99] : List UInt8)) (List.cons (V.int IntKind.u8 (110 : Int)) (List.cons (V.str ([114, 101, 116] : List UInt8)) (List.cons (V.int IntKind.u8 (45 : Int)) (List.cons (V.str ([118, 114, 101, 116] : List UInt8)) (List.cons (V.int IntKind.u8 (45 : Int)) (List.cons (V.str ([116, 104, 114, 111, 119] : List UInt8)) (List.cons (V.int IntKind.u8 (45 : Int)) (List.cons (V.str ([99, 97, 115, 116] : List UInt8)) (List.cons (V.int IntKind.u8 (110 : Int)) (List.cons (V.str ([105, 115] : List UInt8)) (List.cons (V.int IntKind.u8 (110 : Int)) (List.cons (V.str ([101, 110, 116, 101, 114] : List UInt8)) (List.cons (V.int IntKind.u8 (45 : Int)) (List.cons (V.str ([101, 120, 105, 116] : List UInt8)) (List.cons (V.int IntKind.u8 (45 : Int)) (List.cons (V.str ([115, 112, 97, 119, 110] : List UInt8)) (List.cons (V.int IntKind.u8 (110 : Int)) (List.cons (V.str ([106, 111, 105, 110] : List UInt8)) (List.cons (V.int IntKind.u8 (45 : Int)) (List.cons (V.str ([121, 105, 101, 108, 100] : List UInt8)) (List.cons (V.int IntKind.u8 (45 : Int)) (List.cons (V.str ([112, 114, 105, 110, 116] : List UInt8)) (List.cons (V.int IntKind.u8 (45 : Int)) (List.cons (V.str ([112, 114, 105, 110, 116, 115] : List UInt8)) (List.cons (V.int IntKind.u8 (45 : Int)) (List.cons (V.str ([119, 101, 97, 107] : List UInt8)) (List.cons (V.int IntKind.u8 (45 : Int)) (List.cons (V.str ([100, 101, 114, 101, 102] : List UInt8)) (List.cons (V.int IntKind.u8 (45 : Int)) (List.cons (V.str ([115, 108, 101, 110] : List UInt8)) (List.cons (V.int IntKind.u8 (45 : Int)) (List.cons (V.str ([115, 99, 104, 97, 114] : List UInt8)) (List.cons (V.int IntKind.u8 (45 : Int)) (List.cons (V.str ([115, 99, 97, 116] : List UInt8)) (List.cons (V.int IntKind.u8 (45 : Int)) (List.cons (V.str ([105, 110, 116, 101, 114, 110] : List UInt8)) (List.cons (V.int IntKind.u8 (45 : Int)) (List.cons (V.str ([108, 111, 97, 100, 101, 114] : List UInt8)) (List.cons (V.int IntKind.u8 (45 : Int)) (List.cons (V.str ([109, 97, 107, 101] : List UInt8)) (List.cons (V.int IntKind.u8 (45 : Int)) ([] : List V)))))))))))))))))))))))))))))))))))))))))))))))))))))))))))))))))))))))))))))))))))))))))))))))))))))))))))))))))))))))))))))))))))), (7, (.v (.int .i64 t7)))] [(some (.box (.v (V.agg (List.cons (V.str ([110, 111, 112] : List UInt8)) (List.cons (V.int IntKind.u8 (45 : Int)) (List.cons (V.str ([105, 110, 116] : List UInt8)) (List.cons (V.int IntKind.u8 (110 : Int)) (List.cons (V.str ([116, 101, 120, 116] : List UInt8)) (List.cons (V.int IntKind.u8 (110 : Int)) (List.cons (V.str ([110, 117, 108, 108] : List UInt8)) (List.cons (V.int IntKind.u8 (45 : Int)) (List.cons (V.str ([108, 111, 97, 100] : List UInt8)) (List.cons (V.int IntKind.u8 (98 : Int)) (List.cons (V.str ([115, 116, 111, 114, 101] : List UInt8)) (List.cons (V.int IntKind.u8 (98 : Int)) (List.cons (V.str ([112, 111, 112] : List UInt8)) (List.cons (V.int IntKind.u8 (45 : Int)) (List.cons (V.str ([100, 117, 112] : List UInt8)) (List.cons (V.int IntKind.u8 (45 : Int)) (List.cons (V.str ([115, 119, 97, 112] : List UInt8)) (List.cons (V.int IntKind.u8 (45 : Int)) (List.cons (V.str ([97, 100, 100] : List UInt8)) (List.cons (V.int IntKind.u8 (45 : Int)) (List.cons (V.str ([115, 117, 98] : List UInt8)) (List.cons (V.int IntKind.u8 (45 : Int)) (List.cons (V.str ([109, 117, 108] : List UInt8)) (List.cons (V.int IntKind.u8 (45 : Int)) (List.cons (V.str ([100, 105, 118] : List UInt8)) (List.cons (V.int IntKind.u8 (45 : Int)) (List.cons (V.str ([114, 101, 109] : List UInt8)) (List.cons (V.int IntKind.u8 (45 : Int)) (List.cons (V.str ([110, 101, 103] : List UInt8)) (List.cons (V.int IntKind.u8 (45 : Int)) (List.cons (V.str ([97, 110, 100] : List UInt8)) (List.cons (V.int IntKind.u8 (45 : Int)) (List.cons (V.str ([111, 114] : List UInt8)) (List.cons (V.int IntKind.u8 (45 : Int)) (List.cons (V.str ([120, 111, 114] : List UInt8)) (List.cons (V.int IntKind.u8 (45 : Int)) (List.cons (V.str ([115, 104, 108] : List UInt8)) (List.cons (V.int IntKind.u8 (45 : Int)) (List.cons (V.str ([115, 104, 114] : List UInt8)) (List.cons (V.int IntKind.u8 (45 : Int)) (List.cons (V.str ([103, 111, 116, 111] : List UInt8)) (List.cons (V.int IntKind.u8 (106 : Int)) (List.cons (V.str ([105, 102, 101, 113] : List UInt8)) (List.cons (V.int IntKind.u8 (106 : Int)) (List.cons (V.str ([105, 102, 110, 101] : List UInt8)) (List.cons (V.int IntKind.u8 (106 : Int)) (List.cons (V.str ([105, 102, 108, 116] : List UInt8)) (List.cons (V.int IntKind.u8 (106 : Int)) (List.cons (V.str ([105, 102, 103, 101] : List UInt8)) (List.cons (V.int IntKind.u8 (106 : Int)) (List.cons (V.str ([99, 109, 112, 101, 113] : List UInt8)) (List.cons (V.int IntKind.u8 (106 : Int)) (List.cons (V.str ([99, 109, 112, 108, 116] : List UInt8)) (List.cons (V.int IntKind.u8 (106 : Int)) (List.cons (V.str ([105, 102, 110, 117, 108, 108] : List UInt8)) (List.cons (V.int IntKind.u8 (106 : Int)) (List.cons (V.str ([105, 102, 115, 111, 109, 101] : List UInt8)) (List.cons (V.int IntKind.u8 (106 : Int)) (List.cons (V.str ([115, 97, 109, 101] : List UInt8)) (List.cons (V.int IntKind.u8 (106 : Int)) (List.cons (V.str ([115, 119, 105, 116, 99, 104] : List UInt8)) (List.cons (V.int IntKind.u8 (115 : Int)) (List.cons (V.str ([110, 101, 119] : List UInt8)) (List.cons (V.int IntKind.u8 (110 : Int)) (List.cons (V.str ([97, 114, 114, 97, 121] : List UInt8)) (List.cons (V.int IntKind.u8 (110 : Int)) (List.cons (V.str ([108, 101, 110] : List UInt8)) (List.cons (V.int IntKind.u8 (45 : Int)) (List.cons (V.str ([97, 103, 101, 116] : List UInt8)) (List.cons (V.int IntKind.u8 (45 : Int)) (List.cons (V.str ([97, 112, 117, 116] : List UInt8)) (List.cons (V.int IntKind.u8 (45 : Int)) (List.cons (V.str ([103, 101, 116] : List UInt8)) (List.cons (V.int IntKind.u8 (110 : Int)) (List.cons (V.str ([112, 117, 116] : List UInt8)) (List.cons (V.int IntKind.u8 (110 : Int)) (List.cons (V.str ([115, 103, 101, 116] : List UInt8)) (List.cons (V.int IntKind.u8 (110 : Int)) (List.cons (V.str ([115, 112, 117, 116] : List UInt8)) (List.cons (V.int IntKind.u8 (110 : Int)) (List.cons (V.str ([118, 105, 114, 116] : List UInt8)) (List.cons (V.int IntKind.u8 (110 : Int)) (List.cons (V.str ([105, 102, 97, 99, 101] : List UInt8)) (List.cons (V.int IntKind.u8 (110 : Int)) (List.cons (V.str ([115, 116, 97, 116] : List UInt8)) (List.cons (V.int IntKind.u8 (110 : Int)) (List.cons (V.str ([115, 112, 101, 99] : List UInt8)) (List.cons (V.int IntKind.u8 (110 : Int)) (List.cons (V.str ([114, 101, 116] : List UInt8)) (List.cons (V.int IntKind.u8 (45 : Int)) (List.cons (V.str ([118, 114, 101, 116] : List UInt8)) (List.cons (V.int IntKind.u8 (45 : Int)) (List.cons (V.str ([116, 104, 114, 111, 119] : List UInt8)) (List.cons (V.int IntKind.u8 (45 : Int)) (List.cons (V.str ([99, 97, 115, 116] : List UInt8)) (List.cons (V.int IntKind.u8 (110 : Int)) (List.cons (V.str ([105, 115] : List UInt8)) (List.cons (V.int IntKind.u8 (110 : Int)) (List.cons (V.str ([101, 110, 116, 101, 114] : List UInt8)) (List.cons (V.int IntKind.u8 (45 : Int)) (List.cons (V.str ([101, 120, 105, 116] : List UInt8)) (List.cons (V.int IntKind.u8 (45 : Int)) (List.cons (V.str ([115, 112, 97, 119, 110] : List UInt8)) (List.cons (V.int IntKind.u8 (110 : Int)) (List.cons (V.str ([106, 111, 105, 110] : List UInt8)) (List.cons (V.int IntKind.u8 (45 : Int)) (List.cons (V.str ([121, 105, 101, 108, 100] : List UInt8)) (List.cons (V.int IntKind.u8 (45 : Int)) (List.cons (V.str ([112, 114, 105, 110, 116] : List UInt8)) (List.cons (V.int IntKind.u8 (45 : Int)) (List.cons (V.str ([112, 114, 105, 110, 116, 115] : List UInt8)) (List.cons (V.int IntKind.u8 (45 : Int)) (List.cons (V.str ([119, 101, 97, 107] : List UInt8)) (List.cons (V.int IntKind.u8 (45 : Int)) (List.cons (V.str ([100, 101, 114, 101, 102] : List UInt8)) (List.cons (V.int IntKind.u8 (45 : Int)) (List.cons (V.str ([115, 108, 101, 110] : List UInt8)) (List.cons (V.int IntKind.u8 (45 : Int)) (List.cons (V.str ([115, 99, 104, 97, 114] : List UInt8)) (List.cons (V.int IntKind.u8 (45 : Int)) (List.cons (V.str ([115, 99, 97, 116] : List UInt8)) (List.cons (V.int IntKind.u8 (45 : Int)) (List.cons (V.str ([105, 110, 116, 101, 114, 110] : List UInt8)) (List.cons (V.int IntKind.u8 (45 : Int)) (List.cons (V.str ([108, 111, 97, 100, 101, 114] : List UInt8)) (List.cons (V.int IntKind.u8 (45 : Int)) (List.cons (V.str ([109, 97, 107, 101] : List UInt8)) (List.cons (V.int IntKind.u8 (45 : Int)) ([] : List V)))))))))))))))))))))))))))))))))))))))))))))))))))))))))))))))))))))))))))))))))))))))))))))))))))))))))))))))))))))))))))))))))))))] T
noncomputable def B26_0 : (Exit → St → Prop) → St → Prop := (awp X26.tt (callN Try.prog X26 1) (X26.md 26) 0 (X26.mk1 26) 0 (codeAt [1, 0, 1, 0, 0] (bd Try.f26)))
noncomputable def K26_0 (R : V → Prop) : Exit → St → Prop := seqK ((awp X26.tt (callN Try.prog X26 1) (X26.md 26) 0 (X26.mk1 26) 0 (codeAt [1, 1] (bd Try.f26))) (retK tt Try.f26.results.toList fun x s' => topK R x ⟨[], s'.hp, s'.T⟩)) (retK tt Try.f26.results.toList fun x s' => topK R x ⟨[], s'.hp, s'.T⟩)
noncomputable def Q26_0 (R : V → Prop) : Exit → St → Prop := (blockK 0 (K26_0 R))
theorem E26 (name0 : (List UInt8)) {R : V → Prop} (h : (Loops B26_0 M26_0 (Q26_0 R)
  (S26_0 name0 (0 : Int) ⟨0, []⟩))) :
  Wrap (fnK X26.tt (callN Try.prog X26 1) (X26.md 26) (X26.mk1 26) Try.f26 [(.v (.str name0))] ⟨[], [], ⟨0, []⟩⟩ (topK R)) := Wrap.cast (by kernel_rfl) ⟨h⟩
theorem L26_0 (name0 : List UInt8) (t7 : Int) (T : Toks) {R : V → Prop} {k0 : St → Prop}
 (h : (((decide (t7 < (64 : Int))) = true → (0 ≤ t7 ∧ t7 < 64 ∧ (((((([(([110, 111, 112] : List UInt8), (45 : Int)), (([105, 110, 116] : List UInt8), (110 : Int)), (([116, 101, 120, 116] : List UInt8), (110 : Int)), (([110, 117, 108, 108] : List UInt8), (45 : Int)), (([108, 111, 97, 100] : List UInt8), (98 : Int)), (([115, 116, 111, 114, 101] : List UInt8), (98 : Int)), (([112, 111, 112] : List UInt8), (45 : Int)), (([100, 117, 112] : List UInt8), (45 : Int)), (([115, 119, 97, 112] : List UInt8), (45 : Int)), (([97, 100, 100] : List UInt8), (45 : Int)), (([115, 117, 98] : List UInt8), (45 : Int)), (([109, 117, 108] : List UInt8), (45 : Int)), (([100, 105, 118] : List UInt8), (45 : Int)), (([114, 101, 109] : List UInt8), (45 : Int)), (([110, 101, 103] : List UInt8), (45 : Int)), (([97, 110, 100] : List UInt8), (45 : Int)), (([111, 114] : List UInt8), (45 : Int)), (([120, 111, 114] : List UInt8), (45 : Int)), (([115, 104, 108] : List UInt8), (45 : Int)), (([115, 104, 114] : List UInt8), (45 : Int)), (([103, 111, 116, 111] : List UInt8), (106 : Int)), (([105, 102, 101, 113] : List UInt8), (106 : Int)), (([105, 102, 110, 101] : List UInt8), (106 : Int)), (([105, 102, 108, 116] : List UInt8), (106 : Int)), (([105, 102, 103, 101] : List UInt8), (106 : Int)), (([99, 109, 112, 101, 113] : List UInt8), (106 : Int)), (([99, 109, 112, 108, 116] : List UInt8), (106 : Int)), (([105, 102, 110, 117, 108, 108] : List UInt8), (106 : Int)), (([105, 102, 115, 111, 109, 101] : List UInt8), (106 : Int)), (([115, 97, 109, 101] : List UInt8), (106 : Int)), (([115, 119, 105, 116, 99, 104] : List UInt8), (115 : Int)), (([110, 101, 119] : List UInt8), (110 : Int)), (([97, 114, 114, 97, 121] : List UInt8), (110 : Int)), (([108, 101, 110] : List UInt8), (45 : Int)), (([97, 103, 101, 116] : List UInt8), (45 : Int)), (([97, 112, 117, 116] : List UInt8), (45 : Int)), (([103, 101, 116] : List UInt8), (110 : Int)), (([112, 117, 116] : List UInt8), (110 : Int)), (([115, 103, 101, 116] : List UInt8), (110 : Int)), (([115, 112, 117, 116] : List UInt8), (110 : Int)), (([118, 105, 114, 116] : List UInt8), (110 : Int)), (([105, 102, 97, 99, 101] : List UInt8), (110 : Int)), (([115, 116, 97, 116] : List UInt8), (110 : Int)), (([115, 112, 101, 99] : List UInt8), (110 : Int)), (([114, 101, 116] : List UInt8), (45 : Int)), (([118, 114, 101, 116] : List UInt8), (45 : Int)), (([116, 104, 114, 111, 119] : List UInt8), (45 : Int)), (([99, 97, 115, 116] : List UInt8), (110 : Int)), (([105, 115] : List UInt8), (110 : Int)), (([101, 110, 116, 101, 114] : List UInt8), (45 : Int)), (([101, 120, 105, 116] : List UInt8), (45 : Int)), (([115, 112, 97, 119, 110] : List UInt8), (110 : Int)), (([106, 111, 105, 110] : List UInt8), (45 : Int)), (([121, 105, 101, 108, 100] : List UInt8), (45 : Int)), (([112, 114, 105, 110, 116] : List UInt8), (45 : Int)), (([112, 114, 105, 110, 116, 115] : List UInt8), (45 : Int)), (([119, 101, 97, 107] : List UInt8), (45 : Int)), (([100, 101, 114, 101, 102] : List UInt8), (45 : Int)), (([115, 108, 101, 110] : List UInt8), (45 : Int)), (([115, 99, 104, 97, 114] : List UInt8), (45 : Int)), (([115, 99, 97, 116] : List UInt8), (45 : Int)), (([105, 110, 116, 101, 114, 110] : List UInt8), (45 : Int)), (([108, 111, 97, 100, 101, 114] : List UInt8), (45 : Int)), (([109, 97, 107, 101] : List UInt8), (45 : Int))] : List ((List UInt8) × Int)).getD (t7).toNat ([], 0)).1) == name0) = true → R (.tup [(.int .i64 t7), (.bool true)])) ∧
 ((((([(([110, 111, 112] : List UInt8), (45 : Int)), (([105, 110, 116] : List UInt8), (110 : Int)), (([116, 101, 120, 116] : List UInt8), (110 : Int)), (([110, 117, 108, 108] : List UInt8), (45 : Int)), (([108, 111, 97, 100] : List UInt8), (98 : Int)), (([115, 116, 111, 114, 101] : List UInt8), (98 : Int)), (([112, 111, 112] : List UInt8), (45 : Int)), (([100, 117, 112] : List UInt8), (45 : Int)), (([115, 119, 97, 112] : List UInt8), (45 : Int)), (([97, 100, 100] : List UInt8), (45 : Int)), (([115, 117, 98] : List UInt8), (45 : Int)), (([109, 117, 108] : List UInt8), (45 : Int)), (([100, 105, 118] : List UInt8), (45 : Int)), (([114, 101, 109] : List UInt8), (45 : Int)), (([110, 101, 103] : List UInt8), (45 : Int)), (([97, 110, 100] : List UInt8), (45 : Int)), (([111, 114] : List UInt8), (45 : Int)), (([120, 111, 114] : List UInt8), (45 : Int)), (([115, 104, 108] : List UInt8), (45 : Int)), (([115, 104, 114] : List UInt8), (45 : Int)), (([103, 111, 116, 111] : List UInt8), (106 : Int)), (([105, 102, 101, 113] : List UInt8), (106 : Int)), (([105, 102, 110, 101] : List UInt8), (106 : Int)), (([105, 102, 108, 116] : List UInt8), (106 : Int)), (([105, 102, 103, 101] : List UInt8), (106 : Int)), (([99, 109, 112, 101, 113] : List UInt8), (106 : Int)), (([99, 109, 112, 108, 116] : List UInt8), (106 : Int)), (([105, 102, 110, 117, 108, 108] : List UInt8), (106 : Int)), (([105, 102, 115, 111, 109, 101] : List UInt8), (106 : Int)), (([115, 97, 109, 101] : List UInt8), (106 : Int)), (([115, 119, 105, 116, 99, 104] : List UInt8), (115 : Int)), (([110, 101, 119] : List UInt8), (110 : Int)), (([97, 114, 114, 97, 121] : List UInt8), (110 : Int)), (([108, 101, 110] : List UInt8), (45 : Int)), (([97, 103, 101, 116] : List UInt8), (45 : Int)), (([97, 112, 117, 116] : List UInt8), (45 : Int)), (([103, 101, 116] : List UInt8), (110 : Int)), (([112, 117, 116] : List UInt8), (110 : Int)), (([115, 103, 101, 116] : List UInt8), (110 : Int)), (([115, 112, 117, 116] : List UInt8), (110 : Int)), (([118, 105, 114, 116] : List UInt8), (110 : Int)), (([105, 102, 97, 99, 101] : List UInt8), (110 : Int)), (([115, 116, 97, 116] : List UInt8), (110 : Int)), (([115, 112, 101, 99] : List UInt8), (110 : Int)), (([114, 101, 116] : List UInt8), (45 : Int)), (([118, 114, 101, 116] : List UInt8), (45 : Int)), (([116, 104, 114, 111, 119] : List UInt8), (45 : Int)), (([99, 97, 115, 116] : List UInt8), (110 : Int)), (([105, 115] : List UInt8), (110 : Int)), (([101, 110, 116, 101, 114] : List UInt8), (45 : Int)), (([101, 120, 105, 116] : List UInt8), (45 : Int)), (([115, 112, 97, 119, 110] : List UInt8), (110 : Int)), (([106, 111, 105, 110] : List UInt8), (45 : Int)), (([121, 105, 101, 108, 100] : List UInt8), (45 : Int)), (([112, 114, 105, 110, 116] : List UInt8), (45 : Int)), (([112, 114, 105, 110, 116, 115] : List UInt8), (45 : Int)), (([119, 101, 97, 107] : List UInt8), (45 : Int)), (([100, 101, 114, 101, 102] : List UInt8), (45 : Int)), (([115, 108, 101, 110] : List UInt8), (45 : Int)), (([115, 99, 104, 97, 114] : List UInt8), (45 : Int)), (([115, 99, 97, 116] : List UInt8), (45 : Int)), (([105, 110, 116, 101, 114, 110] : List UInt8), (45 : Int)), (([108, 111, 97, 100, 101, 114] : List UInt8), (45 : Int)), (([109, 97, 107, 101] : List UInt8), (45 : Int))] : List ((List UInt8) × Int)).getD (t7).toNat ([], 0)).1) == name0) = false → k0 (S26_0 name0 ((IntKind.wrap .i64 (t7 + (1 : Int)))) T))))) ∧
 ((decide (t7 < (64 : Int))) = false → R (.tup [(.int .i64 (0 : Int)), (.bool false)])))) :
  B26_0 (loopQ M26_0 k0 (Q26_0 R)) (S26_0 name0 t7 T) := Eq.mp (by kernel_rfl) h
end Go.Proofs.Ytaaedebknacheaa.AB

set_option linter.unusedVariables false
set_option linter.unusedSimpArgs false
set_option maxRecDepth 100000
set_option maxHeartbeats 2000000
namespace Go.Proofs.Ytaaedebknacheaa.AB
open Go
/-! crucible/crucibleref4.Op -/
noncomputable def X27 : Cx := ⟨tt, [(62, [.cd (.slice .str)])], [], [(27, [(0, mkM 20 0 [0, 4, 5], 0)])], []⟩
theorem FN27 : fnsB Try.prog X27.fns := (show True from trivial)
def M27_0 : List Bool × Nat := (mkM 20 0 [0, 4, 5], 0)
def S27_0 (name0 : List UInt8) (l4 : List (List UInt8)) (i5 : Int) (T : Toks) : St :=
  mkS 20 [(0, (.v (.str name0))), (4, (.v (.list .str l4 .no))), (5, (.v (.int .i64 i5)))] [] T
noncomputable def B27_0 : (Exit → St → Prop) → St → Prop := (awp X27.tt (callN Try.prog X27 0) (X27.md 27) 0 (X27.mk1 27) 0 (codeAt [1, 1, 0, 1, 0, 0] (bd Try.f27)))
noncomputable def K27_0 (R : V → Prop) : Exit → St → Prop := seqK ((awp X27.tt (callN Try.prog X27 0) (X27.md 27) 0 (X27.mk1 27) 0 (codeAt [1, 1, 1] (bd Try.f27))) (retK tt Try.f27.results.toList fun x s' => topK R x ⟨[], s'.hp, s'.T⟩)) (retK tt Try.f27.results.toList fun x s' => topK R x ⟨[], s'.hp, s'.T⟩)
noncomputable def Q27_0 (R : V → Prop) : Exit → St → Prop := (blockK 0 (K27_0 R))
theorem E27 (name0 : (List UInt8)) {R : V → Prop} (h : (∃ p1 : (List (List UInt8)), PC Try.prog 62 [] (.list .str p1 .no) ∧ (Loops B27_0 M27_0 (Q27_0 R)
  (S27_0 name0 p1 (0 : Int) ⟨0, []⟩)))) :
  fnK X27.tt (callN Try.prog X27 0) (X27.md 27) (X27.mk1 27) Try.f27 [(.v (.str name0))] ⟨[], [], ⟨0, []⟩⟩ (topK R) := Eq.mp (by kernel_rfl) h
theorem L27_0 (name0 : List UInt8) (l4 : List (List UInt8)) (i5 : Int) (T : Toks) {R : V → Prop} {k0 : St → Prop}
 (h : (((decide (i5 < ((l4).length : Int))) = true → (0 ≤ i5 ∧ i5 < ((l4).length : Int) ∧ (((((l4.getD (i5).toNat [])) == name0) = true → R (.tup [(.int .i64 i5), (.bool true)])) ∧
 ((((l4.getD (i5).toNat [])) == name0) = false → k0 (S27_0 name0 l4 ((IntKind.wrap .i64 (i5 + (1 : Int)))) T))))) ∧
 ((decide (i5 < ((l4).length : Int))) = false → R (.tup [(.int .i64 (0 : Int)), (.bool false)])))) :
  B27_0 (loopQ M27_0 k0 (Q27_0 R)) (S27_0 name0 l4 i5 T) := Eq.mp (by kernel_rfl) h
end Go.Proofs.Ytaaedebknacheaa.AB

set_option linter.unusedVariables false
set_option linter.unusedSimpArgs false
set_option maxRecDepth 100000
set_option maxHeartbeats 2000000
namespace Go.Proofs.Ytaaedebknacheaa.AB
open Go
/-! crucible/code.Form -/
noncomputable def X28 : Cx := ⟨tt, [], [(28, [(3, 0, .inl)])], [], [(61, Try.f61)]⟩
theorem FN28 : fnsB Try.prog X28.fns := (show (Try.prog.funcs[61]? = some Try.f61 ∧ Try.f61.name ≠ "runtime.NumGoroutine" ∧ True) from ⟨by kernel_rfl, by decide, trivial⟩)
theorem E28 (op0 : Int) {R : V → Prop} (h : (((decide (op0 < (0 : Int))) = true → R (.int .u8 (0 : Int))) ∧ ((decide (op0 < (0 : Int))) = false → (((decide (op0 > (63 : Int))) = true → R (.int .u8 (0 : Int))) ∧
 ((decide (op0 > (63 : Int))) = false → (0 ≤ op0 ∧ op0 < 64 ∧ R (.int .u8 ((([(([110, 111, 112] : List UInt8), (45 : Int)), (([105, 110, 116] : List UInt8), (110 : Int)), (([116, 101, 120, 116] : List UInt8), (110 : Int)), (([110, 117, 108, 108] : List UInt8), (45 : Int)), (([108, 111, 97, 100] : List UInt8), (98 : Int)), (([115, 116, 111, 114, 101] : List UInt8), (98 : Int)), (([112, 111, 112] : List UInt8), (45 : Int)), (([100, 117, 112] : List UInt8), (45 : Int)), (([115, 119, 97, 112] : List UInt8), (45 : Int)), (([97, 100, 100] : List UInt8), (45 : Int)), (([115, 117, 98] : List UInt8), (45 : Int)), (([109, 117, 108] : List UInt8), (45 : Int)), (([100, 105, 118] : List UInt8), (45 : Int)), (([114, 101, 109] : List UInt8), (45 : Int)), (([110, 101, 103] : List UInt8), (45 : Int)), (([97, 110, 100] : List UInt8), (45 : Int)), (([111, 114] : List UInt8), (45 : Int)), (([120, 111, 114] : List UInt8), (45 : Int)), (([115, 104, 108] : List UInt8), (45 : Int)), (([115, 104, 114] : List UInt8), (45 : Int)), (([103, 111, 116, 111] : List UInt8), (106 : Int)), (([105, 102, 101, 113] : List UInt8), (106 : Int)), (([105, 102, 110, 101] : List UInt8), (106 : Int)), (([105, 102, 108, 116] : List UInt8), (106 : Int)), (([105, 102, 103, 101] : List UInt8), (106 : Int)), (([99, 109, 112, 101, 113] : List UInt8), (106 : Int)), (([99, 109, 112, 108, 116] : List UInt8), (106 : Int)), (([105, 102, 110, 117, 108, 108] : List UInt8), (106 : Int)), (([105, 102, 115, 111, 109, 101] : List UInt8), (106 : Int)), (([115, 97, 109, 101] : List UInt8), (106 : Int)), (([115, 119, 105, 116, 99, 104] : List UInt8), (115 : Int)), (([110, 101, 119] : List UInt8), (110 : Int)), (([97, 114, 114, 97, 121] : List UInt8), (110 : Int)), (([108, 101, 110] : List UInt8), (45 : Int)), (([97, 103, 101, 116] : List UInt8), (45 : Int)), (([97, 112, 117, 116] : List UInt8), (45 : Int)), (([103, 101, 116] : List UInt8), (110 : Int)), (([112, 117, 116] : List UInt8), (110 : Int)), (([115, 103, 101, 116] : List UInt8), (110 : Int)), (([115, 112, 117, 116] : List UInt8), (110 : Int)), (([118, 105, 114, 116] : List UInt8), (110 : Int)), (([105, 102, 97, 99, 101] : List UInt8), (110 : Int)), (([115, 116, 97, 116] : List UInt8), (110 : Int)), (([115, 112, 101, 99] : List UInt8), (110 : Int)), (([114, 101, 116] : List UInt8), (45 : Int)), (([118, 114, 101, 116] : List UInt8), (45 : Int)), (([116, 104, 114, 111, 119] : List UInt8), (45 : Int)), (([99, 97, 115, 116] : List UInt8), (110 : Int)), (([105, 115] : List UInt8), (110 : Int)), (([101, 110, 116, 101, 114] : List UInt8), (45 : Int)), (([101, 120, 105, 116] : List UInt8), (45 : Int)), (([115, 112, 97, 119, 110] : List UInt8), (110 : Int)), (([106, 111, 105, 110] : List UInt8), (45 : Int)), (([121, 105, 101, 108, 100] : List UInt8), (45 : Int)), (([112, 114, 105, 110, 116] : List UInt8), (45 : Int)), (([112, 114, 105, 110, 116, 115] : List UInt8), (45 : Int)), (([119, 101, 97, 107] : List UInt8), (45 : Int)), (([100, 101, 114, 101, 102] : List UInt8), (45 : Int)), (([115, 108, 101, 110] : List UInt8), (45 : Int)), (([115, 99, 104, 97, 114] : List UInt8), (45 : Int)), (([115, 99, 97, 116] : List UInt8), (45 : Int)), (([105, 110, 116, 101, 114, 110] : List UInt8), (45 : Int)), (([108, 111, 97, 100, 101, 114] : List UInt8), (45 : Int)), (([109, 97, 107, 101] : List UInt8), (45 : Int))] : List ((List UInt8) × Int)).getD (op0).toNat ([], 0)).2)))))))) :
  fnK X28.tt (callN Try.prog X28 1) (X28.md 28) (X28.mk1 28) Try.f28 [(.v (.int .i64 op0))] ⟨[], [], ⟨0, []⟩⟩ (topK R) := Eq.mp (by kernel_rfl) h
end Go.Proofs.Ytaaedebknacheaa.AB

set_option linter.unusedVariables false
set_option linter.unusedSimpArgs false
set_option maxRecDepth 100000
set_option maxHeartbeats 2000000
namespace Go.Proofs.Ytaaedebknacheaa.AB
open Go
/-! crucible/crucibleref4.names -/
noncomputable def X62 : Cx := ⟨tt, [], [], [], []⟩
theorem FN62 : fnsB Try.prog X62.fns := (show True from trivial)
theorem E62 {R : V → Prop} (h : R (.list .str (([([110, 111, 112] : List UInt8), ([105, 110, 116] : List UInt8), ([116, 101, 120, 116] : List UInt8), ([110, 117, 108, 108] : List UInt8), ([108, 111, 97, 100] : List UInt8), ([115, 116, 111, 114, 101] : List UInt8), ([112, 111, 112] : List UInt8), ([100, 117, 112] : List UInt8), ([115, 119, 97, 112] : List UInt8), ([97, 100, 100] : List UInt8), ([115, 117, 98] : List UInt8), ([109, 117, 108] : List UInt8), ([100, 105, 118] : List UInt8), ([114, 101, 109] : List UInt8), ([110, 101, 103] : List UInt8), ([97, 110, 100] : List UInt8), ([111, 114] : List UInt8), ([120, 111, 114] : List UInt8), ([115, 104, 108] : List UInt8), ([115, 104, 114] : List UInt8), ([103, 111, 116, 111] : List UInt8), ([105, 102, 101, 113] : List UInt8), ([105, 102, 110, 101] : List UInt8), ([105, 102, 108, 116] : List UInt8), ([105, 102, 103, 101] : List UInt8), ([99, 109, 112, 101, 113] : List UInt8), ([99, 109, 112, 108, 116] : List UInt8), ([105, 102, 110, 117, 108, 108] : List UInt8), ([105, 102, 115, 111, 109, 101] : List UInt8), ([115, 97, 109, 101] : List UInt8), ([115, 119, 105, 116, 99, 104] : List UInt8), ([110, 101, 119] : List UInt8), ([97, 114, 114, 97, 121] : List UInt8), ([108, 101, 110] : List UInt8), ([97, 103, 101, 116] : List UInt8), ([97, 112, 117, 116] : List UInt8), ([103, 101, 116] : List UInt8), ([112, 117, 116] : List UInt8), ([115, 103, 101, 116] : List UInt8), ([115, 112, 117, 116] : List UInt8), ([118, 105, 114, 116] : List UInt8), ([105, 102, 97, 99, 101] : List UInt8), ([115, 116, 97, 116] : List UInt8), ([115, 112, 101, 99] : List UInt8), ([114, 101, 116] : List UInt8), ([118, 114, 101, 116] : List UInt8), ([116, 104, 114, 111, 119] : List UInt8), ([99, 97, 115, 116] : List UInt8), ([105, 115] : List UInt8), ([101, 110, 116, 101, 114] : List UInt8), ([101, 120, 105, 116] : List UInt8), ([115, 112, 97, 119, 110] : List UInt8), ([106, 111, 105, 110] : List UInt8), ([121, 105, 101, 108, 100] : List UInt8), ([112, 114, 105, 110, 116] : List UInt8), ([112, 114, 105, 110, 116, 115] : List UInt8), ([119, 101, 97, 107] : List UInt8), ([100, 101, 114, 101, 102] : List UInt8), ([115, 108, 101, 110] : List UInt8), ([115, 99, 104, 97, 114] : List UInt8), ([115, 99, 97, 116] : List UInt8), ([105, 110, 116, 101, 114, 110] : List UInt8), ([108, 111, 97, 100, 101, 114] : List UInt8), ([109, 97, 107, 101] : List UInt8)] : List (List UInt8))) .no)) :
  fnK X62.tt (callN Try.prog X62 0) (X62.md 62) (X62.mk1 62) Try.f62 [] ⟨[], [], ⟨0, []⟩⟩ (topK R) := Eq.mp (by kernel_rfl) h
end Go.Proofs.Ytaaedebknacheaa.AB

set_option linter.unusedVariables false
set_option linter.unusedSimpArgs false
set_option maxRecDepth 100000
namespace Go.Proofs.Ytaaedebknacheaa.AB
open Go

/-- the table of ops -/
def rowsL : List (List UInt8 × Int) := ([(([110, 111, 112] : List UInt8), (45 : Int)), (([105, 110, 116] : List UInt8), (110 : Int)), (([116, 101, 120, 116] : List UInt8), (110 : Int)), (([110, 117, 108, 108] : List UInt8), (45 : Int)), (([108, 111, 97, 100] : List UInt8), (98 : Int)), (([115, 116, 111, 114, 101] : List UInt8), (98 : Int)), (([112, 111, 112] : List UInt8), (45 : Int)), (([100, 117, 112] : List UInt8), (45 : Int)), (([115, 119, 97, 112] : List UInt8), (45 : Int)), (([97, 100, 100] : List UInt8), (45 : Int)), (([115, 117, 98] : List UInt8), (45 : Int)), (([109, 117, 108] : List UInt8), (45 : Int)), (([100, 105, 118] : List UInt8), (45 : Int)), (([114, 101, 109] : List UInt8), (45 : Int)), (([110, 101, 103] : List UInt8), (45 : Int)), (([97, 110, 100] : List UInt8), (45 : Int)), (([111, 114] : List UInt8), (45 : Int)), (([120, 111, 114] : List UInt8), (45 : Int)), (([115, 104, 108] : List UInt8), (45 : Int)), (([115, 104, 114] : List UInt8), (45 : Int)), (([103, 111, 116, 111] : List UInt8), (106 : Int)), (([105, 102, 101, 113] : List UInt8), (106 : Int)), (([105, 102, 110, 101] : List UInt8), (106 : Int)), (([105, 102, 108, 116] : List UInt8), (106 : Int)), (([105, 102, 103, 101] : List UInt8), (106 : Int)), (([99, 109, 112, 101, 113] : List UInt8), (106 : Int)), (([99, 109, 112, 108, 116] : List UInt8), (106 : Int)), (([105, 102, 110, 117, 108, 108] : List UInt8), (106 : Int)), (([105, 102, 115, 111, 109, 101] : List UInt8), (106 : Int)), (([115, 97, 109, 101] : List UInt8), (106 : Int)), (([115, 119, 105, 116, 99, 104] : List UInt8), (115 : Int)), (([110, 101, 119] : List UInt8), (110 : Int)), (([97, 114, 114, 97, 121] : List UInt8), (110 : Int)), (([108, 101, 110] : List UInt8), (45 : Int)), (([97, 103, 101, 116] : List UInt8), (45 : Int)), (([97, 112, 117, 116] : List UInt8), (45 : Int)), (([103, 101, 116] : List UInt8), (110 : Int)), (([112, 117, 116] : List UInt8), (110 : Int)), (([115, 103, 101, 116] : List UInt8), (110 : Int)), (([115, 112, 117, 116] : List UInt8), (110 : Int)), (([118, 105, 114, 116] : List UInt8), (110 : Int)), (([105, 102, 97, 99, 101] : List UInt8), (110 : Int)), (([115, 116, 97, 116] : List UInt8), (110 : Int)), (([115, 112, 101, 99] : List UInt8), (110 : Int)), (([114, 101, 116] : List UInt8), (45 : Int)), (([118, 114, 101, 116] : List UInt8), (45 : Int)), (([116, 104, 114, 111, 119] : List UInt8), (45 : Int)), (([99, 97, 115, 116] : List UInt8), (110 : Int)), (([105, 115] : List UInt8), (110 : Int)), (([101, 110, 116, 101, 114] : List UInt8), (45 : Int)), (([101, 120, 105, 116] : List UInt8), (45 : Int)), (([115, 112, 97, 119, 110] : List UInt8), (110 : Int)), (([106, 111, 105, 110] : List UInt8), (45 : Int)), (([121, 105, 101, 108, 100] : List UInt8), (45 : Int)), (([112, 114, 105, 110, 116] : List UInt8), (45 : Int)), (([112, 114, 105, 110, 116, 115] : List UInt8), (45 : Int)), (([119, 101, 97, 107] : List UInt8), (45 : Int)), (([100, 101, 114, 101, 102] : List UInt8), (45 : Int)), (([115, 108, 101, 110] : List UInt8), (45 : Int)), (([115, 99, 104, 97, 114] : List UInt8), (45 : Int)), (([115, 99, 97, 116] : List UInt8), (45 : Int)), (([105, 110, 116, 101, 114, 110] : List UInt8), (45 : Int)), (([108, 111, 97, 100, 101, 114] : List UInt8), (45 : Int)), (([109, 97, 107, 101] : List UInt8), (45 : Int))] : List ((List UInt8) × Int))
def namesL : List (List UInt8) := (([([110, 111, 112] : List UInt8), ([105, 110, 116] : List UInt8), ([116, 101, 120, 116] : List UInt8), ([110, 117, 108, 108] : List UInt8), ([108, 111, 97, 100] : List UInt8), ([115, 116, 111, 114, 101] : List UInt8), ([112, 111, 112] : List UInt8), ([100, 117, 112] : List UInt8), ([115, 119, 97, 112] : List UInt8), ([97, 100, 100] : List UInt8), ([115, 117, 98] : List UInt8), ([109, 117, 108] : List UInt8), ([100, 105, 118] : List UInt8), ([114, 101, 109] : List UInt8), ([110, 101, 103] : List UInt8), ([97, 110, 100] : List UInt8), ([111, 114] : List UInt8), ([120, 111, 114] : List UInt8), ([115, 104, 108] : List UInt8), ([115, 104, 114] : List UInt8), ([103, 111, 116, 111] : List UInt8), ([105, 102, 101, 113] : List UInt8), ([105, 102, 110, 101] : List UInt8), ([105, 102, 108, 116] : List UInt8), ([105, 102, 103, 101] : List UInt8), ([99, 109, 112, 101, 113] : List UInt8), ([99, 109, 112, 108, 116] : List UInt8), ([105, 102, 110, 117, 108, 108] : List UInt8), ([105, 102, 115, 111, 109, 101] : List UInt8), ([115, 97, 109, 101] : List UInt8), ([115, 119, 105, 116, 99, 104] : List UInt8), ([110, 101, 119] : List UInt8), ([97, 114, 114, 97, 121] : List UInt8), ([108, 101, 110] : List UInt8), ([97, 103, 101, 116] : List UInt8), ([97, 112, 117, 116] : List UInt8), ([103, 101, 116] : List UInt8), ([112, 117, 116] : List UInt8), ([115, 103, 101, 116] : List UInt8), ([115, 112, 117, 116] : List UInt8), ([118, 105, 114, 116] : List UInt8), ([105, 102, 97, 99, 101] : List UInt8), ([115, 116, 97, 116] : List UInt8), ([115, 112, 101, 99] : List UInt8), ([114, 101, 116] : List UInt8), ([118, 114, 101, 116] : List UInt8), ([116, 104, 114, 111, 119] : List UInt8), ([99, 97, 115, 116] : List UInt8), ([105, 115] : List UInt8), ([101, 110, 116, 101, 114] : List UInt8), ([101, 120, 105, 116] : List UInt8), ([115, 112, 97, 119, 110] : List UInt8), ([106, 111, 105, 110] : List UInt8), ([121, 105, 101, 108, 100] : List UInt8), ([112, 114, 105, 110, 116] : List UInt8), ([112, 114, 105, 110, 116, 115] : List UInt8), ([119, 101, 97, 107] : List UInt8), ([100, 101, 114, 101, 102] : List UInt8), ([115, 108, 101, 110] : List UInt8), ([115, 99, 104, 97, 114] : List UInt8), ([115, 99, 97, 116] : List UInt8), ([105, 110, 116, 101, 114, 110] : List UInt8), ([108, 111, 97, 100, 101, 114] : List UInt8), ([109, 97, 107, 101] : List UInt8)] : List (List UInt8)))

theorem rows_names : rowsL.map (·.1) = namesL := by kernel_rfl
theorem rows_len : rowsL.length = 64 := by kernel_rfl
theorem names_len : namesL.length = 64 := by kernel_rfl

theorem rows_forms : ∀ n : Nat, n < 64 → (rowsL.getD n ([], 0)).2 = form n := by
  have h : (List.range 64).all (fun n => (rowsL.getD n ([], 0)).2 == form n) = true := by kernel_rfl
  intro n hn
  rw [List.all_eq_true] at h
  simpa using h n (List.mem_range.2 hn)

theorem rows_fst (n : Nat) : (rowsL.getD n ([], 0)).1 = namesL.getD n [] := by
  rw [← rows_names]
  simp only [List.getD, List.getElem?_map]
  cases rowsL[n]? <;> rfl

/-- the name of an op -/
def nameI (op : Int) : List UInt8 × Bool := if op < 0 ∨ op > 63 then ([], false) else (namesL.getD op.toNat [], true)

/-- the op of a name -/
def opI (name : List UInt8) : Int × Bool := match namesL.findIdx? (· == name) with
  | some i => ((i : Int), true)
  | none => (0, false)

abbrev nameV (p : List UInt8 × Bool) : V := .tup [.str p.1, .bool p.2]
abbrev opV (p : Int × Bool) : V := .tup [.int .i64 p.1, .bool p.2]

theorem p28 (op : Int) : PC Try.prog 28 [.int .i64 op] (.int .u8 (form op)) := by
  refine pcOf (X := X28) (d := 1) rfl FN28 (by kernel_rfl) (by decide) (E28 op ?_)
  simp only [decide_eq_true_eq, decide_eq_false_iff_not]
  refine ⟨fun h => retI ?_, fun h => ⟨fun h' => retI ?_, fun h' => ⟨by omega, by omega, retI ?_⟩⟩⟩
  · unfold form; rw [if_pos (.inl h)]
  · unfold form; rw [if_pos (.inr h')]
  · have := rows_forms op.toNat (by omega)
    rw [Int.toNat_of_nonneg (by omega)] at this
    exact this

theorem p24 (op : Int) : PC Try.prog 24 [.int .i64 op] (nameV (nameI op)) := by
  have fin : ∀ p, nameI op = p → (nameV p).norm = nameV (nameI op) ∧ (nameV (nameI op)).nt = true := fun p h => by rw [h]; exact ⟨rfl, rfl⟩
  refine pcOf (X := X24) (d := 1) rfl FN24 (by kernel_rfl) (by decide) (E24 op ?_)
  simp only [decide_eq_true_eq, decide_eq_false_iff_not]
  refine ⟨fun h => fin ([], false) ?_, fun h => ⟨fun h' => fin ([], false) ?_, fun h' => ⟨by omega, by omega, ?_⟩⟩⟩
  · unfold nameI; rw [if_pos (.inl h)]
  · unfold nameI; rw [if_pos (.inr h')]
  · have e : nameI op = ((rowsL.getD op.toNat ([], 0)).1, true) := by unfold nameI; rw [if_neg (by omega), rows_fst]
    rw [e]
    exact ⟨rfl, rfl⟩

theorem p62 : PC Try.prog 62 [] (.list .str namesL .no) :=
  pcOf (X := X62) (d := 0) rfl trivial (by kernel_rfl) (by decide) (E62 ⟨rfl, rfl⟩)

theorem p25 (op : Int) : PC Try.prog 25 [.int .i64 op] (nameV (nameI op)) := by
  have fin : ∀ p, nameI op = p → (nameV p).norm = nameV (nameI op) ∧ (nameV (nameI op)).nt = true := fun p h => by rw [h]; exact ⟨rfl, rfl⟩
  refine pcOf (X := X25) (d := 0) rfl trivial (by kernel_rfl) (by decide) (E25 op ?_)
  simp only [decide_eq_true_eq, decide_eq_false_iff_not]
  have hl := names_len
  refine ⟨fun h => fin ([], false) ?_, fun h => ⟨fun h' => fin ([], false) ?_, fun h' => ⟨_, p62, by omega, by omega, fin (namesL.getD op.toNat [], true) ?_⟩⟩⟩
  · unfold nameI; rw [if_pos (.inl h)]
  · unfold nameI; rw [if_pos (.inr h')]
  · unfold nameI; rw [if_neg (by omega)]

theorem opI_some {name : List UInt8} {n : Nat} (hn : n < namesL.length) (he : namesL[n] = name) (hb : ∀ i, i < n → ∀ h : i < namesL.length, namesL[i] ≠ name) : opI name = ((n : Int), true) := by
  have : namesL.findIdx? (· == name) = some n := by
    rw [List.findIdx?_eq_some_iff_getElem]
    exact ⟨hn, by simpa using he, fun j hj => by simpa using hb j hj (by omega)⟩
  unfold opI; rw [this]

theorem opI_none {name : List UInt8} (hb : ∀ i, ∀ h : i < namesL.length, namesL[i] ≠ name) : opI name = (0, false) := by
  have : namesL.findIdx? (· == name) = none := by
    rw [List.findIdx?_eq_none_iff]
    intro x hx
    obtain ⟨i, hi, rfl⟩ := List.getElem_of_mem hx
    simpa using hb i hi
  unfold opI; rw [this]

theorem p27 (name : List UInt8) : PC Try.prog 27 [.str name] (opV (opI name)) := by
  have fin : ∀ p, opI name = p → (opV p).norm = opV (opI name) ∧ (opV (opI name)).nt = true := fun p h => by rw [h]; exact ⟨rfl, rfl⟩
  refine pcOf (X := X27) (d := 0) rfl trivial (by kernel_rfl) (by decide) (E27 name ⟨_, p62, ?_⟩)
  have hl := names_len
  refine Loops.intro (fun n : Nat => S27_0 name namesL n ⟨0, []⟩) (fun n => n ≤ namesL.length ∧ ∀ i, i < n → ∀ h : i < namesL.length, namesL[i] ≠ name) (fun n => namesL.length - n) 0 rfl ⟨Nat.zero_le _, fun i hi => absurd hi (Nat.not_lt_zero _)⟩ ?_
  rintro n ⟨hn, hb⟩
  refine L27_0 name namesL n ⟨0, []⟩ ?_
  simp only [Bool.not_true, Bool.not_false, Bool.true_eq_false, Bool.false_eq_true, forall_const, false_implies, true_implies, and_true, true_and, eq_self, implies_true, Nat.zero_add, Int.toNat_natCast, List.take_length, decide_eq_true_eq, decide_eq_false_iff_not, beq_iff_eq, beq_eq_false_iff_ne, bne_iff_ne, bne_eq_false_iff_eq, ne_eq, Bool.not_eq_true', Bool.not_eq_false', Int.not_le, Int.not_lt, List.length_cons, List.length_nil, List.length_append, Nat.add_zero, List.drop_zero]
  refine ⟨fun h => ?_, fun h => ?_⟩
  · have hlt : n < namesL.length := by omega
    rw [wrap64 (by omega) (by omega), getD_lt hlt]
    refine ⟨by omega, by omega, fun h1 => fin (n, true) (opI_some hlt h1 hb), fun h1 => Again.mk (n + 1) rfl ⟨by omega, fun i hi hil => ?_⟩ (by omega)⟩
    rcases Nat.lt_or_ge i n with h' | h'
    · exact hb i h' hil
    · have : i = n := by omega
      subst this; exact h1
  · exact fin (0, false) (opI_none fun i hi => hb i (by omega) hi)

theorem pcOfW {X : Cx} (hX : X.tt = tt) (hfn : fnsB Try.prog X.fns) {d : Nat} {f : FuncId} {fn : Func} (hf : Try.prog.funcs[f]? = some fn) (hname : fn.name ≠ "runtime.NumGoroutine") {args : List V} {r : V}
    (h : Wrap (fnK X.tt (callN Try.prog X d) (X.md f) (X.mk1 f) fn (args.map .v) ⟨[], [], ⟨0, []⟩⟩ (topK fun v => v.norm = r ∧ r.nt = true))) : PC Try.prog f args r := pcOf hX hfn hf hname h.out

theorem p26 (name : List UInt8) : PC Try.prog 26 [.str name] (opV (opI name)) := by
  have fin : ∀ p, opI name = p → (opV p).norm = opV (opI name) ∧ (opV (opI name)).nt = true := fun p h => by rw [h]; exact ⟨rfl, rfl⟩
  refine pcOfW (X := X26) (d := 1) rfl FN26 (by kernel_rfl) (by decide) (E26 name ?_)
  have hl := names_len
  refine Loops.intro (fun n : Nat => S26_0 name n ⟨0, []⟩) (fun n => n ≤ namesL.length ∧ ∀ i, i < n → ∀ h : i < namesL.length, namesL[i] ≠ name) (fun n => namesL.length - n) 0 rfl ⟨Nat.zero_le _, fun i hi => absurd hi (Nat.not_lt_zero _)⟩ ?_
  rintro n ⟨hn, hb⟩
  refine L26_0 name n ⟨0, []⟩ ?_
  have hrow : ∀ k : Nat, (rowsL.getD k ([], 0)).1 = namesL.getD k [] := rows_fst
  generalize hR : rowsL = rr at hrow
  unfold rowsL at hR
  rw [hR]
  simp only [Bool.not_true, Bool.not_false, Bool.true_eq_false, Bool.false_eq_true, forall_const, false_implies, true_implies, and_true, true_and, eq_self, implies_true, Nat.zero_add, Int.toNat_natCast, List.take_length, decide_eq_true_eq, decide_eq_false_iff_not, beq_iff_eq, beq_eq_false_iff_ne, bne_iff_ne, bne_eq_false_iff_eq, ne_eq, Bool.not_eq_true', Bool.not_eq_false', Int.not_le, Int.not_lt, List.length_cons, List.length_nil, List.length_append, Nat.add_zero, List.drop_zero, hrow]
  refine ⟨fun h => ?_, fun h => ?_⟩
  · have hlt : n < namesL.length := by omega
    rw [wrap64 (by omega) (by omega), getD_lt hlt]
    refine ⟨by omega, by omega, fun h1 => fin (n, true) (opI_some hlt h1 hb), fun h1 => Again.mk (n + 1) rfl ⟨by omega, fun i hi hil => ?_⟩ (by omega)⟩
    rcases Nat.lt_or_ge i n with h' | h'
    · exact hb i h' hil
    · have : i = n := by omega
      subst this; exact h1
  · exact fin (0, false) (opI_none fun i hi => hb i (by omega) hi)

end Go.Proofs.Ytaaedebknacheaa.AB

set_option linter.unusedVariables false
set_option linter.unusedSimpArgs false
set_option maxRecDepth 100000
set_option maxHeartbeats 2000000
namespace Go.Proofs.Ytaaedebknacheaa.AB
open Go
/-! crucible/code.far -/
noncomputable def X90 : Cx := ⟨tt, [], [], [], []⟩
theorem FN90 : fnsB Try.prog X90.fns := (show True from trivial)
theorem E90 (pc0 : Int) (n1 : Int) {R : V → Prop} (h : (((decide (n1 ≥ (32768 : Int))) = true → R (.int .i64 ((IntKind.wrap .i64 (pc0 + (IntKind.wrap .i64 (n1 - (65536 : Int)))))))) ∧
 ((decide (n1 ≥ (32768 : Int))) = false → R (.int .i64 ((IntKind.wrap .i64 (pc0 + n1))))))) :
  fnK X90.tt (callN Try.prog X90 0) (X90.md 90) (X90.mk1 90) Try.f90 [(.v (.int .i64 pc0)), (.v (.int .i64 n1))] ⟨[], [], ⟨0, []⟩⟩ (topK R) := Eq.mp (by kernel_rfl) h
end Go.Proofs.Ytaaedebknacheaa.AB

set_option linter.unusedVariables false
set_option linter.unusedSimpArgs false
set_option maxRecDepth 100000
set_option maxHeartbeats 2000000
namespace Go.Proofs.Ytaaedebknacheaa.AB
open Go
/-! crucible/code.read -/
noncomputable def X63 : Cx := ⟨tt, [(28, [.cd (.int .u8)]), (90, [.cd (.int .i64)])], [(63, [(12, 2, .«mut»), (12, 3, .inl), (14, 1, .«mut»), (14, 2, .inl), (17, 1, .«mut»), (17, 2, .inl), (22, 1, .«mut»), (22, 2, .inl)]), (89, [(4, 0, .«mut»)])], [(63, [(1, mkM 106 0 [0, 1, 4, 7, 8, 9, 10, 11], 5)]), (89, [(0, [], 1000003)])], [(89, Try.f89)]⟩
theorem FN63 : fnsB Try.prog X63.fns := (show (Try.prog.funcs[89]? = some Try.f89 ∧ Try.f89.name ≠ "runtime.NumGoroutine" ∧ True) from ⟨by kernel_rfl, by decide, trivial⟩)
def M63_1 : List Bool × Nat := (mkM 106 0 [0, 1, 4, 7, 8, 9, 10, 11], 5)
def S63_1 (s0 : List UInt8) (pc1 : Int) (rest8 : List UInt8) (ok9 : Bool) (hq0_0 : Int) (hq0_1 : Int) (hq0_2 : Int) (hq0_3 : List Int) (hq0_3k : Tok) (hq0_4 : List Int) (hq0_4k : Tok) (hq1_0 : Int) (hq1_1 : Int) (hq1_2 : Int) (hq1_3 : List Int) (hq1_3k : Tok) (hq1_4 : List Int) (hq1_4k : Tok) (hq2 : Int) (hq3 : Int) (T : Toks) : St :=
  mkS 106 [(0, (.v (.str s0))), (1, (.v (.int .i64 pc1))), (4, (.ptr 0 0 0 0)), (7, (.ptr 1 0 0 0)), (8, (.v (.str rest8))), (9, (.v (.bool ok9))), (10, (.ptr 2 0 0 0)), (11, (.ptr 3 0 0 0))] [(some (.box (.v (.agg [(.int .i64 hq0_0), (.int .i64 hq0_1), (.int .i64 hq0_2), (.list (.int .i64) hq0_3 hq0_3k), (.list (.int .i64) hq0_4 hq0_4k)])))), (some (.box (.v (.agg [(.int .i64 hq1_0), (.int .i64 hq1_1), (.int .i64 hq1_2), (.list (.int .i64) hq1_3 hq1_3k), (.list (.int .i64) hq1_4 hq1_4k)])))), (some (.box (.v (.int .i64 hq2)))), (some (.box (.v (.int .i64 hq3)))), (some (.box (.agg [(.ptr 3 0 0 0), (.ptr 2 0 0 0)])))] T
noncomputable def B63_1 : (Exit → St → Prop) → St → Prop := (awp X63.tt (callN Try.prog X63 1) (X63.md 63) 0 (X63.mk1 63) 1 (codeAt [1, 1, 1, 1, 0, 1, 0, 1, 1, 1, 1, 1, 1, 1, 1, 1, 0, 1, 1, 0, 0] (bd Try.f63)))
noncomputable def K63_0 (R : V → Prop) : Exit → St → Prop := seqK ((awp X63.tt (callN Try.prog X63 1) (X63.md 63) 0 (X63.mk1 63) 0 (codeAt [1, 1, 1, 1, 1] (bd Try.f63))) (retK tt Try.f63.results.toList fun x s' => topK R x ⟨[], s'.hp, s'.T⟩)) (retK tt Try.f63.results.toList fun x s' => topK R x ⟨[], s'.hp, s'.T⟩)
noncomputable def Q63_1 (R : V → Prop) : Exit → St → Prop := (blockK 1 (blockK 0 (K63_0 R)))
theorem E63 (s0 : (List UInt8)) (pc1 : Int) {R : V → Prop} (h : (0 ≤ (0 : Int) ∧ (0 : Int) < ((s0).length : Int) ∧ (0 ≤ (1 : Int) ∧ (1 : Int) ≤ ((s0).length : Int) ∧ (∃ p1 : Int, PC Try.prog 28 [(.int .i64 ((IntKind.wrap .i64 ((s0.getD ((0 : Int)).toNat 0).toNat : Int))))] (.int .u8 p1) ∧ (((p1 == (0 : Int)) = true → R (.tup [(.agg [(.int .i64 pc1), (.int .i64 ((IntKind.wrap .i64 ((s0.getD ((0 : Int)).toNat 0).toNat : Int)))), (.int .i64 (0 : Int)), (.list (.int .i64) ([] : List Int) .no), (.list (.int .i64) ([] : List Int) .no)]), (.str s0), (.int .i64 (11 : Int))])) ∧
 ((p1 == (0 : Int)) = false → (((p1 == (98 : Int)) = true → (((!((((s0.take (s0).length).drop ((1 : Int)).toNat)) == ([] : List UInt8))) = true → (0 ≤ (0 : Int) ∧ (0 : Int) < ((((s0.take (s0).length).drop ((1 : Int)).toNat)).length : Int) ∧ (0 ≤ (1 : Int) ∧ (1 : Int) ≤ ((((s0.take (s0).length).drop ((1 : Int)).toNat)).length : Int) ∧ (((!((!((((s0.take (s0).length).drop ((1 : Int)).toNat)) == ([] : List UInt8))))) = true → R (.tup [(.agg [(.int .i64 pc1), (.int .i64 ((IntKind.wrap .i64 ((s0.getD ((0 : Int)).toNat 0).toNat : Int)))), (.int .i64 ((IntKind.wrap .i64 (((((s0.take (s0).length).drop ((1 : Int)).toNat)).getD ((0 : Int)).toNat 0).toNat : Int)))), (.list (.int .i64) ([] : List Int) .no), (.list (.int .i64) ([] : List Int) .no)]), (.str s0), (.int .i64 (5 : Int))])) ∧
 ((!((!((((s0.take (s0).length).drop ((1 : Int)).toNat)) == ([] : List UInt8))))) = false → R (.tup [(.agg [(.int .i64 pc1), (.int .i64 ((IntKind.wrap .i64 ((s0.getD ((0 : Int)).toNat 0).toNat : Int)))), (.int .i64 ((IntKind.wrap .i64 (((((s0.take (s0).length).drop ((1 : Int)).toNat)).getD ((0 : Int)).toNat 0).toNat : Int)))), (.list (.int .i64) ([] : List Int) .no), (.list (.int .i64) ([] : List Int) .no)]), (.str ((((((s0.take (s0).length).drop ((1 : Int)).toNat)).take (((s0.take (s0).length).drop ((1 : Int)).toNat)).length).drop ((1 : Int)).toNat))), (.int .i64 (0 : Int))])))))) ∧
 ((!((((s0.take (s0).length).drop ((1 : Int)).toNat)) == ([] : List UInt8))) = false → (((!((!((((s0.take (s0).length).drop ((1 : Int)).toNat)) == ([] : List UInt8))))) = true → R (.tup [(.agg [(.int .i64 pc1), (.int .i64 ((IntKind.wrap .i64 ((s0.getD ((0 : Int)).toNat 0).toNat : Int)))), (.int .i64 (0 : Int)), (.list (.int .i64) ([] : List Int) .no), (.list (.int .i64) ([] : List Int) .no)]), (.str s0), (.int .i64 (5 : Int))])) ∧
 ((!((!((((s0.take (s0).length).drop ((1 : Int)).toNat)) == ([] : List UInt8))))) = false → R (.tup [(.agg [(.int .i64 pc1), (.int .i64 ((IntKind.wrap .i64 ((s0.getD ((0 : Int)).toNat 0).toNat : Int)))), (.int .i64 (0 : Int)), (.list (.int .i64) ([] : List Int) .no), (.list (.int .i64) ([] : List Int) .no)]), (.str (((s0.take (s0).length).drop ((1 : Int)).toNat))), (.int .i64 (0 : Int))])))))) ∧
 ((p1 == (98 : Int)) = false → (((p1 == (110 : Int)) = true → (((decide (((((s0.take (s0).length).drop ((1 : Int)).toNat)).length : Int) < (IntKind.wrap .i64 ((2 : Int) * (1 : Int))))) = true → R (.tup [(.agg [(.int .i64 pc1), (.int .i64 ((IntKind.wrap .i64 ((s0.getD ((0 : Int)).toNat 0).toNat : Int)))), (.int .i64 (0 : Int)), (.list (.int .i64) ([] : List Int) .no), (.list (.int .i64) ([] : List Int) .no)]), (.str s0), (.int .i64 (5 : Int))])) ∧
 ((decide (((((s0.take (s0).length).drop ((1 : Int)).toNat)).length : Int) < (IntKind.wrap .i64 ((2 : Int) * (1 : Int))))) = false → (0 ≤ (0 : Int) ∧ (0 : Int) < ((((s0.take (s0).length).drop ((1 : Int)).toNat)).length : Int) ∧ (0 ≤ (8 : Int) ∧ (0 ≤ (1 : Int) ∧ (1 : Int) < ((((s0.take (s0).length).drop ((1 : Int)).toNat)).length : Int) ∧ (0 ≤ (2 : Int) ∧ (2 : Int) ≤ ((((s0.take (s0).length).drop ((1 : Int)).toNat)).length : Int) ∧ R (.tup [(.agg [(.int .i64 pc1), (.int .i64 ((IntKind.wrap .i64 ((s0.getD ((0 : Int)).toNat 0).toNat : Int)))), (.int .i64 ((IntKind.wrap .i64 (((BitVec.ofInt (IntKind.bits .i64) ((IntKind.wrap .i64 ((IntKind.wrap .i64 (((((s0.take (s0).length).drop ((1 : Int)).toNat)).getD ((0 : Int)).toNat 0).toNat : Int)) * 2 ^ min ((8 : Int)).toNat (IntKind.bits .i64)))) ||| BitVec.ofInt (IntKind.bits .i64) ((IntKind.wrap .i64 (((((s0.take (s0).length).drop ((1 : Int)).toNat)).getD ((1 : Int)).toNat 0).toNat : Int)))).toNat : Int))))), (.list (.int .i64) ([] : List Int) .no), (.list (.int .i64) ([] : List Int) .no)]), (.str ((((((s0.take (s0).length).drop ((1 : Int)).toNat)).take (((s0.take (s0).length).drop ((1 : Int)).toNat)).length).drop ((2 : Int)).toNat))), (.int .i64 (0 : Int))])))))))) ∧
 ((p1 == (110 : Int)) = false → (((p1 == (106 : Int)) = true → (((decide (((((s0.take (s0).length).drop ((1 : Int)).toNat)).length : Int) < (IntKind.wrap .i64 ((2 : Int) * (1 : Int))))) = true → (∃ p2 : Int, PC Try.prog 90 [(.int .i64 pc1), (.int .i64 (0 : Int))] (.int .i64 p2) ∧ R (.tup [(.agg [(.int .i64 pc1), (.int .i64 ((IntKind.wrap .i64 ((s0.getD ((0 : Int)).toNat 0).toNat : Int)))), (.int .i64 (0 : Int)), (.list (.int .i64) ([] : List Int) .no), (.list (.int .i64) ([p2] : List Int) .no)]), (.str s0), (.int .i64 (5 : Int))]))) ∧
 ((decide (((((s0.take (s0).length).drop ((1 : Int)).toNat)).length : Int) < (IntKind.wrap .i64 ((2 : Int) * (1 : Int))))) = false → (0 ≤ (0 : Int) ∧ (0 : Int) < ((((s0.take (s0).length).drop ((1 : Int)).toNat)).length : Int) ∧ (0 ≤ (8 : Int) ∧ (0 ≤ (1 : Int) ∧ (1 : Int) < ((((s0.take (s0).length).drop ((1 : Int)).toNat)).length : Int) ∧ (0 ≤ (2 : Int) ∧ (2 : Int) ≤ ((((s0.take (s0).length).drop ((1 : Int)).toNat)).length : Int) ∧ (∃ p3 : Int, PC Try.prog 90 [(.int .i64 pc1), (.int .i64 ((IntKind.wrap .i64 (((BitVec.ofInt (IntKind.bits .i64) ((IntKind.wrap .i64 ((IntKind.wrap .i64 (((((s0.take (s0).length).drop ((1 : Int)).toNat)).getD ((0 : Int)).toNat 0).toNat : Int)) * 2 ^ min ((8 : Int)).toNat (IntKind.bits .i64)))) ||| BitVec.ofInt (IntKind.bits .i64) ((IntKind.wrap .i64 (((((s0.take (s0).length).drop ((1 : Int)).toNat)).getD ((1 : Int)).toNat 0).toNat : Int)))).toNat : Int)))))] (.int .i64 p3) ∧ R (.tup [(.agg [(.int .i64 pc1), (.int .i64 ((IntKind.wrap .i64 ((s0.getD ((0 : Int)).toNat 0).toNat : Int)))), (.int .i64 (0 : Int)), (.list (.int .i64) ([] : List Int) .no), (.list (.int .i64) ([p3] : List Int) .no)]), (.str ((((((s0.take (s0).length).drop ((1 : Int)).toNat)).take (((s0.take (s0).length).drop ((1 : Int)).toNat)).length).drop ((2 : Int)).toNat))), (.int .i64 (0 : Int))]))))))))) ∧
 ((p1 == (106 : Int)) = false → (((p1 == (115 : Int)) = true → (((decide (((((s0.take (s0).length).drop ((1 : Int)).toNat)).length : Int) < (IntKind.wrap .i64 ((2 : Int) * (2 : Int))))) = true → (∃ p4 : Int, PC Try.prog 90 [(.int .i64 pc1), (.int .i64 (0 : Int))] (.int .i64 p4) ∧ (Loops B63_1 M63_1 (Q63_1 R)
  (S63_1 s0 pc1 (((s0.take (s0).length).drop ((1 : Int)).toNat)) false (0 : Int) (0 : Int) (0 : Int) ([] : List Int) .exact ([] : List Int) .exact pc1 ((IntKind.wrap .i64 ((s0.getD ((0 : Int)).toNat 0).toNat : Int))) (0 : Int) ([] : List Int) .exact ([p4] : List Int) .exact (0 : Int) (0 : Int) ⟨0, []⟩)))) ∧
 ((decide (((((s0.take (s0).length).drop ((1 : Int)).toNat)).length : Int) < (IntKind.wrap .i64 ((2 : Int) * (2 : Int))))) = false → (0 ≤ (0 : Int) ∧ (0 : Int) < ((((s0.take (s0).length).drop ((1 : Int)).toNat)).length : Int) ∧ (0 ≤ (8 : Int) ∧ (0 ≤ (1 : Int) ∧ (1 : Int) < ((((s0.take (s0).length).drop ((1 : Int)).toNat)).length : Int) ∧ (0 ≤ (2 : Int) ∧ (2 : Int) ≤ ((((s0.take (s0).length).drop ((1 : Int)).toNat)).length : Int) ∧ (0 ≤ (0 : Int) ∧ (0 : Int) < (((((((s0.take (s0).length).drop ((1 : Int)).toNat)).take (((s0.take (s0).length).drop ((1 : Int)).toNat)).length).drop ((2 : Int)).toNat)).length : Int) ∧ (0 ≤ (8 : Int) ∧ (0 ≤ (1 : Int) ∧ (1 : Int) < (((((((s0.take (s0).length).drop ((1 : Int)).toNat)).take (((s0.take (s0).length).drop ((1 : Int)).toNat)).length).drop ((2 : Int)).toNat)).length : Int) ∧ (0 ≤ (2 : Int) ∧ (2 : Int) ≤ (((((((s0.take (s0).length).drop ((1 : Int)).toNat)).take (((s0.take (s0).length).drop ((1 : Int)).toNat)).length).drop ((2 : Int)).toNat)).length : Int) ∧ (∃ p5 : Int, PC Try.prog 90 [(.int .i64 pc1), (.int .i64 ((IntKind.wrap .i64 (((BitVec.ofInt (IntKind.bits .i64) ((IntKind.wrap .i64 ((IntKind.wrap .i64 (((((s0.take (s0).length).drop ((1 : Int)).toNat)).getD ((0 : Int)).toNat 0).toNat : Int)) * 2 ^ min ((8 : Int)).toNat (IntKind.bits .i64)))) ||| BitVec.ofInt (IntKind.bits .i64) ((IntKind.wrap .i64 (((((s0.take (s0).length).drop ((1 : Int)).toNat)).getD ((1 : Int)).toNat 0).toNat : Int)))).toNat : Int)))))] (.int .i64 p5) ∧ (Loops B63_1 M63_1 (Q63_1 R)
  (S63_1 s0 pc1 (((((((((s0.take (s0).length).drop ((1 : Int)).toNat)).take (((s0.take (s0).length).drop ((1 : Int)).toNat)).length).drop ((2 : Int)).toNat)).take ((((((s0.take (s0).length).drop ((1 : Int)).toNat)).take (((s0.take (s0).length).drop ((1 : Int)).toNat)).length).drop ((2 : Int)).toNat)).length).drop ((2 : Int)).toNat)) true (0 : Int) (0 : Int) (0 : Int) ([] : List Int) .exact ([] : List Int) .exact pc1 ((IntKind.wrap .i64 ((s0.getD ((0 : Int)).toNat 0).toNat : Int))) (0 : Int) ([] : List Int) .exact ([p5] : List Int) .exact ((IntKind.wrap .i64 (((BitVec.ofInt (IntKind.bits .i64) ((IntKind.wrap .i64 ((IntKind.wrap .i64 ((((((((s0.take (s0).length).drop ((1 : Int)).toNat)).take (((s0.take (s0).length).drop ((1 : Int)).toNat)).length).drop ((2 : Int)).toNat)).getD ((0 : Int)).toNat 0).toNat : Int)) * 2 ^ min ((8 : Int)).toNat (IntKind.bits .i64)))) ||| BitVec.ofInt (IntKind.bits .i64) ((IntKind.wrap .i64 ((((((((s0.take (s0).length).drop ((1 : Int)).toNat)).take (((s0.take (s0).length).drop ((1 : Int)).toNat)).length).drop ((2 : Int)).toNat)).getD ((1 : Int)).toNat 0).toNat : Int)))).toNat : Int)))) ((IntKind.wrap .i64 (((BitVec.ofInt (IntKind.bits .i64) ((IntKind.wrap .i64 ((IntKind.wrap .i64 (((((s0.take (s0).length).drop ((1 : Int)).toNat)).getD ((0 : Int)).toNat 0).toNat : Int)) * 2 ^ min ((8 : Int)).toNat (IntKind.bits .i64)))) ||| BitVec.ofInt (IntKind.bits .i64) ((IntKind.wrap .i64 (((((s0.take (s0).length).drop ((1 : Int)).toNat)).getD ((1 : Int)).toNat 0).toNat : Int)))).toNat : Int)))) ⟨0, []⟩)))))))))))))) ∧
 ((p1 == (115 : Int)) = false → R (.tup [(.agg [(.int .i64 pc1), (.int .i64 ((IntKind.wrap .i64 ((s0.getD ((0 : Int)).toNat 0).toNat : Int)))), (.int .i64 (0 : Int)), (.list (.int .i64) ([] : List Int) .no), (.list (.int .i64) ([] : List Int) .no)]), (.str (((s0.take (s0).length).drop ((1 : Int)).toNat))), (.int .i64 (0 : Int))]))))))))))))))) :
  fnK X63.tt (callN Try.prog X63 1) (X63.md 63) (X63.mk1 63) Try.f63 [(.v (.str s0)), (.v (.int .i64 pc1))] ⟨[], [], ⟨0, []⟩⟩ (topK R) := Eq.mp (by kernel_rfl) h
theorem L63_1 (s0 : List UInt8) (pc1 : Int) (rest8 : List UInt8) (ok9 : Bool) (hq0_0 : Int) (hq0_1 : Int) (hq0_2 : Int) (hq0_3 : List Int) (hq0_3k : Tok) (hq0_4 : List Int) (hq0_4k : Tok) (hq1_0 : Int) (hq1_1 : Int) (hq1_2 : Int) (hq1_3 : List Int) (hq1_3k : Tok) (hq1_4 : List Int) (hq1_4k : Tok) (hq2 : Int) (hq3 : Int) (T : Toks) {R : V → Prop} {k1 : St → Prop}
 (h : ((ok9 = true → (((decide (hq2 > (0 : Int))) = true → (((decide (((rest8).length : Int) < (IntKind.wrap .i64 ((2 : Int) * (2 : Int))))) = true → (Tok.own hq1_3k T.l ∧ ((hq1_3).length + (([(0 : Int)] : List Int)).length) * 8 ≤ room ∧ (∃ p6 : Int, PC Try.prog 90 [(.int .i64 pc1), (.int .i64 hq3)] (.int .i64 p6) ∧ (Tok.own hq1_4k (T.n :: Tok.drop hq1_3k T.l) ∧ ((hq1_4).length + (([p6] : List Int)).length) * 8 ≤ room ∧ (∀ (m7 : Nat), ((T.n + 1) + 1) ≤ m7 → k1 (S63_1 s0 pc1 rest8 false hq0_0 hq0_1 hq0_2 hq0_3 hq0_3k hq0_4 hq0_4k hq1_0 hq1_1 hq1_2 ((hq1_3 ++ ([(0 : Int)] : List Int))) (.tk T.n) ((hq1_4 ++ ([p6] : List Int))) ((.tk (T.n + 1))) ((IntKind.wrap .i64 (hq2 - (1 : Int)))) hq3 ⟨m7, ((T.n + 1) :: Tok.drop hq1_4k (T.n :: Tok.drop hq1_3k T.l))⟩)))))) ∧
 ((decide (((rest8).length : Int) < (IntKind.wrap .i64 ((2 : Int) * (2 : Int))))) = false → (0 ≤ (0 : Int) ∧ (0 : Int) < ((rest8).length : Int) ∧ (0 ≤ (8 : Int) ∧ (0 ≤ (1 : Int) ∧ (1 : Int) < ((rest8).length : Int) ∧ (0 ≤ (2 : Int) ∧ (2 : Int) ≤ ((rest8).length : Int) ∧ (0 ≤ (0 : Int) ∧ (0 : Int) < ((((rest8.take (rest8).length).drop ((2 : Int)).toNat)).length : Int) ∧ (0 ≤ (8 : Int) ∧ (0 ≤ (1 : Int) ∧ (1 : Int) < ((((rest8.take (rest8).length).drop ((2 : Int)).toNat)).length : Int) ∧ (0 ≤ (2 : Int) ∧ (2 : Int) ≤ ((((rest8.take (rest8).length).drop ((2 : Int)).toNat)).length : Int) ∧ (Tok.own hq1_3k T.l ∧ ((hq1_3).length + (([(IntKind.wrap .i64 (((BitVec.ofInt (IntKind.bits .i64) ((IntKind.wrap .i64 ((IntKind.wrap .i64 ((rest8.getD ((0 : Int)).toNat 0).toNat : Int)) * 2 ^ min ((8 : Int)).toNat (IntKind.bits .i64)))) ||| BitVec.ofInt (IntKind.bits .i64) ((IntKind.wrap .i64 ((rest8.getD ((1 : Int)).toNat 0).toNat : Int)))).toNat : Int)))] : List Int)).length) * 8 ≤ room ∧ (∃ p8 : Int, PC Try.prog 90 [(.int .i64 pc1), (.int .i64 ((IntKind.wrap .i64 (((BitVec.ofInt (IntKind.bits .i64) ((IntKind.wrap .i64 ((IntKind.wrap .i64 (((((rest8.take (rest8).length).drop ((2 : Int)).toNat)).getD ((0 : Int)).toNat 0).toNat : Int)) * 2 ^ min ((8 : Int)).toNat (IntKind.bits .i64)))) ||| BitVec.ofInt (IntKind.bits .i64) ((IntKind.wrap .i64 (((((rest8.take (rest8).length).drop ((2 : Int)).toNat)).getD ((1 : Int)).toNat 0).toNat : Int)))).toNat : Int)))))] (.int .i64 p8) ∧ (Tok.own hq1_4k (T.n :: Tok.drop hq1_3k T.l) ∧ ((hq1_4).length + (([p8] : List Int)).length) * 8 ≤ room ∧ (∀ (m9 : Nat), ((T.n + 1) + 1) ≤ m9 → k1 (S63_1 s0 pc1 ((((((rest8.take (rest8).length).drop ((2 : Int)).toNat)).take (((rest8.take (rest8).length).drop ((2 : Int)).toNat)).length).drop ((2 : Int)).toNat)) true hq0_0 hq0_1 hq0_2 hq0_3 hq0_3k hq0_4 hq0_4k hq1_0 hq1_1 hq1_2 ((hq1_3 ++ ([(IntKind.wrap .i64 (((BitVec.ofInt (IntKind.bits .i64) ((IntKind.wrap .i64 ((IntKind.wrap .i64 ((rest8.getD ((0 : Int)).toNat 0).toNat : Int)) * 2 ^ min ((8 : Int)).toNat (IntKind.bits .i64)))) ||| BitVec.ofInt (IntKind.bits .i64) ((IntKind.wrap .i64 ((rest8.getD ((1 : Int)).toNat 0).toNat : Int)))).toNat : Int)))] : List Int))) (.tk T.n) ((hq1_4 ++ ([p8] : List Int))) ((.tk (T.n + 1))) ((IntKind.wrap .i64 (hq2 - (1 : Int)))) ((IntKind.wrap .i64 (((BitVec.ofInt (IntKind.bits .i64) ((IntKind.wrap .i64 ((IntKind.wrap .i64 (((((rest8.take (rest8).length).drop ((2 : Int)).toNat)).getD ((0 : Int)).toNat 0).toNat : Int)) * 2 ^ min ((8 : Int)).toNat (IntKind.bits .i64)))) ||| BitVec.ofInt (IntKind.bits .i64) ((IntKind.wrap .i64 (((((rest8.take (rest8).length).drop ((2 : Int)).toNat)).getD ((1 : Int)).toNat 0).toNat : Int)))).toNat : Int)))) ⟨m9, ((T.n + 1) :: Tok.drop hq1_4k (T.n :: Tok.drop hq1_3k T.l))⟩)))))))))))))))) ∧
 ((decide (hq2 > (0 : Int))) = false → (((!ok9) = true → R (.tup [(.agg [(.int .i64 hq1_0), (.int .i64 hq1_1), (.int .i64 hq1_2), (.list (.int .i64) hq1_3 .no), (.list (.int .i64) hq1_4 .no)]), (.str s0), (.int .i64 (5 : Int))])) ∧
 ((!ok9) = false → R (.tup [(.agg [(.int .i64 hq1_0), (.int .i64 hq1_1), (.int .i64 hq1_2), (.list (.int .i64) hq1_3 .no), (.list (.int .i64) hq1_4 .no)]), (.str rest8), (.int .i64 (0 : Int))])))))) ∧ (ok9 = false → (((!ok9) = true → R (.tup [(.agg [(.int .i64 hq1_0), (.int .i64 hq1_1), (.int .i64 hq1_2), (.list (.int .i64) hq1_3 .no), (.list (.int .i64) hq1_4 .no)]), (.str s0), (.int .i64 (5 : Int))])) ∧
 ((!ok9) = false → R (.tup [(.agg [(.int .i64 hq1_0), (.int .i64 hq1_1), (.int .i64 hq1_2), (.list (.int .i64) hq1_3 .no), (.list (.int .i64) hq1_4 .no)]), (.str rest8), (.int .i64 (0 : Int))])))))) :
  B63_1 (loopQ M63_1 k1 (Q63_1 R)) (S63_1 s0 pc1 rest8 ok9 hq0_0 hq0_1 hq0_2 hq0_3 hq0_3k hq0_4 hq0_4k hq1_0 hq1_1 hq1_2 hq1_3 hq1_3k hq1_4 hq1_4k hq2 hq3 T) := Eq.mp (by kernel_rfl) h
end Go.Proofs.Ytaaedebknacheaa.AB

set_option linter.unusedVariables false
set_option linter.unusedSimpArgs false
namespace Go.Proofs.Ytaaedebknacheaa.AB
open Go

theorem or16 {a b : Int} (ha : 0 ≤ a ∧ a < 256) (hb : 0 ≤ b ∧ b < 256) :
    IntKind.wrap .i64 ((BitVec.ofInt (IntKind.bits .i64) (IntKind.wrap .i64 (a * 2 ^ min (8 : Int).toNat (IntKind.bits .i64))) ||| BitVec.ofInt (IntKind.bits .i64) b).toNat : Int) = 256 * a + b := by
  obtain ⟨a, rfl⟩ : ∃ n : Nat, a = n := ⟨a.toNat, by omega⟩
  obtain ⟨b, rfl⟩ : ∃ n : Nat, b = n := ⟨b.toNat, by omega⟩
  have e8 : (2 : Int) ^ min (8 : Int).toNat (IntKind.bits .i64) = 256 := by decide
  have e64 : IntKind.bits .i64 = 64 := rfl
  rw [e8, wrap64 (x := (a : Int) * 256) (by omega) (by omega), e64]
  have h1 : ((a : Int) * 256) = ((a * 256 : Nat) : Int) := by omega
  rw [h1, BitVec.ofInt_natCast, BitVec.ofInt_natCast, BitVec.toNat_or, BitVec.toNat_ofNat, BitVec.toNat_ofNat, Nat.mod_eq_of_lt (by omega), Nat.mod_eq_of_lt (by omega)]
  have h2 : a * 256 ||| b = a * 256 + b := by
    have := Nat.shiftLeft_add_eq_or_of_lt (i := 8) (b := b) (by omega) a
    rw [Nat.shiftLeft_eq] at this
    exact this.symm
  rw [h2, wrap64 (by omega) (by omega)]
  omega

theorem p90 (pc n : Int) (h1 : -1000000 ≤ pc) (h2 : pc ≤ 1000000) (h3 : 0 ≤ n) (h4 : n < 65536) : PC Try.prog 90 [.int .i64 pc, .int .i64 n] (.int .i64 (pc + if n ≥ 32768 then n - 65536 else n)) := by
  refine pcOf (X := X90) (d := 0) rfl trivial (by kernel_rfl) (by decide) (E90 pc n ?_)
  simp only [decide_eq_true_eq, decide_eq_false_iff_not]
  refine ⟨fun h => retI ?_, fun h => retI ?_⟩
  · rw [if_pos h, wrap64 (x := n - 65536) (by omega) (by omega), wrap64 (by omega) (by omega)]
  · rw [if_neg h, wrap64 (by omega) (by omega)]

/-- what is read off code, where it is no switch -/
def readI (s : List UInt8) (pc : Int) : Ins × List UInt8 × Int :=
  let op := byte s 0
  let rest := s.drop 1
  if form op = 0 then ((pc, op, 0, [], []), s, 11)
  else if form op = 45 then ((pc, op, 0, [], []), rest, 0)
  else if form op = 98 then if rest = [] then ((pc, op, 0, [], []), s, 5) else ((pc, op, byte rest 0, [], []), rest.drop 1, 0)
  else if form op = 110 then if rest.length < 2 then ((pc, op, 0, [], []), s, 5) else ((pc, op, u16 rest, [], []), rest.drop 2, 0)
  else if rest.length < 2 then ((pc, op, 0, [], [pc]), s, 5) else ((pc, op, 0, [], [pc + s16 rest]), rest.drop 2, 0)

abbrev readV (p : Ins × List UInt8 × Int) : V := .tup [.agg [.int .i64 p.1.1, .int .i64 p.1.2.1, .int .i64 p.1.2.2.1, .list (.int .i64) p.1.2.2.2.1 .no, .list (.int .i64) p.1.2.2.2.2 .no], .str p.2.1, .int .i64 p.2.2]

theorem p63a (s : List UInt8) (pc : Int) (h : 0 < s.length) (hp : 0 ≤ pc) (hp2 : pc ≤ 1000000) (hn : form (byte s 0) ≠ 115) : PC Try.prog 63 [.str s, .int .i64 pc] (readV (readI s pc)) := by
  have b0 := byte_lt s 0
  have e2 : ((s.getD 0 0).toNat : Int) = byte s 0 := rfl
  have t0 : (0 : Int).toNat = 0 := rfl
  have t1 : (1 : Int).toNat = 1 := rfl
  have t2 : (2 : Int).toNat = 2 := rfl
  have w2 : IntKind.wrap .i64 ((2 : Int) * 1) = 2 := by decide
  refine pcOf (X := X63) (d := 1) rfl FN63 (by kernel_rfl) (by decide) (E63 s pc ?_)
  simp only [t0, t1, t2, w2, wrapB, wrapB', List.take_length, e2]
  refine ⟨by omega, by omega, by omega, by omega, _, p28 _, ?_⟩
  have hlen : (s.drop 1).length = s.length - 1 := by simp
  generalize hrest : s.drop 1 = rest at *
  have b1 := byte_lt rest 0
  have b2 := byte_lt rest 1
  have hor : IntKind.wrap .i64 ((BitVec.ofInt (IntKind.bits .i64) (IntKind.wrap .i64 (byte rest 0 * 2 ^ min (8 : Int).toNat (IntKind.bits .i64))) ||| BitVec.ofInt (IntKind.bits .i64) (byte rest 1)).toNat : Int) = u16 rest := or16 b1 b2
  have hu := u16_lt rest
  rcases form_cases (byte s 0) with hf | hf | hf | hf | hf | hf
  all_goals try simp only [hf, Int.reduceBEq, Bool.false_eq_true, Bool.true_eq_false, forall_const, false_implies, and_true, true_and, reduceIte, Int.reduceEq, decide_eq_true_eq, decide_eq_false_iff_not, hor]
  · exact ⟨by simp [readI, hf, V.norm, V.norm1, V.norm0], rfl⟩
  · exact ⟨by simp [readI, hf, hrest, V.norm, V.norm1, V.norm0], rfl⟩
  · simp only [Bool.not_not, Bool.not_eq_true', Bool.not_eq_false', beq_iff_eq, beq_eq_false_iff_ne, ne_eq]
    refine ⟨fun h1 => ?_, fun h1 => ⟨fun h2 => ?_, fun h2 => absurd h1 h2⟩⟩
    · have : 0 < rest.length := List.length_pos_iff.2 h1
      refine ⟨by omega, by omega, by omega, by omega, fun h2 => absurd h2 h1, fun h2 => ?_⟩
      exact ⟨by simp [readI, hf, hrest, h1, V.norm, V.norm1, V.norm0], rfl⟩
    · exact ⟨by simp [readI, hf, hrest, h1, V.norm, V.norm1, V.norm0], rfl⟩
  · refine ⟨fun h => ?_, fun h => ⟨by omega, by omega, by omega, by omega, by omega, by omega, by omega, ?_⟩⟩
    · have : rest.length < 2 := by omega
      exact ⟨by simp [readI, hf, hrest, this, V.norm, V.norm1, V.norm0], rfl⟩
    · have : ¬ rest.length < 2 := by omega
      exact ⟨by simp [readI, hf, hrest, this, V.norm, V.norm1, V.norm0], rfl⟩
  · refine ⟨fun h => ⟨_, p90 pc 0 (by omega) hp2 (by omega) (by omega), ?_⟩, fun h => ⟨by omega, by omega, by omega, by omega, by omega, by omega, by omega, _, p90 pc _ (by omega) hp2 hu.1 hu.2, ?_⟩⟩
    · have : rest.length < 2 := by omega
      exact ⟨by simp [readI, hf, hrest, this, V.norm, V.norm1, V.norm0], rfl⟩
    · have : ¬ rest.length < 2 := by omega
      exact ⟨by simp [readI, hf, hrest, this, s16, V.norm, V.norm1, V.norm0], rfl⟩
  · exact absurd hf hn

end Go.Proofs.Ytaaedebknacheaa.AB

set_option linter.unusedVariables false
set_option linter.unusedSimpArgs false
set_option maxHeartbeats 1000000
namespace Go.Proofs.Ytaaedebknacheaa.AB
open Go

/-- the last place that was read ahead of a round -/
def lastTo (rest : List UInt8) (i : Nat) : Int := u16 (rest.drop (if i = 0 then 0 else 4 * i + 2))

def sgn16 (n : Int) : Int := if n ≥ 32768 then n - 65536 else n

theorem s16_eq (s : List UInt8) : s16 s = sgn16 (u16 s) := rfl

/-- what is read off code -/
def readF (s : List UInt8) (pc : Int) : Ins × List UInt8 × Int :=
  let op := byte s 0
  let rest := s.drop 1
  if form op = 115 then
    if rest.length < 4 then ((pc, op, 0, [], [pc]), s, 5)
    else if (rest.length : Int) < 4 + 4 * u16 (rest.drop 2) then
      ((pc, op, 0, keysOf rest ((rest.length - 4) / 4) ++ [0], ((pc + s16 rest) :: tosOf rest pc ((rest.length - 4) / 4)) ++ [pc + sgn16 (lastTo rest ((rest.length - 4) / 4))]), s, 5)
    else ((pc, op, 0, keysOf rest (u16 (rest.drop 2)).toNat, (pc + s16 rest) :: tosOf rest pc (u16 (rest.drop 2)).toNat), rest.drop (4 + 4 * (u16 (rest.drop 2)).toNat), 0)
  else readI s pc

theorem readV_nf (p : Ins × List UInt8 × Int) : (readV p).norm = readV p ∧ (readV p).nt = true := ⟨rfl, rfl⟩

theorem p63 (s : List UInt8) (pc : Int) (h : 0 < s.length) (hs : s.length ≤ 1000000) (hp : 0 ≤ pc) (hp2 : pc ≤ 1000000) : PC Try.prog 63 [.str s, .int .i64 pc] (readV (readF s pc)) := by
  by_cases hf : form (byte s 0) = 115
  case neg =>
    have := p63a s pc h hp hp2 hf
    unfold readF
    rw [if_neg hf]
    exact this
  have hroom : room = 140737488355328 := rfl
  have b0 := byte_lt s 0
  have e2 : ((s.getD 0 0).toNat : Int) = byte s 0 := rfl
  have t0 : (0 : Int).toNat = 0 := rfl
  have t1 : (1 : Int).toNat = 1 := rfl
  have t2 : (2 : Int).toNat = 2 := rfl
  have w4 : IntKind.wrap .i64 ((2 : Int) * 2) = 4 := by decide
  refine pcOf (X := X63) (d := 1) rfl FN63 (by kernel_rfl) (by decide) (E63 s pc ?_)
  simp only [t0, t1, t2, w4, wrapB, wrapB', List.take_length, e2]
  refine ⟨by omega, by omega, by omega, by omega, _, p28 _, ?_⟩
  have hlen : (s.drop 1).length = s.length - 1 := by simp
  have hF : readF s pc = (if (s.drop 1).length < 4 then ((pc, byte s 0, 0, [], [pc]), s, 5)
    else if ((s.drop 1).length : Int) < 4 + 4 * u16 ((s.drop 1).drop 2) then
      ((pc, byte s 0, 0, keysOf (s.drop 1) (((s.drop 1).length - 4) / 4) ++ [0], ((pc + s16 (s.drop 1)) :: tosOf (s.drop 1) pc (((s.drop 1).length - 4) / 4)) ++ [pc + sgn16 (lastTo (s.drop 1) (((s.drop 1).length - 4) / 4))]), s, 5)
    else ((pc, byte s 0, 0, keysOf (s.drop 1) (u16 ((s.drop 1).drop 2)).toNat, (pc + s16 (s.drop 1)) :: tosOf (s.drop 1) pc (u16 ((s.drop 1).drop 2)).toNat), (s.drop 1).drop (4 + 4 * (u16 ((s.drop 1).drop 2)).toNat), 0)) := by
    unfold readF; rw [if_pos hf]
  generalize hrest : s.drop 1 = rest at *
  have hor : ∀ l : List UInt8, IntKind.wrap .i64 ((BitVec.ofInt (IntKind.bits .i64) (IntKind.wrap .i64 (byte l 0 * 2 ^ min (8 : Int).toNat (IntKind.bits .i64))) ||| BitVec.ofInt (IntKind.bits .i64) (byte l 1)).toNat : Int) = u16 l := fun l => or16 (byte_lt l 0) (byte_lt l 1)
  have hu := u16_lt rest
  have hu2 := u16_lt (rest.drop 2)
  have hl2 : (rest.drop 2).length = rest.length - 2 := by simp
  simp only [hf, Int.reduceBEq, Bool.false_eq_true, Bool.true_eq_false, forall_const, false_implies, and_true, true_and, reduceIte, Int.reduceEq, decide_eq_true_eq, decide_eq_false_iff_not, hor]
  -- a round that finds nothing
  have stop : ∀ (x : Ins) (rest8 : List UInt8) (a b c : Int) (n to : Int) (k1 k2 : Tok) (T : Toks) (kk : St → Prop), readF s pc = (x, s, 5) →
      B63_1 (loopQ M63_1 kk (Q63_1 fun v => v.norm = readV (readF s pc) ∧ (readV (readF s pc)).nt = true)) (S63_1 s pc rest8 false a b c [] .exact [] .exact x.1 x.2.1 x.2.2.1 x.2.2.2.1 k1 x.2.2.2.2 k2 n to T) := by
    intro x rest8 a b c n to k1 k2 T kk hx
    refine L63_1 s pc rest8 false a b c [] .exact [] .exact x.1 x.2.1 x.2.2.1 x.2.2.2.1 k1 x.2.2.2.2 k2 n to T ?_
    simp only [Bool.false_eq_true, false_implies, true_and, Bool.not_false, forall_const, Bool.true_eq_false, and_true]
    rw [hx]
    exact ⟨rfl, rfl⟩
  refine ⟨fun h4 => ⟨_, p90 pc 0 (by omega) hp2 (by omega) (by omega), ?_⟩, fun h4 => ⟨by omega, by omega, by omega, by omega, by omega, by omega, by omega, by omega, by omega, by omega, by omega, by omega, by omega, by omega, _, p90 pc _ (by omega) hp2 hu.1 hu.2, ?_⟩⟩
  · have h4 : rest.length < 4 := by omega
    rw [if_pos h4] at hF
    have e : pc + (if (0 : Int) ≥ 32768 then (0 : Int) - 65536 else 0) = pc := by simp
    rw [e]
    refine Loops.intro (fun _ : Unit => S63_1 s pc rest false 0 0 0 [] .exact [] .exact pc (byte s 0) 0 [] .exact [pc] .exact 0 0 ⟨0, []⟩) (fun _ => True) (fun _ => 0) () rfl trivial (fun _ _ => ?_)
    exact stop (pc, byte s 0, 0, [], [pc]) rest 0 0 0 0 0 .exact .exact ⟨0, []⟩ _ hF
  · have h4 : ¬ rest.length < 4 := by omega
    rw [if_neg h4] at hF
    generalize hn : u16 (rest.drop 2) = n at *
    have e0 : pc + (if u16 rest ≥ 32768 then u16 rest - 65536 else u16 rest) = pc + s16 rest := rfl
    rw [e0]
    let F : Bool × Nat × Tok × Tok × Toks → St := fun a => match a.1 with
      | true => S63_1 s pc (rest.drop (4 + 4 * a.2.1)) true 0 0 0 [] .exact [] .exact pc (byte s 0) 0 (keysOf rest a.2.1) a.2.2.1 ((pc + s16 rest) :: tosOf rest pc a.2.1) a.2.2.2.1 (n - a.2.1) (lastTo rest a.2.1) a.2.2.2.2
      | false => S63_1 s pc (rest.drop (4 + 4 * a.2.1)) false 0 0 0 [] .exact [] .exact pc (byte s 0) 0 (keysOf rest a.2.1 ++ [0]) a.2.2.1 (((pc + s16 rest) :: tosOf rest pc a.2.1) ++ [pc + sgn16 (lastTo rest a.2.1)]) a.2.2.2.1 (n - a.2.1 - 1) (lastTo rest a.2.1) a.2.2.2.2
    refine Loops.intro F
      (fun a => match a.1 with
        | true => (a.2.1 : Int) ≤ n ∧ 4 + 4 * a.2.1 ≤ rest.length ∧ a.2.2.1.fresh a.2.2.2.2 ∧ a.2.2.2.1.fresh a.2.2.2.2 ∧ a.2.2.1.ne a.2.2.2.1
        | false => (rest.length : Int) < 4 + 4 * n ∧ a.2.1 = (rest.length - 4) / 4) (fun a => 2 * (n.toNat - a.2.1) + (if a.1 then 1 else 0)) (true, 0, .exact, .exact, ⟨0, []⟩) ?_ ⟨by simp only; omega, by simp only; omega, trivial, trivial, trivial⟩ ?_
    · simp only [F, List.drop_drop, lastTo, if_true, List.drop_zero]
      simp [keysOf, tosOf]
    rintro ⟨b, i, k1, k2, T⟩ hJ
    cases b with
    | false =>
      simp only [F] at hJ ⊢
      obtain ⟨j1, rfl⟩ := hJ
      rw [if_pos j1] at hF
      exact stop (pc, byte s 0, 0, _, _) _ 0 0 0 _ _ k1 k2 T _ hF
    | true =>
      simp only at hJ
      obtain ⟨j1, j2, o1, o2, o3⟩ := hJ
      have o2' := o2.keep o3
      have f1 : (Tok.tk T.n).fresh ⟨T.n + 1 + 1, (T.n + 1) :: k2.drop (T.n :: k1.drop T.l)⟩ := (Tok.fresh_new T.n (k1.drop T.l)).keep (u := k2) (by have := o2.ne_new; exact this)
      have f2 : (Tok.tk (T.n + 1)).fresh ⟨T.n + 1 + 1, (T.n + 1) :: k2.drop (T.n :: k1.drop T.l)⟩ := Tok.fresh_new _ _
      have f3 : (Tok.tk T.n).ne (Tok.tk (T.n + 1)) := (Tok.fresh_new T.n (k1.drop T.l)).ne_new
      have hlt16 : 0 ≤ lastTo rest i ∧ lastTo rest i < 65536 := u16_lt _
      simp only [F]
      refine L63_1 s pc (rest.drop (4 + 4 * i)) true 0 0 0 [] .exact [] .exact pc (byte s 0) 0 (keysOf rest i) k1 ((pc + s16 rest) :: tosOf rest pc i) k2 (n - i) (lastTo rest i) T ?_
      have hdl : (rest.drop (4 + 4 * i)).length = rest.length - (4 + 4 * i) := by simp
      have hdl2 : ((rest.drop (4 + 4 * i)).drop 2).length = rest.length - (4 + 4 * i) - 2 := by simp; omega
      simp only [t0, t1, t2, w4, wrapB, wrapB', List.take_length, hor, Bool.true_eq_false, forall_const, false_implies, and_true, Bool.not_true, Bool.false_eq_true, true_and, decide_eq_true_eq, decide_eq_false_iff_not]
      refine ⟨fun hgt => ⟨fun h8 => ?_, fun h8 => ?_⟩, fun hle => ?_⟩
      · refine ⟨o1.own, by simp [keysOf]; omega, _, p90 pc _ (by omega) hp2 hlt16.1 hlt16.2, o2'.own, by simp [tosOf]; omega, fun m hm => ?_⟩
        rw [wrap64 (by omega) (by omega)]
        exact Again.mk (false, i, .tk T.n, .tk (T.n + 1), _) rfl ⟨by omega, by simp only; omega⟩ (by simp)
      · have g3 := u16_lt (rest.drop (4 + 4 * i))
        have g4 := u16_lt ((rest.drop (4 + 4 * i)).drop 2)
        refine ⟨by omega, by omega, by omega, by omega, by omega, by omega, by omega, by omega, by omega, by omega, by omega, by omega, by omega, by omega, o1.own, by simp [keysOf]; omega, _, p90 pc _ (by omega) hp2 g4.1 g4.2, o2'.own, by simp [tosOf]; omega, fun m hm => ?_⟩
        rw [wrap64 (by omega) (by omega)]
        refine Again.mk (true, i + 1, .tk T.n, .tk (T.n + 1), ⟨m, (T.n + 1) :: k2.drop (T.n :: k1.drop T.l)⟩) ?_ ⟨by simp only; omega, by simp only; omega, f1.up hm, f2.up hm, f3⟩ (by simp; omega)
        simp only [F, keysOf, tosOf, List.range_succ, List.map_append, List.map_cons, List.map_nil, List.drop_drop, lastTo, s16_eq, sgn16]
        have e1 : 4 + 4 * i + 2 + 2 = 4 + 4 * (i + 1) := by omega
        have e2 : 4 + 4 * i + 2 = 4 * (i + 1) + 2 := by omega
        have e3 : n - (i : Int) - 1 = n - ((i + 1 : Nat) : Int) := by omega
        have e4 : 6 + 4 * i = 4 * (i + 1) + 2 := by omega
        rw [e1, e2, e3, e4, if_neg (Nat.succ_ne_zero i)]
        rfl
      · have hi : (i : Int) = n := by omega
        rw [if_neg (by omega)] at hF
        rw [hF]
        have : i = n.toNat := by omega
        subst this
        exact ⟨rfl, rfl⟩

end Go.Proofs.Ytaaedebknacheaa.AB

set_option linter.unusedVariables false
set_option linter.unusedSimpArgs false
set_option maxRecDepth 100000
set_option maxHeartbeats 2000000
namespace Go.Proofs.Ytaaedebknacheaa.AB
open Go
/-! crucible/code.lands -/
noncomputable def X64 : Cx := ⟨tt, [(30, [.cd .bool])], [(64, [(10, 3, .inl)]), (91, [(1, 2, .inl)]), (104, [(4, 5, .inl)])], [(64, [(0, mkM 39 0 [0, 3, 9, 10, 11], 2), (2, mkM 39 0 [0, 3, 19, 20, 21], 2)]), (104, [(0, mkM 19 0 [0, 1, 7, 8], 0)])], [(91, Try.f91), (92, Try.f92), (104, Try.f104)]⟩
theorem FN64 : fnsB Try.prog X64.fns := (show (Try.prog.funcs[91]? = some Try.f91 ∧ Try.f91.name ≠ "runtime.NumGoroutine" ∧ (Try.prog.funcs[92]? = some Try.f92 ∧ Try.f92.name ≠ "runtime.NumGoroutine" ∧ (Try.prog.funcs[104]? = some Try.f104 ∧ Try.f104.name ≠ "runtime.NumGoroutine" ∧ True))) from ⟨by kernel_rfl, by decide, ⟨by kernel_rfl, by decide, ⟨by kernel_rfl, by decide, trivial⟩⟩⟩)
def M64_0 : List Bool × Nat := (mkM 39 0 [0, 3, 9, 10, 11], 2)
def S64_0 (l0 : List (Int × (Int × (Int × ((List Int) × (List Int)))))) (t9 : List (Int × (Int × (Int × ((List Int) × (List Int)))))) (t10 : Int) (t11 : Int) (hq0 : List (Int × Int × Tok)) (T : Toks) : St :=
  mkS 39 [(0, (.v (.list (.pair (.int .i64) (.pair (.int .i64) (.pair (.int .i64) (.pair (.slice (.int .i64)) (.slice (.int .i64)))))) l0 .no))), (3, (.ptr 1 0 0 0)), (9, (.v (.list (.pair (.int .i64) (.pair (.int .i64) (.pair (.int .i64) (.pair (.slice (.int .i64)) (.slice (.int .i64)))))) t9 .no))), (10, (.v (.int .i64 t10))), (11, (.v (.int .i64 t11)))] [(some (.map (.int .i64) (.int .i64) hq0)), (some (.box (.mapr 0)))] T
noncomputable def B64_0 : (Exit → St → Prop) → St → Prop := (awp X64.tt (callN Try.prog X64 3) (X64.md 64) 0 (X64.mk1 64) 0 (codeAt [1, 1, 0, 1, 0, 0] (bd Try.f64)))
def M64_2 : List Bool × Nat := (mkM 39 0 [0, 3, 19, 20, 21], 2)
def S64_2 (l0 : List (Int × (Int × (Int × ((List Int) × (List Int)))))) (t19 : List (Int × (Int × (Int × ((List Int) × (List Int)))))) (t20 : Int) (t21 : Int) (hq0 : List (Int × Int × Tok)) (T : Toks) : St :=
  mkS 39 [(0, (.v (.list (.pair (.int .i64) (.pair (.int .i64) (.pair (.int .i64) (.pair (.slice (.int .i64)) (.slice (.int .i64)))))) l0 .no))), (3, (.ptr 1 0 0 0)), (19, (.v (.list (.pair (.int .i64) (.pair (.int .i64) (.pair (.int .i64) (.pair (.slice (.int .i64)) (.slice (.int .i64)))))) t19 .no))), (20, (.v (.int .i64 t20))), (21, (.v (.int .i64 t21)))] [(some (.map (.int .i64) (.int .i64) hq0)), (some (.box (.mapr 0)))] T
noncomputable def B64_2 : (Exit → St → Prop) → St → Prop := (awp X64.tt (callN Try.prog X64 3) (X64.md 64) 0 (X64.mk1 64) 2 (codeAt [1, 1, 1, 0, 1, 0, 0] (bd Try.f64)))
def M64c10_3_1_2_0 : List Bool × Nat := (mkM 19 0 [0, 1, 7, 8], 3)
def S64c10_3_1_2_0 (s0 : List Int) (t7 : Int) (t8 : Int) (hq0 : List (Int × Int × Tok)) (hq2_0 : Int) (hq2_1 : Int) (hq2_2 : Int) (hq2_3 : List Int) (hq2_3k : Tok) (hq2_4 : List Int) (hq2_4k : Tok) (T : Toks) : St :=
  mkS 19 [(0, (.v (.list (.int .i64) s0 .no))), (1, (.clo 92 [(.ptr 1 0 0 0)])), (7, (.v (.int .i64 t7))), (8, (.v (.int .i64 t8)))] [(some (.map (.int .i64) (.int .i64) hq0)), (some (.box (.mapr 0))), (some (.box (.v (.agg [(.int .i64 hq2_0), (.int .i64 hq2_1), (.int .i64 hq2_2), (.list (.int .i64) hq2_3 hq2_3k), (.list (.int .i64) hq2_4 hq2_4k)]))))] T
noncomputable def B64c10_3_1_2_0 : (Exit → St → Prop) → St → Prop := (awp X64.tt (callN Try.prog X64 1) (X64.md 104) 3 (X64.mk1 104) 0 (codeAt [1, 0, 1, 0, 0] (bd Try.f104)))
noncomputable def K64_0 (R : V → Prop) : Exit → St → Prop := seqK ((awp X64.tt (callN Try.prog X64 3) (X64.md 64) 0 (X64.mk1 64) 0 (codeAt [1, 1, 1] (bd Try.f64))) (retK tt Try.f64.results.toList fun x s' => topK R x ⟨[], s'.hp, s'.T⟩)) (retK tt Try.f64.results.toList fun x s' => topK R x ⟨[], s'.hp, s'.T⟩)
noncomputable def Q64_0 (R : V → Prop) : Exit → St → Prop := (blockK 0 (K64_0 R))
noncomputable def K64_1 (R : V → Prop) : Exit → St → Prop := seqK ((awp X64.tt (callN Try.prog X64 3) (X64.md 64) 0 (X64.mk1 64) 0 (codeAt [1, 1, 1, 1] (bd Try.f64))) (retK tt Try.f64.results.toList fun x s' => topK R x ⟨[], s'.hp, s'.T⟩)) (retK tt Try.f64.results.toList fun x s' => topK R x ⟨[], s'.hp, s'.T⟩)
noncomputable def Q64_2 (R : V → Prop) : Exit → St → Prop := (blockK 2 (K64_1 R))
noncomputable def K64_2 (R : V → Prop) (k2 : St → Prop) : Exit → St → Prop := seqK ((awp X64.tt (callN Try.prog X64 3) (X64.md 64) 0 (X64.mk1 64) 2 (codeAt [1, 1, 1, 0, 1, 0, 0, 1, 1, 1] (bd Try.f64))) (loopQ M64_2 k2 (blockK 2 (K64_1 R)))) (loopQ M64_2 k2 (blockK 2 (K64_1 R)))
noncomputable def K64_3 (R : V → Prop) (k2 : St → Prop) : Exit → St → Prop := seqK ((awp X64.tt (callN Try.prog X64 3) (X64.md 64) 0 (X64.mk1 64) 3 (codeAt [1, 1, 1, 0, 1, 0, 0, 1, 1, 0, 0, 1, 1] (bd Try.f64))) (blockK 3 (K64_2 R k2))) (blockK 3 (K64_2 R k2))
noncomputable def A64c10_3 (R : V → Prop) (k2 : St → Prop) : TV → St → Prop := fun x s' => awpL X64.tt (callN Try.prog X64 3) (X64.md 64) 10 (regOps (codeAt [1, 1, 1, 0, 1, 0, 0, 1, 1, 0, 0, 1, 0] (bd Try.f64))) 4 ((regOps (codeAt [1, 1, 1, 0, 1, 0, 0, 1, 1, 0, 0, 1, 0] (bd Try.f64))).toList.drop 4) ((K64_3 R k2) .normal) (s'.put (some 28) x)
def W64c10_3 (z10_3_l0 : List (Int × (Int × (Int × ((List Int) × (List Int)))))) (z10_3_t19 : List (Int × (Int × (Int × ((List Int) × (List Int)))))) (z10_3_t20 : Int) (z10_3_t21 : Int) (z10_3_t22 : Bool) (z10_3_t23_0 : Int) (z10_3_t23_1 : Int) (z10_3_t23_2 : Int) (z10_3_t23_3 : List Int) (z10_3_t23_3k : Tok) (z10_3_t23_4 : List Int) (z10_3_t23_4k : Tok) (z10_3_t24_0 : Int) (z10_3_t24_1 : Int) (z10_3_t24_2 : Int) (z10_3_t24_3 : List Int) (z10_3_t24_3k : Tok) (z10_3_t24_4 : List Int) (z10_3_t24_4k : Tok) (z10_3_t26 : List Int) (z10_3_t26k : Tok) : List TV := mkL 39 0 [(0, (.v (.list (.pair (.int .i64) (.pair (.int .i64) (.pair (.int .i64) (.pair (.slice (.int .i64)) (.slice (.int .i64)))))) z10_3_l0 .no))), (3, (.ptr 1 0 0 0)), (7, (.ptr 2 0 0 0)), (19, (.v (.list (.pair (.int .i64) (.pair (.int .i64) (.pair (.int .i64) (.pair (.slice (.int .i64)) (.slice (.int .i64)))))) z10_3_t19 .no))), (20, (.v (.int .i64 z10_3_t20))), (21, (.v (.int .i64 z10_3_t21))), (22, (.v (.bool z10_3_t22))), (23, (.v (.fptr (.agg [(.int .i64 z10_3_t23_0), (.int .i64 z10_3_t23_1), (.int .i64 z10_3_t23_2), (.list (.int .i64) z10_3_t23_3 z10_3_t23_3k), (.list (.int .i64) z10_3_t23_4 z10_3_t23_4k)]) 0))), (24, (.v (.agg [(.int .i64 z10_3_t24_0), (.int .i64 z10_3_t24_1), (.int .i64 z10_3_t24_2), (.list (.int .i64) z10_3_t24_3 z10_3_t24_3k), (.list (.int .i64) z10_3_t24_4 z10_3_t24_4k)]))), (25, (.ptr 2 0 0 4)), (26, (.v (.list (.int .i64) z10_3_t26 z10_3_t26k))), (27, (.clo 92 [(.ptr 1 0 0 0)]))]
noncomputable def K64c10_3_4 (R : V → Prop) (k2 : St → Prop) (z10_3_l0 : List (Int × (Int × (Int × ((List Int) × (List Int)))))) (z10_3_t19 : List (Int × (Int × (Int × ((List Int) × (List Int)))))) (z10_3_t20 : Int) (z10_3_t21 : Int) (z10_3_t22 : Bool) (z10_3_t23_0 : Int) (z10_3_t23_1 : Int) (z10_3_t23_2 : Int) (z10_3_t23_3 : List Int) (z10_3_t23_3k : Tok) (z10_3_t23_4 : List Int) (z10_3_t23_4k : Tok) (z10_3_t24_0 : Int) (z10_3_t24_1 : Int) (z10_3_t24_2 : Int) (z10_3_t24_3 : List Int) (z10_3_t24_3k : Tok) (z10_3_t24_4 : List Int) (z10_3_t24_4k : Tok) (z10_3_t26 : List Int) (z10_3_t26k : Tok) : Exit → St → Prop := seqK ((awp X64.tt (callN Try.prog X64 2) (X64.md 91) 3 (X64.mk1 91) 0 (codeAt [1, 1] (bd Try.f91))) (retK X64.tt Try.f91.results.toList fun x s' => A64c10_3 R k2 x ⟨W64c10_3 z10_3_l0 z10_3_t19 z10_3_t20 z10_3_t21 z10_3_t22 z10_3_t23_0 z10_3_t23_1 z10_3_t23_2 z10_3_t23_3 z10_3_t23_3k z10_3_t23_4 z10_3_t23_4k z10_3_t24_0 z10_3_t24_1 z10_3_t24_2 z10_3_t24_3 z10_3_t24_3k z10_3_t24_4 z10_3_t24_4k z10_3_t26 z10_3_t26k, s'.hp, s'.T⟩)) (retK X64.tt Try.f91.results.toList fun x s' => A64c10_3 R k2 x ⟨W64c10_3 z10_3_l0 z10_3_t19 z10_3_t20 z10_3_t21 z10_3_t22 z10_3_t23_0 z10_3_t23_1 z10_3_t23_2 z10_3_t23_3 z10_3_t23_3k z10_3_t23_4 z10_3_t23_4k z10_3_t24_0 z10_3_t24_1 z10_3_t24_2 z10_3_t24_3 z10_3_t24_3k z10_3_t24_4 z10_3_t24_4k z10_3_t26 z10_3_t26k, s'.hp, s'.T⟩)
noncomputable def A64c10_3_1_2 (R : V → Prop) (k2 : St → Prop) (z10_3_l0 : List (Int × (Int × (Int × ((List Int) × (List Int)))))) (z10_3_t19 : List (Int × (Int × (Int × ((List Int) × (List Int)))))) (z10_3_t20 : Int) (z10_3_t21 : Int) (z10_3_t22 : Bool) (z10_3_t23_0 : Int) (z10_3_t23_1 : Int) (z10_3_t23_2 : Int) (z10_3_t23_3 : List Int) (z10_3_t23_3k : Tok) (z10_3_t23_4 : List Int) (z10_3_t23_4k : Tok) (z10_3_t24_0 : Int) (z10_3_t24_1 : Int) (z10_3_t24_2 : Int) (z10_3_t24_3 : List Int) (z10_3_t24_3k : Tok) (z10_3_t24_4 : List Int) (z10_3_t24_4k : Tok) (z10_3_t26 : List Int) (z10_3_t26k : Tok) : TV → St → Prop := fun x s' => awpL X64.tt (callN Try.prog X64 2) (X64.md 91) 1 (regOps (codeAt [1, 0] (bd Try.f91))) 3 ((regOps (codeAt [1, 0] (bd Try.f91))).toList.drop 3) ((K64c10_3_4 R k2 z10_3_l0 z10_3_t19 z10_3_t20 z10_3_t21 z10_3_t22 z10_3_t23_0 z10_3_t23_1 z10_3_t23_2 z10_3_t23_3 z10_3_t23_3k z10_3_t23_4 z10_3_t23_4k z10_3_t24_0 z10_3_t24_1 z10_3_t24_2 z10_3_t24_3 z10_3_t24_3k z10_3_t24_4 z10_3_t24_4k z10_3_t26 z10_3_t26k) .normal) (s'.put (some 7) x)
def W64c10_3_1_2 (z10_3_1_2_s0 : List Int) (z10_3_1_2_t5 : List Int) : List TV := mkL 9 0 [(0, (.v (.list (.int .i64) z10_3_1_2_s0 .no))), (1, (.clo 92 [(.ptr 1 0 0 0)])), (4, (.v .ff)), (5, (.v (.list (.int .i64) z10_3_1_2_t5 .no))), (6, (.clo 92 [(.ptr 1 0 0 0)]))]
noncomputable def K64c10_3_1_2_5 (R : V → Prop) (k2 : St → Prop) (z10_3_l0 : List (Int × (Int × (Int × ((List Int) × (List Int)))))) (z10_3_t19 : List (Int × (Int × (Int × ((List Int) × (List Int)))))) (z10_3_t20 : Int) (z10_3_t21 : Int) (z10_3_t22 : Bool) (z10_3_t23_0 : Int) (z10_3_t23_1 : Int) (z10_3_t23_2 : Int) (z10_3_t23_3 : List Int) (z10_3_t23_3k : Tok) (z10_3_t23_4 : List Int) (z10_3_t23_4k : Tok) (z10_3_t24_0 : Int) (z10_3_t24_1 : Int) (z10_3_t24_2 : Int) (z10_3_t24_3 : List Int) (z10_3_t24_3k : Tok) (z10_3_t24_4 : List Int) (z10_3_t24_4k : Tok) (z10_3_t26 : List Int) (z10_3_t26k : Tok) (z10_3_1_2_s0 : List Int) (z10_3_1_2_t5 : List Int) : Exit → St → Prop := seqK ((awp X64.tt (callN Try.prog X64 1) (X64.md 104) 3 (X64.mk1 104) 0 (codeAt [1, 1] (bd Try.f104))) (retK X64.tt Try.f104.results.toList fun x s' => A64c10_3_1_2 R k2 z10_3_l0 z10_3_t19 z10_3_t20 z10_3_t21 z10_3_t22 z10_3_t23_0 z10_3_t23_1 z10_3_t23_2 z10_3_t23_3 z10_3_t23_3k z10_3_t23_4 z10_3_t23_4k z10_3_t24_0 z10_3_t24_1 z10_3_t24_2 z10_3_t24_3 z10_3_t24_3k z10_3_t24_4 z10_3_t24_4k z10_3_t26 z10_3_t26k x ⟨W64c10_3_1_2 z10_3_1_2_s0 z10_3_1_2_t5, s'.hp, s'.T⟩)) (retK X64.tt Try.f104.results.toList fun x s' => A64c10_3_1_2 R k2 z10_3_l0 z10_3_t19 z10_3_t20 z10_3_t21 z10_3_t22 z10_3_t23_0 z10_3_t23_1 z10_3_t23_2 z10_3_t23_3 z10_3_t23_3k z10_3_t23_4 z10_3_t23_4k z10_3_t24_0 z10_3_t24_1 z10_3_t24_2 z10_3_t24_3 z10_3_t24_3k z10_3_t24_4 z10_3_t24_4k z10_3_t26 z10_3_t26k x ⟨W64c10_3_1_2 z10_3_1_2_s0 z10_3_1_2_t5, s'.hp, s'.T⟩)
noncomputable def Q64c10_3_1_2_0 (R : V → Prop) (k2 : St → Prop) (z10_3_l0 : List (Int × (Int × (Int × ((List Int) × (List Int)))))) (z10_3_t19 : List (Int × (Int × (Int × ((List Int) × (List Int)))))) (z10_3_t20 : Int) (z10_3_t21 : Int) (z10_3_t22 : Bool) (z10_3_t23_0 : Int) (z10_3_t23_1 : Int) (z10_3_t23_2 : Int) (z10_3_t23_3 : List Int) (z10_3_t23_3k : Tok) (z10_3_t23_4 : List Int) (z10_3_t23_4k : Tok) (z10_3_t24_0 : Int) (z10_3_t24_1 : Int) (z10_3_t24_2 : Int) (z10_3_t24_3 : List Int) (z10_3_t24_3k : Tok) (z10_3_t24_4 : List Int) (z10_3_t24_4k : Tok) (z10_3_t26 : List Int) (z10_3_t26k : Tok) (z10_3_1_2_s0 : List Int) (z10_3_1_2_t5 : List Int) : Exit → St → Prop := (blockK 0 (K64c10_3_1_2_5 R k2 z10_3_l0 z10_3_t19 z10_3_t20 z10_3_t21 z10_3_t22 z10_3_t23_0 z10_3_t23_1 z10_3_t23_2 z10_3_t23_3 z10_3_t23_3k z10_3_t23_4 z10_3_t23_4k z10_3_t24_0 z10_3_t24_1 z10_3_t24_2 z10_3_t24_3 z10_3_t24_3k z10_3_t24_4 z10_3_t24_4k z10_3_t26 z10_3_t26k z10_3_1_2_s0 z10_3_1_2_t5))
theorem E64 (l0 : (List (Int × (Int × (Int × ((List Int) × (List Int))))))) {R : V → Prop} (h : (Loops B64_0 M64_0 (Q64_0 R)
  (S64_0 l0 l0 (((l0).length : Int)) (0 : Int) (([] : List (Int × Int × Tok))) ⟨0, []⟩))) :
  fnK X64.tt (callN Try.prog X64 3) (X64.md 64) (X64.mk1 64) Try.f64 [(.v (.list (.pair (.int .i64) (.pair (.int .i64) (.pair (.int .i64) (.pair (.slice (.int .i64)) (.slice (.int .i64)))))) l0 .no))] ⟨[], [], ⟨0, []⟩⟩ (topK R) := Eq.mp (by kernel_rfl) h
theorem L64_0 (l0 : List (Int × (Int × (Int × ((List Int) × (List Int)))))) (t9 : List (Int × (Int × (Int × ((List Int) × (List Int)))))) (t10 : Int) (t11 : Int) (hq0 : List (Int × Int × Tok)) (T : Toks) {R : V → Prop} {k0 : St → Prop}
 (h : (((decide (t11 < t10)) = true → (0 ≤ t11 ∧ t11 < ((t9).length : Int) ∧ k0 (S64_0 l0 t9 t10 ((IntKind.wrap .i64 (t11 + (1 : Int)))) ((mset (Cd.keq (.int .i64) ((t9.getD (t11).toNat (0, (0, (0, ([], []))))).1)) ((t9.getD (t11).toNat (0, (0, (0, ([], []))))).1) ((1 : Int), .no) hq0)) T))) ∧
 ((decide (t11 < t10)) = false → (Loops B64_2 M64_2 (Q64_2 R)
  (S64_2 l0 l0 (((l0).length : Int)) (0 : Int) hq0 T))))) :
  B64_0 (loopQ M64_0 k0 (Q64_0 R)) (S64_0 l0 t9 t10 t11 hq0 T) := Eq.mp (by kernel_rfl) h
theorem L64_2 (l0 : List (Int × (Int × (Int × ((List Int) × (List Int)))))) (t19 : List (Int × (Int × (Int × ((List Int) × (List Int)))))) (t20 : Int) (t21 : Int) (hq0 : List (Int × Int × Tok)) (T : Toks) {R : V → Prop} {k2 : St → Prop}
 (h : (((decide (t21 < t20)) = true → (0 ≤ t21 ∧ t21 < ((t19).length : Int) ∧ (Loops B64c10_3_1_2_0 M64c10_3_1_2_0 (Q64c10_3_1_2_0 R k2 l0 t19 t20 t21 ((decide (t21 < t20))) ((t19.getD (t21).toNat (0, (0, (0, ([], []))))).1) ((t19.getD (t21).toNat (0, (0, (0, ([], []))))).2.1) ((t19.getD (t21).toNat (0, (0, (0, ([], []))))).2.2.1) ((t19.getD (t21).toNat (0, (0, (0, ([], []))))).2.2.2.1) .no ((t19.getD (t21).toNat (0, (0, (0, ([], []))))).2.2.2.2) .no ((t19.getD (t21).toNat (0, (0, (0, ([], []))))).1) ((t19.getD (t21).toNat (0, (0, (0, ([], []))))).2.1) ((t19.getD (t21).toNat (0, (0, (0, ([], []))))).2.2.1) ((t19.getD (t21).toNat (0, (0, (0, ([], []))))).2.2.2.1) .no ((t19.getD (t21).toNat (0, (0, (0, ([], []))))).2.2.2.2) .no ((t19.getD (t21).toNat (0, (0, (0, ([], []))))).2.2.2.2) .no ((t19.getD (t21).toNat (0, (0, (0, ([], []))))).2.2.2.2) ((t19.getD (t21).toNat (0, (0, (0, ([], []))))).2.2.2.2))
  (S64c10_3_1_2_0 ((t19.getD (t21).toNat (0, (0, (0, ([], []))))).2.2.2.2) ((((t19.getD (t21).toNat (0, (0, (0, ([], []))))).2.2.2.2).length : Int)) (0 : Int) hq0 ((t19.getD (t21).toNat (0, (0, (0, ([], []))))).1) ((t19.getD (t21).toNat (0, (0, (0, ([], []))))).2.1) ((t19.getD (t21).toNat (0, (0, (0, ([], []))))).2.2.1) ((t19.getD (t21).toNat (0, (0, (0, ([], []))))).2.2.2.1) .no ((t19.getD (t21).toNat (0, (0, (0, ([], []))))).2.2.2.2) .no T)))) ∧
 ((decide (t21 < t20)) = false → (0 ≤ (IntKind.wrap .i64 (((l0).length : Int) - (1 : Int))) ∧ (IntKind.wrap .i64 (((l0).length : Int) - (1 : Int))) < ((l0).length : Int) ∧ (∃ p1 : Bool, PC Try.prog 30 [(.int .i64 ((l0.getD ((IntKind.wrap .i64 (((l0).length : Int) - (1 : Int)))).toNat (0, (0, (0, ([], []))))).2.1))] (.bool p1) ∧ (((!p1) = true → R (.int .i64 (13 : Int))) ∧
 ((!p1) = false → R (.int .i64 (0 : Int))))))))) :
  B64_2 (loopQ M64_2 k2 (Q64_2 R)) (S64_2 l0 t19 t20 t21 hq0 T) := Eq.mp (by kernel_rfl) h
theorem L64c10_3_1_2_0 (s0 : List Int) (t7 : Int) (t8 : Int) (hq0 : List (Int × Int × Tok)) (hq2_0 : Int) (hq2_1 : Int) (hq2_2 : Int) (hq2_3 : List Int) (hq2_3k : Tok) (hq2_4 : List Int) (hq2_4k : Tok) (T : Toks) {R : V → Prop} {k2 : St → Prop} {z10_3_l0 : List (Int × (Int × (Int × ((List Int) × (List Int)))))} {z10_3_t19 : List (Int × (Int × (Int × ((List Int) × (List Int)))))} {z10_3_t20 : Int} {z10_3_t21 : Int} {z10_3_t22 : Bool} {z10_3_t23_0 : Int} {z10_3_t23_1 : Int} {z10_3_t23_2 : Int} {z10_3_t23_3 : List Int} {z10_3_t23_3k : Tok} {z10_3_t23_4 : List Int} {z10_3_t23_4k : Tok} {z10_3_t24_0 : Int} {z10_3_t24_1 : Int} {z10_3_t24_2 : Int} {z10_3_t24_3 : List Int} {z10_3_t24_3k : Tok} {z10_3_t24_4 : List Int} {z10_3_t24_4k : Tok} {z10_3_t26 : List Int} {z10_3_t26k : Tok} {z10_3_1_2_s0 : List Int} {z10_3_1_2_t5 : List Int} {kc10_3_1_2_0 : St → Prop}
 (h : (((decide (t8 < t7)) = true → (0 ≤ t8 ∧ t8 < ((s0).length : Int) ∧ ((∀ (a2 : Int) (t3 : Tok), mfind (Cd.keq (.int .i64) ((s0.getD (t8).toNat 0))) hq0 = some (a2, t3) → (((a2 == (0 : Int)) = true → (((decide (t8 ≥ (0 : Int))) = true → R (.int .i64 (12 : Int))) ∧
 ((decide (t8 ≥ (0 : Int))) = false → k2 (S64_2 z10_3_l0 z10_3_t19 z10_3_t20 ((IntKind.wrap .i64 (z10_3_t21 + (1 : Int)))) hq0 T)))) ∧
 ((a2 == (0 : Int)) = false → kc10_3_1_2_0 (S64c10_3_1_2_0 s0 t7 ((IntKind.wrap .i64 (t8 + (1 : Int)))) hq0 hq2_0 hq2_1 hq2_2 hq2_3 hq2_3k hq2_4 hq2_4k T)))) ∧ (mfind (Cd.keq (.int .i64) ((s0.getD (t8).toNat 0))) hq0 = none → ((((0 : Int) == (0 : Int)) = true → (((decide (t8 ≥ (0 : Int))) = true → R (.int .i64 (12 : Int))) ∧
 ((decide (t8 ≥ (0 : Int))) = false → k2 (S64_2 z10_3_l0 z10_3_t19 z10_3_t20 ((IntKind.wrap .i64 (z10_3_t21 + (1 : Int)))) hq0 T)))) ∧
 (((0 : Int) == (0 : Int)) = false → kc10_3_1_2_0 (S64c10_3_1_2_0 s0 t7 ((IntKind.wrap .i64 (t8 + (1 : Int)))) hq0 hq2_0 hq2_1 hq2_2 hq2_3 hq2_3k hq2_4 hq2_4k T))))))) ∧
 ((decide (t8 < t7)) = false → (((decide ((-1 : Int) ≥ (0 : Int))) = true → R (.int .i64 (12 : Int))) ∧
 ((decide ((-1 : Int) ≥ (0 : Int))) = false → k2 (S64_2 z10_3_l0 z10_3_t19 z10_3_t20 ((IntKind.wrap .i64 (z10_3_t21 + (1 : Int)))) hq0 T)))))) :
  B64c10_3_1_2_0 (loopQ M64c10_3_1_2_0 kc10_3_1_2_0 (Q64c10_3_1_2_0 R k2 z10_3_l0 z10_3_t19 z10_3_t20 z10_3_t21 z10_3_t22 z10_3_t23_0 z10_3_t23_1 z10_3_t23_2 z10_3_t23_3 z10_3_t23_3k z10_3_t23_4 z10_3_t23_4k z10_3_t24_0 z10_3_t24_1 z10_3_t24_2 z10_3_t24_3 z10_3_t24_3k z10_3_t24_4 z10_3_t24_4k z10_3_t26 z10_3_t26k z10_3_1_2_s0 z10_3_1_2_t5)) (S64c10_3_1_2_0 s0 t7 t8 hq0 hq2_0 hq2_1 hq2_2 hq2_3 hq2_3k hq2_4 hq2_4k T) := Eq.mp (by kernel_rfl) h
end Go.Proofs.Ytaaedebknacheaa.AB

set_option linter.unusedVariables false
set_option linter.unusedSimpArgs false
namespace Go.Proofs.Ytaaedebknacheaa.AB
open Go

theorem keq_i64 (a b : Int) : Cd.keq (.int .i64) a b = decide (a = b) := rfl

theorem mfind_mset {β : Type} (x k : Int) (b : β) (l : List (Int × β)) : mfind (Cd.keq (.int .i64) x) (mset (Cd.keq (.int .i64) k) k b l) = if x = k then some b else mfind (Cd.keq (.int .i64) x) l := by
  induction l with
  | nil =>
    unfold mset mfind
    rw [keq_i64]
    by_cases h : x = k
    · simp only [h, decide_true, if_true]
    · simp only [h, decide_false, if_false]; rfl
  | cons p l ih =>
    obtain ⟨a, b'⟩ := p
    unfold mset
    rw [keq_i64]
    by_cases hk : k = a
    · subst hk
      simp only [decide_true]
      unfold mfind
      rw [keq_i64]
      by_cases h : x = k
      · simp only [h, decide_true, if_true]
      · simp only [h, decide_false, if_false]
    · simp only [hk, decide_false]
      unfold mfind
      rw [keq_i64]
      by_cases h : x = a
      · have : ¬ x = k := fun e => hk (by omega)
        simp only [h, decide_true]
        rw [if_neg (by omega)]
      · simp only [h, decide_false]
        exact ih

theorem isPc_take {l : List Ins} {n : Nat} (h : n < l.length) (pc : Int) : isPc (l.take (n + 1)) pc = (isPc (l.take n) pc || l[n].1 == pc) := any_take_succ _ _ h

theorem p64 (l : List Ins) (hl : 0 < l.length) (hl2 : l.length ≤ 1000000) (hk : ∀ x ∈ l, x.2.2.2.2.length ≤ 1000000) : PC Try.prog 64 [.list cIns l .no] (.int .i64 (endsE l)) := by
  refine pcOf (X := X64) (d := 3) rfl FN64 (by kernel_rfl) (by decide) (E64 l ?_)
  refine Loops.intro (fun a : Nat × List (Int × Int × Tok) => S64_0 l l l.length a.1 a.2 ⟨0, []⟩) (fun a => a.1 ≤ l.length ∧ ∀ pc : Int, mfind (Cd.keq (.int .i64) pc) a.2 = if isPc (l.take a.1) pc then some (1, .no) else none) (fun a => l.length - a.1)
    (0, []) rfl ⟨Nat.zero_le _, fun pc => rfl⟩ ?_
  rintro ⟨n, hq⟩ ⟨hn, hm⟩
  simp only at hn hm
  refine L64_0 l l l.length n hq ⟨0, []⟩ ?_
  simp only [Bool.not_true, Bool.not_false, Bool.true_eq_false, Bool.false_eq_true, forall_const, false_implies, true_implies, and_true, true_and, eq_self, implies_true, Nat.zero_add, Int.toNat_natCast, List.take_length, decide_eq_true_eq, decide_eq_false_iff_not, beq_iff_eq, beq_eq_false_iff_ne, bne_iff_ne, bne_eq_false_iff_eq, ne_eq, Bool.not_eq_true', Bool.not_eq_false', Int.not_le, Int.not_lt, List.length_cons, List.length_nil, List.length_append, Nat.add_zero, List.drop_zero]
  refine ⟨fun h => ?_, fun h => ?_⟩
  · have hlt : n < l.length := by omega
    simp only [getD_lt hlt]
    rw [wrap64 (by omega) (by omega)]
    refine ⟨by omega, by omega, Again.mk (n + 1, _) rfl ⟨by simp only; omega, fun pc => ?_⟩ (by simp only; omega)⟩
    simp only
    rw [mfind_mset, hm pc, isPc_take hlt]
    by_cases e : pc = l[n].1
    · subst e
      simp
    · have : (l[n].1 == pc) = false := by rw [beq_eq_false_iff_ne]; exact fun h => e h.symm
      rw [if_neg e, this, Bool.or_false]
  have hnn : n = l.length := by omega
  subst hnn
  rw [List.take_length] at hm
  refine Loops.intro (fun n : Nat => S64_2 l l l.length n hq ⟨0, []⟩) (fun n => n ≤ l.length ∧ (l.take n).all (fun x => x.2.2.2.2.all fun to => isPc l to) = true) (fun n => l.length - n) 0 rfl ⟨Nat.zero_le _, by simp⟩ ?_
  rintro n ⟨hn, ha⟩
  refine L64_2 l l l.length n hq ⟨0, []⟩ ?_
  simp only [Bool.not_true, Bool.not_false, Bool.true_eq_false, Bool.false_eq_true, forall_const, false_implies, true_implies, and_true, true_and, eq_self, implies_true, Nat.zero_add, Int.toNat_natCast, List.take_length, decide_eq_true_eq, decide_eq_false_iff_not, beq_iff_eq, beq_eq_false_iff_ne, bne_iff_ne, bne_eq_false_iff_eq, ne_eq, Bool.not_eq_true', Bool.not_eq_false', Int.not_le, Int.not_lt, List.length_cons, List.length_nil, List.length_append, Nat.add_zero, List.drop_zero]
  refine ⟨fun h => ⟨by omega, by omega, ?_⟩, fun h => ?_⟩
  · have hlt : n < l.length := by omega
    have hlk := hk _ (List.getElem_mem hlt)
    simp only [getD_lt hlt]
    have bad : ∀ k, ∀ hk : k < l[n].2.2.2.2.length, isPc l l[n].2.2.2.2[k] = false → V.norm (.int .i64 12) = .int .i64 (endsE l) ∧ (V.int .i64 (endsE l)).nt = true := by
      intro k hklt hb
      refine retI ?_
      unfold endsE
      rw [if_neg]
      rw [Bool.not_eq_true]
      exact not_all _ _ hlt (not_all _ _ hklt hb)
    refine Loops.intro (fun k : Nat => S64c10_3_1_2_0 l[n].2.2.2.2 l[n].2.2.2.2.length k hq l[n].1 l[n].2.1 l[n].2.2.1 l[n].2.2.2.1 .no l[n].2.2.2.2 .no ⟨0, []⟩) (fun k => k ≤ l[n].2.2.2.2.length ∧ (l[n].2.2.2.2.take k).all (fun to => isPc l to) = true)
      (fun k => l[n].2.2.2.2.length - k) 0 rfl ⟨Nat.zero_le _, by simp⟩ ?_
    rintro k ⟨hkn, hka⟩
    refine L64c10_3_1_2_0 l[n].2.2.2.2 l[n].2.2.2.2.length k hq l[n].1 l[n].2.1 l[n].2.2.1 l[n].2.2.2.1 .no l[n].2.2.2.2 .no ⟨0, []⟩ ?_
    simp only [Bool.not_true, Bool.not_false, Bool.true_eq_false, Bool.false_eq_true, forall_const, false_implies, true_implies, and_true, true_and, eq_self, implies_true, Nat.zero_add, Int.toNat_natCast, List.take_length, decide_eq_true_eq, decide_eq_false_iff_not, beq_iff_eq, beq_eq_false_iff_ne, bne_iff_ne, bne_eq_false_iff_eq, ne_eq, Bool.not_eq_true', Bool.not_eq_false', Int.not_le, Int.not_lt, List.length_cons, List.length_nil, List.length_append, Nat.add_zero, List.drop_zero]
    refine ⟨fun h => ?_, fun h => ⟨fun h => absurd h (by decide), fun _ => ?_⟩⟩
    · have hklt : k < l[n].2.2.2.2.length := by omega
      have he : l[n].2.2.2.2.getD k 0 = l[n].2.2.2.2[k] := getD_lt hklt
      rw [wrap64 (x := (k : Int) + 1) (by omega) (by omega)]
      refine ⟨by omega, by omega, ?_⟩
      have hmk := hm (l[n].2.2.2.2.getD k 0)
      cases hp : isPc l (l[n].2.2.2.2.getD k 0) with
      | true =>
        rw [hp, if_pos rfl] at hmk
        rw [hmk]
        refine ⟨fun a t e => ?_, fun e => (by cases e)⟩
        cases e
        refine ⟨fun h => absurd h (by decide), fun _ => ?_⟩
        exact Again.mk (k + 1) rfl ⟨by omega, by rw [all_take_succ _ _ hklt, hka, ← he, hp]; rfl⟩ (by omega)
      | false =>
        rw [hp, if_neg (by simp)] at hmk
        rw [hmk]
        refine ⟨fun a t e => (by cases e), fun _ => ⟨⟨fun _ => bad k hklt (by rw [← he]; exact hp), fun h => by omega⟩, fun h => absurd trivial h⟩⟩
    · have hke : k = l[n].2.2.2.2.length := by omega
      rw [wrap64 (by omega) (by omega)]
      refine Again.mk (n + 1) rfl ⟨by omega, ?_⟩ (by omega)
      rw [all_take_succ _ _ hlt, ha]
      subst hke
      rw [List.take_length] at hka
      simpa using hka
  · have hge : n = l.length := by omega
    subst hge
    rw [List.take_length] at ha
    have e : IntKind.wrap .i64 ((l.length : Int) - 1) = ((l.length - 1 : Nat) : Int) := by rw [wrap64 (by omega) (by omega)]; omega
    simp only [e, Int.toNat_natCast]
    refine ⟨by omega, by omega, _, p30 _, fun h => retI ?_, fun h => retI ?_⟩
    · unfold endsE; rw [if_pos ha, if_neg (by rw [h]; simp)]
    · unfold endsE; rw [if_pos ha, if_pos h]

end Go.Proofs.Ytaaedebknacheaa.AB

set_option linter.unusedVariables false
set_option linter.unusedSimpArgs false
set_option maxRecDepth 100000
set_option maxHeartbeats 2000000
namespace Go.Proofs.Ytaaedebknacheaa.AB
open Go
/-! crucible/code.Decode -/
noncomputable def X33 : Cx := ⟨tt, [(63, [.cd (.pair (.int .i64) (.pair (.int .i64) (.pair (.int .i64) (.pair (.slice (.int .i64)) (.slice (.int .i64)))))), .cd .str, .cd (.int .i64)]), (64, [.cd (.int .i64)])], [], [(33, [(1, mkM 45 0 [0, 4, 5], 0)])], []⟩
theorem FN33 : fnsB Try.prog X33.fns := (show True from trivial)
def M33_1 : List Bool × Nat := (mkM 45 0 [0, 4, 5], 0)
def S33_1 (code0 : List UInt8) (l4 : List (Int × (Int × (Int × ((List Int) × (List Int)))))) (l4k : Tok) (rest5 : List UInt8) (T : Toks) : St :=
  mkS 45 [(0, (.v (.str code0))), (4, (.v (.list (.pair (.int .i64) (.pair (.int .i64) (.pair (.int .i64) (.pair (.slice (.int .i64)) (.slice (.int .i64)))))) l4 l4k))), (5, (.v (.str rest5)))] [] T
noncomputable def B33_1 : (Exit → St → Prop) → St → Prop := (awp X33.tt (callN Try.prog X33 0) (X33.md 33) 0 (X33.mk1 33) 1 (codeAt [1, 1, 1, 0, 1, 0, 0] (bd Try.f33)))
noncomputable def K33_0 (R : V → Prop) : Exit → St → Prop := seqK ((awp X33.tt (callN Try.prog X33 0) (X33.md 33) 0 (X33.mk1 33) 0 (codeAt [1, 1, 1, 1] (bd Try.f33))) (retK tt Try.f33.results.toList fun x s' => topK R x ⟨[], s'.hp, s'.T⟩)) (retK tt Try.f33.results.toList fun x s' => topK R x ⟨[], s'.hp, s'.T⟩)
noncomputable def Q33_1 (R : V → Prop) : Exit → St → Prop := (blockK 1 (K33_0 R))
theorem E33 (code0 : (List UInt8)) {R : V → Prop} (h : (((code0 == ([] : List UInt8)) = true → R (.tup [(.list (.pair (.int .i64) (.pair (.int .i64) (.pair (.int .i64) (.pair (.slice (.int .i64)) (.slice (.int .i64)))))) (([] : List (Int × (Int × (Int × ((List Int) × (List Int))))))) .no), (.int .i64 (5 : Int))])) ∧
 ((code0 == ([] : List UInt8)) = false → (((decide (((code0).length : Int) > (4096 : Int))) = true → R (.tup [(.list (.pair (.int .i64) (.pair (.int .i64) (.pair (.int .i64) (.pair (.slice (.int .i64)) (.slice (.int .i64)))))) (([] : List (Int × (Int × (Int × ((List Int) × (List Int))))))) .no), (.int .i64 (2 : Int))])) ∧
 ((decide (((code0).length : Int) > (4096 : Int))) = false → (Loops B33_1 M33_1 (Q33_1 R)
  (S33_1 code0 (([] : List (Int × (Int × (Int × ((List Int) × (List Int))))))) .exact code0 ⟨0, []⟩))))))) :
  fnK X33.tt (callN Try.prog X33 0) (X33.md 33) (X33.mk1 33) Try.f33 [(.v (.str code0))] ⟨[], [], ⟨0, []⟩⟩ (topK R) := Eq.mp (by kernel_rfl) h
theorem L33_1 (code0 : List UInt8) (l4 : List (Int × (Int × (Int × ((List Int) × (List Int)))))) (l4k : Tok) (rest5 : List UInt8) (T : Toks) {R : V → Prop} {k1 : St → Prop}
 (h : (((!(rest5 == ([] : List UInt8))) = true → (∃ p1 : (Int × (Int × (Int × ((List Int) × (List Int))))) × (List UInt8) × Int, PC Try.prog 63 [(.str rest5), (.int .i64 ((IntKind.wrap .i64 (((code0).length : Int) - ((rest5).length : Int)))))] ((.tup [(.agg [(.int .i64 p1.1.1), (.int .i64 p1.1.2.1), (.int .i64 p1.1.2.2.1), (.list (.int .i64) p1.1.2.2.2.1 .no), (.list (.int .i64) p1.1.2.2.2.2 .no)]), (.str p1.2.1), (.int .i64 p1.2.2)])) ∧ (((p1.2.2 != (0 : Int)) = true → R (.tup [(.list (.pair (.int .i64) (.pair (.int .i64) (.pair (.int .i64) (.pair (.slice (.int .i64)) (.slice (.int .i64)))))) (([] : List (Int × (Int × (Int × ((List Int) × (List Int))))))) .no), (.int .i64 p1.2.2)])) ∧
 ((p1.2.2 != (0 : Int)) = false → (Tok.own l4k T.l ∧ ((l4).length + (([(p1.1.1, (p1.1.2.1, (p1.1.2.2.1, (p1.1.2.2.2.1, p1.1.2.2.2.2))))] : List (Int × (Int × (Int × ((List Int) × (List Int))))))).length) * 72 ≤ room ∧ k1 (S33_1 code0 ((l4 ++ ([(p1.1.1, (p1.1.2.1, (p1.1.2.2.1, (p1.1.2.2.2.1, p1.1.2.2.2.2))))] : List (Int × (Int × (Int × ((List Int) × (List Int)))))))) (.tk T.n) p1.2.1 ⟨(T.n + 1), (T.n :: Tok.drop l4k T.l)⟩)))))) ∧
 ((!(rest5 == ([] : List UInt8))) = false → (∃ p2 : Int, PC Try.prog 64 [(.list (.pair (.int .i64) (.pair (.int .i64) (.pair (.int .i64) (.pair (.slice (.int .i64)) (.slice (.int .i64)))))) l4 .no)] (.int .i64 p2) ∧ (((p2 != (0 : Int)) = true → R (.tup [(.list (.pair (.int .i64) (.pair (.int .i64) (.pair (.int .i64) (.pair (.slice (.int .i64)) (.slice (.int .i64)))))) (([] : List (Int × (Int × (Int × ((List Int) × (List Int))))))) .no), (.int .i64 p2)])) ∧
 ((p2 != (0 : Int)) = false → R (.tup [(.list (.pair (.int .i64) (.pair (.int .i64) (.pair (.int .i64) (.pair (.slice (.int .i64)) (.slice (.int .i64)))))) l4 .no), (.int .i64 (0 : Int))]))))))) :
  B33_1 (loopQ M33_1 k1 (Q33_1 R)) (S33_1 code0 l4 l4k rest5 T) := Eq.mp (by kernel_rfl) h
end Go.Proofs.Ytaaedebknacheaa.AB

set_option linter.unusedVariables false
set_option linter.unusedSimpArgs false
namespace Go.Proofs.Ytaaedebknacheaa.AB
open Go

theorem form_115 {op : Int} (h : form op = 115) : op = 30 := by
  unfold form at h
  repeat' split at h
  all_goals first
    | (exfalso; revert h; decide)
    | omega

theorem readI_one {s : List UInt8} {pc : Nat} (h : pc < s.length) (hn : form (byte s pc) ≠ 115) :
    (readI (s.drop pc) pc).2.2 = (oneI s pc).2.2 ∧ ((oneI s pc).2.2 = 0 → readI (s.drop pc) pc = ((oneI s pc).1, s.drop (pc + (oneI s pc).2.1.toNat), 0)) := by
  have hb : byte (s.drop pc) 0 = byte s pc := by rw [byte_drop, Nat.add_zero]
  unfold readI oneI
  simp only [hb, List.drop_drop]
  have hl : s.drop (pc + 1) = [] ↔ (s.drop (pc + 1)).length < 1 := by rw [← List.length_eq_zero_iff]; omega
  rcases form_cases (byte s pc) with hf | hf | hf | hf | hf | hf
  all_goals simp only [hf, Int.reduceEq, if_true, if_false, hl]
  · exact ⟨trivial, fun e => absurd e (by decide)⟩
  · exact ⟨trivial, fun _ => rfl⟩
  · split
    · exact ⟨rfl, fun e => absurd e (by simp)⟩
    · exact ⟨rfl, fun _ => rfl⟩
  · split
    · exact ⟨rfl, fun e => absurd e (by simp)⟩
    · exact ⟨rfl, fun _ => rfl⟩
  · split
    · exact ⟨rfl, fun e => absurd e (by simp)⟩
    · exact ⟨rfl, fun _ => rfl⟩
  · exact absurd hf hn

theorem readF_one {s : List UInt8} {pc : Nat} (h : pc < s.length) :
    (readF (s.drop pc) pc).2.2 = (oneI s pc).2.2 ∧ ((oneI s pc).2.2 = 0 → readF (s.drop pc) pc = ((oneI s pc).1, s.drop (pc + (oneI s pc).2.1.toNat), 0)) := by
  have hb : byte (s.drop pc) 0 = byte s pc := by rw [byte_drop, Nat.add_zero]
  by_cases hf : form (byte s pc) = 115
  case neg =>
    have := readI_one h hf
    unfold readF
    rw [hb]
    simp only [hf, if_false]
    exact this
  have g2 := u16_lt ((s.drop (pc + 1)).drop 2)
  unfold readF oneI
  simp only [hb, List.drop_drop, hf, Int.reduceEq, if_true, if_false] at g2 ⊢
  split
  · exact ⟨rfl, fun e => absurd e (by simp)⟩
  · split
    · exact ⟨rfl, fun e => absurd e (by simp)⟩
    · refine ⟨rfl, fun _ => ?_⟩
      simp only [Prod.mk.injEq, true_and, and_true]
      congr 1
      omega

theorem p33 (s : List UInt8) : PC Try.prog 33 [.str s] (decV (decodeI s)) := by
  have hroom : room = 140737488355328 := rfl
  refine pcOf (X := X33) (d := 0) rfl trivial (by kernel_rfl) (by decide) (E33 s ⟨fun h => ?_, fun hne => ⟨fun h => ?_, fun hlen => ?_⟩⟩)
  · have h : s = [] := by simpa using h
    subst h
    exact ⟨rfl, rfl⟩
  · have hne : s ≠ [] := by simpa using hne
    have h : s.length > 4096 := by have : (s.length : Int) > 4096 := by simpa using h
                                   omega
    exact ⟨by unfold decodeI; rw [if_neg hne, if_pos h]; rfl, rfl⟩
  · have hne : s ≠ [] := by simpa using hne
    have hlen : ¬ s.length > 4096 := by have : ¬ (s.length : Int) > 4096 := by simpa using hlen
                                        omega
    have hpos : 0 < s.length := List.length_pos_iff.2 hne
    refine Loops.intro (fun a : Nat × List Ins × Tok × Toks => S33_1 s a.2.1 a.2.2.1 (s.drop a.1) a.2.2.2)
      (fun a => a.1 ≤ s.length ∧ a.2.2.1.fresh a.2.2.2 ∧ a.2.1.length ≤ a.1 ∧ (∀ e l, scanAt s a.1 = (l, e) → scanAt s 0 = if e ≠ 0 then ([], e) else (a.2.1 ++ l, 0))) (fun a => s.length - a.1) (0, [], .exact, ⟨0, []⟩) rfl
      ⟨Nat.zero_le _, trivial, Nat.le_refl _, fun e l h => ?_⟩ ?_
    · simp only
      by_cases hz : e = 0
      · subst hz; simpa using h
      · rw [h, if_pos hz, scan_err _ _ _ _ _ h hz]
    rintro ⟨pc, l, tk, T⟩ ⟨j1, j2, j3, j4⟩
    simp only at j1 j2 j3 j4
    have fin : ∀ p : List Ins × Int, decodeI s = p → (decV p).norm = decV (decodeI s) ∧ (decV (decodeI s)).nt = true := fun p h => by rw [h]; exact ⟨rfl, rfl⟩
    have hdec : ∀ l e, scanAt s 0 = (l, e) → decodeI s = if e ≠ 0 then ([], e) else if endsE l ≠ 0 then ([], endsE l) else (l, 0) := fun l e h => by
      unfold decodeI; rw [if_neg hne, if_neg hlen]; unfold scanAt at h; rw [Nat.sub_zero] at h; rw [h]
    have hdl : (s.drop pc).length = s.length - pc := by simp
    have w : IntKind.wrap .i64 ((s.length : Int) - (s.drop pc).length) = (pc : Int) := by rw [hdl, wrap64 (by omega) (by omega)]; omega
    have hnil : s.drop pc = [] ↔ ¬ pc < s.length := by rw [← List.length_eq_zero_iff]; omega
    refine L33_1 s l tk (s.drop pc) T ?_
    rw [w]
    simp only [Bool.not_eq_true', Bool.not_eq_false', beq_eq_false_iff_ne, beq_iff_eq, ne_eq, hnil, Classical.not_not]
    refine ⟨fun hlt => ⟨readF (s.drop pc) pc, ?_, fun he => ?_, fun he => ?_⟩, fun h => ?_⟩
    · exact p63 _ _ (by omega) (by omega) (by omega) (by omega)
    · obtain ⟨q1, q2⟩ := readF_one hlt
      rw [q1] at he ⊢
      have he : (oneI s pc).2.2 ≠ 0 := by simpa using he
      have hs := scanAt_step hlt
      rw [if_pos he] at hs
      have := j4 _ _ hs
      rw [if_pos he] at this
      have := hdec _ _ this
      rw [if_pos he] at this
      exact fin _ this
    · obtain ⟨q1, q2⟩ := readF_one hlt
      rw [q1] at he
      have he : (oneI s pc).2.2 = 0 := by simpa using he
      have hs := scanAt_step hlt
      obtain ⟨k1, k2, k3⟩ := oneI_ok hlt he
      rw [if_neg (by simpa using he)] at hs
      rw [q2 he]
      refine ⟨j2.own, by simp; omega, Again.mk (pc + (oneI s pc).2.1.toNat, l ++ [(oneI s pc).1], .tk T.n, _) rfl ⟨by simp only; omega, Tok.fresh_new _ _, by simp; omega, fun e l' h' => ?_⟩ (by simp only; omega)⟩
      rw [h'] at hs
      by_cases hz : e = 0
      · subst hz
        have := j4 _ _ hs
        simpa using this
      · have := j4 _ _ (by simpa [hz] using hs)
        simpa [hz] using this
    · have hge : pc = s.length := by omega
      subst hge
      have hs : scanAt s 0 = (l, 0) := by
        have := j4 0 [] (by unfold scanAt; rw [Nat.sub_self]; rfl)
        simpa using this
      have hd := hdec _ _ hs
      obtain ⟨i1, i2, i3, i4⟩ := scan_ok s (by omega) s.length 0 (by omega) l hs
      obtain ⟨x, r, hx, _⟩ := i4 hpos
      refine ⟨_, p64 l (by rw [hx]; simp) (by omega) (fun x hx => by have := (i1 x hx).2.2.1; omega), fun h => ?_, fun h => ?_⟩
      · refine fin ([], endsE l) ?_
        rw [hd, if_neg (by simp), if_pos (by simpa using h)]
      · refine fin (l, 0) ?_
        rw [hd, if_neg (by simp), if_neg (by simpa using h)]

end Go.Proofs.Ytaaedebknacheaa.AB

set_option linter.unusedVariables false
set_option linter.unusedSimpArgs false
set_option maxRecDepth 100000
set_option maxHeartbeats 2000000
namespace Go.Proofs.Ytaaedebknacheaa.AB
open Go
/-! crucible/cruciblelaw4.sameInts -/
noncomputable def X34 : Cx := ⟨tt, [], [], [(34, [(0, mkM 26 0 [0, 1, 5], 0)])], []⟩
theorem FN34 : fnsB Try.prog X34.fns := (show True from trivial)
def M34_0 : List Bool × Nat := (mkM 26 0 [0, 1, 5], 0)
def S34_0 (a0 : List Int) (b1 : List Int) (i5 : Int) (T : Toks) : St :=
  mkS 26 [(0, (.v (.list (.int .i64) a0 .no))), (1, (.v (.list (.int .i64) b1 .no))), (5, (.v (.int .i64 i5)))] [] T
noncomputable def B34_0 : (Exit → St → Prop) → St → Prop := (awp X34.tt (callN Try.prog X34 0) (X34.md 34) 0 (X34.mk1 34) 0 (codeAt [1, 1, 0, 1, 0, 0] (bd Try.f34)))
noncomputable def K34_0 (R : V → Prop) : Exit → St → Prop := seqK ((awp X34.tt (callN Try.prog X34 0) (X34.md 34) 0 (X34.mk1 34) 0 (codeAt [1, 1, 1] (bd Try.f34))) (retK tt Try.f34.results.toList fun x s' => topK R x ⟨[], s'.hp, s'.T⟩)) (retK tt Try.f34.results.toList fun x s' => topK R x ⟨[], s'.hp, s'.T⟩)
noncomputable def Q34_0 (R : V → Prop) : Exit → St → Prop := (blockK 0 (K34_0 R))
theorem E34 (a0 : (List Int)) (b1 : (List Int)) {R : V → Prop} (h : (((((a0).length : Int) != ((b1).length : Int)) = true → R (.bool false)) ∧
 ((((a0).length : Int) != ((b1).length : Int)) = false → (Loops B34_0 M34_0 (Q34_0 R)
  (S34_0 a0 b1 (0 : Int) ⟨0, []⟩))))) :
  fnK X34.tt (callN Try.prog X34 0) (X34.md 34) (X34.mk1 34) Try.f34 [(.v (.list (.int .i64) a0 .no)), (.v (.list (.int .i64) b1 .no))] ⟨[], [], ⟨0, []⟩⟩ (topK R) := Eq.mp (by kernel_rfl) h
theorem L34_0 (a0 : List Int) (b1 : List Int) (i5 : Int) (T : Toks) {R : V → Prop} {k0 : St → Prop}
 (h : (((decide (i5 < ((a0).length : Int))) = true → (0 ≤ i5 ∧ i5 < ((a0).length : Int) ∧ (0 ≤ i5 ∧ i5 < ((b1).length : Int) ∧ ((((a0.getD (i5).toNat 0) != (b1.getD (i5).toNat 0)) = true → R (.bool false)) ∧
 (((a0.getD (i5).toNat 0) != (b1.getD (i5).toNat 0)) = false → k0 (S34_0 a0 b1 ((IntKind.wrap .i64 (i5 + (1 : Int)))) T)))))) ∧
 ((decide (i5 < ((a0).length : Int))) = false → R (.bool true)))) :
  B34_0 (loopQ M34_0 k0 (Q34_0 R)) (S34_0 a0 b1 i5 T) := Eq.mp (by kernel_rfl) h
end Go.Proofs.Ytaaedebknacheaa.AB

set_option linter.unusedVariables false
set_option linter.unusedSimpArgs false
set_option maxRecDepth 100000
set_option maxHeartbeats 2000000
namespace Go.Proofs.Ytaaedebknacheaa.AB
open Go
/-! crucible/cruciblelaw4.same -/
noncomputable def X35 : Cx := ⟨tt, [(34, [.cd .bool])], [], [(35, [(0, mkM 86 0 [0, 1, 5], 0)])], []⟩
theorem FN35 : fnsB Try.prog X35.fns := (show True from trivial)
def M35_0 : List Bool × Nat := (mkM 86 0 [0, 1, 5], 0)
def S35_0 (a0 : List (Int × (Int × (Int × ((List Int) × (List Int)))))) (b1 : List (Int × (Int × (Int × ((List Int) × (List Int)))))) (i5 : Int) (T : Toks) : St :=
  mkS 86 [(0, (.v (.list (.pair (.int .i64) (.pair (.int .i64) (.pair (.int .i64) (.pair (.slice (.int .i64)) (.slice (.int .i64)))))) a0 .no))), (1, (.v (.list (.pair (.int .i64) (.pair (.int .i64) (.pair (.int .i64) (.pair (.slice (.int .i64)) (.slice (.int .i64)))))) b1 .no))), (5, (.v (.int .i64 i5)))] [] T
noncomputable def B35_0 : (Exit → St → Prop) → St → Prop := (awp X35.tt (callN Try.prog X35 0) (X35.md 35) 0 (X35.mk1 35) 0 (codeAt [1, 1, 0, 1, 0, 0] (bd Try.f35)))
noncomputable def K35_0 (R : V → Prop) : Exit → St → Prop := seqK ((awp X35.tt (callN Try.prog X35 0) (X35.md 35) 0 (X35.mk1 35) 0 (codeAt [1, 1, 1] (bd Try.f35))) (retK tt Try.f35.results.toList fun x s' => topK R x ⟨[], s'.hp, s'.T⟩)) (retK tt Try.f35.results.toList fun x s' => topK R x ⟨[], s'.hp, s'.T⟩)
noncomputable def Q35_0 (R : V → Prop) : Exit → St → Prop := (blockK 0 (K35_0 R))
theorem E35 (a0 : (List (Int × (Int × (Int × ((List Int) × (List Int))))))) (b1 : (List (Int × (Int × (Int × ((List Int) × (List Int))))))) {R : V → Prop} (h : (((((a0).length : Int) != ((b1).length : Int)) = true → R (.bool false)) ∧
 ((((a0).length : Int) != ((b1).length : Int)) = false → (Loops B35_0 M35_0 (Q35_0 R)
  (S35_0 a0 b1 (0 : Int) ⟨0, []⟩))))) :
  fnK X35.tt (callN Try.prog X35 0) (X35.md 35) (X35.mk1 35) Try.f35 [(.v (.list (.pair (.int .i64) (.pair (.int .i64) (.pair (.int .i64) (.pair (.slice (.int .i64)) (.slice (.int .i64)))))) a0 .no)), (.v (.list (.pair (.int .i64) (.pair (.int .i64) (.pair (.int .i64) (.pair (.slice (.int .i64)) (.slice (.int .i64)))))) b1 .no))] ⟨[], [], ⟨0, []⟩⟩ (topK R) := Eq.mp (by kernel_rfl) h
theorem L35_0 (a0 : List (Int × (Int × (Int × ((List Int) × (List Int)))))) (b1 : List (Int × (Int × (Int × ((List Int) × (List Int)))))) (i5 : Int) (T : Toks) {R : V → Prop} {k0 : St → Prop}
 (h : (((decide (i5 < ((a0).length : Int))) = true → (0 ≤ i5 ∧ i5 < ((a0).length : Int) ∧ (0 ≤ i5 ∧ i5 < ((b1).length : Int) ∧ (∃ p1 : Bool, PC Try.prog 34 [(.list (.int .i64) ((a0.getD (i5).toNat (0, (0, (0, ([], []))))).2.2.2.1) .no), (.list (.int .i64) ((b1.getD (i5).toNat (0, (0, (0, ([], []))))).2.2.2.1) .no)] (.bool p1) ∧ (0 ≤ i5 ∧ i5 < ((a0).length : Int) ∧ (0 ≤ i5 ∧ i5 < ((b1).length : Int) ∧ (∃ p2 : Bool, PC Try.prog 34 [(.list (.int .i64) ((a0.getD (i5).toNat (0, (0, (0, ([], []))))).2.2.2.2) .no), (.list (.int .i64) ((b1.getD (i5).toNat (0, (0, (0, ([], []))))).2.2.2.2) .no)] (.bool p2) ∧ (((!p1) = true → R (.bool false)) ∧ ((!p1) = false → (((!p2) = true → R (.bool false)) ∧ ((!p2) = false → (0 ≤ i5 ∧ i5 < ((a0).length : Int) ∧ (0 ≤ i5 ∧ i5 < ((b1).length : Int) ∧ ((((a0.getD (i5).toNat (0, (0, (0, ([], []))))).1 != (b1.getD (i5).toNat (0, (0, (0, ([], []))))).1) = true → R (.bool false)) ∧ (((a0.getD (i5).toNat (0, (0, (0, ([], []))))).1 != (b1.getD (i5).toNat (0, (0, (0, ([], []))))).1) = false → (0 ≤ i5 ∧ i5 < ((a0).length : Int) ∧ (0 ≤ i5 ∧ i5 < ((b1).length : Int) ∧ ((((a0.getD (i5).toNat (0, (0, (0, ([], []))))).2.1 != (b1.getD (i5).toNat (0, (0, (0, ([], []))))).2.1) = true → R (.bool false)) ∧ (((a0.getD (i5).toNat (0, (0, (0, ([], []))))).2.1 != (b1.getD (i5).toNat (0, (0, (0, ([], []))))).2.1) = false → (0 ≤ i5 ∧ i5 < ((a0).length : Int) ∧ (0 ≤ i5 ∧ i5 < ((b1).length : Int) ∧ ((((a0.getD (i5).toNat (0, (0, (0, ([], []))))).2.2.1 != (b1.getD (i5).toNat (0, (0, (0, ([], []))))).2.2.1) = true → R (.bool false)) ∧
 (((a0.getD (i5).toNat (0, (0, (0, ([], []))))).2.2.1 != (b1.getD (i5).toNat (0, (0, (0, ([], []))))).2.2.1) = false → k0 (S35_0 a0 b1 ((IntKind.wrap .i64 (i5 + (1 : Int)))) T)))))))))))))))))))))))) ∧
 ((decide (i5 < ((a0).length : Int))) = false → R (.bool true)))) :
  B35_0 (loopQ M35_0 k0 (Q35_0 R)) (S35_0 a0 b1 i5 T) := Eq.mp (by kernel_rfl) h
end Go.Proofs.Ytaaedebknacheaa.AB

set_option linter.unusedVariables false
set_option linter.unusedSimpArgs false
set_option maxRecDepth 100000
set_option maxHeartbeats 2000000
namespace Go.Proofs.Ytaaedebknacheaa.AB
open Go
/-! crucible/code.Index -/
noncomputable def X37 : Cx := ⟨tt, [], [(37, [(1, 2, .inl)]), (67, [(4, 5, .inl)])], [(67, [(0, mkM 19 0 [0, 1, 7, 8], 0)])], [(67, Try.f67), (68, Try.f68)]⟩
theorem FN37 : fnsB Try.prog X37.fns := (show (Try.prog.funcs[67]? = some Try.f67 ∧ Try.f67.name ≠ "runtime.NumGoroutine" ∧ (Try.prog.funcs[68]? = some Try.f68 ∧ Try.f68.name ≠ "runtime.NumGoroutine" ∧ True)) from ⟨by kernel_rfl, by decide, ⟨by kernel_rfl, by decide, trivial⟩⟩)
def M37c1_2_0 : List Bool × Nat := (mkM 19 0 [0, 1, 7, 8], 1)
def S37c1_2_0 (s0 : List (Int × (Int × (Int × ((List Int) × (List Int)))))) (t7 : Int) (t8 : Int) (hq0 : Int) (T : Toks) : St :=
  mkS 19 [(0, (.v (.list (.pair (.int .i64) (.pair (.int .i64) (.pair (.int .i64) (.pair (.slice (.int .i64)) (.slice (.int .i64)))))) s0 .no))), (1, (.clo 68 [(.ptr 0 0 0 0)])), (7, (.v (.int .i64 t7))), (8, (.v (.int .i64 t8)))] [(some (.box (.v (.int .i64 hq0))))] T
noncomputable def B37c1_2_0 : (Exit → St → Prop) → St → Prop := (awp X37.tt (callN Try.prog X37 1) (X37.md 67) 1 (X37.mk1 67) 0 (codeAt [1, 0, 1, 0, 0] (bd Try.f67)))
noncomputable def K37_0 (R : V → Prop) : Exit → St → Prop := seqK ((awp X37.tt (callN Try.prog X37 2) (X37.md 37) 0 (X37.mk1 37) 0 (codeAt [1, 1] (bd Try.f37))) (retK tt Try.f37.results.toList fun x s' => topK R x ⟨[], s'.hp, s'.T⟩)) (retK tt Try.f37.results.toList fun x s' => topK R x ⟨[], s'.hp, s'.T⟩)
noncomputable def A37c1_2 (R : V → Prop) : TV → St → Prop := fun x s' => awpL X37.tt (callN Try.prog X37 2) (X37.md 37) 1 (regOps (codeAt [1, 0] (bd Try.f37))) 3 ((regOps (codeAt [1, 0] (bd Try.f37))).toList.drop 3) ((K37_0 R) .normal) (s'.put (some 7) x)
def W37c1_2 (z1_2_l0 : List (Int × (Int × (Int × ((List Int) × (List Int)))))) (z1_2_pc1 : Int) (z1_2_t4 : Int) (z1_2_t5 : List (Int × (Int × (Int × ((List Int) × (List Int)))))) : List TV := mkL 8 0 [(0, (.v (.list (.pair (.int .i64) (.pair (.int .i64) (.pair (.int .i64) (.pair (.slice (.int .i64)) (.slice (.int .i64)))))) z1_2_l0 .no))), (1, (.v (.int .i64 z1_2_pc1))), (3, (.ptr 0 0 0 0)), (4, (.v (.int .i64 z1_2_t4))), (5, (.v (.list (.pair (.int .i64) (.pair (.int .i64) (.pair (.int .i64) (.pair (.slice (.int .i64)) (.slice (.int .i64)))))) z1_2_t5 .no))), (6, (.clo 68 [(.ptr 0 0 0 0)]))]
noncomputable def K37c1_2_1 (R : V → Prop) (z1_2_l0 : List (Int × (Int × (Int × ((List Int) × (List Int)))))) (z1_2_pc1 : Int) (z1_2_t4 : Int) (z1_2_t5 : List (Int × (Int × (Int × ((List Int) × (List Int)))))) : Exit → St → Prop := seqK ((awp X37.tt (callN Try.prog X37 1) (X37.md 67) 1 (X37.mk1 67) 0 (codeAt [1, 1] (bd Try.f67))) (retK X37.tt Try.f67.results.toList fun x s' => A37c1_2 R x ⟨W37c1_2 z1_2_l0 z1_2_pc1 z1_2_t4 z1_2_t5, s'.hp, s'.T⟩)) (retK X37.tt Try.f67.results.toList fun x s' => A37c1_2 R x ⟨W37c1_2 z1_2_l0 z1_2_pc1 z1_2_t4 z1_2_t5, s'.hp, s'.T⟩)
noncomputable def Q37c1_2_0 (R : V → Prop) (z1_2_l0 : List (Int × (Int × (Int × ((List Int) × (List Int)))))) (z1_2_pc1 : Int) (z1_2_t4 : Int) (z1_2_t5 : List (Int × (Int × (Int × ((List Int) × (List Int)))))) : Exit → St → Prop := (blockK 0 (K37c1_2_1 R z1_2_l0 z1_2_pc1 z1_2_t4 z1_2_t5))
theorem E37 (l0 : (List (Int × (Int × (Int × ((List Int) × (List Int))))))) (pc1 : Int) {R : V → Prop} (h : (Loops B37c1_2_0 M37c1_2_0 (Q37c1_2_0 R l0 pc1 (0 : Int) l0)
  (S37c1_2_0 l0 (((l0).length : Int)) (0 : Int) pc1 ⟨0, []⟩))) :
  fnK X37.tt (callN Try.prog X37 2) (X37.md 37) (X37.mk1 37) Try.f37 [(.v (.list (.pair (.int .i64) (.pair (.int .i64) (.pair (.int .i64) (.pair (.slice (.int .i64)) (.slice (.int .i64)))))) l0 .no)), (.v (.int .i64 pc1))] ⟨[], [], ⟨0, []⟩⟩ (topK R) := Eq.mp (by kernel_rfl) h
theorem L37c1_2_0 (s0 : List (Int × (Int × (Int × ((List Int) × (List Int)))))) (t7 : Int) (t8 : Int) (hq0 : Int) (T : Toks) {R : V → Prop} {z1_2_l0 : List (Int × (Int × (Int × ((List Int) × (List Int)))))} {z1_2_pc1 : Int} {z1_2_t4 : Int} {z1_2_t5 : List (Int × (Int × (Int × ((List Int) × (List Int)))))} {kc1_2_0 : St → Prop}
 (h : (((decide (t8 < t7)) = true → (0 ≤ t8 ∧ t8 < ((s0).length : Int) ∧ ((((s0.getD (t8).toNat (0, (0, (0, ([], []))))).1 == hq0) = true → R (.int .i64 t8)) ∧
 (((s0.getD (t8).toNat (0, (0, (0, ([], []))))).1 == hq0) = false → kc1_2_0 (S37c1_2_0 s0 t7 ((IntKind.wrap .i64 (t8 + (1 : Int)))) hq0 T))))) ∧
 ((decide (t8 < t7)) = false → R (.int .i64 (-1 : Int))))) :
  B37c1_2_0 (loopQ M37c1_2_0 kc1_2_0 (Q37c1_2_0 R z1_2_l0 z1_2_pc1 z1_2_t4 z1_2_t5)) (S37c1_2_0 s0 t7 t8 hq0 T) := Eq.mp (by kernel_rfl) h
end Go.Proofs.Ytaaedebknacheaa.AB

set_option linter.unusedVariables false
set_option linter.unusedSimpArgs false
namespace Go.Proofs.Ytaaedebknacheaa.AB
open Go

theorem take_full {α : Type} {a b : List α} {n : Nat} (h : a.take n = b.take n) (ha : a.length ≤ n) (hb : b.length ≤ n) : a = b := by
  rwa [List.take_of_length_le ha, List.take_of_length_le hb] at h

theorem p34 (a b : List Int) (ha : a.length < 9223372036854775807) : PC Try.prog 34 [.list (.int .i64) a .no, .list (.int .i64) b .no] (.bool (decide (a = b))) := by
  refine pcOf (X := X34) (d := 0) rfl trivial (by kernel_rfl) (by decide) (E34 a b ⟨fun h => retB ?_, fun h => ?_⟩)
  · have h : (a.length : Int) ≠ b.length := by simpa using h
    exact (decide_eq_false fun e => h (by rw [e])).symm
  · have hl : (a.length : Int) = b.length := by simpa using h
    refine Loops.intro (fun n : Nat => S34_0 a b n ⟨0, []⟩) (fun n => n ≤ a.length ∧ a.take n = b.take n) (fun n => a.length - n) 0 rfl ⟨Nat.zero_le _, by simp⟩ ?_
    rintro n ⟨hn, he⟩
    refine L34_0 a b n ⟨0, []⟩ ⟨fun h => ?_, fun h => ?_⟩
    · have hlt : n < a.length := by simpa using h
      refine ⟨by omega, by omega, by omega, by omega, fun h => retB ?_, fun h => ?_⟩
      · have h : a.getD n 0 ≠ b.getD n 0 := by simpa using h
        exact (decide_eq_false fun e => h (by rw [e])).symm
      · have h : a.getD n 0 = b.getD n 0 := by simpa using h
        rw [wrap64 (by omega) (by omega)]
        exact Again.mk (n + 1) rfl ⟨by omega, take_succ_eq he hlt (by omega) h⟩ (by omega)
    · have : ¬ ((n : Int) < a.length) := by simpa using h
      exact retB (decide_eq_true (take_full he (by omega) (by omega))).symm

theorem p35 (a b : List Ins) (ha : a.length < 9223372036854775807) (hk : ∀ x ∈ a, x.2.2.2.1.length < 9223372036854775807) (ht : ∀ x ∈ a, x.2.2.2.2.length < 9223372036854775807) :
    PC Try.prog 35 [.list cIns a .no, .list cIns b .no] (.bool (decide (a = b))) := by
  refine pcOf (X := X35) (d := 0) rfl trivial (by kernel_rfl) (by decide) (E35 a b ⟨fun h => retB ?_, fun h => ?_⟩)
  · have h : (a.length : Int) ≠ b.length := by simpa using h
    exact (decide_eq_false fun e => h (by rw [e])).symm
  · have hl : (a.length : Int) = b.length := by simpa using h
    refine Loops.intro (fun n : Nat => S35_0 a b n ⟨0, []⟩) (fun n => n ≤ a.length ∧ a.take n = b.take n) (fun n => a.length - n) 0 rfl ⟨Nat.zero_le _, by simp⟩ ?_
    rintro n ⟨hn, he⟩
    refine L35_0 a b n ⟨0, []⟩ ⟨fun h => ?_, fun h => ?_⟩
    · have hlt : n < a.length := by simpa using h
      have hm : a.getD n D0 ∈ a := by rw [getD_lt hlt]; exact List.getElem_mem hlt
      simp only [Int.toNat_natCast]
      have hD : ((0, (0, (0, ([], [])))) : Ins) = D0 := rfl
      simp only [hD]
      refine ⟨by omega, by omega, by omega, by omega, _, p34 _ _ (hk _ hm), by omega, by omega, by omega, by omega, _, p34 _ _ (ht _ hm), fun h => retB ?_, fun h1 => ⟨fun h => retB ?_, fun h2 => ⟨by omega, by omega, by omega, by omega, fun h => retB ?_, fun h3 => ⟨by omega, by omega, by omega, by omega, fun h => retB ?_, fun h4 => ⟨by omega, by omega, by omega, by omega, fun h => retB ?_, fun h5 => ?_⟩⟩⟩⟩⟩
      · exact (decide_eq_false fun e => by rw [e] at h; simp at h).symm
      · exact (decide_eq_false fun e => by rw [e] at h; simp at h).symm
      · exact (decide_eq_false fun e => by rw [e] at h; simp at h).symm
      · exact (decide_eq_false fun e => by rw [e] at h; simp at h).symm
      · exact (decide_eq_false fun e => by rw [e] at h; simp at h).symm
      · have h1 : (a.getD n D0).2.2.2.1 = (b.getD n D0).2.2.2.1 := by simpa using h1
        have h2 : (a.getD n D0).2.2.2.2 = (b.getD n D0).2.2.2.2 := by simpa using h2
        have h3 : (a.getD n D0).1 = (b.getD n D0).1 := by simpa using h3
        have h4 : (a.getD n D0).2.1 = (b.getD n D0).2.1 := by simpa using h4
        have h5 : (a.getD n D0).2.2.1 = (b.getD n D0).2.2.1 := by simpa using h5
        rw [wrap64 (by omega) (by omega)]
        refine Again.mk (n + 1) rfl ⟨by omega, take_succ_eq (d := D0) he hlt (by omega) ?_⟩ (by omega)
        exact Prod.ext h3 (Prod.ext h4 (Prod.ext h5 (Prod.ext h1 h2)))
    · have : ¬ ((n : Int) < a.length) := by simpa using h
      exact retB (decide_eq_true (take_full he (by omega) (by omega))).symm

theorem p37 (l : List Ins) (pc : Int) (hl : l.length < 9223372036854775807) : PC Try.prog 37 [.list cIns l .no, .int .i64 pc] (.int .i64 (idx l pc)) := by
  refine pcOf (X := X37) (d := 2) rfl FN37 (by kernel_rfl) (by decide) (E37 l pc ?_)
  refine Loops.intro (fun n : Nat => S37c1_2_0 l l.length n pc ⟨0, []⟩) (fun n => n ≤ l.length ∧ ∀ i, i < n → ∀ h : i < l.length, (l[i]).1 ≠ pc) (fun n => l.length - n) 0 rfl ⟨Nat.zero_le _, fun i hi => absurd hi (Nat.not_lt_zero _)⟩ ?_
  rintro n ⟨hn, hb⟩
  refine L37c1_2_0 l l.length n pc ⟨0, []⟩ ⟨fun h => ?_, fun h => ?_⟩
  · have hlt : n < l.length := by simpa using h
    have hg : l.getD n (0, (0, (0, ([], [])))) = l[n] := by simp [List.getD, hlt]
    refine ⟨by omega, by omega, fun h => ?_, fun h => ?_⟩
    · have he : (l[n]).1 = pc := by rw [← hg]; simpa using h
      refine retI ?_
      have : l.findIdx? (fun x => x.1 == pc) = some n := by
        rw [List.findIdx?_eq_some_iff_getElem]
        exact ⟨hlt, by simpa using he, fun j hj => by simpa using hb j hj (by omega)⟩
      unfold idx; rw [this]
    · have he : (l[n]).1 ≠ pc := by rw [← hg]; simpa using h
      rw [wrap64 (by omega) (by omega)]
      refine Again.mk (n + 1) rfl ⟨by omega, fun i hi hil => ?_⟩ (by omega)
      rcases Nat.lt_or_ge i n with h' | h'
      · exact hb i h' hil
      · have : i = n := by omega
        subst this; exact he
  · have hge : n = l.length := by
      have : ¬ ((n : Int) < l.length) := by simpa using h
      omega
    refine retI ?_
    have : l.findIdx? (fun x => x.1 == pc) = none := by
      rw [List.findIdx?_eq_none_iff]
      intro x hx
      obtain ⟨i, hi, rfl⟩ := List.getElem_of_mem hx
      simpa using hb i (by omega) hi
    unfold idx; rw [this]

end Go.Proofs.Ytaaedebknacheaa.AB

set_option linter.unusedVariables false
set_option linter.unusedSimpArgs false
set_option maxRecDepth 100000
set_option maxHeartbeats 2000000
namespace Go.Proofs.Ytaaedebknacheaa.AB
open Go
/-! crucible/cruciblelaw4.shown -/
noncomputable def X23 : Cx := ⟨tt, [(24, [.cd .str, .cd .bool]), (26, [.cd (.int .i64), .cd .bool]), (28, [.cd (.int .u8)]), (33, [.cd (.slice (.pair (.int .i64) (.pair (.int .i64) (.pair (.int .i64) (.pair (.slice (.int .i64)) (.slice (.int .i64))))))), .cd (.int .i64)])], [], [], []⟩
theorem FN23 : fnsB Try.prog X23.fns := (show True from trivial)
theorem E23 {R : V → Prop} (h : (∃ p1 : (List (Int × (Int × (Int × ((List Int) × (List Int)))))) × Int, PC Try.prog 33 [(.str ([44] : List UInt8))] ((.tup [(.list (.pair (.int .i64) (.pair (.int .i64) (.pair (.int .i64) (.pair (.slice (.int .i64)) (.slice (.int .i64)))))) p1.1 .no), (.int .i64 p1.2)])) ∧ (∃ p2 : (List (Int × (Int × (Int × ((List Int) × (List Int)))))) × Int, PC Try.prog 33 [(.str ([4, 5, 44] : List UInt8))] ((.tup [(.list (.pair (.int .i64) (.pair (.int .i64) (.pair (.int .i64) (.pair (.slice (.int .i64)) (.slice (.int .i64)))))) p2.1 .no), (.int .i64 p2.2)])) ∧ (∃ p3 : (List (Int × (Int × (Int × ((List Int) × (List Int)))))) × Int, PC Try.prog 33 [(.str ([20, 0, 3, 44] : List UInt8))] ((.tup [(.list (.pair (.int .i64) (.pair (.int .i64) (.pair (.int .i64) (.pair (.slice (.int .i64)) (.slice (.int .i64)))))) p3.1 .no), (.int .i64 p3.2)])) ∧ (∃ p4 : (List (Int × (Int × (Int × ((List Int) × (List Int)))))) × Int, PC Try.prog 33 [(.str ([20, 0, 2, 44] : List UInt8))] ((.tup [(.list (.pair (.int .i64) (.pair (.int .i64) (.pair (.int .i64) (.pair (.slice (.int .i64)) (.slice (.int .i64)))))) p4.1 .no), (.int .i64 p4.2)])) ∧ (∃ p5 : (List (Int × (Int × (Int × ((List Int) × (List Int)))))) × Int, PC Try.prog 33 [(.str ([0] : List UInt8))] ((.tup [(.list (.pair (.int .i64) (.pair (.int .i64) (.pair (.int .i64) (.pair (.slice (.int .i64)) (.slice (.int .i64)))))) p5.1 .no), (.int .i64 p5.2)])) ∧ (∃ p6 : (List (Int × (Int × (Int × ((List Int) × (List Int)))))) × Int, PC Try.prog 33 [(.str ([255] : List UInt8))] ((.tup [(.list (.pair (.int .i64) (.pair (.int .i64) (.pair (.int .i64) (.pair (.slice (.int .i64)) (.slice (.int .i64)))))) p6.1 .no), (.int .i64 p6.2)])) ∧ (∃ p7 : (List (Int × (Int × (Int × ((List Int) × (List Int)))))) × Int, PC Try.prog 33 [(.str ([20, 0] : List UInt8))] ((.tup [(.list (.pair (.int .i64) (.pair (.int .i64) (.pair (.int .i64) (.pair (.slice (.int .i64)) (.slice (.int .i64)))))) p7.1 .no), (.int .i64 p7.2)])) ∧ (∃ p8 : (List UInt8) × Bool, PC Try.prog 24 [(.int .i64 (40 : Int))] ((.tup [(.str p8.1), (.bool p8.2)])) ∧ (∃ p9 : Int × Bool, PC Try.prog 26 [(.str ([115, 97, 109, 101] : List UInt8))] ((.tup [(.int .i64 p9.1), (.bool p9.2)])) ∧ (((p1.2 == (0 : Int)) = true → (((((p1.1).length : Int) == (1 : Int)) = true → (0 ≤ (0 : Int) ∧ (0 : Int) < ((p1.1).length : Int) ∧ ((((p1.1.getD ((0 : Int)).toNat (0, (0, (0, ([], []))))).2.1 == (44 : Int)) = true → (((p2.2 == (0 : Int)) = true → (((((p2.1).length : Int) == (2 : Int)) = true → (0 ≤ (0 : Int) ∧ (0 : Int) < ((p2.1).length : Int) ∧ ((((p2.1.getD ((0 : Int)).toNat (0, (0, (0, ([], []))))).2.2.1 == (5 : Int)) = true → (0 ≤ (1 : Int) ∧ (1 : Int) < ((p2.1).length : Int) ∧ ((((p2.1.getD ((1 : Int)).toNat (0, (0, (0, ([], []))))).1 == (2 : Int)) = true → (((p3.2 == (0 : Int)) = true → (((((p3.1).length : Int) == (2 : Int)) = true → (0 ≤ (0 : Int) ∧ (0 : Int) < ((p3.1).length : Int) ∧ ((((((p3.1.getD ((0 : Int)).toNat (0, (0, (0, ([], []))))).2.2.2.2).length : Int) == (1 : Int)) = true → (0 ≤ (0 : Int) ∧ (0 : Int) < ((p3.1).length : Int) ∧ (0 ≤ (0 : Int) ∧ (0 : Int) < (((p3.1.getD ((0 : Int)).toNat (0, (0, (0, ([], []))))).2.2.2.2).length : Int) ∧ ((((((p3.1.getD ((0 : Int)).toNat (0, (0, (0, ([], []))))).2.2.2.2).getD ((0 : Int)).toNat 0) == (3 : Int)) = true → (((p4.2 == (12 : Int)) = true → (((p5.2 == (13 : Int)) = true → (((p6.2 == (11 : Int)) = true → (((p7.2 == (5 : Int)) = true → (∃ p10 : Int, PC Try.prog 28 [(.int .i64 (1 : Int))] (.int .u8 p10) ∧ (((p10 == (110 : Int)) = true → (∃ p11 : Int, PC Try.prog 28 [(.int .i64 (64 : Int))] (.int .u8 p11) ∧ (((p11 == (0 : Int)) = true → (((p8.1 == ([118, 105, 114, 116] : List UInt8)) = true → ((p8.2 = true → (((p9.1 == (29 : Int)) = true → R (.bool p9.2)) ∧ ((p9.1 == (29 : Int)) = false → R (.bool false)))) ∧ (p8.2 = false → R (.bool false)))) ∧ ((p8.1 == ([118, 105, 114, 116] : List UInt8)) = false → R (.bool false)))) ∧ ((p11 == (0 : Int)) = false → R (.bool false))))) ∧ ((p10 == (110 : Int)) = false → R (.bool false))))) ∧ ((p7.2 == (5 : Int)) = false → R (.bool false)))) ∧ ((p6.2 == (11 : Int)) = false → R (.bool false)))) ∧ ((p5.2 == (13 : Int)) = false → R (.bool false)))) ∧ ((p4.2 == (12 : Int)) = false → R (.bool false)))) ∧ (((((p3.1.getD ((0 : Int)).toNat (0, (0, (0, ([], []))))).2.2.2.2).getD ((0 : Int)).toNat 0) == (3 : Int)) = false → R (.bool false)))))) ∧ (((((p3.1.getD ((0 : Int)).toNat (0, (0, (0, ([], []))))).2.2.2.2).length : Int) == (1 : Int)) = false → R (.bool false))))) ∧ ((((p3.1).length : Int) == (2 : Int)) = false → R (.bool false)))) ∧ ((p3.2 == (0 : Int)) = false → R (.bool false)))) ∧ (((p2.1.getD ((1 : Int)).toNat (0, (0, (0, ([], []))))).1 == (2 : Int)) = false → R (.bool false))))) ∧ (((p2.1.getD ((0 : Int)).toNat (0, (0, (0, ([], []))))).2.2.1 == (5 : Int)) = false → R (.bool false))))) ∧ ((((p2.1).length : Int) == (2 : Int)) = false → R (.bool false)))) ∧ ((p2.2 == (0 : Int)) = false → R (.bool false)))) ∧ (((p1.1.getD ((0 : Int)).toNat (0, (0, (0, ([], []))))).2.1 == (44 : Int)) = false → R (.bool false))))) ∧ ((((p1.1).length : Int) == (1 : Int)) = false → R (.bool false)))) ∧ ((p1.2 == (0 : Int)) = false → R (.bool false))))))))))))) :
  fnK X23.tt (callN Try.prog X23 0) (X23.md 23) (X23.mk1 23) Try.f23 [] ⟨[], [], ⟨0, []⟩⟩ (topK R) := Eq.mp (by kernel_rfl) h
end Go.Proofs.Ytaaedebknacheaa.AB

set_option linter.unusedVariables false
set_option linter.unusedSimpArgs false
set_option maxRecDepth 100000
namespace Go.Proofs.Ytaaedebknacheaa.AB
open Go

theorem p23 : PC Try.prog 23 [] (.bool true) := by
  have d1 : decodeI [44] = ([(0, (44, (0, ([], []))))], 0) := by kernel_rfl
  have d2 : decodeI [4, 5, 44] = ([(0, (4, (5, ([], [])))), (2, (44, (0, ([], []))))], 0) := by kernel_rfl
  have d3 : decodeI [20, 0, 3, 44] = ([(0, (20, (0, ([], [3])))), (3, (44, (0, ([], []))))], 0) := by kernel_rfl
  have d4 : (decodeI [20, 0, 2, 44]).2 = 12 := by kernel_rfl
  have d5 : (decodeI [0]).2 = 13 := by kernel_rfl
  have d6 : (decodeI [255]).2 = 11 := by kernel_rfl
  have d7 : (decodeI [20, 0]).2 = 5 := by kernel_rfl
  have n1 : nameI 40 = ([118, 105, 114, 116], true) := by kernel_rfl
  have n2 : opI [115, 97, 109, 101] = (29, true) := by kernel_rfl
  refine pcOf (X := X23) (d := 0) rfl trivial (by kernel_rfl) (by decide) (E23 ⟨_, p33 _, _, p33 _, _, p33 _, _, p33 _, _, p33 _, _, p33 _, _, p33 _,
    _, p24 _, _, p26 _, ?_⟩)
  rw [d1, d2, d3, d4, d5, d6, d7, n1, n2]
  have f1 : form 1 = 110 := by decide
  have f2 : form 64 = 0 := by decide
  have q1 := p28 1
  have q2 := p28 64
  rw [f1] at q1
  rw [f2] at q2
  simp
  exact ⟨_, q1, fun _ => ⟨_, q2, fun _ => ⟨rfl, rfl⟩, fun h => absurd rfl h⟩, fun h => absurd rfl h⟩

end Go.Proofs.Ytaaedebknacheaa.AB

set_option linter.unusedVariables false
set_option linter.unusedSimpArgs false
set_option maxRecDepth 100000
set_option maxHeartbeats 2000000
namespace Go.Proofs.Ytaaedebknacheaa.AB
open Go
/-! crucible/cruciblelaw4.CodeReads -/
noncomputable def X8 : Cx := ⟨tt, [(23, [.cd .bool]), (33, [.cd (.slice (.pair (.int .i64) (.pair (.int .i64) (.pair (.int .i64) (.pair (.slice (.int .i64)) (.slice (.int .i64))))))), .cd (.int .i64)]), (35, [.cd .bool]), (36, [.cd (.slice (.pair (.int .i64) (.pair (.int .i64) (.pair (.int .i64) (.pair (.slice (.int .i64)) (.slice (.int .i64))))))), .cd (.int .i64)]), (37, [.cd (.int .i64)]), (38, [.cd (.int .i64)])], [], [], []⟩
theorem FN8 : fnsB Try.prog X8.fns := (show True from trivial)
theorem E8 (s0 : (List UInt8)) (pc1 : Int) {R : V → Prop} (h : (∃ p1 : Bool, PC Try.prog 23 [] (.bool p1) ∧ (((!p1) = true → R (.bool false)) ∧
 ((!p1) = false → (((decide (((s0).length : Int) > (10000 : Int))) = true → R (.bool p1)) ∧
 ((decide (((s0).length : Int) > (10000 : Int))) = false → (∃ p2 : (List (Int × (Int × (Int × ((List Int) × (List Int)))))) × Int, PC Try.prog 33 [(.str s0)] ((.tup [(.list (.pair (.int .i64) (.pair (.int .i64) (.pair (.int .i64) (.pair (.slice (.int .i64)) (.slice (.int .i64)))))) p2.1 .no), (.int .i64 p2.2)])) ∧ (∃ p3 : (List (Int × (Int × (Int × ((List Int) × (List Int)))))) × Int, PC Try.prog 36 [(.str s0)] ((.tup [(.list (.pair (.int .i64) (.pair (.int .i64) (.pair (.int .i64) (.pair (.slice (.int .i64)) (.slice (.int .i64)))))) p3.1 .no), (.int .i64 p3.2)])) ∧ (∃ p4 : Bool, PC Try.prog 35 [(.list (.pair (.int .i64) (.pair (.int .i64) (.pair (.int .i64) (.pair (.slice (.int .i64)) (.slice (.int .i64)))))) p2.1 .no), (.list (.pair (.int .i64) (.pair (.int .i64) (.pair (.int .i64) (.pair (.slice (.int .i64)) (.slice (.int .i64)))))) p3.1 .no)] (.bool p4) ∧ ((p1 = true → ((p4 = true → (((p2.2 == p3.2) = true → (∃ p5 : Int, PC Try.prog 37 [(.list (.pair (.int .i64) (.pair (.int .i64) (.pair (.int .i64) (.pair (.slice (.int .i64)) (.slice (.int .i64)))))) p2.1 .no), (.int .i64 pc1)] (.int .i64 p5) ∧ (∃ p6 : Int, PC Try.prog 38 [(.list (.pair (.int .i64) (.pair (.int .i64) (.pair (.int .i64) (.pair (.slice (.int .i64)) (.slice (.int .i64)))))) p3.1 .no), (.int .i64 pc1)] (.int .i64 p6) ∧ R (.bool (p5 == p6))))) ∧ ((p2.2 == p3.2) = false → R (.bool false)))) ∧ (p4 = false → R (.bool false)))) ∧ (p1 = false → R (.bool false)))))))))))) :
  fnK X8.tt (callN Try.prog X8 0) (X8.md 8) (X8.mk1 8) Try.f8 [(.v (.str s0)), (.v (.int .i64 pc1))] ⟨[], [], ⟨0, []⟩⟩ (topK R) := Eq.mp (by kernel_rfl) h
end Go.Proofs.Ytaaedebknacheaa.AB

set_option linter.unusedVariables false
set_option linter.unusedSimpArgs false
namespace Go.Proofs.Ytaaedebknacheaa.AB
open Go Go.RowKit

theorem decodeI_nil {s : List UInt8} (h : (decodeI s).2 ≠ 0) : (decodeI s).1 = [] := by
  unfold decodeI at h ⊢
  repeat' split
  all_goals first
    | rfl
    | skip
  all_goals (rename_i l e h1 h2 h3; simp_all)

theorem decodeI_sz (s : List UInt8) : (decodeI s).1.length ≤ 4096 ∧ (∀ x ∈ (decodeI s).1, x.2.2.2.1.length ≤ 65536) ∧ ∀ x ∈ (decodeI s).1, x.2.2.2.2.length ≤ 65536 := by
  by_cases h : (decodeI s).2 = 0
  · have hc : Code4 s (decodeI s).1 := decodeI_ok (by rw [← h])
    exact ⟨Nat.le_trans hc.len hc.size, hc.keys, hc.tos⟩
  · rw [decodeI_nil h]
    exact ⟨by simp, fun x hx => by simp at hx, fun x hx => by simp at hx⟩

theorem p8 (s : List UInt8) (pc : Int) : PC Try.prog 8 [.str s, .int .i64 pc] (.bool true) := by
  refine pcOf (X := X8) (d := 0) rfl trivial (by kernel_rfl) (by decide) (E8 s pc ⟨_, p23, fun h => absurd h (by simp), fun _ => ⟨fun _ => retB rfl, fun h => ?_⟩⟩)
  obtain ⟨z1, z2, z3⟩ := decodeI_sz s
  have q := p35 (decodeI s).1 (decodeI s).1 (by omega) (fun x hx => by have := z2 x hx; omega) (fun x hx => by have := z3 x hx; omega)
  rw [decide_eq_true rfl] at q
  refine ⟨_, p33 s, _, p36 s, _, q, fun _ => ⟨fun _ => ⟨fun _ => ⟨_, p37 _ pc (by omega), _, p38 _ pc (by omega), retB (by simp)⟩, fun h => absurd h (by simp)⟩, fun h => absurd h (by simp)⟩, fun h => absurd h (by simp)⟩

theorem law_CodeReads (s : List UInt8) (pc : Int) (f0 : Cd.wf .str s) (f1 : Cd.wf (.int .i64) pc) : PC Try.prog 8 [Cd.enc .str s, Cd.enc (.int .i64) pc] (.bool true) := p8 s pc

end Go.Proofs.Ytaaedebknacheaa.AB

