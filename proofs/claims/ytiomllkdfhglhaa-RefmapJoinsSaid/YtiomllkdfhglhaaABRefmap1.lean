/- Parts of the proof: what functions of the program compute, on plain values. -/
import Derived.Test.YtiomllkdfhglhaaABx4
import Derived.Test.YtiomllkdfhglhaaProg
import Derived.KernelRfl
import Derived.Shelf.Spec.SlicesGrow
import Derived.RangeFuncFrom
import Derived.RangeFuncLeaves
import Derived.WalkKit
import Derived.OwnWalkIn
import Derived.TacticsInMore
import Derived.LoopNIn
import Derived.LoopIn
set_option linter.unusedVariables false
set_option linter.unusedSimpArgs false
set_option maxRecDepth 100000
set_option maxHeartbeats 2000000
namespace Go.Proofs.Ytiomllkdfhglhaa.AB
open Go
def tt : TT := [
 ⟨.other, 0, 0, .undef, .unit, false, false⟩,
 ⟨.func, 1, 8, .nilf, .unit, true, false⟩,
 ⟨.int .i64, 1, 8, (.int .i64 (0 : Int)), (.int .i64), true, true⟩,
 ⟨.int .i64, 1, 8, (.int .i64 (0 : Int)), (.int .i64), true, true⟩,
 ⟨.bool, 1, 1, .ff, .bool, true, true⟩,
 ⟨.int .u8, 1, 1, (.int .u8 (0 : Int)), (.int .u8), true, true⟩,
 ⟨.int .u8, 1, 1, (.int .u8 (0 : Int)), (.int .u8), true, true⟩,
 ⟨.strct [(0, 2), (1, 3), (2, 4), (3, 6)], 4, 24, (.agg [(.int .i64 (0 : Int)), (.int .i64 (0 : Int)), .ff, (.int .u8 (0 : Int))]), (.pair (.int .i64) (.pair (.int .i64) (.pair .bool (.int .u8)))), true, true⟩,
 ⟨.strct [(0, 2), (1, 3), (2, 4), (3, 6)], 4, 24, (.agg [(.int .i64 (0 : Int)), (.int .i64 (0 : Int)), .ff, (.int .u8 (0 : Int))]), (.pair (.int .i64) (.pair (.int .i64) (.pair .bool (.int .u8)))), true, true⟩,
 ⟨.str, 1, 16, (.str ([] : List UInt8)), .str, true, true⟩,
 ⟨.str, 1, 16, (.str ([] : List UInt8)), .str, true, true⟩,
 ⟨.str, 1, 16, (.str ([] : List UInt8)), .str, true, true⟩,
 ⟨.int .u64, 1, 8, (.int .u64 (0 : Int)), (.int .u64), true, true⟩,
 ⟨.strct [(0, 9), (1, 12)], 2, 24, (.agg [(.str ([] : List UInt8)), (.int .u64 (0 : Int))]), (.pair .str (.int .u64)), true, true⟩,
 ⟨.strct [(0, 9), (1, 12)], 2, 24, (.agg [(.str ([] : List UInt8)), (.int .u64 (0 : Int))]), (.pair .str (.int .u64)), true, true⟩,
 ⟨.ptr 168, 1, 8, .nilp, .unit, true, false⟩,
 ⟨.ptr 171, 1, 8, .nilp, .unit, true, false⟩,
 ⟨.ptr 181, 1, 8, .nilp, .unit, true, false⟩,
 ⟨.strct [(0, 17)], 1, 8, (.agg [.nilp]), .unit, true, false⟩,
 ⟨.strct [(0, 17)], 1, 8, (.agg [.nilp]), .unit, true, false⟩,
 ⟨.iface, 1, 16, .nili, .unit, true, false⟩,
 ⟨.int .i32, 1, 4, (.int .i32 (0 : Int)), (.int .i32), true, true⟩,
 ⟨.slice 36, 1, 24, (.list (.pair (.int .i64) (.pair (.int .i64) (.pair (.int .i64) (.int .i64)))) (([] : List (Int × (Int × (Int × Int))))) .exact), (.slice (.pair (.int .i64) (.pair (.int .i64) (.pair (.int .i64) (.int .i64))))), true, true⟩,
 ⟨.func, 1, 8, .nilf, .unit, true, false⟩,
 ⟨.slice 34, 1, 24, (.list (.pair (.int .i64) (.pair (.int .i64) (.pair (.int .i64) (.pair (.slice (.int .i64)) (.slice (.int .i64)))))) (([] : List (Int × (Int × (Int × ((List Int) × (List Int))))))) .exact), (.slice (.pair (.int .i64) (.pair (.int .i64) (.pair (.int .i64) (.pair (.slice (.int .i64)) (.slice (.int .i64))))))), true, true⟩,
 ⟨.int .i64, 1, 8, (.int .i64 (0 : Int)), (.int .i64), true, true⟩,
 ⟨.other, 0, 0, .undef, .unit, false, false⟩,
 ⟨.func, 1, 8, .nilf, .unit, true, false⟩,
 ⟨.slice 31, 1, 24, (.list (.slice (.int .i64)) (([] : List (List Int))) .exact), (.slice (.slice (.int .i64))), true, true⟩,
 ⟨.other, 0, 0, .undef, .unit, false, false⟩,
 ⟨.func, 1, 8, .nilf, .unit, true, false⟩,
 ⟨.slice 3, 1, 24, (.list (.int .i64) ([] : List Int) .exact), (.slice (.int .i64)), true, true⟩,
 ⟨.func, 1, 8, .nilf, .unit, true, false⟩,
 ⟨.strct [(0, 3), (1, 3), (2, 3), (3, 31), (4, 31)], 5, 72, (.agg [(.int .i64 (0 : Int)), (.int .i64 (0 : Int)), (.int .i64 (0 : Int)), (.list (.int .i64) ([] : List Int) .exact), (.list (.int .i64) ([] : List Int) .exact)]), (.pair (.int .i64) (.pair (.int .i64) (.pair (.int .i64) (.pair (.slice (.int .i64)) (.slice (.int .i64)))))), true, true⟩,
 ⟨.strct [(0, 3), (1, 3), (2, 3), (3, 31), (4, 31)], 5, 72, (.agg [(.int .i64 (0 : Int)), (.int .i64 (0 : Int)), (.int .i64 (0 : Int)), (.list (.int .i64) ([] : List Int) .exact), (.list (.int .i64) ([] : List Int) .exact)]), (.pair (.int .i64) (.pair (.int .i64) (.pair (.int .i64) (.pair (.slice (.int .i64)) (.slice (.int .i64)))))), true, true⟩,
 ⟨.strct [(0, 3), (1, 3), (2, 3), (3, 3)], 4, 32, (.agg [(.int .i64 (0 : Int)), (.int .i64 (0 : Int)), (.int .i64 (0 : Int)), (.int .i64 (0 : Int))]), (.pair (.int .i64) (.pair (.int .i64) (.pair (.int .i64) (.int .i64)))), true, true⟩,
 ⟨.strct [(0, 3), (1, 3), (2, 3), (3, 3)], 4, 32, (.agg [(.int .i64 (0 : Int)), (.int .i64 (0 : Int)), (.int .i64 (0 : Int)), (.int .i64 (0 : Int))]), (.pair (.int .i64) (.pair (.int .i64) (.pair (.int .i64) (.int .i64)))), true, true⟩,
 ⟨.func, 1, 8, .nilf, .unit, true, false⟩,
 ⟨.slice 57, 1, 24, (.list (.slice .bool) (([] : List (List Bool))) .exact), (.slice (.slice .bool)), true, true⟩,
 ⟨.slice 59, 1, 24, (.list (.pair (.slice .bool) (.slice .bool)) (([] : List ((List Bool) × (List Bool)))) .exact), (.slice (.pair (.slice .bool) (.slice .bool))), true, true⟩,
 ⟨.slice 75, 1, 24, (.list (.pair (.slice .bool) (.slice .bool)) (([] : List ((List Bool) × (List Bool)))) .exact), (.slice (.pair (.slice .bool) (.slice .bool))), true, true⟩,
 ⟨.other, 0, 0, .undef, .unit, false, false⟩,
 ⟨.func, 1, 8, .nilf, .unit, true, false⟩,
 ⟨.other, 0, 0, .undef, .unit, false, false⟩,
 ⟨.func, 1, 8, .nilf, .unit, true, false⟩,
 ⟨.other, 0, 0, .undef, .unit, false, false⟩,
 ⟨.func, 1, 8, .nilf, .unit, true, false⟩,
 ⟨.func, 1, 8, .nilf, .unit, true, false⟩,
 ⟨.func, 1, 8, .nilf, .unit, true, false⟩,
 ⟨.func, 1, 8, .nilf, .unit, true, false⟩,
 ⟨.slice 93, 1, 24, (.list (.pair (.int .i64) (.pair (.pair (.int .i64) .str) (.int .i64))) (([] : List (Int × ((Int × (List UInt8)) × Int)))) .exact), (.slice (.pair (.int .i64) (.pair (.pair (.int .i64) .str) (.int .i64)))), true, true⟩,
 ⟨.strct [(0, 50), (1, 50)], 2, 48, (.agg [(.list (.pair (.int .i64) (.pair (.pair (.int .i64) .str) (.int .i64))) (([] : List (Int × ((Int × (List UInt8)) × Int)))) .exact), (.list (.pair (.int .i64) (.pair (.pair (.int .i64) .str) (.int .i64))) (([] : List (Int × ((Int × (List UInt8)) × Int)))) .exact)]), (.pair (.slice (.pair (.int .i64) (.pair (.pair (.int .i64) .str) (.int .i64)))) (.slice (.pair (.int .i64) (.pair (.pair (.int .i64) .str) (.int .i64))))), true, true⟩,
 ⟨.strct [(0, 50), (1, 50)], 2, 48, (.agg [(.list (.pair (.int .i64) (.pair (.pair (.int .i64) .str) (.int .i64))) (([] : List (Int × ((Int × (List UInt8)) × Int)))) .exact), (.list (.pair (.int .i64) (.pair (.pair (.int .i64) .str) (.int .i64))) (([] : List (Int × ((Int × (List UInt8)) × Int)))) .exact)]), (.pair (.slice (.pair (.int .i64) (.pair (.pair (.int .i64) .str) (.int .i64)))) (.slice (.pair (.int .i64) (.pair (.pair (.int .i64) .str) (.int .i64))))), true, true⟩,
 ⟨.ptr 104, 1, 8, .nilp, .unit, true, false⟩,
 ⟨.other, 0, 0, .undef, .unit, false, false⟩,
 ⟨.func, 1, 8, .nilf, .unit, true, false⟩,
 ⟨.func, 1, 8, .nilf, .unit, true, false⟩,
 ⟨.slice 4, 1, 24, (.list .bool ([] : List Bool) .exact), (.slice .bool), true, true⟩,
 ⟨.strct [(0, 57), (1, 57)], 2, 48, (.agg [(.list .bool ([] : List Bool) .exact), (.list .bool ([] : List Bool) .exact)]), (.pair (.slice .bool) (.slice .bool)), true, true⟩,
 ⟨.strct [(0, 57), (1, 57)], 2, 48, (.agg [(.list .bool ([] : List Bool) .exact), (.list .bool ([] : List Bool) .exact)]), (.pair (.slice .bool) (.slice .bool)), true, true⟩,
 ⟨.func, 1, 8, .nilf, .unit, true, false⟩,
 ⟨.func, 1, 8, .nilf, .unit, true, false⟩,
 ⟨.slice 5, 1, 24, (.list (.int .u8) ([] : List Int) .exact), (.slice (.int .u8)), true, true⟩,
 ⟨.func, 1, 8, .nilf, .unit, true, false⟩,
 ⟨.func, 1, 8, .nilf, .unit, true, false⟩,
 ⟨.func, 1, 8, .nilf, .unit, true, false⟩,
 ⟨.func, 1, 8, .nilf, .unit, true, false⟩,
 ⟨.other, 0, 0, .undef, .unit, false, false⟩,
 ⟨.func, 1, 8, .nilf, .unit, true, false⟩,
 ⟨.func, 1, 8, .nilf, .unit, true, false⟩,
 ⟨.func, 1, 8, .nilf, .unit, true, false⟩,
 ⟨.func, 1, 8, .nilf, .unit, true, false⟩,
 ⟨.func, 1, 8, .nilf, .unit, true, false⟩,
 ⟨.func, 1, 8, .nilf, .unit, true, false⟩,
 ⟨.slice 52, 1, 24, (.list (.pair (.slice (.pair (.int .i64) (.pair (.pair (.int .i64) .str) (.int .i64)))) (.slice (.pair (.int .i64) (.pair (.pair (.int .i64) .str) (.int .i64))))) (([] : List ((List (Int × ((Int × (List UInt8)) × Int))) × (List (Int × ((Int × (List UInt8)) × Int)))))) .exact), (.slice (.pair (.slice (.pair (.int .i64) (.pair (.pair (.int .i64) .str) (.int .i64)))) (.slice (.pair (.int .i64) (.pair (.pair (.int .i64) .str) (.int .i64)))))), true, true⟩,
 ⟨.strct [(0, 57), (1, 57)], 2, 48, (.agg [(.list .bool ([] : List Bool) .exact), (.list .bool ([] : List Bool) .exact)]), (.pair (.slice .bool) (.slice .bool)), true, true⟩,
 ⟨.func, 1, 8, .nilf, .unit, true, false⟩,
 ⟨.func, 1, 8, .nilf, .unit, true, false⟩,
 ⟨.strct [(0, 24), (1, 74), (2, 57)], 3, 72, (.agg [(.list (.pair (.int .i64) (.pair (.int .i64) (.pair (.int .i64) (.pair (.slice (.int .i64)) (.slice (.int .i64)))))) (([] : List (Int × (Int × (Int × ((List Int) × (List Int))))))) .exact), (.list (.pair (.slice (.pair (.int .i64) (.pair (.pair (.int .i64) .str) (.int .i64)))) (.slice (.pair (.int .i64) (.pair (.pair (.int .i64) .str) (.int .i64))))) (([] : List ((List (Int × ((Int × (List UInt8)) × Int))) × (List (Int × ((Int × (List UInt8)) × Int)))))) .exact), (.list .bool ([] : List Bool) .exact)]), (.pair (.slice (.pair (.int .i64) (.pair (.int .i64) (.pair (.int .i64) (.pair (.slice (.int .i64)) (.slice (.int .i64))))))) (.pair (.slice (.pair (.slice (.pair (.int .i64) (.pair (.pair (.int .i64) .str) (.int .i64)))) (.slice (.pair (.int .i64) (.pair (.pair (.int .i64) .str) (.int .i64)))))) (.slice .bool))), true, true⟩,
 ⟨.strct [(0, 24), (1, 74), (2, 57)], 3, 72, (.agg [(.list (.pair (.int .i64) (.pair (.int .i64) (.pair (.int .i64) (.pair (.slice (.int .i64)) (.slice (.int .i64)))))) (([] : List (Int × (Int × (Int × ((List Int) × (List Int))))))) .exact), (.list (.pair (.slice (.pair (.int .i64) (.pair (.pair (.int .i64) .str) (.int .i64)))) (.slice (.pair (.int .i64) (.pair (.pair (.int .i64) .str) (.int .i64))))) (([] : List ((List (Int × ((Int × (List UInt8)) × Int))) × (List (Int × ((Int × (List UInt8)) × Int)))))) .exact), (.list .bool ([] : List Bool) .exact)]), (.pair (.slice (.pair (.int .i64) (.pair (.int .i64) (.pair (.int .i64) (.pair (.slice (.int .i64)) (.slice (.int .i64))))))) (.pair (.slice (.pair (.slice (.pair (.int .i64) (.pair (.pair (.int .i64) .str) (.int .i64)))) (.slice (.pair (.int .i64) (.pair (.pair (.int .i64) .str) (.int .i64)))))) (.slice .bool))), true, true⟩,
 ⟨.func, 1, 8, .nilf, .unit, true, false⟩,
 ⟨.strct [(0, 24), (1, 74), (2, 57)], 3, 72, (.agg [(.list (.pair (.int .i64) (.pair (.int .i64) (.pair (.int .i64) (.pair (.slice (.int .i64)) (.slice (.int .i64)))))) (([] : List (Int × (Int × (Int × ((List Int) × (List Int))))))) .exact), (.list (.pair (.slice (.pair (.int .i64) (.pair (.pair (.int .i64) .str) (.int .i64)))) (.slice (.pair (.int .i64) (.pair (.pair (.int .i64) .str) (.int .i64))))) (([] : List ((List (Int × ((Int × (List UInt8)) × Int))) × (List (Int × ((Int × (List UInt8)) × Int)))))) .exact), (.list .bool ([] : List Bool) .exact)]), (.pair (.slice (.pair (.int .i64) (.pair (.int .i64) (.pair (.int .i64) (.pair (.slice (.int .i64)) (.slice (.int .i64))))))) (.pair (.slice (.pair (.slice (.pair (.int .i64) (.pair (.pair (.int .i64) .str) (.int .i64)))) (.slice (.pair (.int .i64) (.pair (.pair (.int .i64) .str) (.int .i64)))))) (.slice .bool))), true, true⟩,
 ⟨.func, 1, 8, .nilf, .unit, true, false⟩,
 ⟨.other, 0, 0, .undef, .unit, false, false⟩,
 ⟨.func, 1, 8, .nilf, .unit, true, false⟩,
 ⟨.func, 1, 8, .nilf, .unit, true, false⟩,
 ⟨.map 3 3, 1, 8, .nilm, .unit, true, false⟩,
 ⟨.func, 1, 8, .nilf, .unit, true, false⟩,
 ⟨.other, 0, 0, .undef, .unit, false, false⟩,
 ⟨.func, 1, 8, .nilf, .unit, true, false⟩,
 ⟨.strct [(0, 3), (1, 9)], 2, 24, (.agg [(.int .i64 (0 : Int)), (.str ([] : List UInt8))]), (.pair (.int .i64) .str), true, true⟩,
 ⟨.strct [(0, 3), (1, 9)], 2, 24, (.agg [(.int .i64 (0 : Int)), (.str ([] : List UInt8))]), (.pair (.int .i64) .str), true, true⟩,
 ⟨.strct [(0, 3), (1, 91), (3, 3)], 4, 40, (.agg [(.int .i64 (0 : Int)), (.int .i64 (0 : Int)), (.str ([] : List UInt8)), (.int .i64 (0 : Int))]), (.pair (.int .i64) (.pair (.pair (.int .i64) .str) (.int .i64))), true, true⟩,
 ⟨.strct [(0, 3), (1, 91), (3, 3)], 4, 40, (.agg [(.int .i64 (0 : Int)), (.int .i64 (0 : Int)), (.str ([] : List UInt8)), (.int .i64 (0 : Int))]), (.pair (.int .i64) (.pair (.pair (.int .i64) .str) (.int .i64))), true, true⟩,
 ⟨.int .u64, 1, 8, (.int .u64 (0 : Int)), (.int .u64), true, true⟩,
 ⟨.func, 1, 8, .nilf, .unit, true, false⟩,
 ⟨.func, 1, 8, .nilf, .unit, true, false⟩,
 ⟨.func, 1, 8, .nilf, .unit, true, false⟩,
 ⟨.func, 1, 8, .nilf, .unit, true, false⟩,
 ⟨.func, 1, 8, .nilf, .unit, true, false⟩,
 ⟨.slice 123, 1, 24, (.list (.pair (.slice (.pair (.int .i64) (.pair .str (.pair (.int .i64) (.pair (.int .i64) (.pair (.int .i64) (.int .i64))))))) (.pair (.int .i64) (.pair (.int .i64) (.pair (.int .i64) (.pair (.slice (.int .i64)) (.pair (.slice (.pair (.int .i64) (.pair (.int .i64) (.pair (.int .i64) (.pair (.int .i64) (.pair (.int .i64) (.pair .str (.slice (.pair (.int .i64) (.pair (.int .i64) (.pair (.int .i64) (.int .i64)))))))))))) (.slice (.pair (.int .i64) (.pair (.int .i64) (.pair (.int .i64) (.pair (.int .i64) (.pair (.int .i64) (.pair .str (.slice (.pair (.int .i64) (.pair (.int .i64) (.pair (.int .i64) (.int .i64)))))))))))))))))) (([] : List ((List (Int × ((List UInt8) × (Int × (Int × (Int × Int)))))) × (Int × (Int × (Int × ((List Int) × ((List (Int × (Int × (Int × (Int × (Int × ((List UInt8) × (List (Int × (Int × (Int × Int))))))))))) × (List (Int × (Int × (Int × (Int × (Int × ((List UInt8) × (List (Int × (Int × (Int × Int))))))))))))))))))) .exact), (.slice (.pair (.slice (.pair (.int .i64) (.pair .str (.pair (.int .i64) (.pair (.int .i64) (.pair (.int .i64) (.int .i64))))))) (.pair (.int .i64) (.pair (.int .i64) (.pair (.int .i64) (.pair (.slice (.int .i64)) (.pair (.slice (.pair (.int .i64) (.pair (.int .i64) (.pair (.int .i64) (.pair (.int .i64) (.pair (.int .i64) (.pair .str (.slice (.pair (.int .i64) (.pair (.int .i64) (.pair (.int .i64) (.int .i64)))))))))))) (.slice (.pair (.int .i64) (.pair (.int .i64) (.pair (.int .i64) (.pair (.int .i64) (.pair (.int .i64) (.pair .str (.slice (.pair (.int .i64) (.pair (.int .i64) (.pair (.int .i64) (.int .i64))))))))))))))))))), true, true⟩,
 ⟨.slice 119, 1, 24, (.list (.pair .str (.pair .str (.pair (.slice .str) (.pair .bool (.pair .bool (.pair .bool (.int .i64))))))) (([] : List ((List UInt8) × ((List UInt8) × ((List (List UInt8)) × (Bool × (Bool × (Bool × Int)))))))) .exact), (.slice (.pair .str (.pair .str (.pair (.slice .str) (.pair .bool (.pair .bool (.pair .bool (.int .i64)))))))), true, true⟩,
 ⟨.func, 1, 8, .nilf, .unit, true, false⟩,
 ⟨.strct [(0, 101)], 1, 24, (.agg [(.list (.pair .str (.pair .str (.pair (.slice .str) (.pair .bool (.pair .bool (.pair .bool (.int .i64))))))) (([] : List ((List UInt8) × ((List UInt8) × ((List (List UInt8)) × (Bool × (Bool × (Bool × Int)))))))) .exact)]), (.pair (.slice (.pair .str (.pair .str (.pair (.slice .str) (.pair .bool (.pair .bool (.pair .bool (.int .i64)))))))) .unit), true, true⟩,
 ⟨.strct [(0, 101)], 1, 24, (.agg [(.list (.pair .str (.pair .str (.pair (.slice .str) (.pair .bool (.pair .bool (.pair .bool (.int .i64))))))) (([] : List ((List UInt8) × ((List UInt8) × ((List (List UInt8)) × (Bool × (Bool × (Bool × Int)))))))) .exact)]), (.pair (.slice (.pair .str (.pair .str (.pair (.slice .str) (.pair .bool (.pair .bool (.pair .bool (.int .i64)))))))) .unit), true, true⟩,
 ⟨.func, 1, 8, .nilf, .unit, true, false⟩,
 ⟨.func, 1, 8, .nilf, .unit, true, false⟩,
 ⟨.func, 1, 8, .nilf, .unit, true, false⟩,
 ⟨.func, 1, 8, .nilf, .unit, true, false⟩,
 ⟨.func, 1, 8, .nilf, .unit, true, false⟩,
 ⟨.func, 1, 8, .nilf, .unit, true, false⟩,
 ⟨.func, 1, 8, .nilf, .unit, true, false⟩,
 ⟨.func, 1, 8, .nilf, .unit, true, false⟩,
 ⟨.func, 1, 8, .nilf, .unit, true, false⟩,
 ⟨.func, 1, 8, .nilf, .unit, true, false⟩,
 ⟨.func, 1, 8, .nilf, .unit, true, false⟩,
 ⟨.func, 1, 8, .nilf, .unit, true, false⟩,
 ⟨.slice 9, 1, 24, (.list .str (([] : List (List UInt8))) .exact), (.slice .str), true, true⟩,
 ⟨.strct [(0, 9), (1, 9), (2, 117), (3, 4), (4, 4), (5, 4), (6, 3)], 7, 72, (.agg [(.str ([] : List UInt8)), (.str ([] : List UInt8)), (.list .str (([] : List (List UInt8))) .exact), .ff, .ff, .ff, (.int .i64 (0 : Int))]), (.pair .str (.pair .str (.pair (.slice .str) (.pair .bool (.pair .bool (.pair .bool (.int .i64))))))), true, true⟩,
 ⟨.strct [(0, 9), (1, 9), (2, 117), (3, 4), (4, 4), (5, 4), (6, 3)], 7, 72, (.agg [(.str ([] : List UInt8)), (.str ([] : List UInt8)), (.list .str (([] : List (List UInt8))) .exact), .ff, .ff, .ff, (.int .i64 (0 : Int))]), (.pair .str (.pair .str (.pair (.slice .str) (.pair .bool (.pair .bool (.pair .bool (.int .i64))))))), true, true⟩,
 ⟨.slice 137, 1, 24, (.list (.pair (.int .i64) (.pair .str (.pair (.int .i64) (.pair (.int .i64) (.pair (.int .i64) (.int .i64)))))) (([] : List (Int × ((List UInt8) × (Int × (Int × (Int × Int))))))) .exact), (.slice (.pair (.int .i64) (.pair .str (.pair (.int .i64) (.pair (.int .i64) (.pair (.int .i64) (.int .i64))))))), true, true⟩,
 ⟨.slice 147, 1, 24, (.list (.pair (.int .i64) (.pair (.int .i64) (.pair (.int .i64) (.pair (.int .i64) (.pair (.int .i64) (.pair .str (.slice (.pair (.int .i64) (.pair (.int .i64) (.pair (.int .i64) (.int .i64))))))))))) (([] : List (Int × (Int × (Int × (Int × (Int × ((List UInt8) × (List (Int × (Int × (Int × Int)))))))))))) .exact), (.slice (.pair (.int .i64) (.pair (.int .i64) (.pair (.int .i64) (.pair (.int .i64) (.pair (.int .i64) (.pair .str (.slice (.pair (.int .i64) (.pair (.int .i64) (.pair (.int .i64) (.int .i64)))))))))))), true, true⟩,
 ⟨.strct [(0, 120), (1, 3), (2, 3), (3, 3), (4, 31), (5, 121), (6, 121)], 7, 120, (.agg [(.list (.pair (.int .i64) (.pair .str (.pair (.int .i64) (.pair (.int .i64) (.pair (.int .i64) (.int .i64)))))) (([] : List (Int × ((List UInt8) × (Int × (Int × (Int × Int))))))) .exact), (.int .i64 (0 : Int)), (.int .i64 (0 : Int)), (.int .i64 (0 : Int)), (.list (.int .i64) ([] : List Int) .exact), (.list (.pair (.int .i64) (.pair (.int .i64) (.pair (.int .i64) (.pair (.int .i64) (.pair (.int .i64) (.pair .str (.slice (.pair (.int .i64) (.pair (.int .i64) (.pair (.int .i64) (.int .i64))))))))))) (([] : List (Int × (Int × (Int × (Int × (Int × ((List UInt8) × (List (Int × (Int × (Int × Int)))))))))))) .exact), (.list (.pair (.int .i64) (.pair (.int .i64) (.pair (.int .i64) (.pair (.int .i64) (.pair (.int .i64) (.pair .str (.slice (.pair (.int .i64) (.pair (.int .i64) (.pair (.int .i64) (.int .i64))))))))))) (([] : List (Int × (Int × (Int × (Int × (Int × ((List UInt8) × (List (Int × (Int × (Int × Int)))))))))))) .exact)]), (.pair (.slice (.pair (.int .i64) (.pair .str (.pair (.int .i64) (.pair (.int .i64) (.pair (.int .i64) (.int .i64))))))) (.pair (.int .i64) (.pair (.int .i64) (.pair (.int .i64) (.pair (.slice (.int .i64)) (.pair (.slice (.pair (.int .i64) (.pair (.int .i64) (.pair (.int .i64) (.pair (.int .i64) (.pair (.int .i64) (.pair .str (.slice (.pair (.int .i64) (.pair (.int .i64) (.pair (.int .i64) (.int .i64)))))))))))) (.slice (.pair (.int .i64) (.pair (.int .i64) (.pair (.int .i64) (.pair (.int .i64) (.pair (.int .i64) (.pair .str (.slice (.pair (.int .i64) (.pair (.int .i64) (.pair (.int .i64) (.int .i64)))))))))))))))))), true, true⟩,
 ⟨.strct [(0, 120), (1, 3), (2, 3), (3, 3), (4, 31), (5, 121), (6, 121)], 7, 120, (.agg [(.list (.pair (.int .i64) (.pair .str (.pair (.int .i64) (.pair (.int .i64) (.pair (.int .i64) (.int .i64)))))) (([] : List (Int × ((List UInt8) × (Int × (Int × (Int × Int))))))) .exact), (.int .i64 (0 : Int)), (.int .i64 (0 : Int)), (.int .i64 (0 : Int)), (.list (.int .i64) ([] : List Int) .exact), (.list (.pair (.int .i64) (.pair (.int .i64) (.pair (.int .i64) (.pair (.int .i64) (.pair (.int .i64) (.pair .str (.slice (.pair (.int .i64) (.pair (.int .i64) (.pair (.int .i64) (.int .i64))))))))))) (([] : List (Int × (Int × (Int × (Int × (Int × ((List UInt8) × (List (Int × (Int × (Int × Int)))))))))))) .exact), (.list (.pair (.int .i64) (.pair (.int .i64) (.pair (.int .i64) (.pair (.int .i64) (.pair (.int .i64) (.pair .str (.slice (.pair (.int .i64) (.pair (.int .i64) (.pair (.int .i64) (.int .i64))))))))))) (([] : List (Int × (Int × (Int × (Int × (Int × ((List UInt8) × (List (Int × (Int × (Int × Int)))))))))))) .exact)]), (.pair (.slice (.pair (.int .i64) (.pair .str (.pair (.int .i64) (.pair (.int .i64) (.pair (.int .i64) (.int .i64))))))) (.pair (.int .i64) (.pair (.int .i64) (.pair (.int .i64) (.pair (.slice (.int .i64)) (.pair (.slice (.pair (.int .i64) (.pair (.int .i64) (.pair (.int .i64) (.pair (.int .i64) (.pair (.int .i64) (.pair .str (.slice (.pair (.int .i64) (.pair (.int .i64) (.pair (.int .i64) (.int .i64)))))))))))) (.slice (.pair (.int .i64) (.pair (.int .i64) (.pair (.int .i64) (.pair (.int .i64) (.pair (.int .i64) (.pair .str (.slice (.pair (.int .i64) (.pair (.int .i64) (.pair (.int .i64) (.int .i64)))))))))))))))))), true, true⟩,
 ⟨.func, 1, 8, .nilf, .unit, true, false⟩,
 ⟨.other, 0, 0, .undef, .unit, false, false⟩,
 ⟨.func, 1, 8, .nilf, .unit, true, false⟩,
 ⟨.func, 1, 8, .nilf, .unit, true, false⟩,
 ⟨.func, 1, 8, .nilf, .unit, true, false⟩,
 ⟨.func, 1, 8, .nilf, .unit, true, false⟩,
 ⟨.func, 1, 8, .nilf, .unit, true, false⟩,
 ⟨.func, 1, 8, .nilf, .unit, true, false⟩,
 ⟨.func, 1, 8, .nilf, .unit, true, false⟩,
 ⟨.func, 1, 8, .nilf, .unit, true, false⟩,
 ⟨.func, 1, 8, .nilf, .unit, true, false⟩,
 ⟨.func, 1, 8, .nilf, .unit, true, false⟩,
 ⟨.strct [(0, 3), (1, 9), (2, 3), (3, 3), (4, 3), (5, 3)], 6, 56, (.agg [(.int .i64 (0 : Int)), (.str ([] : List UInt8)), (.int .i64 (0 : Int)), (.int .i64 (0 : Int)), (.int .i64 (0 : Int)), (.int .i64 (0 : Int))]), (.pair (.int .i64) (.pair .str (.pair (.int .i64) (.pair (.int .i64) (.pair (.int .i64) (.int .i64)))))), true, true⟩,
 ⟨.strct [(0, 3), (1, 9), (2, 3), (3, 3), (4, 3), (5, 3)], 6, 56, (.agg [(.int .i64 (0 : Int)), (.str ([] : List UInt8)), (.int .i64 (0 : Int)), (.int .i64 (0 : Int)), (.int .i64 (0 : Int)), (.int .i64 (0 : Int))]), (.pair (.int .i64) (.pair .str (.pair (.int .i64) (.pair (.int .i64) (.pair (.int .i64) (.int .i64)))))), true, true⟩,
 ⟨.other, 0, 0, .undef, .unit, false, false⟩,
 ⟨.func, 1, 8, .nilf, .unit, true, false⟩,
 ⟨.func, 1, 8, .nilf, .unit, true, false⟩,
 ⟨.func, 1, 8, .nilf, .unit, true, false⟩,
 ⟨.func, 1, 8, .nilf, .unit, true, false⟩,
 ⟨.func, 1, 8, .nilf, .unit, true, false⟩,
 ⟨.func, 1, 8, .nilf, .unit, true, false⟩,
 ⟨.int .u64, 1, 8, (.int .u64 (0 : Int)), (.int .u64), true, true⟩,
 ⟨.strct [(0, 3), (1, 3), (2, 3), (3, 3), (4, 3), (5, 9), (6, 22)], 7, 80, (.agg [(.int .i64 (0 : Int)), (.int .i64 (0 : Int)), (.int .i64 (0 : Int)), (.int .i64 (0 : Int)), (.int .i64 (0 : Int)), (.str ([] : List UInt8)), (.list (.pair (.int .i64) (.pair (.int .i64) (.pair (.int .i64) (.int .i64)))) (([] : List (Int × (Int × (Int × Int))))) .exact)]), (.pair (.int .i64) (.pair (.int .i64) (.pair (.int .i64) (.pair (.int .i64) (.pair (.int .i64) (.pair .str (.slice (.pair (.int .i64) (.pair (.int .i64) (.pair (.int .i64) (.int .i64))))))))))), true, true⟩,
 ⟨.strct [(0, 3), (1, 3), (2, 3), (3, 3), (4, 3), (5, 9), (6, 22)], 7, 80, (.agg [(.int .i64 (0 : Int)), (.int .i64 (0 : Int)), (.int .i64 (0 : Int)), (.int .i64 (0 : Int)), (.int .i64 (0 : Int)), (.str ([] : List UInt8)), (.list (.pair (.int .i64) (.pair (.int .i64) (.pair (.int .i64) (.int .i64)))) (([] : List (Int × (Int × (Int × Int))))) .exact)]), (.pair (.int .i64) (.pair (.int .i64) (.pair (.int .i64) (.pair (.int .i64) (.pair (.int .i64) (.pair .str (.slice (.pair (.int .i64) (.pair (.int .i64) (.pair (.int .i64) (.int .i64))))))))))), true, true⟩,
 ⟨.func, 1, 8, .nilf, .unit, true, false⟩,
 ⟨.other, 0, 0, .undef, .unit, false, false⟩,
 ⟨.func, 1, 8, .nilf, .unit, true, false⟩,
 ⟨.other, 0, 0, .undef, .unit, false, false⟩,
 ⟨.func, 1, 8, .nilf, .unit, true, false⟩,
 ⟨.func, 1, 8, .nilf, .unit, true, false⟩,
 ⟨.func, 1, 8, .nilf, .unit, true, false⟩,
 ⟨.func, 1, 8, .nilf, .unit, true, false⟩,
 ⟨.slice 91, 1, 24, (.list (.pair (.int .i64) .str) (([] : List (Int × (List UInt8)))) .exact), (.slice (.pair (.int .i64) .str)), true, true⟩,
 ⟨.strct [(0, 156), (1, 91), (3, 4)], 4, 56, (.agg [(.list (.pair (.int .i64) .str) (([] : List (Int × (List UInt8)))) .exact), (.int .i64 (0 : Int)), (.str ([] : List UInt8)), .ff]), (.pair (.slice (.pair (.int .i64) .str)) (.pair (.pair (.int .i64) .str) .bool)), true, true⟩,
 ⟨.strct [(0, 156), (1, 91), (3, 4)], 4, 56, (.agg [(.list (.pair (.int .i64) .str) (([] : List (Int × (List UInt8)))) .exact), (.int .i64 (0 : Int)), (.str ([] : List UInt8)), .ff]), (.pair (.slice (.pair (.int .i64) .str)) (.pair (.pair (.int .i64) .str) .bool)), true, true⟩,
 ⟨.other, 0, 0, .undef, .unit, false, false⟩,
 ⟨.func, 1, 8, .nilf, .unit, true, false⟩,
 ⟨.func, 1, 8, .nilf, .unit, true, false⟩,
 ⟨.other, 0, 0, .undef, .unit, false, false⟩,
 ⟨.func, 1, 8, .nilf, .unit, true, false⟩,
 ⟨.other, 0, 0, .undef, .unit, false, false⟩,
 ⟨.func, 1, 8, .nilf, .unit, true, false⟩,
 ⟨.func, 1, 8, .nilf, .unit, true, false⟩,
 ⟨.strct [(0, 17), (1, 17), (2, 17), (3, 9)], 4, 40, (.agg [.nilp, .nilp, .nilp, (.str ([] : List UInt8))]), .unit, true, false⟩,
 ⟨.strct [(0, 17), (1, 17), (2, 17), (3, 9)], 4, 40, (.agg [.nilp, .nilp, .nilp, (.str ([] : List UInt8))]), .unit, true, false⟩,
 ⟨.arr 0 16, 0, 0, (.agg []), .unit, true, false⟩,
 ⟨.strct [(0, 169)], 0, 0, (.agg []), .unit, true, false⟩,
 ⟨.strct [(0, 169)], 0, 0, (.agg []), .unit, true, false⟩,
 ⟨.func, 1, 8, .nilf, .unit, true, false⟩,
 ⟨.int .u32, 1, 4, (.int .u32 (0 : Int)), (.int .u32), true, true⟩,
 ⟨.int .u8, 1, 1, (.int .u8 (0 : Int)), (.int .u8), true, true⟩,
 ⟨.int .u8, 1, 1, (.int .u8 (0 : Int)), (.int .u8), true, true⟩,
 ⟨.func, 1, 8, .nilf, .unit, true, false⟩,
 ⟨.ptr 5, 1, 8, .nilp, .unit, true, false⟩,
 ⟨.int .i32, 1, 4, (.int .i32 (0 : Int)), (.int .i32), true, true⟩,
 ⟨.int .i32, 1, 4, (.int .i32 (0 : Int)), (.int .i32), true, true⟩,
 ⟨.strct [(0, 12), (1, 12), (2, 173), (3, 174), (4, 5), (5, 5), (6, 175), (7, 176), (8, 177), (9, 178), (10, 179)], 11, 48, (.agg [(.int .u64 (0 : Int)), (.int .u64 (0 : Int)), (.int .u32 (0 : Int)), (.int .u8 (0 : Int)), (.int .u8 (0 : Int)), (.int .u8 (0 : Int)), (.int .u8 (0 : Int)), .nilf, .nilp, (.int .i32 (0 : Int)), (.int .i32 (0 : Int))]), .unit, true, false⟩,
 ⟨.strct [(0, 12), (1, 12), (2, 173), (3, 174), (4, 5), (5, 5), (6, 175), (7, 176), (8, 177), (9, 178), (10, 179)], 11, 48, (.agg [(.int .u64 (0 : Int)), (.int .u64 (0 : Int)), (.int .u32 (0 : Int)), (.int .u8 (0 : Int)), (.int .u8 (0 : Int)), (.int .u8 (0 : Int)), (.int .u8 (0 : Int)), .nilf, .nilp, (.int .i32 (0 : Int)), (.int .i32 (0 : Int))]), .unit, true, false⟩,
 ⟨.other, 0, 0, .undef, .unit, false, false⟩]
theorem tt_ok : TTOK Try.prog tt := ttok_of (by kernel_rfl)
end Go.Proofs.Ytiomllkdfhglhaa.AB

set_option linter.unusedVariables false
set_option linter.unusedSimpArgs false
namespace Go.Proofs.Ytiomllkdfhglhaa.AB
open Go

theorem mix : Try.prog.follows .mixedOrders = true := by kernel_rfl

theorem pcOf {X : Cx} (hX : X.tt = tt) (hfn : fnsB Try.prog X.fns) {d : Nat} {f : FuncId} {fn : Func} (hf : Try.prog.funcs[f]? = some fn) (hname : fn.name ≠ "runtime.NumGoroutine") {args : List V} {r : V}
    (h : fnK X.tt (callN Try.prog X d) (X.md f) (X.mk1 f) fn (args.map .v) ⟨[], [], ⟨0, []⟩⟩ (topK fun v => v.norm = r ∧ r.nt = true)) : PC Try.prog f args r := by
  have htt : TTOK Try.prog X.tt := by rw [hX]; exact tt_ok
  exact PC.of htt (callN_sound htt mix (fun f fn => fnsB_spec hfn f fn) d) (callN_det d) mix hf hname h

theorem lawOf {X : Cx} (hX : X.tt = tt) (hfn : fnsB Try.prog X.fns) {d : Nat} {f : FuncId} {fn : Func} (hf : Try.prog.funcs[f]? = some fn) (hname : fn.name ≠ "runtime.NumGoroutine") {args : List V} {r : V}
    (h : fnK X.tt (callN Try.prog X d) (X.md f) (X.mk1 f) fn (args.map .v) ⟨[], [some (.heap XH.none)], ⟨0, []⟩⟩ (topK fun v => v.norm = r ∧ r.nt = true)) : PC Try.prog f args r := by
  have htt : TTOK Try.prog X.tt := by rw [hX]; exact tt_ok
  exact PC.ofX htt (callN_sound htt mix (fun f fn => fnsB_spec hfn f fn) d) (callN_det d) mix hf hname h

theorem xcOf {X : Cx} (hX : X.tt = tt) (hfn : fnsB Try.prog X.fns) {d : Nat} {f : FuncId} {fn : Func} (hf : Try.prog.funcs[f]? = some fn) (hname : fn.name ≠ "runtime.NumGoroutine") {cs : List Xd} {args : List TV} {H : XH}
    {Q : xresT cs → XH → Prop} (h : fnK X.tt (callN Try.prog X d) (X.md f) (X.mk1 f) fn args ⟨[], [some (.heap H)], ⟨0, []⟩⟩ (xfin cs Q)) : XC Try.prog f cs args H Q := by
  have htt : TTOK Try.prog X.tt := by rw [hX]; exact tt_ok
  exact XC.of htt (callN_sound htt mix (fun f fn => fnsB_spec hfn f fn) d) (callN_det d) mix hf hname h

theorem wrap64 {x : Int} (h1 : -9223372036854775808 ≤ x) (h2 : x ≤ 9223372036854775807) : IntKind.wrap .i64 x = x := by
  have e : IntKind.wrap .i64 x = (if 9223372036854775808 ≤ x % 18446744073709551616 then x % 18446744073709551616 - 18446744073709551616 else x % 18446744073709551616) := by
    simp [IntKind.wrap, IntKind.bits, IntKind.signed]
  rw [e]
  split <;> omega

theorem take_succ_eq {α : Type} [DecidableEq α] {a b : List α} {n : Nat} {d : α} (h : a.take n = b.take n) (hn : n < a.length) (hm : n < b.length) (he : a.getD n d = b.getD n d) : a.take (n + 1) = b.take (n + 1) := by
  rw [List.take_succ_eq_append_getElem hn, List.take_succ_eq_append_getElem hm, h]
  simp only [List.getD, List.getElem?_eq_getElem hn, List.getElem?_eq_getElem hm, Option.getD_some] at he
  rw [he]

/-- a list of ours that may be appended to -/
def Tok.fresh (t : Tok) (T : Toks) : Prop :=
  match t with
  | .no => False
  | .exact => True
  | .tk n => n ∈ T.l ∧ n < T.n

def Tok.ne (t u : Tok) : Prop :=
  match t, u with
  | .tk a, .tk b => a ≠ b
  | _, _ => True

theorem Tok.fresh.own {t : Tok} {T : Toks} (h : t.fresh T) : t.own T.l := by
  cases t with
  | no => exact h
  | exact => trivial
  | tk n => exact h.1

theorem Tok.fresh.up {t : Tok} {n m : Nat} {l : List Nat} (h : t.fresh ⟨n, l⟩) (hm : n ≤ m) : t.fresh ⟨m, l⟩ := by
  cases t with
  | no => exact h
  | exact => trivial
  | tk k => exact ⟨h.1, Nat.lt_of_lt_of_le h.2 hm⟩

theorem Tok.fresh_new (n : Nat) (l : List Nat) : (Tok.tk n).fresh ⟨n + 1, n :: l⟩ := ⟨by simp, Nat.lt_succ_self _⟩

theorem Tok.fresh.keep {t u : Tok} {T : Toks} (h : t.fresh T) (hne : u.ne t) : t.fresh ⟨T.n + 1, T.n :: u.drop T.l⟩ := by
  cases t with
  | no => exact h
  | exact => trivial
  | tk n =>
    refine ⟨List.mem_cons_of_mem _ ?_, Nat.lt_succ_of_lt h.2⟩
    cases u with
    | no => exact h.1
    | exact => exact h.1
    | tk m =>
      show n ∈ List.filter _ _
      rw [List.mem_filter]
      exact ⟨h.1, by simpa using fun e : n = m => hne e.symm⟩

theorem Tok.fresh.ne_new {t : Tok} {T : Toks} (h : t.fresh T) : t.ne (.tk T.n) := by
  cases t with
  | no => exact h.elim
  | exact => trivial
  | tk n => exact Nat.ne_of_lt h.2

theorem Tok.fresh.new_ne {t : Tok} {T : Toks} (h : t.fresh T) : (Tok.tk T.n).ne t := by
  cases t with
  | no => exact h.elim
  | exact => trivial
  | tk n => exact Nat.ne_of_gt h.2

/-- the elements of a list of lists may each be appended to -/
def FrT (ts : Nat → Tok) (T : Toks) : Prop := (∀ j, (ts j).fresh T) ∧ ∀ i j, i ≠ j → (ts i).ne (ts j)

theorem FrT.exact (T : Toks) : FrT (fun _ => .exact) T := ⟨fun _ => trivial, fun _ _ _ => trivial⟩

theorem FrT.upd {ts : Nat → Tok} {T : Toks} (h : FrT ts T) (i : Nat) : FrT (fun j => if j = i then .tk T.n else ts j) ⟨T.n + 1, T.n :: (ts i).drop T.l⟩ := by
  refine ⟨fun j => ?_, fun j k hjk => ?_⟩
  · by_cases e : j = i
    · simp only [e, if_true]; exact Tok.fresh_new _ _
    · simp only [e, if_false]; exact (h.1 j).keep (h.2 i j (fun e' => e e'.symm))
  · by_cases e : j = i
    · by_cases e' : k = i
      · exact absurd (e.trans e'.symm) hjk
      · simp only [e, e', if_true, if_false]; exact (h.1 k).new_ne
    · by_cases e' : k = i
      · simp only [e, e', if_true, if_false]; exact (h.1 j).ne_new
      · simp only [e, e', if_false]; exact h.2 j k hjk

end Go.Proofs.Ytiomllkdfhglhaa.AB

set_option linter.unusedVariables false
set_option linter.unusedSimpArgs false
namespace Go.Proofs.Ytiomllkdfhglhaa.AB
open Go Go.Proofs Go.RowKit Go.Shelf

def growL_ren : Go.Shelf.Ren :=
  {
  f := fun x =>
    match x with
    | 4 => 78
    | n => n,
  t := fun x =>
    match x with
    | 0 => 0
    | 3 => 3
    | 4 => 4
    | 9 => 9
    | 20 => 20
    | 22 => 57
    | 25 => 4
    | n => n,
  g := fun x =>
    x }

set_option maxRecDepth 100000 in
theorem growL : Lays8.n4 Try.prog growL_ren :=
  { mixed := by kernel_rfl, f4 := Exists.intro "slices.Grow[[]bool,bool]" ⟨of_decide_eq_true (by kernel_rfl), Eq.trans Try.func78 (congrArg some (by kernel_rfl))⟩,
    t0 := by kernel_rfl, a0 := fun w => by kernel_rfl, z0 := fun w => by kernel_rfl, v0 := fun w => by kernel_rfl,
    t3 := by kernel_rfl, a3 := fun w => by kernel_rfl, z3 := fun w => by kernel_rfl, v3 := fun w => by kernel_rfl,
    t4 := by kernel_rfl, a4 := fun w => by kernel_rfl, z4 := fun w => by kernel_rfl, v4 := fun w => by kernel_rfl,
    t9 := by kernel_rfl, a9 := fun w => by kernel_rfl, z9 := fun w => by kernel_rfl, v9 := fun w => by kernel_rfl,
    t20 := by kernel_rfl, a20 := fun w => by kernel_rfl, z20 := fun w => by kernel_rfl, v20 := fun w => by kernel_rfl,
    t22 := by kernel_rfl, a22 := fun w => by kernel_rfl, z22 := fun w => by kernel_rfl, v22 := fun w => by kernel_rfl }

/-- a new array, of which nothing is taken yet -/
theorem fc_new {G : Gh} {w : World} (hok : FzOK G w) (c : Cd) (cur : Array Value) (el : TypeId) (ct : Nat) (hs : cur.size = ct * c.sz) :
    FCPost G w c [] (.returned (.slice (some ⟨w.heap.size, 0, none⟩) 0 ct)) (w.drew.alloc (.cells cur el)) := by
  have hlt : ∀ b o v, G.cell b o = some v → b < w.heap.size := by
    intro b o v h
    have := hok.cells b o v h
    unfold World.cell? at this
    cases hb : w.heap[b]? with
    | none => simp only [hb] at this; cases this
    | some ob => exact (Array.getElem?_eq_some_iff.1 hb).1
  have hltm : ∀ r es, G.mp r = some es → r < w.heap.size := by
    intro r es h
    obtain ⟨ents, ck, q, _⟩ := hok.mps r es h
    exact (Array.getElem?_eq_some_iff.1 q).1
  have hkeep : ∀ b, b < w.heap.size → (w.drew.alloc (.cells cur el)).heap[b]? = w.heap[b]? := fun b hb => by rw [heap_alloc_lt w.drew _ (by exact hb)]; rfl
  have hnew : (w.drew.alloc (.cells cur el)).heap[w.heap.size]? = some (.cells cur el) := by
    have := heap_new w.drew (.cells cur el); simpa using this
  refine ⟨_, G, rfl, ⟨fun b o v h => ?_, fun r es h => ?_⟩, .refl _, ⟨fun b o v h => .inr h, fun r e h => .inr h⟩, ⟨rfl, rfl, rfl, by simp, fun k hk => hkeep k (by
      rcases Nat.lt_or_ge k w.heap.size with q | q
      · exact q
      · exact absurd q hk)⟩, .inr ⟨w.heap.size, ct, cur, el, rfl, Nat.zero_le _, Nat.le_refl _, ⟨fun o => ?_, ?_⟩, hnew, hs, fun e x hx => by simp at hx⟩⟩
  · rw [World.cell?_of_block (a := ⟨b, o, none⟩) (hkeep b (hlt b o v h))]
    exact hok.cells b o v h
  · obtain ⟨ents, ck, q, q2⟩ := hok.mps r es h
    exact ⟨ents, ck, by rw [hkeep r (hltm r es h)]; exact q, q2⟩
  · cases hc : G.cell w.heap.size o with
    | none => rfl
    | some v => have := hlt _ _ _ hc; omega
  · cases hc : G.mp w.heap.size with
    | none => rfl
    | some v => have := hltm _ _ hc; omega

theorem c78 {n : Int} (h0 : 0 ≤ n) (h1 : n ≤ 1099511627776) : FC Try.prog 78 [.nils, .int .i64 n] .bool [] := by
  intro G w vs hok hl hr
  match vs, hl with
  | ⟨[a, b]⟩, _ =>
  have ha := hr 0 _ _ rfl rfl
  have hb := hr 1 _ _ rfl rfl
  cases ha
  cases hb
  refine ⟨⟨Try.f78, Try.func78, by decide, by kernel_rfl⟩, ?_⟩
  obtain ⟨k, rfl⟩ : ∃ k : Nat, n = k := ⟨n.toNat, (Int.toNat_of_nonneg h0).symm⟩
  by_cases hk : k = 0
  · subst hk
    refine (Any8.slices_Grow_room growL none 0 0 0 w (by omega) (by omega) (by omega) (by omega)).mono ?_
    rintro e w' ⟨rfl, rfl⟩
    exact ⟨_, G, rfl, hok, .refl _, ⟨fun b o v h => .inr h, fun r e h => .inr h⟩, .refl _ _, .inl ⟨rfl, rfl⟩⟩
  · obtain ⟨i, z, h1', h2, h3, h4, h5, h6, h7, h8, h9⟩ := run_zero (P := Try.prog) tt_ok (t := 4) (by kernel_rfl) w
    have hs : i.size = 1 := by rw [h3]; rfl
    have hby : i.bytes = 1 := by rw [h4]; rfl
    have hzs : z.cells.size = 1 := by rw [h6]; rfl
    refine (Any8.slices_Grow_grow growL i z h1' h2 (by omega) none 0 0 k [] w (by omega) (by omega) (by rw [hby]; omega) (by omega) (by simp) (fun _ => rfl) (fun a h => by cases h)).mono ?_
    rintro e w' ⟨rfl, rfl⟩
    have hcap : k ≤ grownCap w (0 + k) 0 (growL_ren.t 25) := by have := grownCap_ge w (0 + k) 0 (growL_ren.t 25); omega
    exact fc_new hok .bool _ _ _ (by
      generalize grownCap w (0 + k) 0 (growL_ren.t 25) = g at *
      simp [size_zeroCells, hzs, Cd.sz]; omega)

end Go.Proofs.Ytiomllkdfhglhaa.AB

set_option linter.unusedVariables false
set_option linter.unusedSimpArgs false
set_option maxRecDepth 100000
set_option maxHeartbeats 2000000
namespace Go.Proofs.Ytiomllkdfhglhaa.AB
open Go
/-! slices.Concat[[]bool,bool] -/
noncomputable def X67 : Cx := ⟨tt, [(78, [.cd (.slice .bool)])], [], [(67, [(9, 1, .«mut»)])], [(67, [(0, mkM 36 0 [0, 3, 9, 10, 11], 0), (2, mkM 36 0 [6, 25, 26, 27], 1)])], []⟩
theorem FN67 : fnsB Try.prog X67.fns := (show True from trivial)
def M67_0 : List Bool × Nat := (mkM 36 0 [0, 3, 9, 10, 11], 0)
def S67_0 (slices0 : List (List Bool)) (size3 : Int) (t9 : List (List Bool)) (t10 : Int) (t11 : Int) (T : Toks) : St :=
  mkS 36 [(0, (.v (.list (.slice .bool) slices0 .no))), (3, (.v (.int .i64 size3))), (9, (.v (.list (.slice .bool) t9 .no))), (10, (.v (.int .i64 t10))), (11, (.v (.int .i64 t11)))] [] T
noncomputable def B67_0 : (Exit → St → Prop) → St → Prop := (awp X67.tt (callN Try.prog X67 0) (X67.md 67) 0 (X67.mk1 67) 0 (codeAt [1, 1, 0, 1, 0, 0] (bd Try.f67)))
def M67_2 : List Bool × Nat := (mkM 36 0 [6, 25, 26, 27], 1)
def S67_2 (newslice6g : Nat) (newslice6n : Nat) (t25 : List (List Bool)) (t26 : Int) (t27 : Int) (hq0 : List Bool) (hq0s : Nat → Tok) (hq0g : Nat) (T : Toks) : St :=
  mkS 36 [(6, (.arr 0 newslice6g 0 newslice6n)), (25, (.v (.list (.slice .bool) t25 .no))), (26, (.v (.int .i64 t26))), (27, (.v (.int .i64 t27)))] [(some (.arr hq0g .bool hq0 hq0s))] T
noncomputable def B67_2 : (Exit → St → Prop) → St → Prop := (awp X67.tt (callN Try.prog X67 0) (X67.md 67) 0 (X67.mk1 67) 2 (codeAt [1, 1, 1, 1, 0, 1, 0, 0] (bd Try.f67)))
noncomputable def K67_0 (R : V → Prop) : Exit → St → Prop := seqK ((awp X67.tt (callN Try.prog X67 0) (X67.md 67) 0 (X67.mk1 67) 0 (codeAt [1, 1, 1] (bd Try.f67))) (retK tt Try.f67.results.toList fun x s' => topK R x ⟨[], s'.hp, s'.T⟩)) (retK tt Try.f67.results.toList fun x s' => topK R x ⟨[], s'.hp, s'.T⟩)
noncomputable def Q67_0 (R : V → Prop) : Exit → St → Prop := (blockK 0 (K67_0 R))
noncomputable def K67_1 (R : V → Prop) : Exit → St → Prop := seqK ((awp X67.tt (callN Try.prog X67 0) (X67.md 67) 0 (X67.mk1 67) 0 (codeAt [1, 1, 1, 1, 1] (bd Try.f67))) (retK tt Try.f67.results.toList fun x s' => topK R x ⟨[], s'.hp, s'.T⟩)) (retK tt Try.f67.results.toList fun x s' => topK R x ⟨[], s'.hp, s'.T⟩)
noncomputable def Q67_2 (R : V → Prop) : Exit → St → Prop := (blockK 2 (K67_1 R))
theorem E67 (slices0 : (List (List Bool))) {R : V → Prop} (h : (Loops B67_0 M67_0 (Q67_0 R)
  (S67_0 slices0 (0 : Int) slices0 (((slices0).length : Int)) (0 : Int) ⟨0, []⟩))) :
  fnK X67.tt (callN Try.prog X67 0) (X67.md 67) (X67.mk1 67) Try.f67 [(.v (.list (.slice .bool) slices0 .no))] ⟨[], [], ⟨0, []⟩⟩ (topK R) := Eq.mp (by kernel_rfl) h
theorem L67_0 (slices0 : List (List Bool)) (size3 : Int) (t9 : List (List Bool)) (t10 : Int) (t11 : Int) (T : Toks) {R : V → Prop} {k0 : St → Prop}
 (h : (((decide (t11 < t10)) = true → (0 ≤ t11 ∧ t11 < ((t9).length : Int) ∧ (((decide ((IntKind.wrap .i64 (size3 + (((t9.getD (t11).toNat [])).length : Int))) < (0 : Int))) = true → False) ∧
 ((decide ((IntKind.wrap .i64 (size3 + (((t9.getD (t11).toNat [])).length : Int))) < (0 : Int))) = false → k0 (S67_0 slices0 ((IntKind.wrap .i64 (size3 + (((t9.getD (t11).toNat [])).length : Int)))) t9 t10 ((IntKind.wrap .i64 (t11 + (1 : Int)))) T))))) ∧
 ((decide (t11 < t10)) = false → (∃ p1 : List Bool, FC Try.prog 78 [.nils, (.int .i64 size3)] .bool p1 ∧ (Loops B67_2 M67_2 (Q67_2 R)
  (S67_2 0 ((p1).length) slices0 (((slices0).length : Int)) (0 : Int) p1 (fun _ => .no) 0 T)))))) :
  B67_0 (loopQ M67_0 k0 (Q67_0 R)) (S67_0 slices0 size3 t9 t10 t11 T) := Eq.mp (by kernel_rfl) h
theorem L67_2 (newslice6g : Nat) (newslice6n : Nat) (t25 : List (List Bool)) (t26 : Int) (t27 : Int) (hq0 : List Bool) (hq0s : Nat → Tok) (hq0g : Nat) (T : Toks) {R : V → Prop} {k2 : St → Prop}
 (h : (((decide (t27 < t26)) = true → (0 ≤ t27 ∧ t27 < ((t25).length : Int) ∧ (newslice6g = hq0g ∧ newslice6n ≤ (hq0).length ∧ (newslice6n + ((t25.getD (t27).toNat [])).length) * 1 ≤ room ∧ k2 (S67_2 (newslice6g + 1) ((newslice6n + ((t25.getD (t27).toNat [])).length)) t25 t26 ((IntKind.wrap .i64 (t27 + (1 : Int)))) ((hq0.take newslice6n ++ (t25.getD (t27).toNat []))) (fun _ => .no) (newslice6g + 1) T)))) ∧
 ((decide (t27 < t26)) = false → (newslice6g = hq0g ∧ 0 + newslice6n ≤ (hq0).length ∧ R (.list .bool (((hq0.drop 0).take newslice6n)) .no))))) :
  B67_2 (loopQ M67_2 k2 (Q67_2 R)) (S67_2 newslice6g newslice6n t25 t26 t27 hq0 hq0s hq0g T) := Eq.mp (by kernel_rfl) h
end Go.Proofs.Ytiomllkdfhglhaa.AB

set_option linter.unusedVariables false
set_option linter.unusedSimpArgs false
namespace Go.Proofs.Ytiomllkdfhglhaa.AB
open Go

theorem flat_take_succ {α : Type} {ls : List (List α)} {n : Nat} (h : n < ls.length) (d : List α) : (ls.take (n + 1)).flatten = (ls.take n).flatten ++ ls.getD n d := by
  rw [List.take_succ_eq_append_getElem h, List.flatten_append]
  simp [List.getD, List.getElem?_eq_getElem h]

theorem flat_take_len {α : Type} (ls : List (List α)) (n : Nat) : ((ls.take n).flatten).length ≤ ls.flatten.length := by
  conv => rhs; rw [← List.take_append_drop n ls, List.flatten_append, List.length_append]
  omega

/-- slices.Concat -/
theorem p67 (ls : List (List Bool)) (h1 : ls.length < 9223372036854775807) (h2 : ls.flatten.length ≤ 1099511627776) : PC Try.prog 67 [.list (.slice .bool) ls .no] (.list .bool ls.flatten .no) := by
  refine pcOf (X := X67) (d := 0) rfl FN67 (by kernel_rfl) (by decide) (E67 ls ?_)
  refine Loops.intro (fun n : Nat => S67_0 ls (((ls.take n).flatten).length : Nat) ls ls.length n ⟨0, []⟩) (fun n => n ≤ ls.length) (fun n => ls.length - n) 0 rfl (Nat.zero_le _) ?_
  intro n hn
  have hle := flat_take_len ls n
  refine L67_0 ls _ ls ls.length n ⟨0, []⟩ ⟨fun h => ?_, fun h => ?_⟩
  · have hlt : n < ls.length := by simpa using h
    have hle' := flat_take_len ls (n + 1)
    rw [flat_take_succ hlt [], List.length_append] at hle'
    have e : IntKind.wrap .i64 ((((ls.take n).flatten).length : Nat) + ((ls.getD (n : Int).toNat []).length : Int)) = (((ls.take (n + 1)).flatten).length : Nat) := by
      rw [flat_take_succ hlt [], List.length_append, Int.toNat_natCast]
      rw [wrap64 (by omega) (by omega)]; omega
    refine ⟨by omega, by omega, fun h => ?_, fun h => ?_⟩
    · rw [e] at h; have := of_decide_eq_true h; omega
    · rw [e, wrap64 (by omega) (by omega)]
      exact Again.mk (n + 1) rfl (by omega) (by omega)
  · have hge : n = ls.length := by
      have : ¬ ((n : Int) < ls.length) := by simpa using h
      omega
    refine ⟨[], c78 (by omega) (by omega), ?_⟩
    refine Loops.intro (fun a : Nat × Nat => S67_2 a.2 (((ls.take a.1).flatten).length) ls ls.length a.1 ((ls.take a.1).flatten) (fun _ => .no) a.2 ⟨0, []⟩) (fun a => a.1 ≤ ls.length) (fun a => ls.length - a.1) (0, 0) rfl (Nat.zero_le _) ?_
    rintro ⟨m, g⟩ hm
    refine L67_2 g _ ls ls.length m ((ls.take m).flatten) _ g ⟨0, []⟩ ⟨fun h => ?_, fun h => ?_⟩
    · have hlt : m < ls.length := by simpa using h
      have hle' := flat_take_len ls (m + 1)
      rw [flat_take_succ hlt [], List.length_append] at hle'
      refine ⟨by omega, by omega, rfl, Nat.le_refl _, by
        show ((ls.take m).flatten.length + (ls.getD ((m : Nat) : Int).toNat []).length) * 1 ≤ 140737488355328
        rw [Int.toNat_natCast]; omega, ?_⟩
      rw [wrap64 (by omega) (by omega), List.take_length, Int.toNat_natCast]
      refine Again.mk (m + 1, g + 1) ?_ (show m + 1 ≤ ls.length by omega) (show ls.length - (m + 1) < ls.length - m by omega)
      show S67_2 (g + 1) _ ls _ _ _ _ (g + 1) _ = S67_2 (g + 1) _ ls _ _ _ _ (g + 1) _
      rw [flat_take_succ hlt [], List.length_append]
      rfl
    · have hge : m = ls.length := by
        have : ¬ ((m : Int) < ls.length) := by simpa using h
        have : m ≤ ls.length := hm
        omega
      refine ⟨rfl, by rw [Nat.zero_add]; exact Nat.le_refl _, ?_⟩
      subst hge
      rw [List.drop_zero, List.take_length, List.take_length]
      exact ⟨rfl, rfl⟩

end Go.Proofs.Ytiomllkdfhglhaa.AB

set_option linter.unusedVariables false
set_option linter.unusedSimpArgs false
namespace Go.Proofs.Ytiomllkdfhglhaa.AB
open Go Go.Proofs Go.RowKit Go.Shelf

/-- the lists' slices, and the list of them, freshly written -/
theorem cc67 (Gx : Gh) (W1 : World) (hok : FzOK Gx W1) (b : Nat) (l1 l2 : List Bool) (v1 v2 : Value) (h1 : W1.cell? ⟨b, 0, none⟩ = some v1) (h2 : W1.cell? ⟨b, 1, none⟩ = some v2)
    (hv1 : VR Gx.bare (.list .bool l1 .no) v1) (hv2 : VR Gx.bare (.list .bool l2 .no) v2) (hl : l1.length + l2.length ≤ 1099511627776) :
    Calls Try.prog 67 #[.slice (some ⟨b, 0, none⟩) 2 2] W1 fun e W2 => ∃ ao cap, e = .returned (.slice ao (l1.length + l2.length) cap) ∧ W1.grownBy W2 none ∧
      (l1 ++ l2 = [] ∨ ∃ b' o, ao = some ⟨b', o, none⟩ ∧ (W1.heap.size ≤ b' ∨ b' = b ∨ ∃ o, Gx.cell b' o ≠ none) ∧ ∀ (j : Nat) x, (l1 ++ l2)[j]? = some x → W2.cell? ⟨b', o + j, none⟩ = some (.bool x)) := by
  have hone : ∀ {G : Gh} {l : List Bool} {v : Value}, VR G (.list .bool l .no) v → v.oneCell' = true := by
    intro G l v h; cases h; rfl
  obtain ⟨Gy, hGy⟩ : ∃ Gy : Gh, Gy = ⟨fun c o => if c = b then W1.cell? ⟨c, o, none⟩ else Gx.cell c o, Gx.mp, fun _ => none, fun _ _ => none⟩ := ⟨_, rfl⟩
  have hyc : ∀ c o, Gy.cell c o = if c = b then W1.cell? ⟨c, o, none⟩ else Gx.cell c o := by intro c o; rw [hGy]
  have hoky : FzOK Gy W1 := by
    refine ⟨fun c o v h => ?_, fun r es h => hok.mps r es (by rw [hGy] at h; exact h)⟩
    rw [hyc] at h
    split at h
    · exact h
    · exact hok.cells c o v h
  have hm : ∀ {x y}, VR Gx.bare x y → VR Gy.bare x y := fun h => h.mono ⟨fun c o v hc => by
    show Gy.cell c o = some v
    rw [hyc]
    split
    · exact hok.cells c o v hc
    · exact hc, fun r e h => by rw [hGy]; exact h, fun n x hx => by cases hx⟩
  have key := p67 [l1, l2] (by simp) (by simp; omega) Gy W1 #[.slice (some ⟨b, 0, none⟩) 2 2] hoky rfl (fun i x y hx hy => by
    match i, hx, hy with
    | 0, hx, hy =>
      cases hx; cases hy
      have e2 : ([l1, l2].flatMap (Cd.slice .bool).cells) = [V.list .bool l1 .no, V.list .bool l2 .no] := rfl
      refine VR.list (G := Gy.bare) (.slice .bool) [l1, l2] .no (some ⟨b, 0, none⟩) 2 b 0 (fun i => if i = 0 then v1 else v2) (fun _ => rfl) (Nat.le_refl _) (fun i x hx => ?_) (fun i x hx => ?_) (fun i x hx => ?_) trivial
      · rw [e2] at hx
        show Gy.cell b (0 + i) = _
        rw [hyc, if_pos rfl]
        match i, hx with
        | 0, hx => exact h1
        | 1, hx => exact h2
        | n + 2, hx => simp at hx
      · rw [e2] at hx
        match i, hx with
        | 0, hx => exact hone hv1
        | 1, hx => exact hone hv2
        | n + 2, hx => simp at hx
      · rw [e2] at hx
        match i, hx with
        | 0, hx => cases hx; exact hm hv1
        | 1, hx => cases hx; exact hm hv2
        | n + 2, hx => simp at hx
    | n + 1, hx, hy => simp at hx)
  refine key.2.mono ?_
  rintro e W2 ⟨v, G', rfl, hv, hok', -, hnew, hs⟩
  cases hv with
  | list _ _ _ ao cap b' o vals ha hcap hcc ho hvv ht =>
    refine ⟨ao, cap, by simp, ⟨hs.os, hs.tape, hs.output, hs.size, fun k hk _ => hs.block k (fun h => by have : W1.heap.size ≤ k := h; omega)⟩, ?_⟩
    have e3 : [l1, l2].flatten = l1 ++ l2 := by simp
    by_cases hne : l1 ++ l2 = []
    · exact .inl hne
    · have get : ∀ (j : Nat) x, (l1 ++ l2)[j]? = some x → G'.cell b' (o + j) = some (.bool x) := by
        intro j x hx
        have hq : ([l1, l2].flatten.flatMap Cd.bool.cells)[j]? = some (V.bool x) := by
          rw [e3]
          have : ∀ (l : List Bool), l.flatMap Cd.bool.cells = l.map V.bool := fun l => by induction l with
            | nil => rfl
            | cons y l ih => rw [List.flatMap_cons, ih]; rfl
          rw [this, List.getElem?_map, hx]; rfl
        have h1 := hcc j _ hq
        have h2 := hvv j _ hq
        cases hvj : vals j with
        | bool y =>
          rw [hvj] at h1 h2
          cases h2
          exact h1
        | _ => rw [hvj] at h2; cases h2
      refine .inr ⟨b', o, ha (by rw [e3]; exact hne), ?_, fun j x hx => hok'.cells _ _ _ (get j x hx)⟩
      obtain ⟨x, hx⟩ : ∃ x, (l1 ++ l2)[0]? = some x := by
        cases hL : l1 ++ l2 with
        | nil => exact absurd hL hne
        | cons x l => exact ⟨x, rfl⟩
      rcases hnew.1 _ _ _ (get 0 x hx) with h | h
      · exact .inl h
      · rw [hyc] at h
        split at h
        · rename_i e; exact .inr (.inl e)
        · exact .inr (.inr ⟨_, by rw [h]; simp⟩)

/-- cells stay, but in one block -/
def KpB (B : Nat) (W W' : World) : Prop := ∀ k o, W.heap[k]? = some o → o.isCells = true → k ≠ B → W'.heap[k]? = some o

theorem KpB.refl (B : Nat) (W : World) : KpB B W W := fun _ _ h _ _ => h
theorem KpB.trans {B : Nat} {W W1 W2 : World} (h : KpB B W W1) (k : KpB B W1 W2) : KpB B W W2 := fun i o hi hc hne => k i o (h i o hi hc hne) hc hne

theorem KpB.cell {B : Nat} {W W' : World} (h : KpB B W W') {b o : Nat} {v : Value} (hc : W.cell? ⟨b, o, none⟩ = some v) (hne : b ≠ B) : W'.cell? ⟨b, o, none⟩ = some v := by
  obtain ⟨ob, h1, h2⟩ := cells_of_cell hc
  have := h b ob h1 h2 hne
  rw [World.cell?_of_block (w := W) (a := ⟨b, o, none⟩) (by rw [h1]; exact this)]
  exact hc

/-- what has come when k rounds are over -/
def bseq (L : List Bool) (k : Nat) : List (Nat × Bool) := (List.range k).map fun j => (j, L[j]?.getD false)
theorem bseq_succ (L : List Bool) (k : Nat) : bseq L (k + 1) = bseq L k ++ [(k, L[k]?.getD false)] := by simp [bseq, List.range_succ]
theorem bseq_length (L : List Bool) (k : Nat) : (bseq L k).length = k := by simp [bseq]

set_option maxRecDepth 100000 in
set_option maxHeartbeats 2000000 in
theorem bits1 (n : Nat) (hn : 1 ≤ n) (l B pm : Nat) (l1 l2 : List Bool) (hl : l1.length + l2.length ≤ 1099511627776) (J Jx : List (Nat × Bool) → World → Prop)
    (hY : ∀ pre x W, J pre W → pre.length < (l1 ++ l2).length → x.1 = pre.length → YieldAt Fence.wide (n - 1) Try.prog l #[.int .i64 (x.1 : Int), .bool x.2] W fun e W' =>
      (e = .returned (.bool true) ∧ J (pre ++ [x]) W' ∧ KpB B W W') ∨ (e = .returned (.bool false) ∧ Jx (pre ++ [x]) W'))
    (W : World) (v1 v2 : Value) (h1 : W.cell? ⟨pm, 0, none⟩ = some v1) (h2 : W.cell? ⟨pm, 1, none⟩ = some v2)
    (Gx : Gh) (hok : FzOK Gx W) (hv1 : VR Gx.bare (.list .bool l1 .no) v1) (hv2 : VR Gx.bare (.list .bool l2 .no) v2)
    (hB : B < W.heap.size) (hBi : ∀ o, Gx.cell B o = none) (habide : AbidesFrom W.heap.size J) (h0 : J [] W) :
    CallsIn Fence.wide n Try.prog 66 #[.func (.yield l) #[] #[], .pointer (some ⟨pm, 0, none⟩)] W fun e W' => (∃ v, e = .returned v) ∧
      ((∃ ys, ys = bseq (l1 ++ l2) (l1 ++ l2).length ∧ J ys W') ∨ (∃ pre, True ∧ Jx pre W')) := by
  obtain ⟨a1, c1, rfl⟩ : ∃ a c, v1 = .slice a l1.length c := by cases hv1; exact ⟨_, _, rfl⟩
  obtain ⟨a2, c2, rfl⟩ : ∃ a c, v2 = .slice a l2.length c := by cases hv2; exact ⟨_, _, rfl⟩
  have hok1 : ∀ ob, FzOK Gx (W.alloc ob) := fun ob => ⟨fun b o v h => cell_kept (hok.cells b o v h) (World.grownBy_alloc W ob none) (fun r e => by cases e), fun r es h => by
    obtain ⟨ents, ck, q1, q2⟩ := hok.mps r es h
    exact ⟨ents, ck, by rw [heap_alloc_lt W ob (Array.getElem?_eq_some_iff.1 q1).1]; exact q1, q2⟩⟩
  have hnew : ∀ j u, (#[Value.slice a1 l1.length c1, Value.slice a2 l2.length c2] : Array Value)[j]? = some u → (W.alloc (.cells #[.slice a1 l1.length c1, .slice a2 l2.length c2] 57)).cell? ⟨W.heap.size, j, none⟩ = some u := by
    intro j u hu
    unfold World.cell?
    have := heap_new W (.cells #[.slice a1 l1.length c1, .slice a2 l2.length c2] 57)
    simp only [this]
    simpa using hu
  have hf67 : Fence.wide.fn 67 := trivial
  have hf66 : Fence.wide.fn 66 := trivial
  refine callsIn_of_wp Try.func66 rfl trivial ?_ rfl
  simp only [Try.ntmps66, List.size_toArray, List.length_cons, List.length_nil, Nat.reduceAdd, Nat.reduceSub, Array.replicate_succ, Array.replicate_zero, List.push_toArray, List.append_toArray, List.nil_append, List.cons_append]
  gi_wp2_with (gi_at_call 67; refine (callsIn_wide.2 (cc67 Gx _ (hok1 _) W.heap.size l1 l2 _ _ (hnew 0 _ rfl) (hnew 1 _ rfl) hv1 hv2 hl)).mono ?_; rintro e W2 ⟨ao, cap, rfl, hg, hcell⟩)
  have hJ2 : J [] W2 := habide [] _ _ none (habide [] W _ none h0 (World.grownBy_alloc W _ none) (fun r e => by cases e)) hg (fun r e => by cases e)
  have hll : (l1 ++ l2).length = l1.length + l2.length := List.length_append
  have hcx : ∀ (wr : World) (k : Nat), KpB B W2 wr → k < l1.length + l2.length → ∃ b' o, ao = some ⟨b', o, none⟩ ∧ wr.cell? ⟨b', o + k, none⟩ = some (.bool ((l1 ++ l2)[k]?.getD false)) := by
    intro wr k hk hlt
    rcases hcell with h | ⟨b', o, rfl, hbl, hc⟩
    · rw [h] at hll; simp at hll; omega
    · refine ⟨b', o, rfl, hk.cell ?_ ?_⟩
      · refine hc k _ ?_
        rw [List.getElem?_eq_getElem (by omega)]; rfl
      · rintro rfl
        rcases hbl with h | h | ⟨o', h⟩
        · rw [World.size_alloc] at h; omega
        · omega
        · exact h (hBi o')
  gi_loopw [12] (fun i wr => ∃ k : Nat, k ≤ l1.length + l2.length ∧ i = .int .i64 k ∧ J (bseq (l1 ++ l2) k) wr ∧ KpB B W2 wr)
    (fun i _ => l1.length + l2.length - (intOf i).toNat)
  case atStart => exact ⟨0, Nat.zero_le _, rfl, hJ2, KpB.refl _ _⟩
  case round =>
    obtain ⟨k, hk, rfl, hJs, hnx⟩ := hrel
    by_cases hlt : k < l1.length + l2.length
    · obtain ⟨b', o, rfl, hcx0⟩ := hcx wr k hnx hlt
      obtain ⟨x, hcx', hbs⟩ : ∃ x, wr.cell? ⟨b', o + k, none⟩ = some (.bool x) ∧ bseq (l1 ++ l2) (k + 1) = bseq (l1 ++ l2) k ++ [(k, x)] := ⟨_, hcx0, bseq_succ _ _⟩
      clear hcx0
      obtain ⟨fn, tmps, assign, body, hy, hR⟩ := hY _ (k, x) wr hJs (by rw [bseq_length]; omega) (by rw [bseq_length])
      dsimp only at hy
      gi_wp2
      refine hR.mono ?_
      rintro e W3 (⟨rfl, hJ3, hk3⟩ | ⟨rfl, hJx3⟩)
      · gi_wp2
        go_roundw
        case rel => exact ⟨k + 1, by omega, by simp, by rw [hbs]; exact hJ3, hnx.trans hk3⟩
        case measure => simp [intOf]; omega
      · gi_wp2
        refine bodyPost_ret (results_none rfl _ _ _) rfl ?_
        exact ⟨⟨_, rfl⟩, .inr ⟨_, trivial, hJx3⟩⟩
    · obtain rfl : k = l1.length + l2.length := by omega
      gi_wp2
      go_end0
      exact ⟨⟨_, rfl⟩, .inl ⟨_, by rw [hll], hJs⟩⟩

/-- a number below a bound -/
def clampN (N i : Nat) : Nat := min i (N - 1)

/-- (refmap.Map).bits hands back a value that tells all bits -/
theorem bits_stops (n : Nat) (hn : 1 ≤ n) (B pm : Nat) (l1 l2 : List Bool) (hl : l1.length + l2.length ≤ 1099511627776)
    (w : World) (v1 v2 : Value) (h1 : w.cell? ⟨pm, 0, none⟩ = some v1) (h2 : w.cell? ⟨pm, 1, none⟩ = some v2) (hpm : pm < w.heap.size)
    (Gx : Gh) (hok : FzOK Gx w) (hv1 : VR Gx.bare (.list .bool l1 .no) v1) (hv2 : VR Gx.bare (.list .bool l2 .no) v2) (hB : B < w.heap.size) (hBi : ∀ o, Gx.cell B o = none) :
    SeqStopsK Fence.wide n Try.prog 66 #[.pointer (some ⟨pm, 0, none⟩)] (fun x : Nat × Bool => #[Value.int .i64 ((clampN (l1 ++ l2).length x.1 : Nat) : Int), Value.bool x.2]) (KpB B)
      (fun ys => ys = bseq (l1 ++ l2) (l1 ++ l2).length) (fun _ => True) (l1 ++ l2).length w := fun l J Jx W hW hJ _ hY h0 => by
  have hokW : FzOK Gx W := by
    refine ⟨fun b o v h => ?_, fun r es h => ?_⟩
    · have hc := hok.cells b o v h
      obtain ⟨ob, q1, _⟩ := cells_of_cell hc
      exact (hW.cell (p := ⟨b, o, none⟩) (Array.getElem?_eq_some_iff.1 q1).1).trans hc
    · obtain ⟨ents, ck, q1, q2⟩ := hok.mps r es h
      exact ⟨ents, ck, (hW.block r (Array.getElem?_eq_some_iff.1 q1).1).trans q1, q2⟩
  refine (bits1 n hn l B pm l1 l2 hl J Jx (fun pre x W1 hj hlen hx => ?_) W v1 v2 ((hW.cell (p := ⟨pm, 0, none⟩) hpm).trans h1) ((hW.cell (p := ⟨pm, 1, none⟩) hpm).trans h2) Gx hokW hv1 hv2 (Nat.lt_of_lt_of_le hB hW.size) hBi hJ h0).mono ?_
  · have := hY pre x W1 hj hlen
    dsimp only at this
    have e : clampN (l1 ++ l2).length x.1 = x.1 := by unfold clampN; omega
    rw [e] at this
    exact this
  · rintro e W' ⟨hv, ⟨ys, rfl, hj⟩ | ⟨pre, _, hj⟩⟩
    · exact ⟨hv, .inl ⟨_, rfl, hj⟩⟩
    · exact ⟨hv, .inr ⟨pre, trivial, hj⟩⟩

end Go.Proofs.Ytiomllkdfhglhaa.AB

set_option linter.unusedVariables false
namespace Go.Proofs.Ytiomllkdfhglhaa.AB
open Go

/-- two bytes, or'ed -/
def or8 (a b : Int) : Int := IntKind.wrap .u8 (BitVec.ofInt 8 a ||| BitVec.ofInt 8 b).toNat

/-- one bit is set, if it is to be -/
def orBit (l : List Int) (at' i : Nat) (b : Bool) : List Int :=
  match b with
  | true => l.set (at' + i / 8) (or8 (l.getD (at' + i / 8) 0) ((128 : Int) / 2 ^ (i % 8)))
  | false => l

/-- bits are set, from one on -/
def orBits (at' : Nat) : Nat → List Int → List Bool → List Int
  | _, l, [] => l
  | i, l, b :: r => orBits at' (i + 1) (orBit l at' i b) r

/-- what the range over a map's bits comes to, in refmap.Pack -/
def rf18 : RfP := fun b s K =>
  match b, s.tm.getD 59 tu, s.tm.getD 4 tu, s.tm.getD 7 tu with
  | 2, .clo 66 [.ptr i 0 0 0], .ptr ib 0 0 0, .ptr ic 0 0 0 => match s.hp.getD i none, s.hp.getD ib none, s.hp.getD ic none with
    | some (.box (.v (.agg [.list .bool l1 .no, .list .bool l2 .no]))), some (.box (.arr ia g 0 len)), some (.box (.v (.int .i64 p))) => match s.hp.getD ia none with
      | some (.arr g' (.int .u8) l ts) => match Nat.beq s.tm.length 78 with
        | true => g = g' ∧ len ≤ l.length ∧ 0 ≤ p ∧ p.toNat + (l1.length + l2.length + 7) / 8 ≤ len ∧ l1.length + l2.length ≤ 4294967296 ∧ len ≤ 281474976710656 ∧ 0 < len ∧
        K (s.setO ia (.arr g' (.int .u8) (orBits p.toNat 0 l (l1 ++ l2)) (fun _ => .no)))
        | false => False
      | _ => False
    | _, _, _ => False
  | _, _, _, _ => False

end Go.Proofs.Ytiomllkdfhglhaa.AB

set_option linter.unusedVariables false
set_option linter.unusedSimpArgs false
set_option maxRecDepth 100000
set_option maxHeartbeats 2000000
namespace Go.Proofs.Ytiomllkdfhglhaa.AB
open Go
/-! crucible/refmap.Pack -/
noncomputable def X18 : Cx := ⟨tt, [(46, [.cd (.int .i64)])], [], [(18, [(3, 7, .lend), (12, 1, .inl)])], [(18, [(0, mkM 78 0 [4, 21, 22, 23], 2)])], [(47, Try.f47)]⟩
theorem FN18 : fnsB Try.prog X18.fns := (show (Try.prog.funcs[47]? = some Try.f47 ∧ Try.f47.name ≠ "runtime.NumGoroutine" ∧ True) from ⟨by kernel_rfl, by decide, trivial⟩)
def M18_0 : List Bool × Nat := (mkM 78 0 [4, 21, 22, 23], 2)
def S18_0 (t21 : List ((List Bool) × (List Bool))) (t22 : Int) (t23 : Int) (hq0 : List Int) (hq0s : Nat → Tok) (hq0g : Nat) (hq1g : Nat) (hq1n : Nat) (T : Toks) : St :=
  mkS 78 [(4, (.ptr 1 0 0 0)), (21, (.v (.list (.pair (.slice .bool) (.slice .bool)) t21 .no))), (22, (.v (.int .i64 t22))), (23, (.v (.int .i64 t23)))] [(some (.arr hq0g (.int .u8) hq0 hq0s)), (some (.box (.arr 0 hq1g 0 hq1n)))] T
noncomputable def B18_0 : (Exit → St → Prop) → St → Prop := (awpR rf18 X18.tt (callN Try.prog X18 1) (X18.md 18) 0 (X18.mk1 18) 0 (codeAt [1, 1, 1, 0, 1, 0, 0] (bd Try.f18)))
noncomputable def K18_0 (R : V → Prop) : Exit → St → Prop := seqK ((awpR rf18 X18.tt (callN Try.prog X18 1) (X18.md 18) 0 (X18.mk1 18) 0 (codeAt [1, 1, 1, 1] (bd Try.f18))) (retK tt Try.f18.results.toList fun x s' => topK R x ⟨[], s'.hp, s'.T⟩)) (retK tt Try.f18.results.toList fun x s' => topK R x ⟨[], s'.hp, s'.T⟩)
noncomputable def Q18_0 (R : V → Prop) : Exit → St → Prop := (blockK 0 (K18_0 R))
theorem E18 (l0 : (List ((List Bool) × (List Bool)))) {R : V → Prop} (h : (((decide (((l0).length : Int) > (4096 : Int))) = true → R (.tup [(.str ([] : List UInt8)), (.int .i64 (3 : Int))])) ∧
 ((decide (((l0).length : Int) > (4096 : Int))) = false → (0 ≤ (8 : Int) ∧ (Loops B18_0 M18_0 (Q18_0 R)
  (S18_0 l0 (((l0).length : Int)) (0 : Int) (([(IntKind.wrap .u8 (Int.fdiv ((l0).length : Int) (2 ^ min ((8 : Int)).toNat (IntKind.bits .i64)))), (IntKind.wrap .u8 ((l0).length : Int))] : List Int)) (fun _ => .no) 0 0 2 ⟨0, []⟩)))))) :
  fnKR rf18 X18.tt (callN Try.prog X18 1) (X18.md 18) (X18.mk1 18) Try.f18 [(.v (.list (.pair (.slice .bool) (.slice .bool)) l0 .no))] ⟨[], [], ⟨0, []⟩⟩ (topK R) := Eq.mp (by kernel_rfl) h
theorem L18_0 (t21 : List ((List Bool) × (List Bool))) (t22 : Int) (t23 : Int) (hq0 : List Int) (hq0s : Nat → Tok) (hq0g : Nat) (hq1g : Nat) (hq1n : Nat) (T : Toks) {R : V → Prop} {k0 : St → Prop}
 (h : (((decide (t23 < t22)) = true → (0 ≤ t23 ∧ t23 < ((t21).length : Int) ∧ (((decide ((if (((t21.getD (t23).toNat ([], [])).2).length : Int) > (((t21.getD (t23).toNat ([], [])).1).length : Int) then (((t21.getD (t23).toNat ([], [])).2).length : Int) else (((t21.getD (t23).toNat ([], [])).1).length : Int)) > (64 : Int))) = true → R (.tup [(.str ([] : List UInt8)), (.int .i64 (2 : Int))])) ∧
 ((decide ((if (((t21.getD (t23).toNat ([], [])).2).length : Int) > (((t21.getD (t23).toNat ([], [])).1).length : Int) then (((t21.getD (t23).toNat ([], [])).2).length : Int) else (((t21.getD (t23).toNat ([], [])).1).length : Int)) > (64 : Int))) = false → (hq1g = hq0g ∧ hq1n ≤ (hq0).length ∧ (hq1n + (([(IntKind.wrap .u8 (((t21.getD (t23).toNat ([], [])).1).length : Int)), (IntKind.wrap .u8 (((t21.getD (t23).toNat ([], [])).2).length : Int))] : List Int)).length) * 1 ≤ room ∧ (∃ p1 : Int, PC Try.prog 46 [(.int .i64 ((IntKind.wrap .i64 ((((t21.getD (t23).toNat ([], [])).1).length : Int) + (((t21.getD (t23).toNat ([], [])).2).length : Int)))))] (.int .i64 p1) ∧ (0 ≤ p1 ∧ (hq1g + 1) = (hq1g + 1) ∧ (hq1n + (([(IntKind.wrap .u8 (((t21.getD (t23).toNat ([], [])).1).length : Int)), (IntKind.wrap .u8 (((t21.getD (t23).toNat ([], [])).2).length : Int))] : List Int)).length) ≤ ((hq0.take hq1n ++ ([(IntKind.wrap .u8 (((t21.getD (t23).toNat ([], [])).1).length : Int)), (IntKind.wrap .u8 (((t21.getD (t23).toNat ([], [])).2).length : Int))] : List Int))).length ∧ ((hq1n + (([(IntKind.wrap .u8 (((t21.getD (t23).toNat ([], [])).1).length : Int)), (IntKind.wrap .u8 (((t21.getD (t23).toNat ([], [])).2).length : Int))] : List Int)).length) + (p1).toNat) * 1 ≤ room ∧ (((hq1g + 1) + 1) = ((hq1g + 1) + 1) ∧ ((hq1n + (([(IntKind.wrap .u8 (((t21.getD (t23).toNat ([], [])).1).length : Int)), (IntKind.wrap .u8 (((t21.getD (t23).toNat ([], [])).2).length : Int))] : List Int)).length) + (p1).toNat) ≤ ((((hq0.take hq1n ++ ([(IntKind.wrap .u8 (((t21.getD (t23).toNat ([], [])).1).length : Int)), (IntKind.wrap .u8 (((t21.getD (t23).toNat ([], [])).2).length : Int))] : List Int))).take ((hq1n + (([(IntKind.wrap .u8 (((t21.getD (t23).toNat ([], [])).1).length : Int)), (IntKind.wrap .u8 (((t21.getD (t23).toNat ([], [])).2).length : Int))] : List Int)).length)) ++ List.replicate (p1).toNat 0)).length ∧ 0 ≤ (((hq1n + (([(IntKind.wrap .u8 (((t21.getD (t23).toNat ([], [])).1).length : Int)), (IntKind.wrap .u8 (((t21.getD (t23).toNat ([], [])).2).length : Int))] : List Int)).length) : Nat) : Int) ∧ ((((hq1n + (([(IntKind.wrap .u8 (((t21.getD (t23).toNat ([], [])).1).length : Int)), (IntKind.wrap .u8 (((t21.getD (t23).toNat ([], [])).2).length : Int))] : List Int)).length) : Nat) : Int)).toNat + (((t21.getD (t23).toNat ([], [])).1).length + ((t21.getD (t23).toNat ([], [])).2).length + 7) / 8 ≤ ((hq1n + (([(IntKind.wrap .u8 (((t21.getD (t23).toNat ([], [])).1).length : Int)), (IntKind.wrap .u8 (((t21.getD (t23).toNat ([], [])).2).length : Int))] : List Int)).length) + (p1).toNat) ∧ ((t21.getD (t23).toNat ([], [])).1).length + ((t21.getD (t23).toNat ([], [])).2).length ≤ 4294967296 ∧ ((hq1n + (([(IntKind.wrap .u8 (((t21.getD (t23).toNat ([], [])).1).length : Int)), (IntKind.wrap .u8 (((t21.getD (t23).toNat ([], [])).2).length : Int))] : List Int)).length) + (p1).toNat) ≤ 281474976710656 ∧ 0 < ((hq1n + (([(IntKind.wrap .u8 (((t21.getD (t23).toNat ([], [])).1).length : Int)), (IntKind.wrap .u8 (((t21.getD (t23).toNat ([], [])).2).length : Int))] : List Int)).length) + (p1).toNat) ∧ k0 (S18_0 t21 t22 ((IntKind.wrap .i64 (t23 + (1 : Int)))) ((orBits ((((hq1n + (([(IntKind.wrap .u8 (((t21.getD (t23).toNat ([], [])).1).length : Int)), (IntKind.wrap .u8 (((t21.getD (t23).toNat ([], [])).2).length : Int))] : List Int)).length) : Nat) : Int)).toNat 0 ((((hq0.take hq1n ++ ([(IntKind.wrap .u8 (((t21.getD (t23).toNat ([], [])).1).length : Int)), (IntKind.wrap .u8 (((t21.getD (t23).toNat ([], [])).2).length : Int))] : List Int))).take ((hq1n + (([(IntKind.wrap .u8 (((t21.getD (t23).toNat ([], [])).1).length : Int)), (IntKind.wrap .u8 (((t21.getD (t23).toNat ([], [])).2).length : Int))] : List Int)).length)) ++ List.replicate (p1).toNat 0)) (((t21.getD (t23).toNat ([], [])).1) ++ ((t21.getD (t23).toNat ([], [])).2)))) (fun _ => .no) (((hq1g + 1) + 1)) (((hq1g + 1) + 1)) (((hq1n + (([(IntKind.wrap .u8 (((t21.getD (t23).toNat ([], [])).1).length : Int)), (IntKind.wrap .u8 (((t21.getD (t23).toNat ([], [])).2).length : Int))] : List Int)).length) + (p1).toNat)) T))))))))) ∧
 ((decide (t23 < t22)) = false → (hq1g = hq0g ∧ hq1n ≤ (hq0).length ∧ R (.tup [(.str ((ofBytes (hq0.take hq1n)))), (.int .i64 (0 : Int))]))))) :
  B18_0 (loopQ M18_0 k0 (Q18_0 R)) (S18_0 t21 t22 t23 hq0 hq0s hq0g hq1g hq1n T) := Eq.mp (by kernel_rfl) h
end Go.Proofs.Ytiomllkdfhglhaa.AB

set_option linter.unusedVariables false
set_option linter.unusedSimpArgs false
namespace Go.Proofs.Ytiomllkdfhglhaa.AB
open Go Go.Proofs Go.RowKit Go.Shelf

attribute [local go_sem] Oper.semAt_some

def rfCode (c : Code) : Operand × Array Tmp × Code × Code :=
  match c with
  | .rangeFunc g ps a b => (g, ps, a, b)
  | _ => (.tmp 0, #[], .skip, .skip)

set_option maxRecDepth 100000 in
set_option maxHeartbeats 4000000 in
theorem body18 (l n : Nat) (u0 u1 u2 u3 u5 u6 u10 u11 u12 u13 u14 u15 u16 u17 u18 u19 u20 u21 u22 u23 u24 u25 u26 u27 u28 u29 u30 u31 u32 u33 u34 u35 u36 u37 u38 u39 u40 u41 u42 u43 u44 u45 u46 u47 u48 u49 u50 u51 u52 u53 u54 u55 u56 u57 u58 u59 u62 u63 u64 u65 u66 u67 u68 u69 u70 u71 u72 u73 u74 u75 u76 u77 : Value) (i : Nat) (bit : Bool) (bb bc B len cap p q r : Nat) (v : Int) (W : World) (Q : Exit → Act → World → Prop)
    (hbb : W.cell? ⟨bb, 0, none⟩ = some (.slice (some ⟨B, 0, none⟩) len cap)) (hbc : W.cell? ⟨bc, 0, none⟩ = some (.int .i64 p)) (hv : W.cell? ⟨B, p + q, none⟩ = some (.int .u8 v))
    (hfr : W.frozen? ⟨B, p + q, none⟩ = false) (hi : i ≤ 4294967296) (hp : p ≤ 281474976710656) (hlen : p + i / 8 < len) (hq8 : Int.tdiv (i : Int) 8 = q) (hr8 : Int.tmod (i : Int) 8 = r) (hwq : RowKit.wrap64 (q : Int) = q) (hwp : RowKit.wrap64 ((p : Int) + (q : Int)) = (p : Int) + (q : Int)) (hlt : (p : Int) + (q : Int) < (len : Int)) (hge : (0 : Int) ≤ (p : Int) + (q : Int)) (htn : ((p : Int) + (q : Int)).toNat = p + q) (hnn : ¬ ((r : Int) < 0)) (hwq2 : IntKind.i64.wrap (q : Int) = q) (hwp2 : IntKind.i64.wrap ((p : Int) + (q : Int)) = (p : Int) + (q : Int))
    (hQ : ¬ LetsOut Q) (hq1 : bit = true → ∀ a', Q .normal a' (W.setCell ⟨B, p + q, none⟩ (.int .u8 (bits .or .u8 v (128 / 2 ^ min r 8)))).drew) (hq2 : bit = false → ∀ a', Q .normal a' W) :
    (rfCode (codeAt [1, 1, 1, 0, 1, 0, 0, 1, 1, 0, 0, 1, 1, 1, 1, 1, 1, 0] (bd Try.f18))).2.2.2.wpIn (Fence.wide.inRound l) n Try.prog Q
      { tmps := #[u0, u1, u2, u3, .pointer (some ⟨bb, 0, none⟩), u5, u6, .pointer (some ⟨bc, 0, none⟩), .int .i64 i, .bool bit, u10, u11, u12, u13, u14, u15, u16, u17, u18, u19, u20, u21, u22, u23, u24, u25, u26, u27, u28, u29, u30, u31, u32, u33, u34, u35, u36, u37, u38, u39, u40, u41, u42, u43, u44, u45, u46, u47, u48, u49, u50, u51, u52, u53, u54, u55, u56, u57, u58, u59, .int .i64 i, .bool bit, u62, u63, u64, u65, u66, u67, u68, u69, u70, u71, u72, u73, u74, u75, u76, u77], defers := [] } W := by
  simp only [codeAt, bd, Try.f18, rfCode]
  have hmx : Try.prog.follows .mixedOrders = true := mix
  gi_wp2
  · refine wpIn_still_tail 12 hmx (by kernel_rfl) (by kernel_rfl) ?_ ?_
    · rintro ⟨a, w, h⟩; exact hQ ⟨a, w, h⟩
    simp only [List.take_succ_cons, List.take_zero, List.drop_succ_cons, List.drop_zero]
    repeat still_step
    try refine wpStill_nil ?_
    go_wp2
    exact hq1 (by assumption) _

theorem lit78 (t : Array Value) (h : t.size = 78) : ∃ u0 u1 u2 u3 u4 u5 u6 u7 u8 u9 u10 u11 u12 u13 u14 u15 u16 u17 u18 u19 u20 u21 u22 u23 u24 u25 u26 u27 u28 u29 u30 u31 u32 u33 u34 u35 u36 u37 u38 u39 u40 u41 u42 u43 u44 u45 u46 u47 u48 u49 u50 u51 u52 u53 u54 u55 u56 u57 u58 u59 u60 u61 u62 u63 u64 u65 u66 u67 u68 u69 u70 u71 u72 u73 u74 u75 u76 u77, t = #[u0, u1, u2, u3, u4, u5, u6, u7, u8, u9, u10, u11, u12, u13, u14, u15, u16, u17, u18, u19, u20, u21, u22, u23, u24, u25, u26, u27, u28, u29, u30, u31, u32, u33, u34, u35, u36, u37, u38, u39, u40, u41, u42, u43, u44, u45, u46, u47, u48, u49, u50, u51, u52, u53, u54, u55, u56, u57, u58, u59, u60, u61, u62, u63, u64, u65, u66, u67, u68, u69, u70, u71, u72, u73, u74, u75, u76, u77] := by
  have e : t = ((List.range 78).map fun i => t.getD i Go.undef).toArray := by
    apply Array.ext
    · simp [h]
    · intro i h1 h2
      simp [h1]
  exact ⟨t.getD 0 Go.undef, t.getD 1 Go.undef, t.getD 2 Go.undef, t.getD 3 Go.undef, t.getD 4 Go.undef, t.getD 5 Go.undef, t.getD 6 Go.undef, t.getD 7 Go.undef, t.getD 8 Go.undef, t.getD 9 Go.undef, t.getD 10 Go.undef, t.getD 11 Go.undef, t.getD 12 Go.undef, t.getD 13 Go.undef, t.getD 14 Go.undef, t.getD 15 Go.undef, t.getD 16 Go.undef, t.getD 17 Go.undef, t.getD 18 Go.undef, t.getD 19 Go.undef, t.getD 20 Go.undef, t.getD 21 Go.undef, t.getD 22 Go.undef, t.getD 23 Go.undef, t.getD 24 Go.undef, t.getD 25 Go.undef, t.getD 26 Go.undef, t.getD 27 Go.undef, t.getD 28 Go.undef, t.getD 29 Go.undef, t.getD 30 Go.undef, t.getD 31 Go.undef, t.getD 32 Go.undef, t.getD 33 Go.undef, t.getD 34 Go.undef, t.getD 35 Go.undef, t.getD 36 Go.undef, t.getD 37 Go.undef, t.getD 38 Go.undef, t.getD 39 Go.undef, t.getD 40 Go.undef, t.getD 41 Go.undef, t.getD 42 Go.undef, t.getD 43 Go.undef, t.getD 44 Go.undef, t.getD 45 Go.undef, t.getD 46 Go.undef, t.getD 47 Go.undef, t.getD 48 Go.undef, t.getD 49 Go.undef, t.getD 50 Go.undef, t.getD 51 Go.undef, t.getD 52 Go.undef, t.getD 53 Go.undef, t.getD 54 Go.undef, t.getD 55 Go.undef, t.getD 56 Go.undef, t.getD 57 Go.undef, t.getD 58 Go.undef, t.getD 59 Go.undef, t.getD 60 Go.undef, t.getD 61 Go.undef, t.getD 62 Go.undef, t.getD 63 Go.undef, t.getD 64 Go.undef, t.getD 65 Go.undef, t.getD 66 Go.undef, t.getD 67 Go.undef, t.getD 68 Go.undef, t.getD 69 Go.undef, t.getD 70 Go.undef, t.getD 71 Go.undef, t.getD 72 Go.undef, t.getD 73 Go.undef, t.getD 74 Go.undef, t.getD 75 Go.undef, t.getD 76 Go.undef, t.getD 77 Go.undef, Eq.trans e (by kernel_rfl)⟩

end Go.Proofs.Ytiomllkdfhglhaa.AB

set_option linter.unusedVariables false
set_option linter.unusedSimpArgs false
namespace Go.Proofs.Ytiomllkdfhglhaa.AB
open Go Go.Proofs Go.RowKit Go.Shelf

attribute [local go_sem] Oper.semAt_some

theorem rf18_un {s : St} {K : St → Prop} (h : rf18 2 s K) : ∃ (i ib ic ia g len : Nat) (l1 l2 : List Bool) (p : Int) (l : List Int) (ts : Nat → Tok),
    s.tm.getD 59 tu = .clo 66 [.ptr i 0 0 0] ∧ s.tm.getD 4 tu = .ptr ib 0 0 0 ∧ s.tm.getD 7 tu = .ptr ic 0 0 0 ∧ s.hp.getD i none = some (.box (.v (.agg [.list .bool l1 .no, .list .bool l2 .no]))) ∧
    s.hp.getD ib none = some (.box (.arr ia g 0 len)) ∧ s.hp.getD ic none = some (.box (.v (.int .i64 p))) ∧ s.hp.getD ia none = some (.arr g (.int .u8) l ts) ∧ s.tm.length = 78 ∧ len ≤ l.length ∧ 0 ≤ p ∧
    p.toNat + (l1.length + l2.length + 7) / 8 ≤ len ∧ l1.length + l2.length ≤ 4294967296 ∧ len ≤ 281474976710656 ∧ 0 < len ∧ K (s.setO ia (.arr g (.int .u8) (orBits p.toNat 0 l (l1 ++ l2)) (fun _ => .no))) := by
  simp only [rf18] at h
  split at h
  case h_2 => exact h.elim
  rename_i i ib ic e2 h59 h4 h7
  split at h
  case h_2 => exact h.elim
  rename_i l1 l2 ia g len p hi hib hic
  split at h
  case h_2 => exact h.elim
  rename_i g' l ts hia
  split at h
  case h_2 => exact h.elim
  rename_i hlen
  obtain ⟨rfl, k1, k2, k3, k4, k5, k6, k7⟩ := h
  exact ⟨i, ib, ic, ia, g, len, l1, l2, p, l, ts, h59, h4, h7, hi, hib, hic, hia, Nat.eq_of_beq_eq_true hlen, k1, k2, k3, k4, k5, k6, k7⟩

/-- the bytes when so much has come -/
def foldB (p N : Nat) (l : List Int) (pre : List (Nat × Bool)) : List Int := pre.foldl (fun l x => orBit l p (clampN N x.1) x.2) l

theorem orBit_length (l : List Int) (p i : Nat) (b : Bool) : (orBit l p i b).length = l.length := by
  unfold orBit; split <;> simp

theorem foldB_length (p N : Nat) : ∀ (pre : List (Nat × Bool)) (l : List Int), (foldB p N l pre).length = l.length
  | [], l => rfl
  | x :: pre, l => by
    show (foldB p N (orBit l p (clampN N x.1) x.2) pre).length = _
    rw [foldB_length p N pre, orBit_length]

theorem foldB_snoc (p N : Nat) (l : List Int) (pre : List (Nat × Bool)) (x : Nat × Bool) : foldB p N l (pre ++ [x]) = orBit (foldB p N l pre) p (clampN N x.1) x.2 := by simp [foldB]

theorem foldB_all (p : Nat) (L : List Bool) (l : List Int) : foldB p L.length l (bseq L L.length) = orBits p 0 l L := by
  have gen : ∀ (r : List Bool) (k : Nat) (l : List Int), k + r.length = L.length → (∀ j, r[j]? = L[k + j]?) →
      foldB p L.length l ((List.range' k r.length).map fun j => (j, L[j]?.getD false)) = orBits p k l r := by
    intro r
    induction r with
    | nil => intro k l _ _; rfl
    | cons b r ih =>
      intro k l hk hr
      simp only [List.length_cons] at hk
      have h0 : L[k]? = some b := by have := hr 0; simpa using this.symm
      simp only [List.length_cons, List.range'_succ, List.map_cons, h0, Option.getD_some]
      show foldB p L.length (orBit l p (clampN L.length k) b) _ = orBits p (k + 1) (orBit l p k b) r
      have e : clampN L.length k = k := by unfold clampN; omega
      rw [e]
      exact ih (k + 1) _ (by omega) (fun j => by have := hr (j + 1); simpa [Nat.add_assoc, Nat.add_comm 1 j] using this)
  have := gen L 0 l (by omega) (fun j => by rw [Nat.zero_add])
  rw [← this]
  unfold bseq
  rw [List.range_eq_range']

theorem rfcode_eq : codeAt [1, 1, 1, 0, 1, 0, 0, 1, 1, 0, 0, 1, 1, 1, 1, 1, 1, 0] (bd Try.f18) = .rangeFunc (.tmp 59) #[60, 61] (rfCode (codeAt [1, 1, 1, 0, 1, 0, 0, 1, 1, 0, 0, 1, 1, 1, 1, 1, 1, 0] (bd Try.f18))).2.2.1 (rfCode (codeAt [1, 1, 1, 0, 1, 0, 0, 1, 1, 0, 0, 1, 1, 1, 1, 1, 1, 0] (bd Try.f18))).2.2.2 := by kernel_rfl

set_option maxRecDepth 100000 in
set_option maxHeartbeats 4000000 in
theorem assign18 (l n : Nat) (t0 t1 t2 t3 t4 t5 t6 t7 t8 t9 t10 t11 t12 t13 t14 t15 t16 t17 t18 t19 t20 t21 t22 t23 t24 t25 t26 t27 t28 t29 t30 t31 t32 t33 t34 t35 t36 t37 t38 t39 t40 t41 t42 t43 t44 t45 t46 t47 t48 t49 t50 t51 t52 t53 t54 t55 t56 t57 t58 t59 t62 t63 t64 t65 t66 t67 t68 t69 t70 t71 t72 t73 t74 t75 t76 t77 : Value) (i0 b0 : Value) (W : World) (K : Act → World → Prop)
    (h : K { tmps := #[t0, t1, t2, t3, t4, t5, t6, t7, i0, b0, t10, t11, t12, t13, t14, t15, t16, t17, t18, t19, t20, t21, t22, t23, t24, t25, t26, t27, t28, t29, t30, t31, t32, t33, t34, t35, t36, t37, t38, t39, t40, t41, t42, t43, t44, t45, t46, t47, t48, t49, t50, t51, t52, t53, t54, t55, t56, t57, t58, t59, i0, b0, t62, t63, t64, t65, t66, t67, t68, t69, t70, t71, t72, t73, t74, t75, t76, t77], defers := [] } W) :
    (rfCode (codeAt [1, 1, 1, 0, 1, 0, 0, 1, 1, 0, 0, 1, 1, 1, 1, 1, 1, 0] (bd Try.f18))).2.2.1.wpIn (Fence.wide.inRound l) n Try.prog (Exit.then K (fun _ _ _ => False)) { tmps := #[t0, t1, t2, t3, t4, t5, t6, t7, t8, t9, t10, t11, t12, t13, t14, t15, t16, t17, t18, t19, t20, t21, t22, t23, t24, t25, t26, t27, t28, t29, t30, t31, t32, t33, t34, t35, t36, t37, t38, t39, t40, t41, t42, t43, t44, t45, t46, t47, t48, t49, t50, t51, t52, t53, t54, t55, t56, t57, t58, t59, i0, b0, t62, t63, t64, t65, t66, t67, t68, t69, t70, t71, t72, t73, t74, t75, t76, t77], defers := [] } W := by
  simp only [codeAt, bd, Try.f18, rfCode]
  gi_wp2
  exact h

end Go.Proofs.Ytiomllkdfhglhaa.AB

set_option linter.unusedVariables false
set_option linter.unusedSimpArgs false
namespace Go.Proofs.Ytiomllkdfhglhaa.AB
open Go Go.Proofs Go.RowKit Go.Shelf

theorem setCell_row {W : World} {B o : Nat} {cur : Array Value} {el : TypeId} (hb : W.heap[B]? = some (.cells cur el (0, 0))) (v : Value) :
    (W.setCell ⟨B, o, none⟩ v).heap[B]? = some (.cells (cur.setIfInBounds o v) el (0, 0)) := by
  have hlt := (Array.getElem?_eq_some_iff.1 hb).1
  show (W.heap.modify B _)[B]? = _
  rw [Array.getElem?_modify, if_pos rfl, hb]
  rfl

theorem tdiv8 (j : Nat) : Int.tdiv (j : Int) 8 = ((j / 8 : Nat) : Int) := by
  rw [Int.tdiv_eq_ediv_of_nonneg (by omega)]; omega

theorem tmod8 (j : Nat) : Int.tmod (j : Int) 8 = ((j % 8 : Nat) : Int) := by
  rw [Int.tmod_eq_emod_of_nonneg (by omega)]; omega

theorem or8_bits (v : Int) (r : Nat) (hr : r < 8) : bits .or .u8 v (128 / 2 ^ min r 8) = or8 v ((128 : Int) / 2 ^ r) := by
  rw [Nat.min_eq_left (by omega)]
  rfl

set_option maxRecDepth 100000 in
set_option maxHeartbeats 8000000 in
theorem rf18_ok : RfOK Try.prog rf18 2 (codeAt [1, 1, 1, 0, 1, 0, 0, 1, 1, 0, 0, 1, 1, 1, 1, 1, 1, 0] (bd Try.f18)) := by
  intro Mine G s a w h0 K hrf hr hm hh
  obtain ⟨i, ib, ic, ia, g, len, l1, l2, p, l, ts, h59, h4, h7, hi, hib, hic, hia, hlen78, hlen, hp0, hbound, hsum, hlen48, hpos, hK⟩ := rf18_un hrf
  obtain ⟨P, rfl⟩ : ∃ P : Nat, p = P := ⟨p.toNat, (Int.toNat_of_nonneg hp0).symm⟩
  rw [Int.toNat_natCast] at hbound hK
  have hi := hp_get hi
  have hib := hp_get hib
  have hic := hp_get hic
  have hia := hp_get hia
  -- the objects
  obtain ⟨bm, szm, ctm, hlm, hMm, hpm, curm, elm, hbm, hszm, hcm⟩ := hr.inv.objs i _ hi
  obtain ⟨bb, szb, ctb, hlb, hMb, hpb, curb, elb, hbb, hszb, hcb⟩ := hr.inv.objs ib _ hib
  obtain ⟨bc, szc, ctc, hlc, hMc, hpc, curc, elc, hbc, hszc, hcc⟩ := hr.inv.objs ic _ hic
  obtain ⟨bo, ct, hla, hle, hbo⟩ := hr.inv.objs ia _ hia
  have cellOf : ∀ {b : Nat} {cur : Array Value} {el : TypeId} {o : Nat} {v : Value}, w.heap[b]? = some (.cells cur el (0, 0)) → cur[o]? = some v → w.cell? ⟨b, o, none⟩ = some v := by
    intro b cur el o v hb hv
    unfold World.cell?
    simp only [hb]
    simpa using hv
  -- the slots
  have v59 := hr.at' h59
  have v4 := hr.at' h4
  have v7 := hr.at' h7
  obtain ⟨t0, t1, t2, t3, t4, t5, t6, t7, t8, t9, t10, t11, t12, t13, t14, t15, t16, t17, t18, t19, t20, t21, t22, t23, t24, t25, t26, t27, t28, t29, t30, t31, t32, t33, t34, t35, t36, t37, t38, t39, t40, t41, t42, t43, t44, t45, t46, t47, t48, t49, t50, t51, t52, t53, t54, t55, t56, t57, t58, t59, t60, t61, t62, t63, t64, t65, t66, t67, t68, t69, t70, t71, t72, t73, t74, t75, t76, t77, ha⟩ := lit78 a.tmps (by rw [← hr.len]; exact hlen78)
  rw [ha] at v59 v4 v7
  have e59 : t59 = .func (.func 66) #[] #[.pointer (some ⟨bm, 0, none⟩)] := by
    have v59 : TR G (.clo 66 [.ptr i 0 0 0]) t59 := v59
    cases v59 with
    | clo _ _ vs hl h =>
      match vs, hl with
      | [y], _ =>
        have hy := h 0 _ y rfl rfl
        cases hy with
        | ptr _ _ _ _ b sz ct hloc =>
          rw [hlm] at hloc; cases hloc
          simp
  have e4 : t4 = .pointer (some ⟨bb, 0, none⟩) := by
    have v4 : TR G (.ptr ib 0 0 0) t4 := v4
    cases v4 with
    | ptr _ _ _ _ b sz ct hloc =>
      rw [hlb] at hloc; cases hloc
      simp
  have e7 : t7 = .pointer (some ⟨bc, 0, none⟩) := by
    have v7 : TR G (.ptr ic 0 0 0) t7 := v7
    cases v7 with
    | ptr _ _ _ _ b sz ct hloc =>
      rw [hlc] at hloc; cases hloc
      simp
  subst e59 e4 e7
  -- the cells
  have hsz2 : curm.size = 2 := hszm.symm
  have hm0 : curm[0]? = some (curm[0]'(by omega)) := Array.getElem?_eq_getElem _
  have hm1 : curm[1]? = some (curm[1]'(by omega)) := Array.getElem?_eq_getElem _
  have tv1 := (hcm 0 (.v (.list .bool l1 .no)) _ rfl hm0).1
  have tv2 := (hcm 1 (.v (.list .bool l2 .no)) _ rfl hm1).1
  generalize curm[0]'(by omega) = v1 at hm0 tv1
  generalize curm[1]'(by omega) = v2 at hm1 tv2
  have hszb1 : curb.size = 1 := hszb.symm
  have hb0 : curb[0]? = some (curb[0]'(by omega)) := Array.getElem?_eq_getElem _
  have tvb := (hcb 0 (.arr ia g 0 len) _ rfl hb0).1
  generalize curb[0]'(by omega) = vb at hb0 tvb
  have hszc1 : curc.size = 1 := hszc.symm
  have hc0 : curc[0]? = some (curc[0]'(by omega)) := Array.getElem?_eq_getElem _
  have tvc := (hcc 0 (.v (.int .i64 P)) _ rfl hc0).1
  generalize curc[0]'(by omega) = vc at hc0 tvc
  obtain rfl : vc = .int .i64 P := by cases tvc with | v _ _ h => cases h; rfl
  have hv1 : VR G.bare (.list .bool l1 .no) v1 := by cases tv1 with | v _ _ h => exact h.bare rfl
  have hv2 : VR G.bare (.list .bool l2 .no) v2 := by cases tv2 with | v _ _ h => exact h.bare rfl
  -- the bytes' block
  obtain ⟨B, cap, ct', hlocB, rfl, hcap1, hcap2⟩ : ∃ B cap ct', G.loc ia g = some (some B, 1, ct') ∧ vb = .slice (some ⟨B, 0, none⟩) len cap ∧ len ≤ cap ∧ cap ≤ ct' := by
    cases tvb with
    | arrNil _ _ _ _ _ => omega
    | arr _ _ _ _ b sz ct cap o hloc h1 h2 h3 =>
      have : o = 0 := by rw [h3 (by omega)]; simp
      subst this
      rw [hla] at hloc
      cases hloc
      exact ⟨b, cap, _, hla, rfl, h1, by omega⟩
  rw [hlocB] at hla
  cases hla
  obtain ⟨hMB, hpB, curB, elB, hB, hBsz, hBc⟩ := hbo
  have hBlt : B < w.heap.size := heap_lt hB
  have ne_b : bb ≠ B := by
    rintro rfl
    refine hr.inv.inj ib ia _ _ bb ?_ hib hia ⟨0, _, _, rfl, hlb⟩ ⟨g, _, _, rfl, hlocB⟩
    rintro rfl
    rw [hib] at hia; cases hia
  have ne_c : bc ≠ B := by
    rintro rfl
    refine hr.inv.inj ic ia _ _ bc ?_ hic hia ⟨0, _, _, rfl, hlc⟩ ⟨g, _, _, rfl, hlocB⟩
    rintro rfl
    rw [hic] at hia; cases hia
  have hBsz' : l.length ≤ curB.size := by rw [hBsz]; simpa [Cd.sz] using hle
  -- what stands between two rounds
  obtain ⟨N, hN⟩ : ∃ N, N = (l1 ++ l2).length := ⟨_, rfl⟩
  have hNs : N = l1.length + l2.length := by rw [hN, List.length_append]
  obtain ⟨I, hI⟩ : ∃ I : List (Nat × Bool) → World → Prop, I = fun pre W => Below 0 w W ∧ (∀ k, k < w.heap.size → k ≠ B → W.heap[k]? = w.heap[k]?) ∧
      ∃ cur, W.heap[B]? = some (.cells cur elB (0, 0)) ∧ cur.size = curB.size ∧ ∀ j, j < l.length → cur[j]? = some (.int .u8 ((foldB P N l pre).getD j 0)) := ⟨_, rfl⟩
  have hIfrom : OwnFrom w.heap.size I := by
    intro pre W W' row h hg hrow
    rw [hI] at h ⊢
    obtain ⟨q1, q2, cur, q3, q4, q5⟩ := h
    have keep : ∀ k, k < w.heap.size → W'.heap[k]? = W.heap[k]? := fun k hk => hg.block k (Nat.lt_of_lt_of_le hk q1.size) (fun e => by have := (hrow k e.symm).1; omega)
    exact ⟨⟨hg.os.trans q1.os, hg.tape.trans q1.tape, hg.output.trans q1.output, Nat.le_trans q1.size hg.size, fun k hk => absurd hk (Nat.not_lt_zero _)⟩, fun k hk hne => (keep k hk).trans (q2 k hk hne), cur, (keep B hBlt).trans q3, q4, q5⟩
  have hI0 : I [] w := by
    rw [hI]
    refine ⟨.refl _ _, fun _ _ _ => rfl, curB, hB, rfl, fun j hj => ?_⟩
    obtain ⟨u, q1, q2, _⟩ := hBc j _ (List.getElem?_eq_getElem hj) 0 (.int .u8 l[j]) rfl
    cases q2
    have e1 : j * (Cd.int .u8).sz + 0 = j := by simp [Cd.sz]
    rw [e1] at q1
    rw [q1]
    simp [foldB, List.getElem?_eq_getElem hj]
  rw [rfcode_eq]
  refine wpIn_wide (n := 3).1 (wpIn_rangeFunc_ownF (F := Fence.wide) (n := 3) rfl (by omega) (gf := 66) (lb := #[.pointer (some ⟨bm, 0, none⟩)]) (by show a.tmps.getD 59 Go.undef = _; rw [ha]; rfl) trivial (enters_of Try.func66 (by kernel_rfl) rfl)
    (bits_stops 2 (by omega) B bm l1 l2 (by omega) w v1 v2 (cellOf hbm hm0) (cellOf hbm hm1) (heap_lt hbm) G ⟨hr.inv.cells, hr.inv.mps⟩ hv1 hv2 hBlt hpB.1)
    KpB.trans (fun W l o o' _ ho hc _ k ob hk hcells hne => ?_) (Below.refl _ _) (fun _ => rfl) I (fun _ _ _ => False) hIfrom (fun _ _ _ _ _ h _ _ => h) hI0
    (fun x => { tmps := #[t0, t1, t2, t3, .pointer (some ⟨bb, 0, none⟩), t5, t6, .pointer (some ⟨bc, 0, none⟩), .int .i64 ((clampN (l1 ++ l2).length x.1 : Nat) : Int), .bool x.2, t10, t11, t12, t13, t14, t15, t16, t17, t18, t19, t20, t21, t22, t23, t24, t25, t26, t27, t28, t29, t30, t31, t32, t33, t34, t35, t36, t37, t38, t39, t40, t41, t42, t43, t44, t45, t46, t47, t48, t49, t50, t51, t52, t53, t54, t55, t56, t57, t58, .func (.func 66) #[] #[.pointer (some ⟨bm, 0, none⟩)], .int .i64 ((clampN (l1 ++ l2).length x.1 : Nat) : Int), .bool x.2, t62, t63, t64, t65, t66, t67, t68, t69, t70, t71, t72, t73, t74, t75, t76, t77], defers := [] }) ?_ ?_ ?_ ?_)
  · have : k ≠ l := by
      rintro rfl
      rw [hk] at ho; cases ho; rw [hcells] at hc; cases hc
    exact (World.putObj_heap_other this).trans hk
  · intro l x W K hK
    rw [ha]
    exact Eq.mp (by kernel_rfl) (assign18 l 1 t0 t1 t2 t3 (.pointer (some ⟨bb, 0, none⟩)) t5 t6 (.pointer (some ⟨bc, 0, none⟩)) t8 t9 t10 t11 t12 t13 t14 t15 t16 t17 t18 t19 t20 t21 t22 t23 t24 t25 t26 t27 t28 t29 t30 t31 t32 t33 t34 t35 t36 t37 t38 t39 t40 t41 t42 t43 t44 t45 t46 t47 t48 t49 t50 t51 t52 t53 t54 t55 t56 t57 t58 (.func (.func 66) #[] #[.pointer (some ⟨bm, 0, none⟩)]) t62 t63 t64 t65 t66 t67 t68 t69 t70 t71 t72 t73 t74 t75 t76 t77 _ _ W K hK)
  · intro lp pre x W hIW hpre
    rw [hI] at hIW
    obtain ⟨q1, q2, cur, q3, q4, q5⟩ := hIW
    rw [← hN] at hpre ⊢
    have hcl : clampN N x.1 < N := by unfold clampN; omega
    obtain ⟨j, hj⟩ : ∃ j, j = clampN N x.1 := ⟨_, rfl⟩
    rw [← hj] at hcl ⊢
    have hdiv : P + j / 8 < len := by omega
    have hWcell : ∀ b o v, b ≠ B → w.cell? ⟨b, o, none⟩ = some v → W.cell? ⟨b, o, none⟩ = some v := by
      intro b o v hne hc
      obtain ⟨ob, z1, _⟩ := cells_of_cell hc
      exact (World.cell?_of_block (w := w) (a := ⟨b, o, none⟩) (q2 b (heap_lt z1) hne)).trans hc
    have hval : cur[P + j / 8]? = some (.int .u8 ((foldB P N l pre).getD (P + j / 8) 0)) := q5 _ (by omega)
    refine body18 lp 1 t0 t1 t2 t3 t5 t6 t10 t11 t12 t13 t14 t15 t16 t17 t18 t19 t20 t21 t22 t23 t24 t25 t26 t27 t28 t29 t30 t31 t32 t33 t34 t35 t36 t37 t38 t39 t40 t41 t42 t43 t44 t45 t46 t47 t48 t49 t50 t51 t52 t53 t54 t55 t56 t57 t58 (.func (.func 66) #[] #[.pointer (some ⟨bm, 0, none⟩)]) t62 t63 t64 t65 t66 t67 t68 t69 t70 t71 t72 t73 t74 t75 t76 t77 j x.2 bb bc B len cap P (j / 8) (j % 8) ((foldB P N l pre).getD (P + j / 8) 0) W _ (hWcell bb 0 _ ne_b (cellOf hbb hb0)) (hWcell bc 0 _ ne_c (cellOf hbc hc0))
      (by unfold World.cell?; simp only [q3]; simpa using hval) (by unfold World.frozen?; simp only [q3]; simp) (by omega) (by omega) hdiv (tdiv8 j) (tmod8 j) (by unfold RowKit.wrap64; omega) (by unfold RowKit.wrap64; omega)
      (by omega) (by omega) (by omega) (by omega) (by rw [IntKind.wrap_i64]; omega) (by rw [IntKind.wrap_i64]; omega) (fun ⟨_, _, h⟩ => h) (fun hb a' => ?_) (fun hb a' => ?_)
    · refine ⟨(KeepsOthers.setCell W _ _).trans (.drew _), fun k ob hk _ hne => (Below.heap_setCell W ⟨B, P + j / 8, none⟩ _ k hne).trans hk, ?_⟩
      rw [hI]
      refine ⟨⟨q1.os, q1.tape, q1.output, ?_, fun k hk => absurd hk (Nat.not_lt_zero _)⟩, fun k hk hne => (Below.heap_setCell W ⟨B, P + j / 8, none⟩ _ k hne).trans (q2 k hk hne), _, setCell_row q3 _, by simpa using q4, fun jj hjj => ?_⟩
      · show w.heap.size ≤ (W.heap.modify _ _).size
        rw [Array.size_modify]; exact q1.size
      · rw [foldB_snoc, ← hj, hb, or8_bits _ _ (by omega)]
        have hfl : (foldB P N l pre).length = l.length := foldB_length P N pre l
        simp only [orBit]
        rw [Array.getElem?_setIfInBounds]
        by_cases e : P + j / 8 = jj
        · subst e
          rw [if_pos rfl, if_pos (by omega)]
          simp [List.getElem?_set, hfl, hjj]
        · rw [if_neg e, q5 jj hjj]
          simp [List.getElem?_set, e]
    · refine ⟨.refl _, KpB.refl _ _, ?_⟩
      rw [hI]
      refine ⟨q1, q2, cur, q3, q4, fun jj hjj => ?_⟩
      rw [foldB_snoc, ← hj, hb, q5 jj hjj]
      rfl
  · intro D xs W hD hS hIW hdef
    rw [hI] at hIW
    obtain ⟨q1, q2, cur, q3, q4, q5⟩ := hIW
    rw [hS, ← hN] at q5
    rw [hN, foldB_all] at q5
    have hMD : Mine D := hr.inv.mine D hD
    have hDlt : D < W.heap.size := heap_lt hdef
    have hol : (orBits P 0 l (l1 ++ l2)).length = l.length := by rw [← foldB_all, foldB_length]
    -- the bytes' object, written where it stands
    have hrow : (w.setRow B cur).heap[B]? = some (.cells cur elB (0, 0)) := setRow_heap w B curB cur elB (0, 0) hB
    have hinv1 : Inv Mine G (s.hp.set ia (some (.arr g (.int .u8) (orBits P 0 l (l1 ++ l2)) (fun _ => .no)))) s.T (w.setRow B cur) := by
      refine hr.inv.setObj ia _ (.arr g (.int .u8) (orBits P 0 l (l1 ++ l2)) (fun _ => .no)) hia rfl (fun _ h => h) B ⟨g, _, _, rfl, hlocB⟩ (Stp.setRow hMB) (fun k hk => setRow_other w B k cur hk) ?_
      refine ⟨some B, _, hlocB, by rw [hol]; exact hle, hMB, hpB, cur, elB, hrow, by rw [q4]; exact hBsz, fun e x hx j y hy => ?_⟩
      have he : e < l.length := by rw [← hol]; exact (List.getElem?_eq_some_iff.1 hx).1
      match j, hy with
      | 0, hy =>
        have hy' : V.int .u8 x = y := by simpa [Cd.encT, V.cells] using hy
        subst hy'
        refine ⟨_, ?_, .int .u8 x, rfl⟩
        have e1 : e * (Cd.int .u8).sz + 0 = e := by simp [Cd.sz]
        rw [e1, q5 e he, List.getD, hx]; rfl
      | j + 1, hy => simp [Cd.encT, V.cells] at hy
    have hinv2 : Inv Mine G (s.hp.set ia (some (.arr g (.int .u8) (orBits P 0 l (l1 ++ l2)) (fun _ => .no)))) s.T W := by
      refine hinv1.grown (by simpa using q1.size) (fun k hk => ?_)
      have hk' : k < w.heap.size := by simpa using hk
      by_cases e : k = B
      · subst e; rw [q3, hrow]
      · rw [q2 k hk' e, setRow_other w B k cur e]
    have hinv3 := hinv2.less (D := D) (l := mark D :: Mine.ds) hDlt (fun i o b hi' hown e => by
      subst e
      have := ((hinv1.objs i o hi').blk hown).2.2
      have : b < w.heap.size := by simpa using this
      omega) hdef
    obtain ⟨Ds, m1, m2, m3⟩ := hm
    refine ⟨Mine.less D (mark D :: Mine.ds), s.setO ia (.arr g (.int .u8) (orBits P 0 l (l1 ++ l2)) (fun _ => .no)), G, ⟨fun b h => h.1, rfl, rfl, [D], rfl, fun E hE => by simp at hE; exact hE ▸ hMD⟩, hK,
      ⟨hr.len, hr.tm, ?_, hinv3⟩, .refl _, .refl _ _, by simpa [St.setO] using hh, ⟨q1.os, q1.tape, q1.output, q1.size, fun k hk => ?_⟩, D :: Ds, ?_, ?_, fun E hE => ?_⟩
    · show mark D :: a.defers = mark D :: Mine.ds
      rw [hr.defers]
    · have hkl : k < w.heap.size := by
        rcases Nat.lt_or_ge k w.heap.size with q | q
        · exact q
        · exact absurd (hr.inv.mine k q) hk
      exact q2 k hkl (fun e => hk (e ▸ hMB))
    · show mark D :: Mine.ds = _
      rw [m1]; rfl
    · exact List.nodup_cons.2 ⟨fun hD' => (m3 D hD').1 hMD, m2⟩
    · rcases List.mem_cons.1 hE with rfl | hE
      · exact ⟨fun h => h.2 rfl, hdef⟩
      · obtain ⟨z1, z2⟩ := m3 E hE
        exact ⟨fun h => z1 h.1, (q2 E (heap_lt z2) (fun e => z1 (e ▸ hMB))).trans z2⟩
  · intro D c pre W _ _ h _
    exact h.elim

end Go.Proofs.Ytiomllkdfhglhaa.AB

set_option linter.unusedVariables false
set_option linter.unusedSimpArgs false
set_option maxRecDepth 100000
set_option maxHeartbeats 2000000
namespace Go.Proofs.Ytiomllkdfhglhaa.AB
open Go
/-! crucible/refmap.size -/
noncomputable def X46 : Cx := ⟨tt, [], [], [], [], []⟩
theorem FN46 : fnsB Try.prog X46.fns := (show True from trivial)
theorem E46 (n0 : Int) {R : V → Prop} (h : ((8 : Int) ≠ 0 ∧ R (.int .i64 ((IntKind.wrap .i64 (Int.tdiv (IntKind.wrap .i64 (n0 + (7 : Int))) (8 : Int))))))) :
  fnK X46.tt (callN Try.prog X46 0) (X46.md 46) (X46.mk1 46) Try.f46 [(.v (.int .i64 n0))] ⟨[], [], ⟨0, []⟩⟩ (topK R) := Eq.mp (by kernel_rfl) h
end Go.Proofs.Ytiomllkdfhglhaa.AB

set_option linter.unusedVariables false
set_option linter.unusedSimpArgs false
namespace Go.Proofs.Ytiomllkdfhglhaa.AB
open Go

abbrev BM : Type := List Bool × List Bool
abbrev cBM : Cd := .pair (.slice .bool) (.slice .bool)

theorem rf18_all : ∀ c, Try.f18.body = some c → rfAll Try.prog rf18 0 c := by
  intro c hc
  have e : c = bd Try.f18 := by
    have : Try.f18.body = some (bd Try.f18) := by kernel_rfl
    rw [this] at hc; cases hc; rfl
  subst e
  have key := rf18_ok
  simp only [codeAt, bd, Try.f18] at key
  simp only [bd, Try.f18, rfAll, true_and, and_true]
  exact key

theorem p46 (n : Nat) (h : n ≤ 1099511627776) : PC Try.prog 46 [.int .i64 (n : Int)] (.int .i64 (((n + 7) / 8 : Nat) : Int)) := by
  refine pcOf (X := X46) (d := 0) rfl FN46 (by kernel_rfl) (by decide) (E46 n ⟨by decide, ?_⟩)
  rw [wrap64 (x := (n : Int) + 7) (by omega) (by omega), Int.tdiv_eq_ediv_of_nonneg (by omega), wrap64 (by omega) (by omega)]
  have : ((n : Int) + 7) / 8 = (((n + 7) / 8 : Nat) : Int) := by omega
  rw [this]
  exact ⟨rfl, rfl⟩

/-- how many bytes bits have -/
def bsize (m : BM) : Nat := (m.1.length + m.2.length + 7) / 8

/-- a map's bytes -/
def packB (m : BM) : List Int := [(m.1.length : Int), (m.2.length : Int)] ++ orBits 0 0 (List.replicate (bsize m) 0) (m.1 ++ m.2)

def packs (l : List BM) : List Int := l.flatMap packB

/-- is a map too long -/
def tooLong (m : BM) : Bool := decide (64 < m.1.length) || decide (64 < m.2.length)

def hd2 (n : Nat) : List Int := [((n / 256 : Nat) : Int), ((n % 256 : Nat) : Int)]

/-- refmap.Pack -/
def packR (l : List BM) : List UInt8 × Int :=
  if 4096 < l.length then ([], 3) else if l.any tooLong then ([], 2) else (ofBytes (hd2 l.length ++ packs l), 0)

theorem orBit_shift (A Z : List Int) (i : Nat) (b : Bool) : orBit (A ++ Z) A.length i b = A ++ orBit Z 0 i b := by
  unfold orBit
  cases b with
  | false => rfl
  | true =>
    simp only [List.getD, Nat.zero_add]
    rw [List.getElem?_append_right (by omega), List.set_append_right _ _ (by omega)]
    simp

theorem orBits_shift (A : List Int) : ∀ (L : List Bool) (i : Nat) (Z : List Int), orBits A.length i (A ++ Z) L = A ++ orBits 0 i Z L
  | [], _, _ => rfl
  | b :: L, i, Z => by
    simp only [orBits]
    rw [orBit_shift, orBits_shift A L (i + 1)]

theorem orBits_length (p : Nat) : ∀ (L : List Bool) (i : Nat) (Z : List Int), (orBits p i Z L).length = Z.length
  | [], _, _ => rfl
  | b :: L, i, Z => by
    simp only [orBits]
    rw [orBits_length p L, orBit_length]

theorem packB_length (m : BM) : (packB m).length = 2 + bsize m := by
  simp [packB, orBits_length]; omega

theorem wrapu8 {n : Int} (h0 : 0 ≤ n) (h1 : n ≤ 255) : IntKind.wrap .u8 n = n := by
  have e : IntKind.wrap .u8 n = n % 256 := by simp [IntKind.wrap, IntKind.bits, IntKind.signed]
  rw [e]; omega

theorem packs_take_succ {l : List BM} {n : Nat} (h : n < l.length) : packs (l.take (n + 1)) = packs (l.take n) ++ packB (l.getD n ([], [])) := by
  unfold packs
  rw [List.take_succ_eq_append_getElem h, List.flatMap_append]
  simp [List.getD, List.getElem?_eq_getElem h]

theorem packs_len : ∀ (l : List BM), l.any tooLong = false → (packs l).length ≤ 18 * l.length
  | [], _ => by simp [packs]
  | m :: l, h => by
    simp only [List.any_cons, Bool.or_eq_false_iff] at h
    have := packs_len l h.2
    have h1 := h.1
    simp only [tooLong, Bool.or_eq_false_iff, decide_eq_false_iff_not] at h1
    have e : packs (m :: l) = packB m ++ packs l := rfl
    rw [e, List.length_append, packB_length, List.length_cons]
    unfold bsize
    omega

theorem any_take_succ {l : List BM} {n : Nat} (h : n < l.length) (h1 : (l.take n).any tooLong = false) (h2 : tooLong (l.getD n ([], [])) = false) : (l.take (n + 1)).any tooLong = false := by
  rw [List.take_succ_eq_append_getElem h, List.any_append, h1]
  simpa [List.getD, List.getElem?_eq_getElem h] using h2

theorem any_of_get {l : List BM} {n : Nat} (h : n < l.length) (h2 : tooLong (l.getD n ([], [])) = true) : l.any tooLong = true := by
  rw [List.any_eq_true]
  refine ⟨l[n], List.getElem_mem h, ?_⟩
  simpa [List.getD, List.getElem?_eq_getElem h] using h2

theorem ret2 {G : V → Prop} {a : List UInt8} {b : Int} : True := trivial

/-- refmap.Pack -/
theorem p18 (l : List BM) (hlen : l.length < 9223372036854775807) : PC Try.prog 18 [.list cBM l .no] (.tup [.str (packR l).1, .int .i64 (packR l).2]) := by
  have htt : TTOK Try.prog X18.tt := tt_ok
  refine PC.ofR (fn := Try.f18) htt (callN_sound htt mix (fun f fn => fnsB_spec FN18 f fn) 1) (callN_det 1) mix (by kernel_rfl) (by decide) rf18_all (E18 l ⟨fun h => ?_, fun h => ?_⟩)
  · have h : 4096 < l.length := by have := of_decide_eq_true h; omega
    have e : packR l = ([], 3) := by unfold packR; rw [if_pos h]
    rw [e]; exact ⟨rfl, rfl⟩
  · have h : ¬ 4096 < l.length := by have := of_decide_eq_false h; omega
    refine ⟨by omega, ?_⟩
    refine Loops.intro (fun a : Nat × Nat => S18_0 l l.length a.1 (hd2 l.length ++ packs (l.take a.1)) (fun _ => .no) a.2 a.2 ((hd2 l.length ++ packs (l.take a.1)).length) ⟨0, []⟩) (fun a => a.1 ≤ l.length ∧ (l.take a.1).any tooLong = false)
      (fun a => l.length - a.1) (0, 0) ?_ ⟨Nat.zero_le _, by simp⟩ ?_
    · have e1 : IntKind.wrap .u8 (Int.fdiv (l.length : Int) (2 ^ min ((8 : Int)).toNat (IntKind.bits .i64))) = ((l.length / 256 : Nat) : Int) := by
        have e0 : ((2 : Int) ^ min ((8 : Int)).toNat (IntKind.bits .i64)) = 256 := by decide
        rw [e0, Int.fdiv_eq_ediv_of_nonneg _ (by omega), wrapu8 (by omega) (by omega)]
        omega
      have e2 : IntKind.wrap .u8 (l.length : Int) = ((l.length % 256 : Nat) : Int) := by
        have e : IntKind.wrap .u8 (l.length : Int) = (l.length : Int) % 256 := by simp [IntKind.wrap, IntKind.bits, IntKind.signed]
        rw [e]; omega
      rw [e1, e2]
      simp only [List.take_zero, packs, List.flatMap_nil, List.append_nil]
      rfl
    · rintro ⟨n, g⟩ ⟨hn, hok⟩
      have hn : n ≤ l.length := hn
      have hok : (l.take n).any tooLong = false := hok
      have hpl := packs_len _ hok
      have htl : (l.take n).length ≤ 4096 := by rw [List.length_take]; omega
      have hAl : (hd2 l.length ++ packs (l.take n)).length ≤ 73730 := by
        rw [List.length_append]
        have : (hd2 l.length).length = 2 := rfl
        omega
      refine L18_0 l l.length n (hd2 l.length ++ packs (l.take n)) _ g g _ ⟨0, []⟩ ⟨fun hlt => ?_, fun hge => ?_⟩
      · have hlt : n < l.length := by have := of_decide_eq_true hlt; omega
        refine ⟨by omega, by omega, fun hx => ?_, fun hx => ?_⟩
        · have hx := of_decide_eq_true hx
          rw [Int.toNat_natCast] at hx
          have hbad : tooLong (l.getD n ([], [])) = true := by
            unfold tooLong
            rw [Bool.or_eq_true]
            split at hx
            · exact .inr (decide_eq_true (by omega))
            · exact .inl (decide_eq_true (by omega))
          have e : packR l = ([], 2) := by unfold packR; rw [if_neg h, if_pos (any_of_get hlt hbad)]
          rw [e]; exact ⟨rfl, rfl⟩
        · have hx := of_decide_eq_false hx
          rw [Int.toNat_natCast] at hx ⊢
          obtain ⟨m, hm⟩ : ∃ m, m = l.getD n ([], []) := ⟨_, rfl⟩
          rw [← hm] at hx ⊢
          have hx1 : m.1.length ≤ 64 := by
            split at hx <;> omega
          have hx2 : m.2.length ≤ 64 := by
            split at hx <;> omega
          have hgood : tooLong m = false := by
            unfold tooLong
            rw [Bool.or_eq_false_iff]
            exact ⟨decide_eq_false (by omega), decide_eq_false (by omega)⟩
          obtain ⟨A, hA⟩ : ∃ A, A = hd2 l.length ++ packs (l.take n) := ⟨_, rfl⟩
          rw [← hA] at hAl ⊢
          rw [wrapu8 (n := (m.1.length : Int)) (by omega) (by omega), wrapu8 (n := (m.2.length : Int)) (by omega) (by omega), wrap64 (x := (m.1.length : Int) + (m.2.length : Int)) (by omega) (by omega)]
          have hB : bsize m ≤ 16 := by unfold bsize; omega
          simp only [List.take_length, List.length_cons, List.length_nil]
          refine ⟨trivial, Nat.le_refl _, by show (A.length + 2) * 1 ≤ 140737488355328; omega, ((bsize m : Nat) : Int), ?_, by omega, trivial, by simp, by
              show (A.length + 2 + ((bsize m : Nat) : Int).toNat) * 1 ≤ 140737488355328
              omega, trivial, by simp, by omega, ?_, by omega, by omega, by omega, ?_⟩
          · have := p46 (m.1.length + m.2.length) (by omega)
            rw [Int.natCast_add] at this
            exact this
          · rw [Int.toNat_natCast, Int.toNat_natCast]
            unfold bsize; omega
          · rw [Int.toNat_natCast, Int.toNat_natCast, wrap64 (by omega) (by omega)]
            have key : orBits (A.length + (0 + 1 + 1)) 0 (((A ++ [(m.1.length : Int), (m.2.length : Int)]).take (A.length + (0 + 1 + 1))) ++ List.replicate (bsize m) 0) (m.1 ++ m.2) = hd2 l.length ++ packs (l.take (n + 1)) := by
              have e1 : (A ++ [(m.1.length : Int), (m.2.length : Int)]).length = A.length + (0 + 1 + 1) := by simp
              rw [← e1, List.take_length, orBits_shift, packs_take_succ hlt, ← hm, List.append_assoc, ← List.append_assoc (hd2 l.length), ← hA]
              rfl
            refine Again.mk (n + 1, g + 1 + 1) ?_ ⟨show n + 1 ≤ l.length by omega, any_take_succ hlt hok (by rw [← hm]; exact hgood)⟩ (show l.length - (n + 1) < l.length - n by omega)
            rw [key]
            have el : A.length + (0 + 1 + 1) + bsize m = (hd2 l.length ++ packs (l.take (n + 1))).length := by
              rw [packs_take_succ hlt, ← hm, ← List.append_assoc, ← hA, List.length_append, packB_length]
              omega
            rw [el]
            rfl
      · have hge : n = l.length := by have := of_decide_eq_false hge; omega
        subst hge
        rw [List.take_length] at hok ⊢
        refine ⟨rfl, Nat.le_refl _, ?_⟩
        rw [List.take_length]
        have e : packR l = (ofBytes (hd2 l.length ++ packs l), 0) := by unfold packR; rw [if_neg h, hok]; rfl
        rw [e]; exact ⟨rfl, rfl⟩

end Go.Proofs.Ytiomllkdfhglhaa.AB

set_option linter.unusedVariables false
set_option linter.unusedSimpArgs false
set_option maxRecDepth 100000
set_option maxHeartbeats 2000000
namespace Go.Proofs.Ytiomllkdfhglhaa.AB
open Go
/-! crucible/cruciblelaw12.pick -/
noncomputable def X21 : Cx := ⟨tt, [], [], [], [], []⟩
theorem FN21 : fnsB Try.prog X21.fns := (show True from trivial)
theorem E21 (c0 : Int) (n1 : Int) {R : V → Prop} (h : (((decide (c0 < (0 : Int))) = true → (n1 ≠ 0 ∧ R (.int .i64 ((Int.tmod (IntKind.wrap .i64 (0 - (IntKind.wrap .i64 (c0 + (1 : Int))))) n1))))) ∧
 ((decide (c0 < (0 : Int))) = false → (n1 ≠ 0 ∧ R (.int .i64 (Int.tmod c0 n1)))))) :
  fnK X21.tt (callN Try.prog X21 0) (X21.md 21) (X21.mk1 21) Try.f21 [(.v (.int .i64 c0)), (.v (.int .i64 n1))] ⟨[], [], ⟨0, []⟩⟩ (topK R) := Eq.mp (by kernel_rfl) h
end Go.Proofs.Ytiomllkdfhglhaa.AB

set_option linter.unusedVariables false
set_option linter.unusedSimpArgs false
set_option maxRecDepth 100000
set_option maxHeartbeats 2000000
namespace Go.Proofs.Ytiomllkdfhglhaa.AB
open Go
/-! crucible/cruciblelaw12.sameBits -/
noncomputable def X45 : Cx := ⟨tt, [], [], [], [(45, [(0, mkM 26 0 [0, 1, 5], 0)])], []⟩
theorem FN45 : fnsB Try.prog X45.fns := (show True from trivial)
def M45_0 : List Bool × Nat := (mkM 26 0 [0, 1, 5], 0)
def S45_0 (a0 : List Bool) (b1 : List Bool) (i5 : Int) (T : Toks) : St :=
  mkS 26 [(0, (.v (.list .bool a0 .no))), (1, (.v (.list .bool b1 .no))), (5, (.v (.int .i64 i5)))] [] T
noncomputable def B45_0 : (Exit → St → Prop) → St → Prop := (awp X45.tt (callN Try.prog X45 0) (X45.md 45) 0 (X45.mk1 45) 0 (codeAt [1, 1, 0, 1, 0, 0] (bd Try.f45)))
noncomputable def K45_0 (R : V → Prop) : Exit → St → Prop := seqK ((awp X45.tt (callN Try.prog X45 0) (X45.md 45) 0 (X45.mk1 45) 0 (codeAt [1, 1, 1] (bd Try.f45))) (retK tt Try.f45.results.toList fun x s' => topK R x ⟨[], s'.hp, s'.T⟩)) (retK tt Try.f45.results.toList fun x s' => topK R x ⟨[], s'.hp, s'.T⟩)
noncomputable def Q45_0 (R : V → Prop) : Exit → St → Prop := (blockK 0 (K45_0 R))
theorem E45 (a0 : (List Bool)) (b1 : (List Bool)) {R : V → Prop} (h : (((((a0).length : Int) != ((b1).length : Int)) = true → R (.bool false)) ∧
 ((((a0).length : Int) != ((b1).length : Int)) = false → (Loops B45_0 M45_0 (Q45_0 R)
  (S45_0 a0 b1 (0 : Int) ⟨0, []⟩))))) :
  fnK X45.tt (callN Try.prog X45 0) (X45.md 45) (X45.mk1 45) Try.f45 [(.v (.list .bool a0 .no)), (.v (.list .bool b1 .no))] ⟨[], [], ⟨0, []⟩⟩ (topK R) := Eq.mp (by kernel_rfl) h
theorem L45_0 (a0 : List Bool) (b1 : List Bool) (i5 : Int) (T : Toks) {R : V → Prop} {k0 : St → Prop}
 (h : (((decide (i5 < ((a0).length : Int))) = true → (0 ≤ i5 ∧ i5 < ((a0).length : Int) ∧ (0 ≤ i5 ∧ i5 < ((b1).length : Int) ∧ (((!((a0.getD (i5).toNat false) == (b1.getD (i5).toNat false))) = true → R (.bool false)) ∧
 ((!((a0.getD (i5).toNat false) == (b1.getD (i5).toNat false))) = false → k0 (S45_0 a0 b1 ((IntKind.wrap .i64 (i5 + (1 : Int)))) T)))))) ∧
 ((decide (i5 < ((a0).length : Int))) = false → R (.bool true)))) :
  B45_0 (loopQ M45_0 k0 (Q45_0 R)) (S45_0 a0 b1 i5 T) := Eq.mp (by kernel_rfl) h
end Go.Proofs.Ytiomllkdfhglhaa.AB

set_option linter.unusedVariables false
set_option linter.unusedSimpArgs false
set_option maxRecDepth 100000
set_option maxHeartbeats 2000000
namespace Go.Proofs.Ytiomllkdfhglhaa.AB
open Go
/-! crucible/cruciblelaw12.same -/
noncomputable def X20 : Cx := ⟨tt, [(45, [.cd .bool])], [], [], [(20, [(0, mkM 47 0 [0, 1, 5], 0)])], []⟩
theorem FN20 : fnsB Try.prog X20.fns := (show True from trivial)
def M20_0 : List Bool × Nat := (mkM 47 0 [0, 1, 5], 0)
def S20_0 (a0 : List ((List Bool) × (List Bool))) (b1 : List ((List Bool) × (List Bool))) (i5 : Int) (T : Toks) : St :=
  mkS 47 [(0, (.v (.list (.pair (.slice .bool) (.slice .bool)) a0 .no))), (1, (.v (.list (.pair (.slice .bool) (.slice .bool)) b1 .no))), (5, (.v (.int .i64 i5)))] [] T
noncomputable def B20_0 : (Exit → St → Prop) → St → Prop := (awp X20.tt (callN Try.prog X20 0) (X20.md 20) 0 (X20.mk1 20) 0 (codeAt [1, 1, 0, 1, 0, 0] (bd Try.f20)))
noncomputable def K20_0 (R : V → Prop) : Exit → St → Prop := seqK ((awp X20.tt (callN Try.prog X20 0) (X20.md 20) 0 (X20.mk1 20) 0 (codeAt [1, 1, 1] (bd Try.f20))) (retK tt Try.f20.results.toList fun x s' => topK R x ⟨[], s'.hp, s'.T⟩)) (retK tt Try.f20.results.toList fun x s' => topK R x ⟨[], s'.hp, s'.T⟩)
noncomputable def Q20_0 (R : V → Prop) : Exit → St → Prop := (blockK 0 (K20_0 R))
theorem E20 (a0 : (List ((List Bool) × (List Bool)))) (b1 : (List ((List Bool) × (List Bool)))) {R : V → Prop} (h : (((((a0).length : Int) != ((b1).length : Int)) = true → R (.bool false)) ∧
 ((((a0).length : Int) != ((b1).length : Int)) = false → (Loops B20_0 M20_0 (Q20_0 R)
  (S20_0 a0 b1 (0 : Int) ⟨0, []⟩))))) :
  fnK X20.tt (callN Try.prog X20 0) (X20.md 20) (X20.mk1 20) Try.f20 [(.v (.list (.pair (.slice .bool) (.slice .bool)) a0 .no)), (.v (.list (.pair (.slice .bool) (.slice .bool)) b1 .no))] ⟨[], [], ⟨0, []⟩⟩ (topK R) := Eq.mp (by kernel_rfl) h
theorem L20_0 (a0 : List ((List Bool) × (List Bool))) (b1 : List ((List Bool) × (List Bool))) (i5 : Int) (T : Toks) {R : V → Prop} {k0 : St → Prop}
 (h : (((decide (i5 < ((a0).length : Int))) = true → (0 ≤ i5 ∧ i5 < ((a0).length : Int) ∧ (0 ≤ i5 ∧ i5 < ((b1).length : Int) ∧ (∃ p1 : Bool, PC Try.prog 45 [(.list .bool ((a0.getD (i5).toNat ([], [])).1) .no), (.list .bool ((b1.getD (i5).toNat ([], [])).1) .no)] (.bool p1) ∧ (0 ≤ i5 ∧ i5 < ((a0).length : Int) ∧ (0 ≤ i5 ∧ i5 < ((b1).length : Int) ∧ (∃ p2 : Bool, PC Try.prog 45 [(.list .bool ((a0.getD (i5).toNat ([], [])).2) .no), (.list .bool ((b1.getD (i5).toNat ([], [])).2) .no)] (.bool p2) ∧ (((!p1) = true → R (.bool false)) ∧ ((!p1) = false → (((!p2) = true → R (.bool false)) ∧
 ((!p2) = false → k0 (S20_0 a0 b1 ((IntKind.wrap .i64 (i5 + (1 : Int)))) T)))))))))))) ∧
 ((decide (i5 < ((a0).length : Int))) = false → R (.bool true)))) :
  B20_0 (loopQ M20_0 k0 (Q20_0 R)) (S20_0 a0 b1 i5 T) := Eq.mp (by kernel_rfl) h
end Go.Proofs.Ytiomllkdfhglhaa.AB

set_option linter.unusedVariables false
set_option linter.unusedSimpArgs false
set_option maxRecDepth 100000
set_option maxHeartbeats 2000000
namespace Go.Proofs.Ytiomllkdfhglhaa.AB
open Go
/-! crucible/cruciblelaw12.maps -/
noncomputable def X17 : Cx := ⟨tt, [(21, [.cd (.int .i64)])], [], [], [(17, [(0, mkM 71 0 [0, 1, 6, 7, 8], 0)])], []⟩
theorem FN17 : fnsB Try.prog X17.fns := (show True from trivial)
def M17_0 : List Bool × Nat := (mkM 71 0 [0, 1, 6, 7, 8], 0)
def S17_0 (rows0 : List (List Bool)) (locals1 : List Int) (a6 : List ((List Bool) × (List Bool))) (a6k : Tok) (b7 : List ((List Bool) × (List Bool))) (b7k : Tok) (i8 : Int) (T : Toks) : St :=
  mkS 71 [(0, (.v (.list (.slice .bool) rows0 .no))), (1, (.v (.list (.int .i64) locals1 .no))), (6, (.v (.list (.pair (.slice .bool) (.slice .bool)) a6 a6k))), (7, (.v (.list (.pair (.slice .bool) (.slice .bool)) b7 b7k))), (8, (.v (.int .i64 i8)))] [] T
noncomputable def B17_0 : (Exit → St → Prop) → St → Prop := (awp X17.tt (callN Try.prog X17 0) (X17.md 17) 0 (X17.mk1 17) 0 (codeAt [1, 1, 1, 0, 1, 0, 0] (bd Try.f17)))
noncomputable def K17_0 (R : V → Prop) : Exit → St → Prop := seqK ((awp X17.tt (callN Try.prog X17 0) (X17.md 17) 0 (X17.mk1 17) 0 (codeAt [1, 1, 1, 1] (bd Try.f17))) (retK tt Try.f17.results.toList fun x s' => topK R x ⟨[], s'.hp, s'.T⟩)) (retK tt Try.f17.results.toList fun x s' => topK R x ⟨[], s'.hp, s'.T⟩)
noncomputable def Q17_0 (R : V → Prop) : Exit → St → Prop := (blockK 0 (K17_0 R))
theorem E17 (rows0 : (List (List Bool))) (locals1 : (List Int)) {R : V → Prop} (h : (Loops B17_0 M17_0 (Q17_0 R)
  (S17_0 rows0 locals1 (([] : List ((List Bool) × (List Bool)))) .exact (([] : List ((List Bool) × (List Bool)))) .exact (0 : Int) ⟨0, []⟩))) :
  fnK X17.tt (callN Try.prog X17 0) (X17.md 17) (X17.mk1 17) Try.f17 [(.v (.list (.slice .bool) rows0 .no)), (.v (.list (.int .i64) locals1 .no))] ⟨[], [], ⟨0, []⟩⟩ (topK R) := Eq.mp (by kernel_rfl) h
theorem L17_0 (rows0 : List (List Bool)) (locals1 : List Int) (a6 : List ((List Bool) × (List Bool))) (a6k : Tok) (b7 : List ((List Bool) × (List Bool))) (b7k : Tok) (i8 : Int) (T : Toks) {R : V → Prop} {k0 : St → Prop}
 (h : (((decide (i8 < ((rows0).length : Int))) = true → (((decide (i8 < (5000 : Int))) = true → (0 ≤ i8 ∧ i8 < ((rows0).length : Int) ∧ (((decide (i8 < ((locals1).length : Int))) = true → (0 ≤ i8 ∧ i8 < ((locals1).length : Int) ∧ (∃ p1 : Int, PC Try.prog 21 [(.int .i64 ((locals1.getD (i8).toNat 0))), (.int .i64 ((IntKind.wrap .i64 ((((rows0.getD (i8).toNat [])).length : Int) + (1 : Int)))))] (.int .i64 p1) ∧ (0 ≤ i8 ∧ i8 < ((rows0).length : Int) ∧ (0 ≤ p1 ∧ p1 ≤ (((rows0.getD (i8).toNat [])).length : Int) ∧ (0 ≤ i8 ∧ i8 < ((rows0).length : Int) ∧ (0 ≤ p1 ∧ p1 ≤ (((rows0.getD (i8).toNat [])).length : Int) ∧ (Tok.own a6k T.l ∧ ((a6).length + (([(((((rows0.getD (i8).toNat [])).take ((p1).toNat)).drop 0), ((((rows0.getD (i8).toNat [])).take (((rows0.getD (i8).toNat [])).length)).drop (p1).toNat))] : List ((List Bool) × (List Bool)))).length) * 48 ≤ room ∧ (∀ (m2 : Nat), (T.n + 1) ≤ m2 → (0 ≤ i8 ∧ i8 < ((rows0).length : Int) ∧ (0 ≤ p1 ∧ p1 ≤ (((rows0.getD (i8).toNat [])).length : Int) ∧ (0 ≤ i8 ∧ i8 < ((rows0).length : Int) ∧ (0 ≤ p1 ∧ p1 ≤ (((rows0.getD (i8).toNat [])).length : Int) ∧ (Tok.own b7k (T.n :: Tok.drop a6k T.l) ∧ ((b7).length + (([(((((rows0.getD (i8).toNat [])).take ((p1).toNat)).drop 0), ((((rows0.getD (i8).toNat [])).take (((rows0.getD (i8).toNat [])).length)).drop (p1).toNat))] : List ((List Bool) × (List Bool)))).length) * 48 ≤ room ∧ (∀ (m3 : Nat), (m2 + 1) ≤ m3 → k0 (S17_0 rows0 locals1 ((a6 ++ ([(((((rows0.getD (i8).toNat [])).take ((p1).toNat)).drop 0), ((((rows0.getD (i8).toNat [])).take (((rows0.getD (i8).toNat [])).length)).drop (p1).toNat))] : List ((List Bool) × (List Bool))))) (.tk T.n) ((b7 ++ ([(((((rows0.getD (i8).toNat [])).take ((p1).toNat)).drop 0), ((((rows0.getD (i8).toNat [])).take (((rows0.getD (i8).toNat [])).length)).drop (p1).toNat))] : List ((List Bool) × (List Bool))))) (.tk m2) ((IntKind.wrap .i64 (i8 + (1 : Int)))) ⟨m3, (m2 :: Tok.drop b7k (T.n :: Tok.drop a6k T.l))⟩)))))))))))))))) ∧
 ((decide (i8 < ((locals1).length : Int))) = false → (0 ≤ i8 ∧ i8 < ((rows0).length : Int) ∧ (0 ≤ (0 : Int) ∧ (0 : Int) ≤ (((rows0.getD (i8).toNat [])).length : Int) ∧ (0 ≤ i8 ∧ i8 < ((rows0).length : Int) ∧ (0 ≤ (0 : Int) ∧ (0 : Int) ≤ (((rows0.getD (i8).toNat [])).length : Int) ∧ (Tok.own a6k T.l ∧ ((a6).length + (([(((((rows0.getD (i8).toNat [])).take (((0 : Int)).toNat)).drop 0), ((((rows0.getD (i8).toNat [])).take (((rows0.getD (i8).toNat [])).length)).drop ((0 : Int)).toNat))] : List ((List Bool) × (List Bool)))).length) * 48 ≤ room ∧ (∀ (m4 : Nat), (T.n + 1) ≤ m4 → (0 ≤ i8 ∧ i8 < ((rows0).length : Int) ∧ (0 ≤ (0 : Int) ∧ (0 : Int) ≤ (((rows0.getD (i8).toNat [])).length : Int) ∧ (0 ≤ i8 ∧ i8 < ((rows0).length : Int) ∧ (0 ≤ (0 : Int) ∧ (0 : Int) ≤ (((rows0.getD (i8).toNat [])).length : Int) ∧ (Tok.own b7k (T.n :: Tok.drop a6k T.l) ∧ ((b7).length + (([(((((rows0.getD (i8).toNat [])).take (((0 : Int)).toNat)).drop 0), ((((rows0.getD (i8).toNat [])).take (((rows0.getD (i8).toNat [])).length)).drop ((0 : Int)).toNat))] : List ((List Bool) × (List Bool)))).length) * 48 ≤ room ∧ (∀ (m5 : Nat), (m4 + 1) ≤ m5 → k0 (S17_0 rows0 locals1 ((a6 ++ ([(((((rows0.getD (i8).toNat [])).take (((0 : Int)).toNat)).drop 0), ((((rows0.getD (i8).toNat [])).take (((rows0.getD (i8).toNat [])).length)).drop ((0 : Int)).toNat))] : List ((List Bool) × (List Bool))))) (.tk T.n) ((b7 ++ ([(((((rows0.getD (i8).toNat [])).take (((0 : Int)).toNat)).drop 0), ((((rows0.getD (i8).toNat [])).take (((rows0.getD (i8).toNat [])).length)).drop ((0 : Int)).toNat))] : List ((List Bool) × (List Bool))))) (.tk m4) ((IntKind.wrap .i64 (i8 + (1 : Int)))) ⟨m5, (m4 :: Tok.drop b7k (T.n :: Tok.drop a6k T.l))⟩))))))))))))))))) ∧
 ((decide (i8 < (5000 : Int))) = false → R (.tup [(.list (.pair (.slice .bool) (.slice .bool)) a6 .no), (.list (.pair (.slice .bool) (.slice .bool)) b7 .no)])))) ∧ ((decide (i8 < ((rows0).length : Int))) = false → R (.tup [(.list (.pair (.slice .bool) (.slice .bool)) a6 .no), (.list (.pair (.slice .bool) (.slice .bool)) b7 .no)])))) :
  B17_0 (loopQ M17_0 k0 (Q17_0 R)) (S17_0 rows0 locals1 a6 a6k b7 b7k i8 T) := Eq.mp (by kernel_rfl) h
end Go.Proofs.Ytiomllkdfhglhaa.AB

set_option linter.unusedVariables false
set_option linter.unusedSimpArgs false
set_option maxRecDepth 100000
set_option maxHeartbeats 2000000
namespace Go.Proofs.Ytiomllkdfhglhaa.AB
open Go
/-! crucible/refmap.refs -/
noncomputable def X52 : Cx := ⟨tt, [], [], [], [(52, [(0, mkM 28 0 [3, 9, 10, 11], 1)])], []⟩
theorem FN52 : fnsB Try.prog X52.fns := (show True from trivial)
def M52_0 : List Bool × Nat := (mkM 28 0 [3, 9, 10, 11], 1)
def S52_0 (out3n : Nat) (t9 : List (Int × ((Int × (List UInt8)) × Int))) (t10 : Int) (t11 : Int) (hq0 : List Bool) (hq0s : Nat → Tok) (T : Toks) : St :=
  mkS 28 [(3, (.arr 0 0 0 out3n)), (9, (.v (.list (.pair (.int .i64) (.pair (.pair (.int .i64) .str) (.int .i64))) t9 .no))), (10, (.v (.int .i64 t10))), (11, (.v (.int .i64 t11)))] [(some (.arr 0 .bool hq0 hq0s))] T
noncomputable def B52_0 : (Exit → St → Prop) → St → Prop := (awp X52.tt (callN Try.prog X52 0) (X52.md 52) 0 (X52.mk1 52) 0 (codeAt [1, 1, 0, 1, 0, 0] (bd Try.f52)))
noncomputable def K52_0 (R : V → Prop) : Exit → St → Prop := seqK ((awp X52.tt (callN Try.prog X52 0) (X52.md 52) 0 (X52.mk1 52) 0 (codeAt [1, 1, 1] (bd Try.f52))) (retK tt Try.f52.results.toList fun x s' => topK R x ⟨[], s'.hp, s'.T⟩)) (retK tt Try.f52.results.toList fun x s' => topK R x ⟨[], s'.hp, s'.T⟩)
noncomputable def Q52_0 (R : V → Prop) : Exit → St → Prop := (blockK 0 (K52_0 R))
theorem E52 (l0 : (List (Int × ((Int × (List UInt8)) × Int)))) {R : V → Prop} (h : (0 ≤ ((l0).length : Int) ∧ ((l0).length : Int) ≤ ((l0).length : Int) ∧ ((l0).length : Int) * (1 : Int) ≤ (room : Int) ∧ ((l0).length : Int) ≤ 9223372036854775807 ∧ (Loops B52_0 M52_0 (Q52_0 R)
  (S52_0 ((((l0).length : Int)).toNat) l0 (((l0).length : Int)) (0 : Int) ((List.replicate (((l0).length : Int)).toNat false)) (fun _ => .no) ⟨0, []⟩)))) :
  fnK X52.tt (callN Try.prog X52 0) (X52.md 52) (X52.mk1 52) Try.f52 [(.v (.list (.pair (.int .i64) (.pair (.pair (.int .i64) .str) (.int .i64))) l0 .no))] ⟨[], [], ⟨0, []⟩⟩ (topK R) := Eq.mp (by kernel_rfl) h
theorem L52_0 (out3n : Nat) (t9 : List (Int × ((Int × (List UInt8)) × Int))) (t10 : Int) (t11 : Int) (hq0 : List Bool) (hq0s : Nat → Tok) (T : Toks) {R : V → Prop} {k0 : St → Prop}
 (h : (((decide (t11 < t10)) = true → (0 ≤ t11 ∧ t11 < ((t9).length : Int) ∧ ((((t9.getD (t11).toNat (0, ((0, []), 0))).1 == (2 : Int)) = true → ((((t9.getD (t11).toNat (0, ((0, []), 0))).1 == (2 : Int)) = true → (0 = 0 ∧ 0 ≤ t11 ∧ t11 < ((out3n : Nat) : Int) ∧ (0 = 0 ∧ (0 + (t11).toNat) < (hq0).length ∧ k0 (S52_0 out3n t9 t10 ((IntKind.wrap .i64 (t11 + (1 : Int)))) ((hq0.set ((0 + (t11).toNat)) true)) ((fun j => if j = (0 + (t11).toNat) then .no else hq0s j)) T)))) ∧
 (((t9.getD (t11).toNat (0, ((0, []), 0))).1 == (2 : Int)) = false → k0 (S52_0 out3n t9 t10 ((IntKind.wrap .i64 (t11 + (1 : Int)))) hq0 hq0s T)))) ∧
 (((t9.getD (t11).toNat (0, ((0, []), 0))).1 == (2 : Int)) = false → ((((t9.getD (t11).toNat (0, ((0, []), 0))).1 == (3 : Int)) = true → ((((t9.getD (t11).toNat (0, ((0, []), 0))).1 == (3 : Int)) = true → (0 = 0 ∧ 0 ≤ t11 ∧ t11 < ((out3n : Nat) : Int) ∧ (0 = 0 ∧ (0 + (t11).toNat) < (hq0).length ∧ k0 (S52_0 out3n t9 t10 ((IntKind.wrap .i64 (t11 + (1 : Int)))) ((hq0.set ((0 + (t11).toNat)) true)) ((fun j => if j = (0 + (t11).toNat) then .no else hq0s j)) T)))) ∧
 (((t9.getD (t11).toNat (0, ((0, []), 0))).1 == (3 : Int)) = false → k0 (S52_0 out3n t9 t10 ((IntKind.wrap .i64 (t11 + (1 : Int)))) hq0 hq0s T)))) ∧
 (((t9.getD (t11).toNat (0, ((0, []), 0))).1 == (3 : Int)) = false → ((((t9.getD (t11).toNat (0, ((0, []), 0))).1 == (4 : Int)) = true → ((((t9.getD (t11).toNat (0, ((0, []), 0))).1 == (4 : Int)) = true → (0 = 0 ∧ 0 ≤ t11 ∧ t11 < ((out3n : Nat) : Int) ∧ (0 = 0 ∧ (0 + (t11).toNat) < (hq0).length ∧ k0 (S52_0 out3n t9 t10 ((IntKind.wrap .i64 (t11 + (1 : Int)))) ((hq0.set ((0 + (t11).toNat)) true)) ((fun j => if j = (0 + (t11).toNat) then .no else hq0s j)) T)))) ∧
 (((t9.getD (t11).toNat (0, ((0, []), 0))).1 == (4 : Int)) = false → k0 (S52_0 out3n t9 t10 ((IntKind.wrap .i64 (t11 + (1 : Int)))) hq0 hq0s T)))) ∧
 (((t9.getD (t11).toNat (0, ((0, []), 0))).1 == (4 : Int)) = false → ((((t9.getD (t11).toNat (0, ((0, []), 0))).1 == (5 : Int)) = true → (0 = 0 ∧ 0 ≤ t11 ∧ t11 < ((out3n : Nat) : Int) ∧ (0 = 0 ∧ (0 + (t11).toNat) < (hq0).length ∧ k0 (S52_0 out3n t9 t10 ((IntKind.wrap .i64 (t11 + (1 : Int)))) ((hq0.set ((0 + (t11).toNat)) true)) ((fun j => if j = (0 + (t11).toNat) then .no else hq0s j)) T)))) ∧
 (((t9.getD (t11).toNat (0, ((0, []), 0))).1 == (5 : Int)) = false → k0 (S52_0 out3n t9 t10 ((IntKind.wrap .i64 (t11 + (1 : Int)))) hq0 hq0s T))))))))))) ∧
 ((decide (t11 < t10)) = false → (0 = 0 ∧ 0 + out3n ≤ (hq0).length ∧ R (.list .bool (((hq0.drop 0).take out3n)) .no))))) :
  B52_0 (loopQ M52_0 k0 (Q52_0 R)) (S52_0 out3n t9 t10 t11 hq0 hq0s T) := Eq.mp (by kernel_rfl) h
end Go.Proofs.Ytiomllkdfhglhaa.AB

set_option linter.unusedVariables false
set_option linter.unusedSimpArgs false
set_option maxRecDepth 100000
set_option maxHeartbeats 2000000
namespace Go.Proofs.Ytiomllkdfhglhaa.AB
open Go
/-! crucible/crucibleref12.refs -/
noncomputable def X60 : Cx := ⟨tt, [], [], [], [(60, [(0, mkM 29 0 [0, 3, 4], 0)])], []⟩
theorem FN60 : fnsB Try.prog X60.fns := (show True from trivial)
def M60_0 : List Bool × Nat := (mkM 29 0 [0, 3, 4], 0)
def S60_0 (l0 : List (Int × ((Int × (List UInt8)) × Int))) (out3 : List Bool) (out3k : Tok) (i4 : Int) (T : Toks) : St :=
  mkS 29 [(0, (.v (.list (.pair (.int .i64) (.pair (.pair (.int .i64) .str) (.int .i64))) l0 .no))), (3, (.v (.list .bool out3 out3k))), (4, (.v (.int .i64 i4)))] [] T
noncomputable def B60_0 : (Exit → St → Prop) → St → Prop := (awp X60.tt (callN Try.prog X60 0) (X60.md 60) 0 (X60.mk1 60) 0 (codeAt [1, 1, 0, 1, 0, 0] (bd Try.f60)))
noncomputable def K60_0 (R : V → Prop) : Exit → St → Prop := seqK ((awp X60.tt (callN Try.prog X60 0) (X60.md 60) 0 (X60.mk1 60) 0 (codeAt [1, 1, 1] (bd Try.f60))) (retK tt Try.f60.results.toList fun x s' => topK R x ⟨[], s'.hp, s'.T⟩)) (retK tt Try.f60.results.toList fun x s' => topK R x ⟨[], s'.hp, s'.T⟩)
noncomputable def Q60_0 (R : V → Prop) : Exit → St → Prop := (blockK 0 (K60_0 R))
theorem E60 (l0 : (List (Int × ((Int × (List UInt8)) × Int)))) {R : V → Prop} (h : (Loops B60_0 M60_0 (Q60_0 R)
  (S60_0 l0 ([] : List Bool) .exact (0 : Int) ⟨0, []⟩))) :
  fnK X60.tt (callN Try.prog X60 0) (X60.md 60) (X60.mk1 60) Try.f60 [(.v (.list (.pair (.int .i64) (.pair (.pair (.int .i64) .str) (.int .i64))) l0 .no))] ⟨[], [], ⟨0, []⟩⟩ (topK R) := Eq.mp (by kernel_rfl) h
theorem L60_0 (l0 : List (Int × ((Int × (List UInt8)) × Int))) (out3 : List Bool) (out3k : Tok) (i4 : Int) (T : Toks) {R : V → Prop} {k0 : St → Prop}
 (h : (((decide (i4 < ((l0).length : Int))) = true → (0 ≤ i4 ∧ i4 < ((l0).length : Int) ∧ (((decide ((l0.getD (i4).toNat (0, ((0, []), 0))).1 ≥ (2 : Int))) = true → (0 ≤ i4 ∧ i4 < ((l0).length : Int) ∧ (Tok.own out3k T.l ∧ ((out3).length + (([(decide ((l0.getD (i4).toNat (0, ((0, []), 0))).1 ≤ (5 : Int)))] : List Bool)).length) * 1 ≤ room ∧ k0 (S60_0 l0 ((out3 ++ ([(decide ((l0.getD (i4).toNat (0, ((0, []), 0))).1 ≤ (5 : Int)))] : List Bool))) (.tk T.n) ((IntKind.wrap .i64 (i4 + (1 : Int)))) ⟨(T.n + 1), (T.n :: Tok.drop out3k T.l)⟩)))) ∧ ((decide ((l0.getD (i4).toNat (0, ((0, []), 0))).1 ≥ (2 : Int))) = false → (Tok.own out3k T.l ∧ ((out3).length + (([false] : List Bool)).length) * 1 ≤ room ∧ k0 (S60_0 l0 ((out3 ++ ([false] : List Bool))) (.tk T.n) ((IntKind.wrap .i64 (i4 + (1 : Int)))) ⟨(T.n + 1), (T.n :: Tok.drop out3k T.l)⟩)))))) ∧
 ((decide (i4 < ((l0).length : Int))) = false → R (.list .bool out3 .no)))) :
  B60_0 (loopQ M60_0 k0 (Q60_0 R)) (S60_0 l0 out3 out3k i4 T) := Eq.mp (by kernel_rfl) h
end Go.Proofs.Ytiomllkdfhglhaa.AB

set_option linter.unusedVariables false
set_option linter.unusedSimpArgs false
set_option maxRecDepth 100000
set_option maxHeartbeats 2000000
namespace Go.Proofs.Ytiomllkdfhglhaa.AB
open Go
/-! crucible/refmap.Of -/
noncomputable def X24 : Cx := ⟨tt, [(52, [.cd (.slice .bool)])], [], [], [], []⟩
theorem FN24 : fnsB Try.prog X24.fns := (show True from trivial)
theorem E24 (s0 : ((List (Int × ((Int × (List UInt8)) × Int))) × (List (Int × ((Int × (List UInt8)) × Int))))) {R : V → Prop} (h : (∃ p1 : (List Bool), PC Try.prog 52 [(.list (.pair (.int .i64) (.pair (.pair (.int .i64) .str) (.int .i64))) s0.1 .no)] (.list .bool p1 .no) ∧ (∃ p2 : (List Bool), PC Try.prog 52 [(.list (.pair (.int .i64) (.pair (.pair (.int .i64) .str) (.int .i64))) s0.2 .no)] (.list .bool p2 .no) ∧ R (.agg [(.list .bool p1 .no), (.list .bool p2 .no)])))) :
  fnK X24.tt (callN Try.prog X24 0) (X24.md 24) (X24.mk1 24) Try.f24 [(.v (.agg [(.list (.pair (.int .i64) (.pair (.pair (.int .i64) .str) (.int .i64))) s0.1 .no), (.list (.pair (.int .i64) (.pair (.pair (.int .i64) .str) (.int .i64))) s0.2 .no)]))] ⟨[], [], ⟨0, []⟩⟩ (topK R) := Eq.mp (by kernel_rfl) h
end Go.Proofs.Ytiomllkdfhglhaa.AB

set_option linter.unusedVariables false
set_option linter.unusedSimpArgs false
set_option maxRecDepth 100000
set_option maxHeartbeats 2000000
namespace Go.Proofs.Ytiomllkdfhglhaa.AB
open Go
/-! crucible/crucibleref12.Of -/
noncomputable def X37 : Cx := ⟨tt, [(60, [.cd (.slice .bool)])], [], [], [], []⟩
theorem FN37 : fnsB Try.prog X37.fns := (show True from trivial)
theorem E37 (s0 : ((List (Int × ((Int × (List UInt8)) × Int))) × (List (Int × ((Int × (List UInt8)) × Int))))) {R : V → Prop} (h : (∃ p1 : (List Bool), PC Try.prog 60 [(.list (.pair (.int .i64) (.pair (.pair (.int .i64) .str) (.int .i64))) s0.1 .no)] (.list .bool p1 .no) ∧ (∃ p2 : (List Bool), PC Try.prog 60 [(.list (.pair (.int .i64) (.pair (.pair (.int .i64) .str) (.int .i64))) s0.2 .no)] (.list .bool p2 .no) ∧ R (.agg [(.list .bool p1 .no), (.list .bool p2 .no)])))) :
  fnK X37.tt (callN Try.prog X37 0) (X37.md 37) (X37.mk1 37) Try.f37 [(.v (.agg [(.list (.pair (.int .i64) (.pair (.pair (.int .i64) .str) (.int .i64))) s0.1 .no), (.list (.pair (.int .i64) (.pair (.pair (.int .i64) .str) (.int .i64))) s0.2 .no)]))] ⟨[], [], ⟨0, []⟩⟩ (topK R) := Eq.mp (by kernel_rfl) h
end Go.Proofs.Ytiomllkdfhglhaa.AB

set_option linter.unusedVariables false
set_option linter.unusedSimpArgs false
set_option maxRecDepth 100000
set_option maxHeartbeats 2000000
namespace Go.Proofs.Ytiomllkdfhglhaa.AB
open Go
/-! slices.Contains[[]bool,bool] -/
noncomputable def X48 : Cx := ⟨tt, [(68, [.cd (.int .i64)])], [], [], [], []⟩
theorem FN48 : fnsB Try.prog X48.fns := (show True from trivial)
theorem E48 (s0 : (List Bool)) (v1 : Bool) {R : V → Prop} (h : (∃ p1 : Int, PC Try.prog 68 [(.list .bool s0 .no), (.bool v1)] (.int .i64 p1) ∧ R (.bool ((decide (p1 ≥ (0 : Int))))))) :
  fnK X48.tt (callN Try.prog X48 0) (X48.md 48) (X48.mk1 48) Try.f48 [(.v (.list .bool s0 .no)), (.v (.bool v1))] ⟨[], [], ⟨0, []⟩⟩ (topK R) := Eq.mp (by kernel_rfl) h
end Go.Proofs.Ytiomllkdfhglhaa.AB

set_option linter.unusedVariables false
set_option linter.unusedSimpArgs false
set_option maxRecDepth 100000
set_option maxHeartbeats 2000000
namespace Go.Proofs.Ytiomllkdfhglhaa.AB
open Go
/-! slices.Index[[]bool,bool] -/
noncomputable def X68 : Cx := ⟨tt, [], [], [], [(68, [(0, mkM 19 0 [0, 1, 7, 8], 0)])], []⟩
theorem FN68 : fnsB Try.prog X68.fns := (show True from trivial)
def M68_0 : List Bool × Nat := (mkM 19 0 [0, 1, 7, 8], 0)
def S68_0 (s0 : List Bool) (v1 : Bool) (t7 : Int) (t8 : Int) (T : Toks) : St :=
  mkS 19 [(0, (.v (.list .bool s0 .no))), (1, (.v (.bool v1))), (7, (.v (.int .i64 t7))), (8, (.v (.int .i64 t8)))] [] T
noncomputable def B68_0 : (Exit → St → Prop) → St → Prop := (awp X68.tt (callN Try.prog X68 0) (X68.md 68) 0 (X68.mk1 68) 0 (codeAt [1, 0, 1, 0, 0] (bd Try.f68)))
noncomputable def K68_0 (R : V → Prop) : Exit → St → Prop := seqK ((awp X68.tt (callN Try.prog X68 0) (X68.md 68) 0 (X68.mk1 68) 0 (codeAt [1, 1] (bd Try.f68))) (retK tt Try.f68.results.toList fun x s' => topK R x ⟨[], s'.hp, s'.T⟩)) (retK tt Try.f68.results.toList fun x s' => topK R x ⟨[], s'.hp, s'.T⟩)
noncomputable def Q68_0 (R : V → Prop) : Exit → St → Prop := (blockK 0 (K68_0 R))
theorem E68 (s0 : (List Bool)) (v1 : Bool) {R : V → Prop} (h : (Loops B68_0 M68_0 (Q68_0 R)
  (S68_0 s0 v1 (((s0).length : Int)) (0 : Int) ⟨0, []⟩))) :
  fnK X68.tt (callN Try.prog X68 0) (X68.md 68) (X68.mk1 68) Try.f68 [(.v (.list .bool s0 .no)), (.v (.bool v1))] ⟨[], [], ⟨0, []⟩⟩ (topK R) := Eq.mp (by kernel_rfl) h
theorem L68_0 (s0 : List Bool) (v1 : Bool) (t7 : Int) (t8 : Int) (T : Toks) {R : V → Prop} {k0 : St → Prop}
 (h : (((decide (t8 < t7)) = true → (0 ≤ t8 ∧ t8 < ((s0).length : Int) ∧ (((v1 == (s0.getD (t8).toNat false)) = true → R (.int .i64 t8)) ∧
 ((v1 == (s0.getD (t8).toNat false)) = false → k0 (S68_0 s0 v1 t7 ((IntKind.wrap .i64 (t8 + (1 : Int)))) T))))) ∧
 ((decide (t8 < t7)) = false → R (.int .i64 (-1 : Int))))) :
  B68_0 (loopQ M68_0 k0 (Q68_0 R)) (S68_0 s0 v1 t7 t8 T) := Eq.mp (by kernel_rfl) h
end Go.Proofs.Ytiomllkdfhglhaa.AB

set_option linter.unusedVariables false
set_option linter.unusedSimpArgs false
namespace Go.Proofs.Ytiomllkdfhglhaa.AB
open Go

theorem beq_take_succ {α : Type} [BEq α] [LawfulBEq α] {a b : List α} {n : Nat} {d : α} (h : a.take n = b.take n) (hn : n < a.length) (hm : n < b.length) (he : (a.getD n d == b.getD n d) = true) : a.take (n + 1) = b.take (n + 1) := by
  have he := eq_of_beq he
  rw [List.take_succ_eq_append_getElem hn, List.take_succ_eq_append_getElem hm, h]
  simp only [List.getD, List.getElem?_eq_getElem hn, List.getElem?_eq_getElem hm, Option.getD_some] at he
  rw [he]

theorem retB {a b : Bool} (h : a = b) : V.norm (.bool a) = .bool b ∧ (V.bool b).nt = true := by subst h; exact ⟨rfl, rfl⟩

/-- sameBits -/
theorem p45 (a b : List Bool) (ha : a.length ≤ 9223372036854775807) : PC Try.prog 45 [.list .bool a .no, .list .bool b .no] (.bool (a == b)) := by
  refine pcOf (X := X45) (d := 0) rfl FN45 (by kernel_rfl) (by decide) (E45 a b ⟨fun h => ?_, fun h => ?_⟩)
  · have hne : a ≠ b := by rintro rfl; simp at h
    exact retB (by simpa using hne)
  · have hl : a.length = b.length := by
      have : (a.length : Int) = b.length := by simpa using h
      omega
    refine Loops.intro (fun n : Nat => S45_0 a b n ⟨0, []⟩) (fun n => n ≤ a.length ∧ a.take n = b.take n) (fun n => a.length - n) 0 rfl ⟨Nat.zero_le _, rfl⟩ ?_
    rintro n ⟨hn, ht⟩
    refine L45_0 a b n ⟨0, []⟩ ⟨fun h => ?_, fun h => ?_⟩
    · have hlt : n < a.length := by simpa using h
      refine ⟨by omega, by omega, by omega, by omega, fun h => ?_, fun h => ?_⟩
      · have hne : a ≠ b := by rintro rfl; simp at h
        exact retB (by simpa using hne)
      · rw [wrap64 (by omega) (by omega)]
        refine Again.mk (n + 1) rfl ⟨by omega, beq_take_succ (d := false) ht hlt (by omega) ?_⟩ (by omega)
        rw [Bool.not_eq_false'] at h
        simpa using h
    · have hge : n = a.length := by
        have : ¬ ((n : Int) < a.length) := by simpa using h
        omega
      have : a = b := by
        rw [hge, List.take_length] at ht
        rw [hl, List.take_length] at ht
        exact ht
      subst this
      exact retB (by simp)

/-- all lists of maps are of a length that is reckoned with -/
def mLen (l : List BM) : Prop := l.length ≤ 9223372036854775807 ∧ ∀ m ∈ l, m.1.length ≤ 9223372036854775807 ∧ m.2.length ≤ 9223372036854775807

theorem getD_mem {α : Type} {l : List α} {n : Nat} (h : n < l.length) (d : α) : l.getD n d ∈ l := by
  simp only [List.getD, List.getElem?_eq_getElem h, Option.getD_some]
  exact List.getElem_mem h

/-- same -/
theorem p20 (a b : List BM) (ha : mLen a) : PC Try.prog 20 [.list cBM a .no, .list cBM b .no] (.bool (a == b)) := by
  have hal := ha.1
  refine pcOf (X := X20) (d := 0) rfl FN20 (by kernel_rfl) (by decide) (E20 a b ⟨fun h => ?_, fun h => ?_⟩)
  · have hne : a ≠ b := by rintro rfl; simp at h
    exact retB (by simpa using hne)
  · have hl : a.length = b.length := by
      have : (a.length : Int) = b.length := by simpa using h
      omega
    refine Loops.intro (fun n : Nat => S20_0 a b n ⟨0, []⟩) (fun n => n ≤ a.length ∧ a.take n = b.take n) (fun n => a.length - n) 0 rfl ⟨Nat.zero_le _, rfl⟩ ?_
    rintro n ⟨hn, ht⟩
    refine L20_0 a b n ⟨0, []⟩ ⟨fun h => ?_, fun h => ?_⟩
    · have hlt : n < a.length := by simpa using h
      obtain ⟨m1, m2⟩ := ha.2 _ (getD_mem hlt ([], []))
      rw [Int.toNat_natCast]
      refine ⟨by omega, by omega, by omega, by omega, _, p45 _ _ m1, by omega, by omega, by omega, by omega, _, p45 _ _ m2, fun h => ?_, fun h => ⟨fun h2 => ?_, fun h2 => ?_⟩⟩
      · have hne : a ≠ b := by rintro rfl; simp at h
        exact retB (by simpa using hne)
      · have hne : a ≠ b := by rintro rfl; simp at h2
        exact retB (by simpa using hne)
      · rw [wrap64 (by omega) (by omega)]
        refine Again.mk (n + 1) rfl ⟨by omega, beq_take_succ (d := ([], [])) ht hlt (by omega) ?_⟩ (by omega)
        rw [Bool.not_eq_false'] at h h2
        rw [beq_iff_eq]
        exact Prod.ext (eq_of_beq h) (eq_of_beq h2)
    · have hge : n = a.length := by
        have : ¬ ((n : Int) < a.length) := by simpa using h
        omega
      have : a = b := by
        rw [hge, List.take_length] at ht
        rw [hl, List.take_length] at ht
        exact ht
      subst this
      exact retB (by simp)

/-- slices.Contains .. true -/
theorem p48 (l : List Bool) (hl : l.length ≤ 9223372036854775807) : PC Try.prog 48 [.list .bool l .no, .bool true] (.bool (l.any id)) := by
  have p68 : ∃ r : Int, PC Try.prog 68 [.list .bool l .no, .bool true] (.int .i64 r) ∧ decide (r ≥ (0 : Int)) = l.any id := by
    by_cases hx : true ∈ l
    · refine ⟨(l.idxOf true : Nat), ?_, ?_⟩
      · refine pcOf (X := X68) (d := 0) rfl FN68 (by kernel_rfl) (by decide) (E68 l true ?_)
        refine Loops.intro (fun n : Nat => S68_0 l true l.length n ⟨0, []⟩) (fun n => n ≤ l.idxOf true) (fun n => l.length - n) 0 rfl (Nat.zero_le _) ?_
        intro n hn
        have hix := List.idxOf_lt_length_iff.2 hx
        refine L68_0 l true l.length n ⟨0, []⟩ ⟨fun h => ?_, fun h => ?_⟩
        · have hlt : n < l.length := by simpa using h
          rw [Int.toNat_natCast]
          refine ⟨by omega, by omega, fun h => ?_, fun h => ?_⟩
          · have he : l[n] = true := by
              have := eq_of_beq h
              simpa [List.getD, List.getElem?_eq_getElem hlt] using this.symm
            have : l.idxOf true = n := by
              have : ¬ n < l.idxOf true := fun hlt' => by have := List.not_of_lt_findIdx hlt'; simp [he] at this
              omega
            rw [this]; exact ⟨rfl, rfl⟩
          · rw [wrap64 (by omega) (by omega)]
            refine Again.mk (n + 1) rfl ?_ (by omega)
            rcases Nat.lt_or_ge n (l.idxOf true) with h' | h'
            · exact h'
            · exfalso
              have e : n = l.idxOf true := by omega
              subst e
              have : l.getD (l.idxOf true) false = true := by
                simp [List.getD, List.getElem?_eq_getElem hix]
              rw [this] at h
              cases h
        · have : ¬ ((n : Int) < l.length) := by simpa using h
          omega
      · have : l.any id = true := List.any_eq_true.2 ⟨true, hx, rfl⟩
        rw [this]; exact decide_eq_true (by omega)
    · refine ⟨-1, ?_, ?_⟩
      · refine pcOf (X := X68) (d := 0) rfl FN68 (by kernel_rfl) (by decide) (E68 l true ?_)
        refine Loops.intro (fun n : Nat => S68_0 l true l.length n ⟨0, []⟩) (fun n => n ≤ l.length) (fun n => l.length - n) 0 rfl (Nat.zero_le _) ?_
        intro n hn
        refine L68_0 l true l.length n ⟨0, []⟩ ⟨fun h => ?_, fun h => ⟨rfl, rfl⟩⟩
        have hlt : n < l.length := by simpa using h
        rw [Int.toNat_natCast]
        refine ⟨by omega, by omega, fun h => ?_, fun h => ?_⟩
        · exfalso
          have he := eq_of_beq h
          exact hx (he ▸ getD_mem hlt false)
        · rw [wrap64 (by omega) (by omega)]
          exact Again.mk (n + 1) rfl (show n + 1 ≤ l.length by omega) (by omega)
      · have : l.any id = false := by
          rw [List.any_eq_false]
          intro x h e
          exact hx (by have : x = true := e; exact this ▸ h)
        rw [this]; rfl
  obtain ⟨r, h1, h2⟩ := p68
  refine pcOf (X := X48) (d := 0) rfl FN48 (by kernel_rfl) (by decide) (E48 l true ⟨r, h1, ?_⟩)
  exact retB h2

/-- pick -/
theorem p21 (c n : Int) (hc : -9223372036854775808 ≤ c ∧ c ≤ 9223372036854775807) (hn : n ≠ 0) :
    PC Try.prog 21 [.int .i64 c, .int .i64 n] (.int .i64 (Int.tmod (if c < 0 then -(c + 1) else c) n)) := by
  refine pcOf (X := X21) (d := 0) rfl FN21 (by kernel_rfl) (by decide) (E21 c n ⟨fun h => ⟨hn, ?_⟩, fun h => ⟨hn, ?_⟩⟩)
  · have h := of_decide_eq_true h
    rw [wrap64 (x := c + 1) (by omega) (by omega), wrap64 (by omega) (by omega), if_pos h, show (0 : Int) - (c + 1) = -(c + 1) by omega]
    exact ⟨rfl, rfl⟩
  · have h := of_decide_eq_false h
    rw [if_neg (by omega)]
    exact ⟨rfl, rfl⟩

theorem tmod_range {x n : Int} (hx : 0 ≤ x) (hn : 0 < n) : 0 ≤ Int.tmod x n ∧ Int.tmod x n < n := by
  rw [Int.tmod_eq_emod_of_nonneg hx]
  exact ⟨Int.emod_nonneg _ (by omega), Int.emod_lt_of_pos _ hn⟩

/-- where a row is cut -/
theorem pick_ok (c : Int) (L : Nat) (hL : L ≤ 9223372036854775807) (hc : -9223372036854775808 ≤ c ∧ c ≤ 9223372036854775807) :
    ∃ k : Nat, k ≤ L ∧ PC Try.prog 21 [.int .i64 c, .int .i64 (IntKind.wrap .i64 ((L : Int) + 1))] (.int .i64 (k : Int)) := by
  by_cases h : L = 9223372036854775807
  · subst h
    have e : IntKind.wrap .i64 (((9223372036854775807 : Nat) : Int) + 1) = -9223372036854775808 := by decide
    rw [e]
    refine ⟨(if c < 0 then -(c + 1) else c).toNat, by split <;> omega, ?_⟩
    have := p21 c (-9223372036854775808) hc (by decide)
    have e2 : Int.tmod (if c < 0 then -(c + 1) else c) (-9223372036854775808) = (((if c < 0 then -(c + 1) else c).toNat : Nat) : Int) := by
      rw [Int.tmod_neg, Int.tmod_eq_emod_of_nonneg (by split <;> omega), Int.emod_eq_of_lt (by split <;> omega) (by split <;> omega)]
      split <;> omega
    rw [e2] at this
    exact this
  · rw [wrap64 (by omega) (by omega)]
    have hr := tmod_range (x := if c < 0 then -(c + 1) else c) (n := (L : Int) + 1) (by split <;> omega) (by omega)
    refine ⟨(Int.tmod (if c < 0 then -(c + 1) else c) ((L : Int) + 1)).toNat, by omega, ?_⟩
    have := p21 c ((L : Int) + 1) hc (by omega)
    rw [Int.toNat_of_nonneg hr.1]
    exact this

/-- maps -/
theorem p17 (rows : List (List Bool)) (locals : List Int) (hr : rows.length ≤ 9223372036854775807) (hrs : ∀ r ∈ rows, r.length ≤ 9223372036854775807) (hl : locals.length ≤ 9223372036854775807)
    (hls : ∀ c ∈ locals, -9223372036854775808 ≤ c ∧ c ≤ 9223372036854775807) :
    ∃ M : List BM, mLen M ∧ M.length ≤ 5000 ∧ PC Try.prog 17 [.list (.slice .bool) rows .no, .list (.int .i64) locals .no] (.tup [.list cBM M .no, .list cBM M .no]) := by
  -- the cuts
  have cuts : ∀ i, i < rows.length → ∃ k : Nat, k ≤ (rows.getD i []).length ∧
      if i < locals.length then PC Try.prog 21 [.int .i64 (locals.getD i 0), .int .i64 (IntKind.wrap .i64 (((rows.getD i []).length : Int) + 1))] (.int .i64 (k : Int)) else k = 0 := by
    intro i hi
    by_cases h : i < locals.length
    · obtain ⟨k, h1, h2⟩ := pick_ok (locals.getD i 0) (rows.getD i []).length (hrs _ (getD_mem hi [])) (hls _ (getD_mem h 0))
      exact ⟨k, h1, by rw [if_pos h]; exact h2⟩
    · exact ⟨0, Nat.zero_le _, by rw [if_neg h]⟩
  obtain ⟨f, hf⟩ : ∃ f : Nat → Nat, ∀ i, i < rows.length → f i ≤ (rows.getD i []).length ∧
      if i < locals.length then PC Try.prog 21 [.int .i64 (locals.getD i 0), .int .i64 (IntKind.wrap .i64 (((rows.getD i []).length : Int) + 1))] (.int .i64 (f i : Int)) else f i = 0 :=
    ⟨fun i => if h : i < rows.length then Classical.choose (cuts i h) else 0, fun i hi => by simp only [dif_pos hi]; exact Classical.choose_spec (cuts i hi)⟩
  obtain ⟨mk, hmk⟩ : ∃ mk : Nat → BM, mk = fun i => ((rows.getD i []).take (f i), (rows.getD i []).drop (f i)) := ⟨_, rfl⟩
  obtain ⟨M, hM⟩ : ∃ M : Nat → List BM, M = fun n => (List.range n).map mk := ⟨_, rfl⟩
  have hMl : ∀ n, (M n).length = n := fun n => by rw [hM]; simp
  have hMs : ∀ n, M (n + 1) = M n ++ [mk n] := fun n => by rw [hM]; simp [List.range_succ]
  obtain ⟨N, hN⟩ : ∃ N, N = min rows.length 5000 := ⟨_, rfl⟩
  refine ⟨M N, ⟨by rw [hMl]; omega, fun m hm => ?_⟩, by rw [hMl]; omega, ?_⟩
  · rw [hM, hmk] at hm
    simp only [List.mem_map, List.mem_range] at hm
    obtain ⟨i, hi, rfl⟩ := hm
    have hb := hrs _ (getD_mem (l := rows) (n := i) (by omega) [])
    simp only [List.length_take, List.length_drop]
    omega
  refine pcOf (X := X17) (d := 0) rfl FN17 (by kernel_rfl) (by decide) (E17 rows locals ?_)
  refine Loops.intro (fun a : Nat × Tok × Tok × Toks => S17_0 rows locals (M a.1) a.2.1 (M a.1) a.2.2.1 a.1 a.2.2.2) (fun a => a.1 ≤ N ∧ a.2.1.fresh a.2.2.2 ∧ a.2.2.1.fresh a.2.2.2 ∧ a.2.1.ne a.2.2.1)
    (fun a => N - a.1) (0, .exact, .exact, ⟨0, []⟩) (by rw [hM]; rfl) ⟨Nat.zero_le _, trivial, trivial, trivial⟩ ?_
  rintro ⟨n, ka, kb, T⟩ ⟨hn, fa, fb, fab⟩
  have hn : n ≤ N := hn
  have fa : ka.fresh T := fa
  have fb : kb.fresh T := fb
  have fab : ka.ne kb := fab
  have hroom : ((M n).length + 1) * 48 ≤ room := by rw [hMl]; show (n + 1) * 48 ≤ 140737488355328; omega
  refine L17_0 rows locals (M n) ka (M n) kb n T ⟨fun h => ⟨fun h2 => ?_, fun h2 => ?_⟩, fun h => ?_⟩
  · have hlt : n < rows.length := by simpa using h
    have hlt2 : n < 5000 := by have := of_decide_eq_true h2; omega
    obtain ⟨hk, hk2⟩ := hf n hlt
    have fa2 : (Tok.tk T.n).fresh ⟨T.n + 1, T.n :: ka.drop T.l⟩ := Tok.fresh_new _ _
    have fb2 : kb.fresh ⟨T.n + 1, T.n :: ka.drop T.l⟩ := fb.keep fab
    have nb2 : kb.ne (.tk T.n) := fb.ne_new
    have step : ∀ (k : Nat), k = f n → ∀ m2, T.n + 1 ≤ m2 → ∀ m3, m2 + 1 ≤ m3 → Again (fun a : Nat × Tok × Tok × Toks => S17_0 rows locals (M a.1) a.2.1 (M a.1) a.2.2.1 a.1 a.2.2.2) (fun a => a.1 ≤ N ∧ a.2.1.fresh a.2.2.2 ∧ a.2.2.1.fresh a.2.2.2 ∧ a.2.1.ne a.2.2.1)
        (fun a => N - a.1) (N - n) (S17_0 rows locals (M n ++ [((rows.getD n []).take k, (rows.getD n []).drop k)]) (.tk T.n) (M n ++ [((rows.getD n []).take k, (rows.getD n []).drop k)]) (.tk m2) (IntKind.wrap .i64 ((n : Int) + 1)) ⟨m3, m2 :: kb.drop (T.n :: ka.drop T.l)⟩) := by
      rintro k rfl m2 hm2 m3 hm3
      rw [wrap64 (by omega) (by omega)]
      have e : M n ++ [((rows.getD n []).take (f n), (rows.getD n []).drop (f n))] = M (n + 1) := by rw [hMs, hmk]
      rw [e]
      refine Again.mk (n + 1, .tk T.n, .tk m2, ⟨m3, m2 :: kb.drop (T.n :: ka.drop T.l)⟩) rfl ⟨by omega, ?_, ?_, ?_⟩ (show N - (n + 1) < N - n by omega)
      · have h1 := (fa2.up (m := m2) hm2).keep (T := ⟨m2, T.n :: ka.drop T.l⟩) (u := kb) nb2
        exact h1.up hm3
      · exact (Tok.fresh_new m2 _).up hm3
      · show T.n ≠ m2
        omega
    rw [Int.toNat_natCast]
    refine ⟨by omega, by omega, fun h3 => ?_, fun h3 => ?_⟩
    · have hlt3 : n < locals.length := by simpa using h3
      rw [if_pos hlt3] at hk2
      refine ⟨by omega, by omega, _, hk2, by omega, by omega, by omega, by omega, by omega, by omega, by omega, by omega, fa.own, hroom, fun m2 hm2 => ⟨by omega, by omega, by omega, by omega, by omega, by omega, by omega, by omega, fb2.own, hroom, fun m3 hm3 => ?_⟩⟩
      rw [Int.toNat_natCast, List.drop_zero, List.take_length]
      exact step (f n) rfl m2 hm2 m3 hm3
    · have hlt3 : ¬ n < locals.length := by simpa using h3
      rw [if_neg hlt3] at hk2
      refine ⟨by omega, by omega, by omega, by omega, by omega, by omega, by omega, by omega, fa.own, hroom, fun m2 hm2 => ⟨by omega, by omega, by omega, by omega, by omega, by omega, by omega, by omega, fb2.own, hroom, fun m3 hm3 => ?_⟩⟩
      rw [List.drop_zero, List.take_length]
      exact step 0 hk2.symm m2 hm2 m3 hm3
  · have hge : n = N := by have := of_decide_eq_false h2; omega
    rw [hge]; exact ⟨rfl, rfl⟩
  · have hge : n = N := by
      have : ¬ ((n : Int) < rows.length) := by simpa using h
      omega
    rw [hge]; exact ⟨rfl, rfl⟩

end Go.Proofs.Ytiomllkdfhglhaa.AB

set_option linter.unusedVariables false
set_option linter.unusedSimpArgs false
set_option maxRecDepth 100000
set_option maxHeartbeats 2000000
namespace Go.Proofs.Ytiomllkdfhglhaa.AB
open Go
/-! crucible/refmap.Unpack -/
noncomputable def X19 : Cx := ⟨tt, [(46, [.cd (.int .i64)]), (48, [.cd .bool])], [], [(19, [(4000023, 0, .lend)])], [(19, [(0, mkM 104 0 [0, 4, 5], 0), (2, mkM 104 0 [0, 4, 5, 6, 7, 8, 9, 57, 58], 1)])], []⟩
theorem FN19 : fnsB Try.prog X19.fns := (show True from trivial)
def M19_0 : List Bool × Nat := (mkM 104 0 [0, 4, 5], 0)
def S19_0 (b0 : List UInt8) (n4 : Int) (l5 : List ((List Bool) × (List Bool))) (l5k : Tok) (T : Toks) : St :=
  mkS 104 [(0, (.v (.str b0))), (4, (.v (.int .i64 n4))), (5, (.v (.list (.pair (.slice .bool) (.slice .bool)) l5 l5k)))] [] T
noncomputable def B19_0 : (Exit → St → Prop) → St → Prop := (awp X19.tt (callN Try.prog X19 0) (X19.md 19) 0 (X19.mk1 19) 0 (codeAt [1, 1, 1, 1, 1, 0, 1, 0, 0] (bd Try.f19)))
def M19_2 : List Bool × Nat := (mkM 104 0 [0, 4, 5, 6, 7, 8, 9, 57, 58], 1)
def S19_2 (b0 : List UInt8) (n4 : Int) (l5 : List ((List Bool) × (List Bool))) (l5k : Tok) (x6 : Int) (y7 : Int) (end8 : Int) (all9n : Nat) (t57 : Int) (t58 : Int) (hq0 : List Bool) (hq0s : Nat → Tok) (T : Toks) : St :=
  mkS 104 [(0, (.v (.str b0))), (4, (.v (.int .i64 n4))), (5, (.v (.list (.pair (.slice .bool) (.slice .bool)) l5 l5k))), (6, (.v (.int .i64 x6))), (7, (.v (.int .i64 y7))), (8, (.v (.int .i64 end8))), (9, (.arr 0 0 0 all9n)), (57, (.v (.int .i64 t57))), (58, (.v (.int .i64 t58)))] [(some (.arr 0 .bool hq0 hq0s))] T
noncomputable def B19_2 : (Exit → St → Prop) → St → Prop := (awp X19.tt (callN Try.prog X19 0) (X19.md 19) 0 (X19.mk1 19) 2 (codeAt [1, 1, 1, 1, 1, 0, 1, 0, 0, 1, 0, 1, 1, 1, 1, 1, 1, 0, 1, 0, 0] (bd Try.f19)))
noncomputable def K19_0 (R : V → Prop) : Exit → St → Prop := seqK ((awp X19.tt (callN Try.prog X19 0) (X19.md 19) 0 (X19.mk1 19) 0 (codeAt [1, 1, 1, 1, 1, 1] (bd Try.f19))) (retK tt Try.f19.results.toList fun x s' => topK R x ⟨[], s'.hp, s'.T⟩)) (retK tt Try.f19.results.toList fun x s' => topK R x ⟨[], s'.hp, s'.T⟩)
noncomputable def Q19_0 (R : V → Prop) : Exit → St → Prop := (blockK 0 (K19_0 R))
noncomputable def K19_1 (R : V → Prop) (k0 : St → Prop) : Exit → St → Prop := seqK ((awp X19.tt (callN Try.prog X19 0) (X19.md 19) 0 (X19.mk1 19) 1 (codeAt [1, 1, 1, 1, 1, 0, 1, 0, 0, 1, 0, 1, 1, 1, 1, 1, 1, 1] (bd Try.f19))) (blockK 1 (loopQ M19_0 k0 (blockK 0 (K19_0 R))))) (blockK 1 (loopQ M19_0 k0 (blockK 0 (K19_0 R))))
noncomputable def Q19_2 (R : V → Prop) (k0 : St → Prop) : Exit → St → Prop := (blockK 2 (K19_1 R k0))
theorem E19 (b0 : (List UInt8)) {R : V → Prop} (h : (((decide (((b0).length : Int) < (2 : Int))) = true → R (.tup [(.list (.pair (.slice .bool) (.slice .bool)) (([] : List ((List Bool) × (List Bool)))) .no), (.int .i64 (5 : Int))])) ∧
 ((decide (((b0).length : Int) < (2 : Int))) = false → (0 ≤ (0 : Int) ∧ (0 : Int) < ((b0).length : Int) ∧ (0 ≤ (8 : Int) ∧ (0 ≤ (1 : Int) ∧ (1 : Int) < ((b0).length : Int) ∧ (((decide ((IntKind.wrap .i64 (((BitVec.ofInt (IntKind.bits .i64) ((IntKind.wrap .i64 ((IntKind.wrap .i64 ((b0.getD ((0 : Int)).toNat 0).toNat : Int)) * 2 ^ min ((8 : Int)).toNat (IntKind.bits .i64)))) ||| BitVec.ofInt (IntKind.bits .i64) ((IntKind.wrap .i64 ((b0.getD ((1 : Int)).toNat 0).toNat : Int)))).toNat : Int))) > (4096 : Int))) = true → R (.tup [(.list (.pair (.slice .bool) (.slice .bool)) (([] : List ((List Bool) × (List Bool)))) .no), (.int .i64 (3 : Int))])) ∧
 ((decide ((IntKind.wrap .i64 (((BitVec.ofInt (IntKind.bits .i64) ((IntKind.wrap .i64 ((IntKind.wrap .i64 ((b0.getD ((0 : Int)).toNat 0).toNat : Int)) * 2 ^ min ((8 : Int)).toNat (IntKind.bits .i64)))) ||| BitVec.ofInt (IntKind.bits .i64) ((IntKind.wrap .i64 ((b0.getD ((1 : Int)).toNat 0).toNat : Int)))).toNat : Int))) > (4096 : Int))) = false → (0 ≤ (2 : Int) ∧ (2 : Int) ≤ ((b0).length : Int) ∧ (Loops B19_0 M19_0 (Q19_0 R)
  (S19_0 (((b0.take (b0).length).drop ((2 : Int)).toNat)) ((IntKind.wrap .i64 (((BitVec.ofInt (IntKind.bits .i64) ((IntKind.wrap .i64 ((IntKind.wrap .i64 ((b0.getD ((0 : Int)).toNat 0).toNat : Int)) * 2 ^ min ((8 : Int)).toNat (IntKind.bits .i64)))) ||| BitVec.ofInt (IntKind.bits .i64) ((IntKind.wrap .i64 ((b0.getD ((1 : Int)).toNat 0).toNat : Int)))).toNat : Int)))) (([] : List ((List Bool) × (List Bool)))) .exact ⟨0, []⟩))))))))))) :
  fnK X19.tt (callN Try.prog X19 0) (X19.md 19) (X19.mk1 19) Try.f19 [(.v (.str b0))] ⟨[], [], ⟨0, []⟩⟩ (topK R) := Eq.mp (by kernel_rfl) h
theorem L19_0 (b0 : List UInt8) (n4 : Int) (l5 : List ((List Bool) × (List Bool))) (l5k : Tok) (T : Toks) {R : V → Prop} {k0 : St → Prop}
 (h : (((decide (((l5).length : Int) < n4)) = true → (((decide (((b0).length : Int) < (2 : Int))) = true → R (.tup [(.list (.pair (.slice .bool) (.slice .bool)) (([] : List ((List Bool) × (List Bool)))) .no), (.int .i64 (5 : Int))])) ∧
 ((decide (((b0).length : Int) < (2 : Int))) = false → (0 ≤ (0 : Int) ∧ (0 : Int) < ((b0).length : Int) ∧ (0 ≤ (1 : Int) ∧ (1 : Int) < ((b0).length : Int) ∧ (((decide ((if (IntKind.wrap .i64 ((b0.getD ((1 : Int)).toNat 0).toNat : Int)) > (IntKind.wrap .i64 ((b0.getD ((0 : Int)).toNat 0).toNat : Int)) then (IntKind.wrap .i64 ((b0.getD ((1 : Int)).toNat 0).toNat : Int)) else (IntKind.wrap .i64 ((b0.getD ((0 : Int)).toNat 0).toNat : Int))) > (64 : Int))) = true → R (.tup [(.list (.pair (.slice .bool) (.slice .bool)) (([] : List ((List Bool) × (List Bool)))) .no), (.int .i64 (2 : Int))])) ∧
 ((decide ((if (IntKind.wrap .i64 ((b0.getD ((1 : Int)).toNat 0).toNat : Int)) > (IntKind.wrap .i64 ((b0.getD ((0 : Int)).toNat 0).toNat : Int)) then (IntKind.wrap .i64 ((b0.getD ((1 : Int)).toNat 0).toNat : Int)) else (IntKind.wrap .i64 ((b0.getD ((0 : Int)).toNat 0).toNat : Int))) > (64 : Int))) = false → (∃ p1 : Int, PC Try.prog 46 [(.int .i64 ((IntKind.wrap .i64 ((IntKind.wrap .i64 ((b0.getD ((0 : Int)).toNat 0).toNat : Int)) + (IntKind.wrap .i64 ((b0.getD ((1 : Int)).toNat 0).toNat : Int))))))] (.int .i64 p1) ∧ (((decide (((b0).length : Int) < (IntKind.wrap .i64 ((2 : Int) + p1)))) = true → R (.tup [(.list (.pair (.slice .bool) (.slice .bool)) (([] : List ((List Bool) × (List Bool)))) .no), (.int .i64 (5 : Int))])) ∧
 ((decide (((b0).length : Int) < (IntKind.wrap .i64 ((2 : Int) + p1)))) = false → (0 ≤ (IntKind.wrap .i64 ((8 : Int) * (IntKind.wrap .i64 ((IntKind.wrap .i64 ((2 : Int) + p1)) - (2 : Int))))) ∧ (IntKind.wrap .i64 ((8 : Int) * (IntKind.wrap .i64 ((IntKind.wrap .i64 ((2 : Int) + p1)) - (2 : Int))))) ≤ (IntKind.wrap .i64 ((8 : Int) * (IntKind.wrap .i64 ((IntKind.wrap .i64 ((2 : Int) + p1)) - (2 : Int))))) ∧ (IntKind.wrap .i64 ((8 : Int) * (IntKind.wrap .i64 ((IntKind.wrap .i64 ((2 : Int) + p1)) - (2 : Int))))) * (1 : Int) ≤ (room : Int) ∧ (IntKind.wrap .i64 ((8 : Int) * (IntKind.wrap .i64 ((IntKind.wrap .i64 ((2 : Int) + p1)) - (2 : Int))))) ≤ 9223372036854775807 ∧ (Loops B19_2 M19_2 (Q19_2 R k0)
  (S19_2 b0 n4 l5 l5k ((IntKind.wrap .i64 ((b0.getD ((0 : Int)).toNat 0).toNat : Int))) ((IntKind.wrap .i64 ((b0.getD ((1 : Int)).toNat 0).toNat : Int))) ((IntKind.wrap .i64 ((2 : Int) + p1))) (((IntKind.wrap .i64 ((8 : Int) * (IntKind.wrap .i64 ((IntKind.wrap .i64 ((2 : Int) + p1)) - (2 : Int)))))).toNat) (((((IntKind.wrap .i64 ((8 : Int) * (IntKind.wrap .i64 ((IntKind.wrap .i64 ((2 : Int) + p1)) - (2 : Int)))))).toNat : Nat) : Int)) (0 : Int) ((List.replicate ((IntKind.wrap .i64 ((8 : Int) * (IntKind.wrap .i64 ((IntKind.wrap .i64 ((2 : Int) + p1)) - (2 : Int)))))).toNat false)) (fun _ => .no) T))))))))))))) ∧
 ((decide (((l5).length : Int) < n4)) = false → (((!(b0 == ([] : List UInt8))) = true → R (.tup [(.list (.pair (.slice .bool) (.slice .bool)) (([] : List ((List Bool) × (List Bool)))) .no), (.int .i64 (6 : Int))])) ∧
 ((!(b0 == ([] : List UInt8))) = false → R (.tup [(.list (.pair (.slice .bool) (.slice .bool)) l5 .no), (.int .i64 (0 : Int))])))))) :
  B19_0 (loopQ M19_0 k0 (Q19_0 R)) (S19_0 b0 n4 l5 l5k T) := Eq.mp (by kernel_rfl) h
theorem L19_2 (b0 : List UInt8) (n4 : Int) (l5 : List ((List Bool) × (List Bool))) (l5k : Tok) (x6 : Int) (y7 : Int) (end8 : Int) (all9n : Nat) (t57 : Int) (t58 : Int) (hq0 : List Bool) (hq0s : Nat → Tok) (T : Toks) {R : V → Prop} {k0 : St → Prop} {k2 : St → Prop}
 (h : (((decide (t58 < t57)) = true → ((8 : Int) ≠ 0 ∧ (0 ≤ (IntKind.wrap .i64 ((2 : Int) + (IntKind.wrap .i64 (Int.tdiv t58 (8 : Int))))) ∧ (IntKind.wrap .i64 ((2 : Int) + (IntKind.wrap .i64 (Int.tdiv t58 (8 : Int))))) < ((b0).length : Int) ∧ ((8 : Int) ≠ 0 ∧ (0 ≤ (Int.tmod t58 (8 : Int)) ∧ (0 = 0 ∧ 0 ≤ t58 ∧ t58 < ((all9n : Nat) : Int) ∧ (0 = 0 ∧ (0 + (t58).toNat) < (hq0).length ∧ k2 (S19_2 b0 n4 l5 l5k x6 y7 end8 all9n t57 ((IntKind.wrap .i64 (t58 + (1 : Int)))) ((hq0.set ((0 + (t58).toNat)) (((IntKind.wrap .u8 (((BitVec.ofInt (IntKind.bits .u8) (((b0.getD ((IntKind.wrap .i64 ((2 : Int) + (IntKind.wrap .i64 (Int.tdiv t58 (8 : Int)))))).toNat 0).toNat : Int)) &&& BitVec.ofInt (IntKind.bits .u8) ((Int.fdiv (128 : Int) (2 ^ min ((Int.tmod t58 (8 : Int))).toNat (IntKind.bits .u8))))).toNat : Int))) != (0 : Int))))) ((fun j => if j = (0 + (t58).toNat) then .no else hq0s j)) T)))))))) ∧
 ((decide (t58 < t57)) = false → (0 = 0 ∧ 0 + all9n ≤ (hq0).length ∧ (0 ≤ (IntKind.wrap .i64 (x6 + y7)) ∧ (IntKind.wrap .i64 (x6 + y7)) ≤ ((((hq0.drop 0).take all9n)).length : Int) ∧ (∃ p2 : Bool, PC Try.prog 48 [(.list .bool ((((((hq0.drop 0).take all9n)).take ((((hq0.drop 0).take all9n)).length)).drop ((IntKind.wrap .i64 (x6 + y7))).toNat)) .no), (.bool true)] (.bool p2) ∧ ((p2 = true → R (.tup [(.list (.pair (.slice .bool) (.slice .bool)) (([] : List ((List Bool) × (List Bool)))) .no), (.int .i64 (4 : Int))])) ∧
 (p2 = false → (0 ≤ x6 ∧ x6 ≤ ((((hq0.drop 0).take all9n)).length : Int) ∧ (0 ≤ x6 ∧ x6 ≤ ((x6).toNat : Int) ∧ ((x6).toNat = (x6).toNat ∧ (0 ≤ (IntKind.wrap .i64 (x6 + y7)) ∧ (IntKind.wrap .i64 (x6 + y7)) ≤ ((((hq0.drop 0).take all9n)).length : Int) ∧ (0 ≤ x6 ∧ x6 ≤ (IntKind.wrap .i64 (x6 + y7)) ∧ (IntKind.wrap .i64 (x6 + y7)) ≤ (((IntKind.wrap .i64 (x6 + y7))).toNat : Int) ∧ (((IntKind.wrap .i64 (x6 + y7))).toNat = ((IntKind.wrap .i64 (x6 + y7))).toNat ∧ (Tok.own l5k T.l ∧ ((l5).length + (([((((((hq0.drop 0).take all9n)).take ((x6).toNat)).drop 0), (((((hq0.drop 0).take all9n)).take (((IntKind.wrap .i64 (x6 + y7))).toNat)).drop (x6).toNat))] : List ((List Bool) × (List Bool)))).length) * 48 ≤ room ∧ (∀ (m3 : Nat), (T.n + 1) ≤ m3 → (0 ≤ end8 ∧ end8 ≤ ((b0).length : Int) ∧ k0 (S19_0 (((b0.take (b0).length).drop (end8).toNat)) n4 ((l5 ++ ([((((((hq0.drop 0).take all9n)).take ((x6).toNat)).drop 0), (((((hq0.drop 0).take all9n)).take (((IntKind.wrap .i64 (x6 + y7))).toNat)).drop (x6).toNat))] : List ((List Bool) × (List Bool))))) (.tk T.n) ⟨m3, (T.n :: Tok.drop l5k T.l)⟩)))))))))))))))))) :
  B19_2 (loopQ M19_2 k2 (Q19_2 R k0)) (S19_2 b0 n4 l5 l5k x6 y7 end8 all9n t57 t58 hq0 hq0s T) := Eq.mp (by kernel_rfl) h
end Go.Proofs.Ytiomllkdfhglhaa.AB

set_option linter.unusedVariables false
set_option linter.unusedSimpArgs false
namespace Go.Proofs.Ytiomllkdfhglhaa.AB
open Go

theorem or16 {a b : Int} (ha : 0 ≤ a ∧ a < 256) (hb : 0 ≤ b ∧ b < 256) :
    IntKind.wrap .i64 ((BitVec.ofInt (IntKind.bits .i64) (IntKind.wrap .i64 (a * 2 ^ min (8 : Int).toNat (IntKind.bits .i64))) ||| BitVec.ofInt (IntKind.bits .i64) b).toNat : Int) = 256 * a + b := by
  obtain ⟨a, rfl⟩ : ∃ n : Nat, a = n := ⟨a.toNat, by omega⟩
  obtain ⟨b, rfl⟩ : ∃ n : Nat, b = n := ⟨b.toNat, by omega⟩
  have e8 : (2 : Int) ^ min (8 : Int).toNat (IntKind.bits .i64) = 256 := by decide
  have e64 : IntKind.bits .i64 = 64 := rfl
  rw [e8, wrap64 (x := (a : Int) * 256) (by omega) (by omega), e64]
  have h1 : ((a : Int) * 256) = ((a * 256 : Nat) : Int) := by omega
  rw [h1, BitVec.ofInt_natCast, BitVec.ofInt_natCast, BitVec.toNat_or, BitVec.toNat_ofNat, BitVec.toNat_ofNat, Nat.mod_eq_of_lt (by omega), Nat.mod_eq_of_lt (by omega)]
  have h2 : a * 256 ||| b = a * 256 + b := by
    have := Nat.shiftLeft_add_eq_or_of_lt (i := 8) (b := b) (by omega) a
    rw [Nat.shiftLeft_eq] at this
    exact this.symm
  rw [h2, wrap64 (by omega) (by omega)]
  omega

/-- a byte's bit, the highest first -/
def bitU (v : UInt8) (k : Nat) : Bool :=
  (IntKind.wrap .u8 (((BitVec.ofInt (IntKind.bits .u8) (v.toNat : Int) &&& BitVec.ofInt (IntKind.bits .u8) (Int.fdiv (128 : Int) (2 ^ min k (IntKind.bits .u8)))).toNat : Int))) != (0 : Int)

/-- the bits behind a map's two sizes -/
def bitsAt (b : List UInt8) (n : Nat) : List Bool := (List.range n).map fun k => bitU (b.getD (2 + k / 8) 0) (k % 8)

/-- so many maps are read -/
def unGo : Nat → List UInt8 → List BM → List BM × Int
  | 0, b, acc => if b = [] then (acc, 0) else ([], 6)
  | n + 1, b, acc =>
    if b.length < 2 then ([], 5)
    else if 64 < (b.getD 0 0).toNat ∨ 64 < (b.getD 1 0).toNat then ([], 2)
    else if b.length < 2 + ((b.getD 0 0).toNat + (b.getD 1 0).toNat + 7) / 8 then ([], 5)
    else if ((bitsAt b (8 * (((b.getD 0 0).toNat + (b.getD 1 0).toNat + 7) / 8))).drop ((b.getD 0 0).toNat + (b.getD 1 0).toNat)).any id then ([], 4)
    else unGo n (b.drop (2 + ((b.getD 0 0).toNat + (b.getD 1 0).toNat + 7) / 8))
      (acc ++ [((bitsAt b (8 * (((b.getD 0 0).toNat + (b.getD 1 0).toNat + 7) / 8))).take (b.getD 0 0).toNat,
        ((bitsAt b (8 * (((b.getD 0 0).toNat + (b.getD 1 0).toNat + 7) / 8))).take ((b.getD 0 0).toNat + (b.getD 1 0).toNat)).drop (b.getD 0 0).toNat)])

/-- refmap.Unpack -/
def unpackR (b : List UInt8) : List BM × Int :=
  if b.length < 2 then ([], 5)
  else if 4096 < 256 * (b.getD 0 0).toNat + (b.getD 1 0).toNat then ([], 3)
  else unGo (256 * (b.getD 0 0).toNat + (b.getD 1 0).toNat) (b.drop 2) []

theorem bitsAt_length (b : List UInt8) (n : Nat) : (bitsAt b n).length = n := by simp [bitsAt]

theorem bitsAt_succ (b : List UInt8) (n : Nat) : bitsAt b (n + 1) = bitsAt b n ++ [bitU (b.getD (2 + n / 8) 0) (n % 8)] := by simp [bitsAt, List.range_succ]

theorem u8lt (v : UInt8) : v.toNat < 256 := v.toNat_lt

theorem retT {a c : List BM} {b d : Int} (h : (a, b) = (c, d)) : V.norm (.tup [.list cBM a .no, .int .i64 b]) = .tup [.list cBM c .no, .int .i64 d] ∧ (V.tup [.list cBM c .no, .int .i64 d]).nt = true := by
  cases h; exact ⟨rfl, rfl⟩

theorem p19 (b0 : List UInt8) (hb : b0.length ≤ 9223372036854775807) : PC Try.prog 19 [.str b0] (.tup [.list cBM (unpackR b0).1 .no, .int .i64 (unpackR b0).2]) := by
  refine pcOf (X := X19) (d := 0) rfl FN19 (by kernel_rfl) (by decide) (E19 b0 ⟨fun h => ?_, fun h => ?_⟩)
  · have h := of_decide_eq_true h
    exact retT (by unfold unpackR; rw [if_pos (by omega)])
  have h := of_decide_eq_false h
  have h0 := u8lt (b0.getD 0 0)
  have h1 := u8lt (b0.getD 1 0)
  have en : IntKind.wrap .i64 (((BitVec.ofInt (IntKind.bits .i64) (IntKind.wrap .i64 (IntKind.wrap .i64 ((b0.getD ((0 : Int)).toNat 0).toNat : Int) * 2 ^ min ((8 : Int)).toNat (IntKind.bits .i64))) ||| BitVec.ofInt (IntKind.bits .i64) (IntKind.wrap .i64 ((b0.getD ((1 : Int)).toNat 0).toNat : Int))).toNat : Int)) =
      ((256 * (b0.getD 0 0).toNat + (b0.getD 1 0).toNat : Nat) : Int) := by
    rw [Int.toNat_zero, Int.toNat_one, wrap64 (x := ((b0.getD 0 0).toNat : Int)) (by omega) (by omega), wrap64 (x := ((b0.getD 1 0).toNat : Int)) (by omega) (by omega)]
    have := or16 (a := ((b0.getD 0 0).toNat : Int)) (b := ((b0.getD 1 0).toNat : Int)) (by omega) (by omega)
    rw [this]; omega
  rw [en]
  refine ⟨by omega, by omega, by omega, by omega, by omega, fun h2 => ?_, fun h2 => ?_⟩
  · have h2 := of_decide_eq_true h2
    exact retT (by unfold unpackR; rw [if_neg (by omega), if_pos (by omega)])
  have h2 := of_decide_eq_false h2
  have hun : unpackR b0 = unGo (256 * (b0.getD 0 0).toNat + (b0.getD 1 0).toNat) (b0.drop 2) [] := by unfold unpackR; rw [if_neg (by omega), if_neg (by omega)]
  refine ⟨by omega, by omega, ?_⟩
  obtain ⟨N, hN⟩ : ∃ N, N = 256 * (b0.getD 0 0).toNat + (b0.getD 1 0).toNat := ⟨_, rfl⟩
  rw [← hN] at hun h2 ⊢
  refine Loops.intro (fun a : List UInt8 × List BM × Tok × Toks => S19_0 a.1 N a.2.1 a.2.2.1 a.2.2.2) (fun a => a.1.length ≤ 9223372036854775807 ∧ a.2.1.length ≤ N ∧ a.2.2.1.fresh a.2.2.2 ∧ unpackR b0 = unGo (N - a.2.1.length) a.1 a.2.1)
    (fun a => N - a.2.1.length) (b0.drop 2, [], .exact, ⟨0, []⟩) ?_ ⟨by simp; omega, Nat.zero_le _, trivial, hun⟩ ?_
  · rw [List.take_length]
    rfl
  rintro ⟨b, l, k, T⟩ ⟨hbl, hl, fk, hu⟩
  have hbl : b.length ≤ 9223372036854775807 := hbl
  have hl : l.length ≤ N := hl
  have fk : k.fresh T := fk
  have hu : unpackR b0 = unGo (N - l.length) b l := hu
  refine L19_0 b N l k T ⟨fun hlt => ?_, fun hge => ?_⟩
  · have hlt := of_decide_eq_true hlt
    obtain ⟨M, hM⟩ : ∃ M, N - l.length = M + 1 := ⟨N - l.length - 1, by omega⟩
    rw [hM] at hu
    unfold unGo at hu
    refine ⟨fun h3 => ?_, fun h3 => ?_⟩
    · have h3 := of_decide_eq_true h3
      exact retT (by rw [hu, if_pos (by omega)])
    have h3 := of_decide_eq_false h3
    rw [if_neg (by omega)] at hu
    have e0 := u8lt (b.getD 0 0)
    have e1 := u8lt (b.getD 1 0)
    rw [Int.toNat_zero, Int.toNat_one, wrap64 (x := ((b.getD 0 0).toNat : Int)) (by omega) (by omega), wrap64 (x := ((b.getD 1 0).toNat : Int)) (by omega) (by omega)]
    obtain ⟨x, hx⟩ : ∃ x, x = (b.getD 0 0).toNat := ⟨_, rfl⟩
    obtain ⟨y, hy⟩ : ∃ y, y = (b.getD 1 0).toNat := ⟨_, rfl⟩
    rw [← hx, ← hy] at hu ⊢
    refine ⟨by omega, by omega, by omega, by omega, fun h4 => ?_, fun h4 => ?_⟩
    · have h4 := of_decide_eq_true h4
      exact retT (by rw [hu, if_pos (by split at h4 <;> omega)])
    have h4 := of_decide_eq_false h4
    have hx64 : x ≤ 64 := by split at h4 <;> omega
    have hy64 : y ≤ 64 := by split at h4 <;> omega
    rw [if_neg (by omega)] at hu
    obtain ⟨z, hz⟩ : ∃ z, z = (x + y + 7) / 8 := ⟨_, rfl⟩
    rw [← hz] at hu
    have hz17 : z ≤ 17 := by omega
    refine ⟨((z : Nat) : Int), ?_, fun h5 => ?_, fun h5 => ?_⟩
    · have := p46 (x + y) (by omega)
      rw [wrap64 (by omega) (by omega)]
      rw [Int.natCast_add, ← hz] at this
      exact this
    · have h5 := of_decide_eq_true h5
      rw [wrap64 (by omega) (by omega)] at h5
      exact retT (by rw [hu, if_pos (by omega)])
    have h5 := of_decide_eq_false h5
    rw [wrap64 (x := 2 + (z : Int)) (by omega) (by omega)] at h5 ⊢
    rw [if_neg (by omega)] at hu
    have e8 : IntKind.wrap .i64 (8 * IntKind.wrap .i64 (2 + (z : Int) - 2)) = ((8 * z : Nat) : Int) := by
      rw [wrap64 (x := 2 + (z : Int) - 2) (by omega) (by omega), wrap64 (by omega) (by omega)]; omega
    rw [e8]
    refine ⟨by omega, by omega, by show (((8 * z : Nat) : Int)) * 1 ≤ ((140737488355328 : Nat) : Int); omega, by omega, ?_⟩
    refine Loops.intro (fun a : Nat × (Nat → Tok) => S19_2 b N l k x y (2 + (z : Int)) (8 * z) ((8 * z : Nat) : Int) a.1 (bitsAt b a.1 ++ List.replicate (8 * z - a.1) false) a.2 T) (fun a => a.1 ≤ 8 * z) (fun a => 8 * z - a.1) (0, fun _ => .no) ?_ (Nat.zero_le _) ?_
    · rw [Int.toNat_natCast]; rfl
    rintro ⟨n, ts⟩ hn
    have hn : n ≤ 8 * z := hn
    have hal : (bitsAt b n ++ List.replicate (8 * z - n) false).length = 8 * z := by simp [bitsAt_length]; omega
    refine L19_2 b N l k x y (2 + (z : Int)) (8 * z) ((8 * z : Nat) : Int) n _ ts T ⟨fun hn2 => ?_, fun hn2 => ?_⟩
    · have hn2 := of_decide_eq_true hn2
      have ediv : IntKind.wrap .i64 (2 + IntKind.wrap .i64 (Int.tdiv (n : Int) 8)) = ((2 + n / 8 : Nat) : Int) := by
        rw [tdiv8, wrap64 (x := ((n / 8 : Nat) : Int)) (by omega) (by omega), wrap64 (by omega) (by omega)]; omega
      rw [ediv, tmod8, Int.toNat_natCast, Int.toNat_natCast, Int.toNat_natCast]
      refine ⟨by decide, by omega, by omega, by decide, by omega, rfl, by omega, by omega, rfl, by rw [hal]; omega, ?_⟩
      rw [wrap64 (by omega) (by omega)]
      refine Again.mk (n + 1, fun j => if j = 0 + n then .no else ts j) ?_ (show n + 1 ≤ 8 * z by omega) (show 8 * z - (n + 1) < 8 * z - n by omega)
      have e : (bitsAt b n ++ List.replicate (8 * z - n) false).set (0 + n) (bitU (b.getD (2 + n / 8) 0) (n % 8)) = bitsAt b (n + 1) ++ List.replicate (8 * z - (n + 1)) false := by
        rw [bitsAt_succ, Nat.zero_add, List.set_append_right _ _ (by rw [bitsAt_length]; exact Nat.le_refl _), bitsAt_length, Nat.sub_self, show 8 * z - n = (8 * z - (n + 1)) + 1 by omega, List.replicate_succ, List.set_cons_zero, List.append_assoc]
        rfl
      show S19_2 b N l k x y (2 + (z : Int)) (8 * z) ((8 * z : Nat) : Int) _ ((bitsAt b n ++ List.replicate (8 * z - n) false).set (0 + n) (bitU (b.getD (2 + n / 8) 0) (n % 8))) _ T = _
      rw [e]
      rfl
    · have hn2 := of_decide_eq_false hn2
      have hnz : n = 8 * z := by omega
      subst hnz
      rw [Nat.sub_self, List.replicate_zero, List.append_nil, List.drop_zero]
      obtain ⟨all, hall⟩ : ∃ all, all = bitsAt b (8 * z) := ⟨_, rfl⟩
      have halll : all.length = 8 * z := by rw [hall, bitsAt_length]
      rw [← hall] at hu ⊢
      have exy : IntKind.wrap .i64 ((x : Int) + (y : Int)) = ((x + y : Nat) : Int) := by rw [wrap64 (by omega) (by omega)]; omega
      rw [exy, show all.take (8 * z) = all by rw [← halll, List.take_length], List.take_length, Int.toNat_natCast, Int.toNat_natCast]
      refine ⟨rfl, by omega, by omega, by omega, (all.drop (x + y)).any id, p48 _ (by simp; omega), fun h6 => ?_, fun h6 => ?_⟩
      · exact retT (by rw [hu, if_pos h6])
      rw [if_neg (by rw [h6]; decide)] at hu
      refine ⟨by omega, by omega, by omega, by omega, rfl, by omega, by omega, by omega, by omega, by omega, rfl, fk.own, by show (l.length + 1) * 48 ≤ 140737488355328; omega, fun m3 hm3 => ⟨by omega, by omega, ?_⟩⟩
      rw [List.take_length, List.drop_zero, show (2 + (z : Int)).toNat = 2 + z by omega]
      refine Again.mk (b.drop (2 + z), l ++ [(all.take x, (all.take (x + y)).drop x)], .tk T.n, ⟨m3, T.n :: k.drop T.l⟩) rfl ⟨by simp; omega, by simp; omega, (Tok.fresh_new T.n _).up hm3, ?_⟩ (by simp; omega)
      rw [hu]
      have : N - (l ++ [(all.take x, (all.take (x + y)).drop x)]).length = M := by simp; omega
      show _ = unGo (N - (l ++ [(all.take x, (all.take (x + y)).drop x)]).length) _ _
      rw [this]
  · have hge := of_decide_eq_false hge
    have e : N - l.length = 0 := by omega
    rw [e] at hu
    unfold unGo at hu
    refine ⟨fun h3 => ?_, fun h3 => ?_⟩
    · have : b ≠ [] := by rintro rfl; simp at h3
      exact retT (by rw [hu, if_neg this])
    · have : b = [] := by simpa using h3
      exact retT (by rw [hu, if_pos this])

end Go.Proofs.Ytiomllkdfhglhaa.AB

set_option linter.unusedVariables false
set_option linter.unusedSimpArgs false
namespace Go.Proofs.Ytiomllkdfhglhaa.AB
open Go

/-- bits are set in one byte -/
def orB : Nat → Int → List Bool → Int
  | _, x, [] => x
  | i, x, b :: r => orB (i + 1) (match b with | true => or8 x ((128 : Int) / 2 ^ i) | false => x) r

theorem orBits_head : ∀ (L : List Bool) (i : Nat) (x : Int) (Z : List Int), i + L.length ≤ 8 → orBits 0 i (x :: Z) L = orB i x L :: Z
  | [], _, _, _, _ => rfl
  | b :: L, i, x, Z, h0 => by
    have h : i + L.length + 1 ≤ 8 := by simp only [List.length_cons] at h0; omega
    clear h0
    have e : orBit (x :: Z) 0 i b = (match b with | true => or8 x ((128 : Int) / 2 ^ i) | false => x) :: Z := by
      unfold orBit
      cases b with
      | false => rfl
      | true =>
        have h1 : 0 + i / 8 = 0 := by omega
        have h2 : i % 8 = i := by omega
        simp only [h1, h2, List.getD, List.getElem?_cons_zero, Option.getD_some, List.set_cons_zero]
    simp only [orBits, orB]
    rw [e, orBits_head L (i + 1) _ Z (by omega)]

theorem orBits_next : ∀ (L : List Bool) (i : Nat) (x : Int) (Z : List Int), orBits 0 (i + 8) (x :: Z) L = x :: orBits 0 i Z L
  | [], _, _, _ => rfl
  | b :: L, i, x, Z => by
    have e : orBit (x :: Z) 0 (i + 8) b = x :: orBit Z 0 i b := by
      unfold orBit
      cases b with
      | false => rfl
      | true =>
        have h1 : 0 + (i + 8) / 8 = (0 + i / 8) + 1 := by omega
        have h2 : (i + 8) % 8 = i % 8 := by omega
        simp only [h1, h2, List.getD, List.getElem?_cons_succ, List.set_cons_succ]
    simp only [orBits]
    rw [e, show i + 8 + 1 = (i + 1) + 8 by omega, orBits_next L (i + 1) x _]

theorem orBits_app (p : Nat) : ∀ (A B : List Bool) (i : Nat) (Z : List Int), orBits p i Z (A ++ B) = orBits p (i + A.length) (orBits p i Z A) B
  | [], B, i, Z => rfl
  | a :: A, B, i, Z => by
    simp only [List.cons_append, orBits, List.length_cons]
    rw [orBits_app p A B, show i + 1 + A.length = i + (A.length + 1) by omega]

theorem orBits_ff (p : Nat) : ∀ (n i : Nat) (Z : List Int), orBits p i Z (List.replicate n false) = Z
  | 0, _, _ => rfl
  | n + 1, i, Z => by
    simp only [List.replicate_succ, orBits]
    exact orBits_ff p n (i + 1) Z

/-- a byte's bits -/
def bitsU (v : UInt8) : List Bool := (List.range 8).map (bitU v)

theorem len8 {α : Type} {l : List α} (h : l.length = 8) : ∃ a b c d e f g i, l = [a, b, c, d, e, f, g, i] := by
  match l, h with
  | [a, b, c, d, e, f, g, i], _ => exact ⟨a, b, c, d, e, f, g, i, rfl⟩

theorem bits_of_orB8 : ∀ a b c d e f g i : Bool, bitsU (UInt8.ofNat (orB 0 0 [a, b, c, d, e, f, g, i]).toNat) = [a, b, c, d, e, f, g, i] := by decide +kernel

theorem orB_of_bits8 : ∀ n : Fin 256, orB 0 0 (bitsU (UInt8.ofNat n.1)) = (n.1 : Int) := by decide +kernel

theorem orB_of_bits (v : UInt8) : orB 0 0 (bitsU v) = (v.toNat : Int) := by
  have := orB_of_bits8 ⟨v.toNat, v.toNat_lt⟩
  simpa using this

theorem bitsU_length (v : UInt8) : (bitsU v).length = 8 := by simp [bitsU]

/-- bytes' bits -/
def bitsL (b : List UInt8) : List Bool := b.flatMap bitsU

theorem bitsL_length : ∀ (b : List UInt8), (bitsL b).length = 8 * b.length
  | [] => rfl
  | v :: b => by
    have := bitsL_length b
    simp only [bitsL, List.flatMap_cons, List.length_append, bitsU_length, List.length_cons] at *
    omega

theorem bitsL_get : ∀ (b : List UInt8) (k : Nat), k < 8 * b.length → (bitsL b)[k]? = some (bitU (b.getD (k / 8) 0) (k % 8))
  | [], k, h => by simp at h
  | v :: b, k, h => by
    simp only [bitsL, List.flatMap_cons]
    rcases Nat.lt_or_ge k 8 with h8 | h8
    · rw [List.getElem?_append_left (by rw [bitsU_length]; exact h8)]
      have e1 : k / 8 = 0 := by omega
      have e2 : k % 8 = k := by omega
      rw [e1, e2]
      simp [bitsU, h8]
    · rw [List.getElem?_append_right (by rw [bitsU_length]; exact h8), bitsU_length]
      have := bitsL_get b (k - 8) (by simp at h; omega)
      simp only [bitsL] at this
      rw [this]
      have e1 : k / 8 = (k - 8) / 8 + 1 := by omega
      have e2 : k % 8 = (k - 8) % 8 := by omega
      rw [e1, e2]
      simp

theorem bitsAt_eq (b : List UInt8) (z : Nat) (h : 2 + z ≤ b.length) : bitsAt b (8 * z) = bitsL ((b.drop 2).take z) := by
  apply List.ext_getElem?
  intro k
  have hl : ((b.drop 2).take z).length = z := by simp; omega
  by_cases hk : k < 8 * z
  · rw [bitsL_get _ _ (by rw [hl]; exact hk)]
    simp only [bitsAt, List.getElem?_map, List.getElem?_range hk, Option.map_some]
    have hz : k / 8 < z := by omega
    have : (List.take z (List.drop 2 b)).getD (k / 8) 0 = b.getD (2 + k / 8) 0 := by
      simp only [List.getD, List.getElem?_take, hz, if_true, List.getElem?_drop]
    rw [this]
  · rw [List.getElem?_eq_none (by rw [bitsAt_length]; omega), List.getElem?_eq_none (by rw [bitsL_length, hl]; omega)]

theorem orBits_bytes : ∀ (z : Nat) (L : List Bool), L.length = 8 * z → bitsL (ofBytes (orBits 0 0 (List.replicate z 0) L)) = L
  | 0, L, h => by
    have : L = [] := List.length_eq_zero_iff.1 (by omega)
    subst this; rfl
  | z + 1, L, h => by
    have e : L = L.take 8 ++ L.drop 8 := (List.take_append_drop 8 L).symm
    have h8 : (L.take 8).length = 8 := by simp; omega
    have hd : (L.drop 8).length = 8 * z := by simp; omega
    obtain ⟨a, b, c, d, e', f, g, i, hL⟩ := len8 h8
    rw [e, orBits_app, h8, List.replicate_succ, orBits_head _ _ _ _ (by omega), orBits_next, hL]
    have ih := orBits_bytes z (L.drop 8) hd
    simp only [bitsL, ofBytes, List.map_cons, List.flatMap_cons] at ih ⊢
    rw [ih, bits_of_orB8]

theorem bytes_orBits : ∀ (b : List UInt8), orBits 0 0 (List.replicate b.length 0) (bitsL b) = bytesOf b
  | [] => rfl
  | v :: b => by
    have ih := bytes_orBits b
    have e : bitsL (v :: b) = bitsU v ++ bitsL b := rfl
    rw [e, orBits_app, bitsU_length, List.length_cons, List.replicate_succ, orBits_head _ _ _ _ (by rw [bitsU_length]; omega), orBits_next, ih, orB_of_bits]
    rfl

theorem ofBytes_bytesOf (b : List UInt8) : ofBytes (bytesOf b) = b := by
  simp only [ofBytes, bytesOf, List.map_map]
  conv => rhs; rw [← List.map_id b]
  apply List.map_congr_left
  intro v _
  simp

/-- a map's bytes -/
def mb (m : BM) : List UInt8 := ofBytes (packB m)

def mbits (m : BM) : List UInt8 := ofBytes (orBits 0 0 (List.replicate (bsize m) 0) (m.1 ++ m.2))

theorem mb_eq (m : BM) (h1 : m.1.length ≤ 64) (h2 : m.2.length ≤ 64) : mb m = UInt8.ofNat m.1.length :: UInt8.ofNat m.2.length :: mbits m := by
  simp [mb, packB, ofBytes, mbits]

theorem mbits_length (m : BM) : (mbits m).length = bsize m := by simp [mbits, ofBytes, orBits_length]

theorem mb_length (m : BM) : (mb m).length = 2 + bsize m := by simp [mb, ofBytes, packB_length]

theorem mbits_bits (m : BM) : bitsL (mbits m) = m.1 ++ m.2 ++ List.replicate (8 * bsize m - (m.1.length + m.2.length)) false := by
  have h : (m.1 ++ m.2 ++ List.replicate (8 * bsize m - (m.1.length + m.2.length)) false).length = 8 * bsize m := by
    simp only [List.length_append, List.length_replicate]
    unfold bsize; omega
  have := orBits_bytes (bsize m) _ h
  rw [orBits_app, orBits_ff] at this
  exact this

theorem u8small {n : Nat} (h : n ≤ 64) : (UInt8.ofNat n).toNat = n := by
  rw [UInt8.toNat_ofNat']; omega

theorem unGo_step (n : Nat) (m : BM) (r : List UInt8) (acc : List BM) (h1 : m.1.length ≤ 64) (h2 : m.2.length ≤ 64) : unGo (n + 1) (mb m ++ r) acc = unGo n r (acc ++ [m]) := by
  obtain ⟨x, hx⟩ : ∃ x, x = m.1.length := ⟨_, rfl⟩
  obtain ⟨y, hy⟩ : ∃ y, y = m.2.length := ⟨_, rfl⟩
  have e0 : ((mb m ++ r).getD 0 0).toNat = m.1.length := by rw [mb_eq m h1 h2]; exact u8small h1
  have e1 : ((mb m ++ r).getD 1 0).toNat = m.2.length := by rw [mb_eq m h1 h2]; exact u8small h2
  have hl : (mb m ++ r).length = 2 + bsize m + r.length := by rw [List.length_append, mb_length]
  have hb : (m.1.length + m.2.length + 7) / 8 = bsize m := rfl
  have hbits : bitsAt (mb m ++ r) (8 * bsize m) = m.1 ++ m.2 ++ List.replicate (8 * bsize m - (m.1.length + m.2.length)) false := by
    rw [bitsAt_eq _ _ (by omega)]
    have : ((mb m ++ r).drop 2).take (bsize m) = mbits m := by
      rw [mb_eq m h1 h2]
      simp only [List.cons_append, List.drop_succ_cons, List.drop_zero]
      rw [← mbits_length m, List.take_left']
      rfl
    rw [this, mbits_bits]
  rw [unGo]
  rw [e0, e1, hb, hbits, if_neg (by omega), if_neg (by omega), if_neg (by omega)]
  have hd : (m.1 ++ m.2 ++ List.replicate (8 * bsize m - (m.1.length + m.2.length)) false).drop (m.1.length + m.2.length) = List.replicate (8 * bsize m - (m.1.length + m.2.length)) false := by
    rw [List.drop_left' (by simp)]
  have hf : (List.replicate (8 * bsize m - (m.1.length + m.2.length)) false).any id = false := by
    rw [List.any_eq_false]
    intro b hb'
    rw [List.eq_of_mem_replicate hb']
    decide
  rw [hd, hf, if_neg (by decide)]
  have t1 : (m.1 ++ m.2 ++ List.replicate (8 * bsize m - (m.1.length + m.2.length)) false).take m.1.length = m.1 := by
    rw [List.append_assoc, List.take_left' rfl]
  have t2 : ((m.1 ++ m.2 ++ List.replicate (8 * bsize m - (m.1.length + m.2.length)) false).take (m.1.length + m.2.length)).drop m.1.length = m.2 := by
    rw [List.take_left' (by simp), List.drop_left' rfl]
  rw [t1, t2, List.drop_left' (by rw [mb_length])]

theorem unGo_cut (n : Nat) (m : BM) (p : List UInt8) (acc : List BM) (h1 : m.1.length ≤ 64) (h2 : m.2.length ≤ 64) (hp : p.length < 2 + bsize m) (hpre : p <+: mb m) : unGo (n + 1) p acc = ([], 5) := by
  unfold unGo
  by_cases hl : p.length < 2
  · rw [if_pos hl]
  rw [if_neg hl]
  obtain ⟨r, hr⟩ := hpre
  have hmb := mb_eq m h1 h2
  match p, hl, hr, hp with
  | a :: b :: p', _, hr, hp =>
    rw [hmb] at hr
    simp only [List.cons_append, List.cons.injEq] at hr
    obtain ⟨rfl, rfl, hr⟩ := hr
    have e0 : ((UInt8.ofNat m.1.length :: UInt8.ofNat m.2.length :: p').getD 0 0).toNat = m.1.length := u8small h1
    have e1 : ((UInt8.ofNat m.1.length :: UInt8.ofNat m.2.length :: p').getD 1 0).toNat = m.2.length := u8small h2
    have hb : (m.1.length + m.2.length + 7) / 8 = bsize m := rfl
    rw [e0, e1, if_neg (by omega), hb, if_pos hp]
  | [], hl, _, _ => simp at hl
  | [_], hl, _, _ => simp at hl

/-- maps that may be written -/
def okMaps (l : List BM) : Prop := ∀ m ∈ l, m.1.length ≤ 64 ∧ m.2.length ≤ 64

def mbs (l : List BM) : List UInt8 := l.flatMap mb

theorem ofBytes_packs : ∀ (l : List BM), ofBytes (packs l) = mbs l
  | [] => rfl
  | m :: l => by
    have ih := ofBytes_packs l
    simp only [packs, mbs, List.flatMap_cons, ofBytes, List.map_append] at ih ⊢
    rw [ih]
    rfl

theorem unGo_all : ∀ (l : List BM) (r : List UInt8) (acc : List BM), okMaps l → unGo l.length (mbs l ++ r) acc = if r = [] then (acc ++ l, 0) else ([], 6)
  | [], r, acc, _ => by simp [unGo, mbs]
  | m :: l, r, acc, h => by
    have hm := h m (List.mem_cons_self ..)
    have e : mbs (m :: l) ++ r = mb m ++ (mbs l ++ r) := by simp [mbs]
    rw [e, List.length_cons, unGo_step _ _ _ _ hm.1 hm.2, unGo_all l r _ (fun x hx => h x (List.mem_cons_of_mem _ hx))]
    simp

theorem unGo_prefix : ∀ (l : List BM) (k : Nat) (acc : List BM), okMaps l → k < (mbs l).length → unGo l.length ((mbs l).take k) acc = ([], 5)
  | [], k, acc, _, hk => by simp [mbs] at hk
  | m :: l, k, acc, h, hk => by
    have hm := h m (List.mem_cons_self ..)
    have e : mbs (m :: l) = mb m ++ mbs l := by simp [mbs]
    rw [e] at hk ⊢
    rw [List.length_append, mb_length] at hk
    rcases Nat.lt_or_ge k (2 + bsize m) with hlt | hge
    · rw [List.take_append_of_le_length (by rw [mb_length]; omega), List.length_cons]
      refine unGo_cut _ m _ _ hm.1 hm.2 ?_ (List.take_prefix _ _)
      rw [List.length_take, mb_length]; omega
    · have : (mb m ++ mbs l).take k = mb m ++ (mbs l).take (k - (2 + bsize m)) := by
        rw [List.take_append, mb_length, List.take_of_length_le (by rw [mb_length]; exact hge)]
      rw [this, List.length_cons, unGo_step _ _ _ _ hm.1 hm.2]
      exact unGo_prefix l _ _ (fun x hx => h x (List.mem_cons_of_mem _ hx)) (by omega)

theorem unGo_inv : ∀ (n : Nat) (b : List UInt8) (acc l : List BM), unGo n b acc = (l, 0) → ∃ l', l = acc ++ l' ∧ l'.length = n ∧ okMaps l' ∧ b = mbs l'
  | 0, b, acc, l, h => by
    unfold unGo at h
    split at h
    · rename_i hb
      cases h
      exact ⟨[], by simp, rfl, fun m hm => (by cases hm), by rw [hb]; rfl⟩
    · cases h
  | n + 1, b, acc, l, h => by
    unfold unGo at h
    obtain ⟨x, hx⟩ : ∃ x, x = (b.getD 0 0).toNat := ⟨_, rfl⟩
    obtain ⟨y, hy⟩ : ∃ y, y = (b.getD 1 0).toNat := ⟨_, rfl⟩
    rw [← hx, ← hy] at h
    obtain ⟨z, hz⟩ : ∃ z, z = (x + y + 7) / 8 := ⟨_, rfl⟩
    rw [← hz] at h
    split at h
    · cases h
    split at h
    · cases h
    split at h
    · cases h
    split at h
    · cases h
    rename_i h1 h2 h3 h4
    obtain ⟨l', e1, e2, e3, e4⟩ := unGo_inv n _ _ _ h
    obtain ⟨L, hL⟩ : ∃ L, L = bitsAt b (8 * z) := ⟨_, rfl⟩
    rw [← hL] at e1 h4
    have hLl : L.length = 8 * z := by rw [hL, bitsAt_length]
    obtain ⟨m, hm⟩ : ∃ m : BM, m = (L.take x, (L.take (x + y)).drop x) := ⟨_, rfl⟩
    rw [← hm] at e1
    have m1 : m.1.length = x := by rw [hm]; simp [hLl]; omega
    have m2 : m.2.length = y := by rw [hm]; simp [hLl]; omega
    refine ⟨m :: l', by rw [e1]; simp, by simp [e2], ?_, ?_⟩
    · intro q hq
      rcases List.mem_cons.1 hq with rfl | hq
      · omega
      · exact e3 q hq
    · have hbz : bsize m = z := by unfold bsize; rw [m1, m2, hz]
      have hcat : m.1 ++ m.2 = L.take (x + y) := by
        rw [hm]
        show L.take x ++ (L.take (x + y)).drop x = _
        have : L.take x = (L.take (x + y)).take x := by rw [List.take_take]; congr 1; omega
        rw [this, List.take_append_drop]
      have hfull : L = L.take (x + y) ++ List.replicate (8 * z - (x + y)) false := by
        conv => lhs; rw [← List.take_append_drop (x + y) L]
        congr 1
        refine List.eq_replicate_iff.2 ⟨by simp [hLl], ?_⟩
        · intro b' hb'
          cases b' with
          | false => rfl
          | true => exact absurd (List.any_eq_true.2 ⟨true, hb', rfl⟩) h4
      have hmb : mbits m = (b.drop 2).take z := by
        have hzl : ((b.drop 2).take z).length = z := by simp; omega
        have e : orBits 0 0 (List.replicate z 0) L = orBits 0 0 (List.replicate z 0) (L.take (x + y)) := by
          conv => lhs; rw [hfull, orBits_app, orBits_ff]
        unfold mbits
        rw [hbz, hcat, ← e, hL, bitsAt_eq b z (by omega)]
        have := bytes_orBits ((b.drop 2).take z)
        rw [hzl] at this
        rw [this, ofBytes_bytesOf]
      have hb : b = b.getD 0 0 :: b.getD 1 0 :: b.drop 2 := by
        match b, h1 with
        | _ :: _ :: _, _ => rfl
        | [], h1 => simp at h1
        | [_], h1 => simp at h1
      have hu : ∀ v : UInt8, UInt8.ofNat v.toNat = v := by intro v; simp
      show b = mbs (m :: l')
      have : mbs (m :: l') = mb m ++ mbs l' := by simp [mbs]
      rw [this, mb_eq m (by omega) (by omega), hmb, m1, m2, ← e4, hx, hy, hu, hu]
      conv => lhs; rw [hb, ← List.take_append_drop z (b.drop 2), List.drop_drop]
      simp

theorem hd2_of {l : List BM} (h : l.length ≤ 4096) : ofBytes (hd2 l.length ++ packs l) = UInt8.ofNat (l.length / 256) :: UInt8.ofNat (l.length % 256) :: mbs l := by
  rw [← ofBytes_packs]
  rfl

theorem okMaps_of {l : List BM} (h : l.any tooLong = false) : okMaps l := by
  intro m hm
  rw [List.any_eq_false] at h
  have := h m hm
  simp only [tooLong, Bool.or_eq_true, decide_eq_true_eq, not_or] at this
  omega

theorem any_of_okMaps {l : List BM} (h : okMaps l) : l.any tooLong = false := by
  rw [List.any_eq_false]
  intro m hm
  have := h m hm
  simp only [tooLong, Bool.or_eq_true, decide_eq_true_eq, not_or]
  omega

/-- what was written -/
theorem packR_ok {l : List BM} (h : (packR l).2 = 0) : l.length ≤ 4096 ∧ okMaps l ∧ (packR l).1 = UInt8.ofNat (l.length / 256) :: UInt8.ofNat (l.length % 256) :: mbs l := by
  unfold packR at h ⊢
  split at h
  · cases h
  rename_i h1
  split at h
  · cases h
  rename_i h2
  rw [if_neg h1, if_neg h2]
  exact ⟨by omega, okMaps_of (by simpa using h2), hd2_of (by omega)⟩

theorem packR_of {l : List BM} (h1 : l.length ≤ 4096) (h2 : okMaps l) : packR l = (UInt8.ofNat (l.length / 256) :: UInt8.ofNat (l.length % 256) :: mbs l, 0) := by
  unfold packR
  rw [if_neg (by omega), if_neg (by rw [any_of_okMaps h2]; decide), hd2_of h1]

theorem unpackR_cons (a b : UInt8) (r : List UInt8) : unpackR (a :: b :: r) = if 4096 < 256 * a.toNat + b.toNat then ([], 3) else unGo (256 * a.toNat + b.toNat) r [] := by
  unfold unpackR
  rw [if_neg (by simp)]
  rfl

theorem u8div {n : Nat} (h : n ≤ 4096) : 256 * (UInt8.ofNat (n / 256)).toNat + (UInt8.ofNat (n % 256)).toNat = n := by
  rw [UInt8.toNat_ofNat', UInt8.toNat_ofNat']; omega

theorem unpack_packed {l : List BM} (h1 : l.length ≤ 4096) (h2 : okMaps l) (r : List UInt8) :
    unpackR (UInt8.ofNat (l.length / 256) :: UInt8.ofNat (l.length % 256) :: (mbs l ++ r)) = if r = [] then (l, 0) else ([], 6) := by
  rw [unpackR_cons, u8div h1, if_neg (by omega), unGo_all _ _ _ h2]
  simp

theorem unpack_cut {l : List BM} (h1 : l.length ≤ 4096) (h2 : okMaps l) (k : Nat) (hk : k < (mbs l).length + 2) :
    unpackR ((UInt8.ofNat (l.length / 256) :: UInt8.ofNat (l.length % 256) :: mbs l).take k) = ([], 5) := by
  match k with
  | 0 => rfl
  | 1 => rfl
  | k + 2 =>
    show unpackR (_ :: _ :: (mbs l).take k) = _
    rw [unpackR_cons, u8div h1, if_neg (by omega), unGo_prefix _ _ _ h2 (by omega)]

theorem unpack_bad (b : List UInt8) : (unpackR b).2 ≠ 0 → (unpackR b).1 = [] := by
  have go : ∀ (n : Nat) (b : List UInt8) (acc : List BM), (unGo n b acc).2 ≠ 0 → (unGo n b acc).1 = [] := by
    intro n
    induction n with
    | zero => intro b acc; unfold unGo; split <;> simp
    | succ n ih =>
      intro b acc
      unfold unGo
      split
      · simp
      split
      · simp
      split
      · simp
      split
      · simp
      exact ih _ _
  unfold unpackR
  split
  · simp
  split
  · simp
  exact go _ _ _

theorem unpack_ok {b : List UInt8} (h : (unpackR b).2 = 0) : packR (unpackR b).1 = (b, 0) := by
  match b with
  | [] => simp [unpackR] at h
  | [_] => simp [unpackR] at h
  | a :: c :: r =>
    rw [unpackR_cons] at h ⊢
    split at h
    · simp at h
    rename_i h4
    rw [if_neg h4]
    obtain ⟨l, hl⟩ : ∃ l, l = (unGo (256 * a.toNat + c.toNat) r []).1 := ⟨_, rfl⟩
    obtain ⟨l', e1, e2, e3, e4⟩ := unGo_inv _ r [] l (Prod.ext hl.symm h)
    rw [List.nil_append] at e1
    subst e1
    rw [← hl, packR_of (by omega) e3, e2, ← e4]
    have ha := a.toNat_lt
    have hc := c.toNat_lt
    have q1 : (256 * a.toNat + c.toNat) / 256 = a.toNat := by omega
    have q2 : (256 * a.toNat + c.toNat) % 256 = c.toNat := by omega
    rw [q1, q2]
    simp

end Go.Proofs.Ytiomllkdfhglhaa.AB

set_option linter.unusedVariables false
set_option linter.unusedSimpArgs false
namespace Go.Proofs.Ytiomllkdfhglhaa.AB
open Go

abbrev KN : Type := Int × ((Int × (List UInt8)) × Int)
abbrev cKN : Cd := .pair (.int .i64) (.pair (.pair (.int .i64) .str) (.int .i64))
abbrev ST : Type := List KN × List KN

def isRef (k : KN) : Bool := decide (2 ≤ k.1) && decide (k.1 ≤ 5)
def refsR (l : List KN) : List Bool := l.map isRef
def ofR (s : ST) : BM := (refsR s.1, refsR s.2)

theorem refs_take {l : List KN} {n : Nat} (h : n < l.length) : refsR (l.take (n + 1)) = refsR (l.take n) ++ [isRef (l.getD n (0, ((0, []), 0)))] := by
  unfold refsR
  rw [List.take_succ_eq_append_getElem h, List.map_append]
  simp [List.getD, List.getElem?_eq_getElem h]

/-- refmap.refs -/
theorem p52 (l : List KN) (hl : l.length ≤ 140737488355328) : PC Try.prog 52 [.list cKN l .no] (.list .bool (refsR l) .no) := by
  refine pcOf (X := X52) (d := 0) rfl FN52 (by kernel_rfl) (by decide) (E52 l ⟨by omega, by omega, by show ((l.length : Int)) * 1 ≤ ((140737488355328 : Nat) : Int); omega, by omega, ?_⟩)
  refine Loops.intro (fun a : Nat × (Nat → Tok) => S52_0 l.length l l.length a.1 (refsR (l.take a.1) ++ List.replicate (l.length - a.1) false) a.2 ⟨0, []⟩) (fun a => a.1 ≤ l.length) (fun a => l.length - a.1) (0, fun _ => .no) ?_ (Nat.zero_le _) ?_
  · rw [Int.toNat_natCast]; rfl
  rintro ⟨n, ts⟩ hn
  have hn : n ≤ l.length := hn
  have hrl : (refsR (l.take n)).length = n := by simp [refsR]; omega
  have hlen : (refsR (l.take n) ++ List.replicate (l.length - n) false).length = l.length := by rw [List.length_append, hrl]; simp; omega
  refine L52_0 l.length l l.length n _ ts ⟨0, []⟩ ⟨fun h => ?_, fun h => ?_⟩
  · have hlt : n < l.length := by simpa using h
    rw [Int.toNat_natCast, wrap64 (by omega) (by omega), hlen]
    have tt' : isRef (l.getD n (0, ((0, []), 0))) = true → 0 = 0 ∧ (0 : Int) ≤ (n : Int) ∧ (n : Int) < ((l.length : Nat) : Int) ∧ (0 = 0 ∧ (0 + n) < l.length ∧
        Again (fun a : Nat × (Nat → Tok) => S52_0 l.length l l.length a.1 (refsR (l.take a.1) ++ List.replicate (l.length - a.1) false) a.2 ⟨0, []⟩) (fun a => a.1 ≤ l.length) (fun a => l.length - a.1) (l.length - n)
          (S52_0 l.length l l.length ((n : Int) + 1) ((refsR (l.take n) ++ List.replicate (l.length - n) false).set (0 + n) true) (fun j => if j = 0 + n then .no else ts j) ⟨0, []⟩)) := by
      intro hr
      refine ⟨rfl, by omega, by omega, rfl, by omega, Again.mk (n + 1, fun j => if j = 0 + n then .no else ts j) ?_ (show n + 1 ≤ l.length by omega) (show l.length - (n + 1) < l.length - n by omega)⟩
      have e : (refsR (l.take n) ++ List.replicate (l.length - n) false).set (0 + n) true = refsR (l.take (n + 1)) ++ List.replicate (l.length - (n + 1)) false := by
        rw [refs_take hlt, hr, Nat.zero_add, List.set_append_right _ _ (by rw [hrl]; exact Nat.le_refl _), hrl, Nat.sub_self, show l.length - n = (l.length - (n + 1)) + 1 by omega, List.replicate_succ, List.set_cons_zero, List.append_assoc]
        rfl
      rw [e]
      rfl
    have ff' : isRef (l.getD n (0, ((0, []), 0))) = false →
        Again (fun a : Nat × (Nat → Tok) => S52_0 l.length l l.length a.1 (refsR (l.take a.1) ++ List.replicate (l.length - a.1) false) a.2 ⟨0, []⟩) (fun a => a.1 ≤ l.length) (fun a => l.length - a.1) (l.length - n)
          (S52_0 l.length l l.length ((n : Int) + 1) (refsR (l.take n) ++ List.replicate (l.length - n) false) ts ⟨0, []⟩) := by
      intro hr
      refine Again.mk (n + 1, ts) ?_ (show n + 1 ≤ l.length by omega) (show l.length - (n + 1) < l.length - n by omega)
      have e : refsR (l.take n) ++ List.replicate (l.length - n) false = refsR (l.take (n + 1)) ++ List.replicate (l.length - (n + 1)) false := by
        rw [refs_take hlt, hr, show l.length - n = (l.length - (n + 1)) + 1 by omega, List.replicate_succ, List.append_assoc]
        rfl
      rw [e]
      rfl
    obtain ⟨k, hk⟩ : ∃ k, k = (l.getD n (0, ((0, []), 0))).1 := ⟨_, rfl⟩
    have ht : ∀ v : Int, (2 ≤ v ∧ v ≤ 5) → (k == v) = true → isRef (l.getD n (0, ((0, []), 0))) = true := by
      intro v hv h
      have := eq_of_beq h
      unfold isRef
      rw [← hk, this]
      simp [hv]
    rw [← hk]
    refine ⟨by omega, by omega, fun h2 => ⟨fun _ => tt' (ht 2 (by omega) h2), fun h' => by rw [h'] at h2; cases h2⟩, fun h2 => ⟨fun h3 => ⟨fun _ => tt' (ht 3 (by omega) h3), fun h' => by rw [h'] at h3; cases h3⟩,
      fun h3 => ⟨fun h4 => ⟨fun _ => tt' (ht 4 (by omega) h4), fun h' => by rw [h'] at h4; cases h4⟩, fun h4 => ⟨fun h5 => tt' (ht 5 (by omega) h5), fun h5 => ff' ?_⟩⟩⟩⟩
    unfold isRef
    rw [← hk]
    simp only [beq_eq_false_iff_ne, ne_eq] at h2 h3 h4 h5
    rw [Bool.and_eq_false_iff]
    by_cases h : 2 ≤ k
    · exact .inr (decide_eq_false (by omega))
    · exact .inl (decide_eq_false h)
  · have hge : n = l.length := by have := of_decide_eq_false h; omega
    subst hge
    refine ⟨rfl, by rw [hlen]; omega, ?_⟩
    have e : ((refsR (l.take l.length) ++ List.replicate (l.length - l.length) false).drop 0).take l.length = refsR l := by
      rw [List.take_length, Nat.sub_self, List.replicate_zero, List.append_nil, List.drop_zero]
      rw [List.take_of_length_le (by simp [refsR])]
    rw [e]
    exact ⟨rfl, rfl⟩

/-- crucibleref12.refs -/
theorem p60 (l : List KN) (hl : l.length ≤ 140737488355328) : PC Try.prog 60 [.list cKN l .no] (.list .bool (refsR l) .no) := by
  refine pcOf (X := X60) (d := 0) rfl FN60 (by kernel_rfl) (by decide) (E60 l ?_)
  refine Loops.intro (fun a : Nat × Tok × Toks => S60_0 l (refsR (l.take a.1)) a.2.1 a.1 a.2.2) (fun a => a.1 ≤ l.length ∧ a.2.1.fresh a.2.2) (fun a => l.length - a.1) (0, .exact, ⟨0, []⟩) rfl ⟨Nat.zero_le _, trivial⟩ ?_
  rintro ⟨n, k, T⟩ ⟨hn, fk⟩
  have hn : n ≤ l.length := hn
  have fk : k.fresh T := fk
  have hrl : (refsR (l.take n)).length = n := by simp [refsR]; omega
  refine L60_0 l _ k n T ⟨fun h => ?_, fun h => ?_⟩
  · have hlt : n < l.length := by simpa using h
    rw [Int.toNat_natCast, wrap64 (by omega) (by omega), hrl]
    have hroom : (n + 1) * 1 ≤ room := by show (n + 1) * 1 ≤ 140737488355328; omega
    have go : ∀ b, b = isRef (l.getD n (0, ((0, []), 0))) → Again (fun a : Nat × Tok × Toks => S60_0 l (refsR (l.take a.1)) a.2.1 a.1 a.2.2) (fun a => a.1 ≤ l.length ∧ a.2.1.fresh a.2.2) (fun a => l.length - a.1) (l.length - n)
        (S60_0 l (refsR (l.take n) ++ [b]) (.tk T.n) ((n : Int) + 1) ⟨T.n + 1, T.n :: k.drop T.l⟩) := by
      rintro b rfl
      rw [← refs_take hlt]
      exact Again.mk (n + 1, .tk T.n, ⟨T.n + 1, T.n :: k.drop T.l⟩) rfl ⟨by omega, Tok.fresh_new _ _⟩ (show l.length - (n + 1) < l.length - n by omega)
    refine ⟨by omega, by omega, fun h2 => ⟨by omega, by omega, fk.own, hroom, go _ ?_⟩, fun h2 => ⟨fk.own, hroom, go _ ?_⟩⟩
    · unfold isRef
      have h2' := of_decide_eq_true h2
      rw [decide_eq_true (by omega : 2 ≤ (l.getD n (0, ((0, []), 0))).1), Bool.true_and]
    · unfold isRef
      have h2' := of_decide_eq_false h2
      rw [decide_eq_false (by omega), Bool.false_and]
  · have hge : n = l.length := by have := of_decide_eq_false h; omega
    subst hge
    rw [List.take_length]
    exact ⟨rfl, rfl⟩

/-- refmap.Of -/
theorem p24 (s : ST) (h1 : s.1.length ≤ 140737488355328) (h2 : s.2.length ≤ 140737488355328) : PC Try.prog 24 [.agg [.list cKN s.1 .no, .list cKN s.2 .no]] (.agg [.list .bool (ofR s).1 .no, .list .bool (ofR s).2 .no]) :=
  pcOf (X := X24) (d := 0) rfl FN24 (by kernel_rfl) (by decide) (E24 s ⟨_, p52 _ h1, _, p52 _ h2, rfl, rfl⟩)

/-- crucibleref12.Of -/
theorem p37 (s : ST) (h1 : s.1.length ≤ 140737488355328) (h2 : s.2.length ≤ 140737488355328) : PC Try.prog 37 [.agg [.list cKN s.1 .no, .list cKN s.2 .no]] (.agg [.list .bool (ofR s).1 .no, .list .bool (ofR s).2 .no]) :=
  pcOf (X := X37) (d := 0) rfl FN37 (by kernel_rfl) (by decide) (E37 s ⟨_, p60 _ h1, _, p60 _ h2, rfl, rfl⟩)

end Go.Proofs.Ytiomllkdfhglhaa.AB

set_option linter.unusedVariables false
set_option linter.unusedSimpArgs false
set_option maxRecDepth 100000
set_option maxHeartbeats 2000000
namespace Go.Proofs.Ytiomllkdfhglhaa.AB
open Go
/-! crucible/cruciblelaw12.shown -/
noncomputable def X16 : Cx := ⟨tt, [(18, [.cd .str, .cd (.int .i64)]), (19, [.cd (.slice (.pair (.slice .bool) (.slice .bool))), .cd (.int .i64)]), (24, [.cd (.pair (.slice .bool) (.slice .bool))]), (45, [.cd .bool])], [], [], [], []⟩
theorem FN16 : fnsB Try.prog X16.fns := (show True from trivial)
theorem E16 {R : V → Prop} (h : (∃ p1 : ((List Bool) × (List Bool)), PC Try.prog 24 [(.agg [(.list (.pair (.int .i64) (.pair (.pair (.int .i64) .str) (.int .i64))) (([((1 : Int), (((0 : Int), ([] : List UInt8)), (0 : Int))), ((2 : Int), (((0 : Int), ([] : List UInt8)), (0 : Int))), ((0 : Int), (((0 : Int), ([] : List UInt8)), (0 : Int)))] : List (Int × ((Int × (List UInt8)) × Int)))) .no), (.list (.pair (.int .i64) (.pair (.pair (.int .i64) .str) (.int .i64))) (([((4 : Int), (((0 : Int), ([] : List UInt8)), (0 : Int)))] : List (Int × ((Int × (List UInt8)) × Int)))) .no)])] ((.agg [(.list .bool p1.1 .no), (.list .bool p1.2 .no)])) ∧ (∃ p2 : Bool, PC Try.prog 45 [(.list .bool p1.1 .no), (.list .bool ([false, true, false] : List Bool) .no)] (.bool p2) ∧ (∃ p3 : Bool, PC Try.prog 45 [(.list .bool p1.2 .no), (.list .bool ([true] : List Bool) .no)] (.bool p3) ∧ (∃ p4 : (List UInt8) × Int, PC Try.prog 18 [(.list (.pair (.slice .bool) (.slice .bool)) (([(p1.1, p1.2)] : List ((List Bool) × (List Bool)))) .no)] ((.tup [(.str p4.1), (.int .i64 p4.2)])) ∧ (∃ p5 : (List ((List Bool) × (List Bool))) × Int, PC Try.prog 19 [(.str ([0, 1, 3, 1, 80] : List UInt8))] ((.tup [(.list (.pair (.slice .bool) (.slice .bool)) p5.1 .no), (.int .i64 p5.2)])) ∧ (∃ p6 : (List ((List Bool) × (List Bool))) × Int, PC Try.prog 19 [(.str ([0, 1, 3, 1, 81] : List UInt8))] ((.tup [(.list (.pair (.slice .bool) (.slice .bool)) p6.1 .no), (.int .i64 p6.2)])) ∧ (∃ p7 : (List ((List Bool) × (List Bool))) × Int, PC Try.prog 19 [(.str ([0, 1, 3, 1] : List UInt8))] ((.tup [(.list (.pair (.slice .bool) (.slice .bool)) p7.1 .no), (.int .i64 p7.2)])) ∧ (∃ p8 : (List ((List Bool) × (List Bool))) × Int, PC Try.prog 19 [(.str ([0, 1, 65, 0] : List UInt8))] ((.tup [(.list (.pair (.slice .bool) (.slice .bool)) p8.1 .no), (.int .i64 p8.2)])) ∧ ((p2 = true → ((p3 = true → (((p4.1 == ([0, 1, 3, 1, 80] : List UInt8)) = true → (((p4.2 == (0 : Int)) = true → (((((p5.1).length : Int) == (1 : Int)) = true → (0 ≤ (0 : Int) ∧ (0 : Int) < ((p5.1).length : Int) ∧ ((((((p5.1.getD ((0 : Int)).toNat ([], [])).1).length : Int) == (3 : Int)) = true → (((p5.2 == (0 : Int)) = true → (((p6.2 == (4 : Int)) = true → (((p7.2 == (5 : Int)) = true → R (.bool ((p8.2 == (2 : Int))))) ∧ ((p7.2 == (5 : Int)) = false → R (.bool false)))) ∧ ((p6.2 == (4 : Int)) = false → R (.bool false)))) ∧ ((p5.2 == (0 : Int)) = false → R (.bool false)))) ∧ (((((p5.1.getD ((0 : Int)).toNat ([], [])).1).length : Int) == (3 : Int)) = false → R (.bool false))))) ∧ ((((p5.1).length : Int) == (1 : Int)) = false → R (.bool false)))) ∧ ((p4.2 == (0 : Int)) = false → R (.bool false)))) ∧ ((p4.1 == ([0, 1, 3, 1, 80] : List UInt8)) = false → R (.bool false)))) ∧ (p3 = false → R (.bool false)))) ∧ (p2 = false → R (.bool false)))))))))))) :
  fnK X16.tt (callN Try.prog X16 0) (X16.md 16) (X16.mk1 16) Try.f16 [] ⟨[], [], ⟨0, []⟩⟩ (topK R) := Eq.mp (by kernel_rfl) h
end Go.Proofs.Ytiomllkdfhglhaa.AB

set_option linter.unusedVariables false
set_option linter.unusedSimpArgs false
namespace Go.Proofs.Ytiomllkdfhglhaa.AB
open Go

/-- shown -/
theorem p16 : PC Try.prog 16 [] (.bool true) := by
  have e1 : ofR ([(1, (((0 : Int), []), 0)), (2, ((0, []), 0)), (0, ((0, []), 0))], [(4, ((0, []), 0))]) = ([false, true, false], [true]) := by decide +kernel
  have e2 : packR [([false, true, false], [true])] = ([0, 1, 3, 1, 80], 0) := by decide +kernel
  have e3 : unpackR [0, 1, 3, 1, 80] = ([([false, true, false], [true])], 0) := by decide +kernel
  have e4 : unpackR [0, 1, 3, 1, 81] = ([], 4) := by decide +kernel
  have e5 : unpackR [0, 1, 3, 1] = ([], 5) := by decide +kernel
  have e6 : unpackR [0, 1, 65, 0] = ([], 2) := by decide +kernel
  refine pcOf (X := X16) (d := 0) rfl FN16 (by kernel_rfl) (by decide) (E16 ⟨_, p24 ([(1, (((0 : Int), []), 0)), (2, ((0, []), 0)), (0, ((0, []), 0))], [(4, ((0, []), 0))]) (by simp) (by simp), ?_⟩)
  rw [e1]
  refine ⟨_, p45 _ _ (by simp), _, p45 _ _ (by simp), _, p18 _ (by simp), ?_⟩
  have e2 : packR [((([false, true, false], [true]) : BM).1, (([false, true, false], [true]) : BM).2)] = ([0, 1, 3, 1, 80], 0) := e2
  rw [e2]
  refine ⟨_, p19 _ (by simp), _, p19 _ (by simp), _, p19 _ (by simp), _, p19 _ (by simp), ?_⟩
  rw [e3, e4, e5, e6]
  refine ⟨fun _ => ⟨fun _ => ⟨fun _ => ⟨fun _ => ⟨fun _ => ⟨by decide, by decide, fun _ => ⟨fun _ => ⟨fun _ => ⟨fun _ => ⟨rfl, rfl⟩, fun h => ?_⟩, fun h => ?_⟩, fun h => ?_⟩, fun h => ?_⟩, fun h => ?_⟩, fun h => ?_⟩, fun h => ?_⟩, fun h => ?_⟩, fun h => ?_⟩ <;> exact absurd h (by decide)

end Go.Proofs.Ytiomllkdfhglhaa.AB

set_option linter.unusedVariables false
set_option linter.unusedSimpArgs false
set_option maxRecDepth 100000
set_option maxHeartbeats 2000000
namespace Go.Proofs.Ytiomllkdfhglhaa.AB
open Go
/-! crucible/cruciblelaw12.RefmapBack -/
noncomputable def X4 : Cx := ⟨tt, [(16, [.cd .bool]), (17, [.cd (.slice (.pair (.slice .bool) (.slice .bool))), .cd (.slice (.pair (.slice .bool) (.slice .bool)))]), (18, [.cd .str, .cd (.int .i64)]), (19, [.cd (.slice (.pair (.slice .bool) (.slice .bool))), .cd (.int .i64)]), (20, [.cd .bool]), (21, [.cd (.int .i64)])], [], [], [], []⟩
theorem FN4 : fnsB Try.prog X4.fns := (show True from trivial)
theorem E4 (rows0 : (List (List Bool))) (locals1 : (List Int)) (s2 : (List UInt8)) (cut3 : Int) {R : V → Prop} (h : (∃ p1 : Bool, PC Try.prog 16 [] (.bool p1) ∧ (((!p1) = true → R (.bool false)) ∧
 ((!p1) = false → (∃ p2 : (List ((List Bool) × (List Bool))) × (List ((List Bool) × (List Bool))), PC Try.prog 17 [(.list (.slice .bool) rows0 .no), (.list (.int .i64) locals1 .no)] ((.tup [(.list (.pair (.slice .bool) (.slice .bool)) p2.1 .no), (.list (.pair (.slice .bool) (.slice .bool)) p2.2 .no)])) ∧ (∃ p3 : (List UInt8) × Int, PC Try.prog 18 [(.list (.pair (.slice .bool) (.slice .bool)) p2.1 .no)] ((.tup [(.str p3.1), (.int .i64 p3.2)])) ∧ (((p3.2 == (0 : Int)) = true → (∃ p4 : (List ((List Bool) × (List Bool))) × Int, PC Try.prog 19 [(.str p3.1)] ((.tup [(.list (.pair (.slice .bool) (.slice .bool)) p4.1 .no), (.int .i64 p4.2)])) ∧ (∃ p5 : Bool, PC Try.prog 20 [(.list (.pair (.slice .bool) (.slice .bool)) p4.1 .no), (.list (.pair (.slice .bool) (.slice .bool)) p2.2 .no)] (.bool p5) ∧ (∃ p6 : Int, PC Try.prog 21 [(.int .i64 cut3), (.int .i64 (((p3.1).length : Int)))] (.int .i64 p6) ∧ (0 ≤ p6 ∧ p6 ≤ ((p3.1).length : Int) ∧ (∃ p7 : (List ((List Bool) × (List Bool))) × Int, PC Try.prog 19 [(.str (((p3.1.take (p6).toNat).drop 0)))] ((.tup [(.list (.pair (.slice .bool) (.slice .bool)) p7.1 .no), (.int .i64 p7.2)])) ∧ ((((p3.1).length + (([121] : List UInt8)).length : Nat) : Int) ≤ IntKind.i64.max ∧ (∃ p8 : (List ((List Bool) × (List Bool))) × Int, PC Try.prog 19 [(.str ((p3.1 ++ ([121] : List UInt8))))] ((.tup [(.list (.pair (.slice .bool) (.slice .bool)) p8.1 .no), (.int .i64 p8.2)])) ∧ (((!p5) = true → R (.bool false)) ∧ ((!p5) = false → (((p4.2 != (0 : Int)) = true → R (.bool false)) ∧ ((p4.2 != (0 : Int)) = false → (((p7.2 != (5 : Int)) = true → R (.bool false)) ∧ ((p7.2 != (5 : Int)) = false → (((p8.2 != (6 : Int)) = true → R (.bool false)) ∧
 ((p8.2 != (6 : Int)) = false → (((decide (((s2).length : Int) > (100000 : Int))) = true → R (.bool p1)) ∧
 ((decide (((s2).length : Int) > (100000 : Int))) = false → (∃ p9 : (List ((List Bool) × (List Bool))) × Int, PC Try.prog 19 [(.str s2)] ((.tup [(.list (.pair (.slice .bool) (.slice .bool)) p9.1 .no), (.int .i64 p9.2)])) ∧ (((p9.2 != (0 : Int)) = true → ((p1 = true → R (.bool ((((p9.1).length : Int) == (0 : Int))))) ∧ (p1 = false → R (.bool false)))) ∧
 ((p9.2 != (0 : Int)) = false → (∃ p10 : (List UInt8) × Int, PC Try.prog 18 [(.list (.pair (.slice .bool) (.slice .bool)) p9.1 .no)] ((.tup [(.str p10.1), (.int .i64 p10.2)])) ∧ ((p1 = true → (((p10.1 == s2) = true → R (.bool ((p10.2 == (0 : Int))))) ∧ ((p10.1 == s2) = false → R (.bool false)))) ∧ (p1 = false → R (.bool false))))))))))))))))))))))))) ∧
 ((p3.2 == (0 : Int)) = false → (((decide (((s2).length : Int) > (100000 : Int))) = true → R (.bool p1)) ∧
 ((decide (((s2).length : Int) > (100000 : Int))) = false → (∃ p11 : (List ((List Bool) × (List Bool))) × Int, PC Try.prog 19 [(.str s2)] ((.tup [(.list (.pair (.slice .bool) (.slice .bool)) p11.1 .no), (.int .i64 p11.2)])) ∧ (((p11.2 != (0 : Int)) = true → ((p1 = true → R (.bool ((((p11.1).length : Int) == (0 : Int))))) ∧ (p1 = false → R (.bool false)))) ∧
 ((p11.2 != (0 : Int)) = false → (∃ p12 : (List UInt8) × Int, PC Try.prog 18 [(.list (.pair (.slice .bool) (.slice .bool)) p11.1 .no)] ((.tup [(.str p12.1), (.int .i64 p12.2)])) ∧ ((p1 = true → (((p12.1 == s2) = true → R (.bool ((p12.2 == (0 : Int))))) ∧ ((p12.1 == s2) = false → R (.bool false)))) ∧ (p1 = false → R (.bool false))))))))))))))))) :
  fnK X4.tt (callN Try.prog X4 0) (X4.md 4) (X4.mk1 4) Try.f4 [(.v (.list (.slice .bool) rows0 .no)), (.v (.list (.int .i64) locals1 .no)), (.v (.str s2)), (.v (.int .i64 cut3))] ⟨[], [], ⟨0, []⟩⟩ (topK R) := Eq.mp (by kernel_rfl) h
end Go.Proofs.Ytiomllkdfhglhaa.AB

set_option linter.unusedVariables false
set_option linter.unusedSimpArgs false
namespace Go.Proofs.Ytiomllkdfhglhaa.AB
open Go

/-- RefmapBack -/
theorem p4 (rows : List (List Bool)) (locals : List Int) (s : List UInt8) (cut : Int) (hr : rows.length ≤ 9223372036854775807) (hrs : ∀ r ∈ rows, r.length ≤ 9223372036854775807) (hl : locals.length ≤ 9223372036854775807)
    (hls : ∀ c ∈ locals, -9223372036854775808 ≤ c ∧ c ≤ 9223372036854775807) (hs : s.length ≤ 9223372036854775807) (hc : -9223372036854775808 ≤ cut ∧ cut ≤ 9223372036854775807) :
    PC Try.prog 4 [.list (.slice .bool) rows .no, .list (.int .i64) locals .no, .str s, .int .i64 cut] (.bool true) := by
  obtain ⟨M, hM, hM5, h17⟩ := p17 rows locals hr hrs hl hls
  have tail : ((decide ((s.length : Int) > (100000 : Int))) = true → V.norm (.bool true) = .bool true ∧ (V.bool true).nt = true) ∧
      ((decide ((s.length : Int) > (100000 : Int))) = false → (∃ p9 : (List BM) × Int, PC Try.prog 19 [(.str s)] ((.tup [(.list (.pair (.slice .bool) (.slice .bool)) p9.1 .no), (.int .i64 p9.2)])) ∧ (((p9.2 != (0 : Int)) = true → (((true : Bool) = true → V.norm (.bool ((((p9.1).length : Int) == (0 : Int)))) = .bool true ∧ (V.bool true).nt = true) ∧ ((true : Bool) = false → V.norm (.bool false) = .bool true ∧ (V.bool true).nt = true))) ∧
      ((p9.2 != (0 : Int)) = false → (∃ p10 : (List UInt8) × Int, PC Try.prog 18 [(.list (.pair (.slice .bool) (.slice .bool)) p9.1 .no)] ((.tup [(.str p10.1), (.int .i64 p10.2)])) ∧ (((true : Bool) = true → (((p10.1 == s) = true → V.norm (.bool ((p10.2 == (0 : Int)))) = .bool true ∧ (V.bool true).nt = true) ∧ ((p10.1 == s) = false → V.norm (.bool false) = .bool true ∧ (V.bool true).nt = true))) ∧ ((true : Bool) = false → V.norm (.bool false) = .bool true ∧ (V.bool true).nt = true))))))) := by
    refine ⟨fun _ => ⟨rfl, rfl⟩, fun h => ⟨unpackR s, p19 s hs, fun h2 => ⟨fun _ => ?_, fun h => by cases h⟩, fun h2 => ?_⟩⟩
    · rw [unpack_bad s (by simpa using h2)]
      exact ⟨rfl, rfl⟩
    · have h2 : (unpackR s).2 = 0 := by simpa using h2
      have hp := unpack_ok h2
      have hlen := (packR_ok (l := (unpackR s).1) (by rw [hp])).1
      refine ⟨packR (unpackR s).1, p18 _ (by omega), ?_⟩
      rw [hp]
      refine ⟨fun _ => ⟨fun _ => ⟨rfl, rfl⟩, fun h => ?_⟩, fun h => by cases h⟩
      simp at h
  refine pcOf (X := X4) (d := 0) rfl FN4 (by kernel_rfl) (by decide) (E4 rows locals s cut ⟨true, p16, fun h => (by cases h), fun _ => ⟨(M, M), h17, packR M, p18 M (by omega), fun h => ?_, fun h => tail⟩⟩)
  have h : (packR M).2 = 0 := by simpa using h
  obtain ⟨h1, h2, h3⟩ := packR_ok h
  have hx : packR M = (UInt8.ofNat (M.length / 256) :: UInt8.ofNat (M.length % 256) :: mbs M, 0) := Prod.ext h3 h
  have hmb : (mbs M).length ≤ 18 * M.length := by
    have := packs_len M (any_of_okMaps h2)
    rw [← ofBytes_packs]; simpa [ofBytes] using this
  obtain ⟨x, hxd⟩ : ∃ x, x = UInt8.ofNat (M.length / 256) :: UInt8.ofNat (M.length % 256) :: mbs M := ⟨_, rfl⟩
  have hxl : x.length = (mbs M).length + 2 := by rw [hxd]; rfl
  have u1 : unpackR x = (M, 0) := by
    have := unpack_packed h1 h2 []
    rw [List.append_nil] at this
    rw [hxd, this, if_pos rfl]
  have u3 : unpackR (x ++ [121]) = ([], 6) := by
    have := unpack_packed h1 h2 [121]
    rw [hxd]
    show unpackR (_ :: _ :: (mbs M ++ [121])) = _
    rw [this, if_neg (by simp)]
  rw [hx, ← hxd]
  obtain ⟨c, hcd⟩ : ∃ c : Int, c = (if cut < 0 then -(cut + 1) else cut) := ⟨_, rfl⟩
  have hc0 : 0 ≤ c := by rw [hcd]; split <;> omega
  have hrng := tmod_range (x := c) (n := (x.length : Int)) hc0 (by omega)
  have u2 : unpackR ((x.take (Int.tmod c (x.length : Int)).toNat).drop 0) = ([], 5) := by
    rw [List.drop_zero, hxd]
    exact unpack_cut h1 h2 _ (by rw [← hxl, ← hxd]; omega)
  refine ⟨unpackR x, p19 x (by omega), ?_⟩
  rw [u1]
  refine ⟨_, p20 M M hM, _, p21 cut (x.length : Int) hc (by omega), ?_⟩
  rw [← hcd]
  refine ⟨hrng.1, by show _ ≤ (x.length : Int); omega, unpackR ((x.take (Int.tmod c (x.length : Int)).toNat).drop 0), p19 _ (by simp; omega), by
    show ((x.length + 1 : Nat) : Int) ≤ 9223372036854775807
    omega, unpackR (x ++ [121]), p19 _ (by simp; omega), ?_⟩
  rw [u2, u3]
  refine ⟨fun h => ?_, fun _ => ⟨fun h => ?_, fun _ => ⟨fun h => ?_, fun _ => ⟨fun h => ?_, fun _ => tail⟩⟩⟩⟩
  · simp at h
  · simp at h
  · simp at h
  · simp at h

theorem law_RefmapBack (rows : List (List Bool)) (locals : List Int) (s : List UInt8) (cut : Int) (hr : Cd.wf (.slice (.slice .bool)) rows) (hl : Cd.wf (.slice (.int .i64)) locals) (hs : Cd.wf .str s) (hc : Cd.wf (.int .i64) cut) :
    PC Try.prog 4 [.list (.slice .bool) rows .no, .list (.int .i64) locals .no, .str s, .int .i64 cut] (.bool true) :=
  p4 rows locals s cut hr.1 (fun r h => (hr.2 r h).1) hl.1 (fun c h => hl.2 c h) hs hc

end Go.Proofs.Ytiomllkdfhglhaa.AB

set_option linter.unusedVariables false
set_option linter.unusedSimpArgs false
set_option maxRecDepth 100000
set_option maxHeartbeats 2000000
namespace Go.Proofs.Ytiomllkdfhglhaa.AB
open Go
/-! crucible/cruciblelaw12.RefmapJoins -/
noncomputable def X6 : Cx := ⟨tt, [(16, [.cd .bool]), (17, [.cd (.slice (.pair (.slice .bool) (.slice .bool))), .cd (.slice (.pair (.slice .bool) (.slice .bool)))]), (18, [.cd .str, .cd (.int .i64)])], [], [], [], []⟩
theorem FN6 : fnsB Try.prog X6.fns := (show True from trivial)
theorem E6 (rows0 : (List (List Bool))) (locals1 : (List Int)) (more2 : (List (List Bool))) {R : V → Prop} (h : (∃ p1 : Bool, PC Try.prog 16 [] (.bool p1) ∧ (((!p1) = true → R (.bool false)) ∧
 ((!p1) = false → (∃ p2 : (List ((List Bool) × (List Bool))) × (List ((List Bool) × (List Bool))), PC Try.prog 17 [(.list (.slice .bool) rows0 .no), (.list (.int .i64) locals1 .no)] ((.tup [(.list (.pair (.slice .bool) (.slice .bool)) p2.1 .no), (.list (.pair (.slice .bool) (.slice .bool)) p2.2 .no)])) ∧ (∃ p3 : (List ((List Bool) × (List Bool))) × (List ((List Bool) × (List Bool))), PC Try.prog 17 [(.list (.slice .bool) more2 .no), (.list (.int .i64) locals1 .no)] ((.tup [(.list (.pair (.slice .bool) (.slice .bool)) p3.1 .no), (.list (.pair (.slice .bool) (.slice .bool)) p3.2 .no)])) ∧ (∃ p4 : (List UInt8) × Int, PC Try.prog 18 [(.list (.pair (.slice .bool) (.slice .bool)) p2.1 .no)] ((.tup [(.str p4.1), (.int .i64 p4.2)])) ∧ (∃ p5 : (List UInt8) × Int, PC Try.prog 18 [(.list (.pair (.slice .bool) (.slice .bool)) p3.1 .no)] ((.tup [(.str p5.1), (.int .i64 p5.2)])) ∧ (Tok.own .exact ([]) ∧ ((([] : List ((List Bool) × (List Bool)))).length + (p2.1).length) * 48 ≤ room ∧ (Tok.own (.tk 0) (0 :: []) ∧ (((([] : List ((List Bool) × (List Bool))) ++ p2.1)).length + (p3.1).length) * 48 ≤ room ∧ (∃ p6 : (List UInt8) × Int, PC Try.prog 18 [(.list (.pair (.slice .bool) (.slice .bool)) (((([] : List ((List Bool) × (List Bool))) ++ p2.1) ++ p3.1)) .no)] ((.tup [(.str p6.1), (.int .i64 p6.2)])) ∧ (((p4.2 != (0 : Int)) = true → ((p1 = true → (((p4.2 == (0 : Int)) = true → (((p5.2 == (0 : Int)) = true → R (.bool true)) ∧ ((p5.2 == (0 : Int)) = false → R (.bool ((p6.1 == ([] : List UInt8))))))) ∧ ((p4.2 == (0 : Int)) = false → R (.bool ((p6.1 == ([] : List UInt8))))))) ∧ (p1 = false → R (.bool false)))) ∧ ((p4.2 != (0 : Int)) = false → (((p5.2 != (0 : Int)) = true → ((p1 = true → (((p4.2 == (0 : Int)) = true → (((p5.2 == (0 : Int)) = true → R (.bool true)) ∧ ((p5.2 == (0 : Int)) = false → R (.bool ((p6.1 == ([] : List UInt8))))))) ∧ ((p4.2 == (0 : Int)) = false → R (.bool ((p6.1 == ([] : List UInt8))))))) ∧ (p1 = false → R (.bool false)))) ∧ ((p5.2 != (0 : Int)) = false → (((decide ((IntKind.wrap .i64 (((p2.1).length : Int) + ((p3.1).length : Int))) > (4096 : Int))) = true → ((p1 = true → (((p4.2 == (0 : Int)) = true → (((p5.2 == (0 : Int)) = true → R (.bool true)) ∧ ((p5.2 == (0 : Int)) = false → R (.bool ((p6.1 == ([] : List UInt8))))))) ∧ ((p4.2 == (0 : Int)) = false → R (.bool ((p6.1 == ([] : List UInt8))))))) ∧ (p1 = false → R (.bool false)))) ∧
 ((decide ((IntKind.wrap .i64 (((p2.1).length : Int) + ((p3.1).length : Int))) > (4096 : Int))) = false → ((p1 = true → (((p6.2 == (0 : Int)) = true → ((256 : Int) ≠ 0 ∧ ((256 : Int) ≠ 0 ∧ (0 ≤ (2 : Int) ∧ (2 : Int) ≤ ((p4.1).length : Int) ∧ (((((ofBytes (([(IntKind.wrap .u8 (IntKind.wrap .i64 (Int.tdiv (IntKind.wrap .i64 (((p2.1).length : Int) + ((p3.1).length : Int))) (256 : Int)))), (IntKind.wrap .u8 (Int.tmod (IntKind.wrap .i64 (((p2.1).length : Int) + ((p3.1).length : Int))) (256 : Int)))] : List Int)))).length + (((p4.1.take (p4.1).length).drop ((2 : Int)).toNat)).length : Nat) : Int) ≤ IntKind.i64.max ∧ (0 ≤ (2 : Int) ∧ (2 : Int) ≤ ((p5.1).length : Int) ∧ ((((((ofBytes (([(IntKind.wrap .u8 (IntKind.wrap .i64 (Int.tdiv (IntKind.wrap .i64 (((p2.1).length : Int) + ((p3.1).length : Int))) (256 : Int)))), (IntKind.wrap .u8 (Int.tmod (IntKind.wrap .i64 (((p2.1).length : Int) + ((p3.1).length : Int))) (256 : Int)))] : List Int))) ++ ((p4.1.take (p4.1).length).drop ((2 : Int)).toNat))).length + (((p5.1.take (p5.1).length).drop ((2 : Int)).toNat)).length : Nat) : Int) ≤ IntKind.i64.max ∧ R (.bool ((p6.1 == ((((ofBytes (([(IntKind.wrap .u8 (IntKind.wrap .i64 (Int.tdiv (IntKind.wrap .i64 (((p2.1).length : Int) + ((p3.1).length : Int))) (256 : Int)))), (IntKind.wrap .u8 (Int.tmod (IntKind.wrap .i64 (((p2.1).length : Int) + ((p3.1).length : Int))) (256 : Int)))] : List Int))) ++ ((p4.1.take (p4.1).length).drop ((2 : Int)).toNat)) ++ ((p5.1.take (p5.1).length).drop ((2 : Int)).toNat))))))))))))) ∧ ((p6.2 == (0 : Int)) = false → R (.bool false)))) ∧ (p1 = false → R (.bool false)))))))))))))))))))) :
  fnK X6.tt (callN Try.prog X6 0) (X6.md 6) (X6.mk1 6) Try.f6 [(.v (.list (.slice .bool) rows0 .no)), (.v (.list (.int .i64) locals1 .no)), (.v (.list (.slice .bool) more2 .no))] ⟨[], [], ⟨0, []⟩⟩ (topK R) := Eq.mp (by kernel_rfl) h
end Go.Proofs.Ytiomllkdfhglhaa.AB

set_option linter.unusedVariables false
set_option linter.unusedSimpArgs false
namespace Go.Proofs.Ytiomllkdfhglhaa.AB
open Go

theorem hd2_ofBytes (n : Nat) (h : n ≤ 4096) : ofBytes [IntKind.wrap .u8 (IntKind.wrap .i64 (Int.tdiv (n : Int) 256)), IntKind.wrap .u8 (Int.tmod (n : Int) 256)] = [UInt8.ofNat (n / 256), UInt8.ofNat (n % 256)] := by
  have e1 : Int.tdiv (n : Int) 256 = ((n / 256 : Nat) : Int) := by rw [Int.tdiv_eq_ediv_of_nonneg (by omega)]; omega
  have e2 : Int.tmod (n : Int) 256 = ((n % 256 : Nat) : Int) := by rw [Int.tmod_eq_emod_of_nonneg (by omega)]; omega
  rw [e1, e2, wrap64 (by omega) (by omega), wrapu8 (by omega) (by omega), wrapu8 (by omega) (by omega)]
  simp only [ofBytes, List.map_cons, List.map_nil, Int.toNat_natCast]

theorem mbs_append (a b : List BM) : mbs (a ++ b) = mbs a ++ mbs b := by simp [mbs]

theorem any_append_bad {a b : List BM} (h : a.any tooLong = true ∨ b.any tooLong = true) : (a ++ b).any tooLong = true := by
  rw [List.any_append, Bool.or_eq_true]; exact h

/-- what is refused alone is refused together -/
theorem packR_bad {a b : List BM} (h : (packR a).2 ≠ 0 ∨ (packR b).2 ≠ 0) : (packR (a ++ b)).1 = [] := by
  unfold packR
  split
  · rfl
  rename_i h1
  rw [List.length_append] at h1
  have ea : packR a = if a.any tooLong then ([], 2) else (ofBytes (hd2 a.length ++ packs a), 0) := by unfold packR; rw [if_neg (by omega)]
  have eb : packR b = if b.any tooLong then ([], 2) else (ofBytes (hd2 b.length ++ packs b), 0) := by unfold packR; rw [if_neg (by omega)]
  rw [ea, eb] at h
  have : (a ++ b).any tooLong = true := by
    apply any_append_bad
    rcases h with h | h
    · left
      cases e : a.any tooLong with
      | true => rfl
      | false => rw [e] at h; simp at h
    · right
      cases e : b.any tooLong with
      | true => rfl
      | false => rw [e] at h; simp at h
  rw [if_pos this]

/-- RefmapJoins -/
theorem p6 (rows : List (List Bool)) (locals : List Int) (more : List (List Bool)) (hr : rows.length ≤ 9223372036854775807) (hrs : ∀ r ∈ rows, r.length ≤ 9223372036854775807) (hl : locals.length ≤ 9223372036854775807)
    (hls : ∀ c ∈ locals, -9223372036854775808 ≤ c ∧ c ≤ 9223372036854775807) (hm : more.length ≤ 9223372036854775807) (hms : ∀ r ∈ more, r.length ≤ 9223372036854775807) :
    PC Try.prog 6 [.list (.slice .bool) rows .no, .list (.int .i64) locals .no, .list (.slice .bool) more .no] (.bool true) := by
  obtain ⟨A, hA, hA5, h17⟩ := p17 rows locals hr hrs hl hls
  obtain ⟨B, hB, hB5, h17'⟩ := p17 more locals hm hms hl hls
  refine pcOf (X := X6) (d := 0) rfl FN6 (by kernel_rfl) (by decide) (E6 rows locals more ⟨true, p16, fun h => (by cases h), fun _ => ⟨(A, A), h17, (B, B), h17', packR A, p18 A (by omega), packR B, p18 B (by omega), trivial, ?_, ?_, ?_, packR (A ++ B), ?_, ?_⟩⟩)
  · show (0 + A.length) * 48 ≤ 140737488355328; omega
  · exact List.mem_cons_self ..
  · rw [List.nil_append]
    have : (A.length + B.length) * 48 ≤ 140737488355328 := by omega
    exact this
  · exact p18 (A ++ B) (by rw [List.length_append]; omega)
  have e0 : ∀ {x : Int}, (x == 0) = false → x ≠ 0 := fun h => by simpa using h
  have e1 : ∀ {x : Int}, (x != 0) = true → x ≠ 0 := fun h => by simpa using h
  have e2 : ∀ {x : Int}, (x != 0) = false → x = 0 := fun h => by simpa using h
  have bad : (packR A).2 ≠ 0 ∨ (packR B).2 ≠ 0 → V.norm (.bool ((packR (A ++ B)).1 == [])) = .bool true ∧ (V.bool true).nt = true := fun h => by
    rw [packR_bad h]; exact ⟨rfl, rfl⟩
  have Y : ((true = true → (((packR A).2 == (0 : Int)) = true → (((packR B).2 == (0 : Int)) = true → V.norm (.bool true) = .bool true ∧ (V.bool true).nt = true) ∧ (((packR B).2 == (0 : Int)) = false → V.norm (.bool ((packR (A ++ B)).1 == [])) = .bool true ∧ (V.bool true).nt = true)) ∧
      (((packR A).2 == (0 : Int)) = false → V.norm (.bool ((packR (A ++ B)).1 == [])) = .bool true ∧ (V.bool true).nt = true)) ∧ (true = false → V.norm (.bool false) = .bool true ∧ (V.bool true).nt = true)) :=
    ⟨fun _ => ⟨fun _ => ⟨fun _ => ⟨rfl, rfl⟩, fun h => bad (.inr (e0 h))⟩, fun h => bad (.inl (e0 h))⟩, fun h => by cases h⟩
  refine ⟨fun _ => Y, fun ha => ⟨fun _ => Y, fun hb => ⟨fun _ => Y, fun hn => ?_⟩⟩⟩
  have ha := e2 ha
  have hb := e2 hb
  have hn := of_decide_eq_false hn
  rw [wrap64 (x := (A.length : Int) + (B.length : Int)) (by omega) (by omega)] at hn ⊢
  obtain ⟨a1, a2, a3⟩ := packR_ok ha
  obtain ⟨b1, b2, b3⟩ := packR_ok hb
  have hc : packR (A ++ B) = (UInt8.ofNat ((A.length + B.length) / 256) :: UInt8.ofNat ((A.length + B.length) % 256) :: (mbs A ++ mbs B), 0) := by
    have := packR_of (l := A ++ B) (by rw [List.length_append]; omega) (fun m hm => by
      rcases List.mem_append.1 hm with h | h
      · exact a2 m h
      · exact b2 m h)
    rw [mbs_append, List.length_append] at this
    exact this
  have hma : (mbs A).length ≤ 18 * A.length := by
    have := packs_len A (any_of_okMaps a2)
    rw [← ofBytes_packs]; simpa [ofBytes] using this
  have hmb : (mbs B).length ≤ 18 * B.length := by
    have := packs_len B (any_of_okMaps b2)
    rw [← ofBytes_packs]; simpa [ofBytes] using this
  have hin : (A.length : Int) + (B.length : Int) = ((A.length + B.length : Nat) : Int) := by omega
  rw [hc, a3, b3, hin, hd2_ofBytes _ (by omega)]
  have et : ∀ (x y : UInt8) (l : List UInt8), ((x :: y :: l).take (x :: y :: l).length).drop ((2 : Int)).toNat = l := by intro x y l; rw [List.take_length]; rfl
  rw [et, et]
  refine ⟨fun _ => ⟨fun _ => ⟨by decide, by decide, by decide, by simp; omega, ?_, by decide, by simp; omega, ?_, ?_⟩, fun h => ?_⟩, fun h => by cases h⟩
  · show ((2 + (mbs A).length : Nat) : Int) ≤ 9223372036854775807
    omega
  · have e : IntKind.max .i64 = 9223372036854775807 := rfl
    rw [e]
    simp only [List.length_append, List.length_cons, List.length_nil]
    omega
  · simp [V.norm, V.norm1, V.norm0, V.nt]
  · simp at h

theorem law_RefmapJoins (rows : List (List Bool)) (locals : List Int) (more : List (List Bool)) (hr : Cd.wf (.slice (.slice .bool)) rows) (hl : Cd.wf (.slice (.int .i64)) locals) (hm : Cd.wf (.slice (.slice .bool)) more) :
    PC Try.prog 6 [.list (.slice .bool) rows .no, .list (.int .i64) locals .no, .list (.slice .bool) more .no] (.bool true) :=
  p6 rows locals more hr.1 (fun r h => (hr.2 r h).1) hl.1 (fun c h => hl.2 c h) hm.1 (fun r h => (hm.2 r h).1)

end Go.Proofs.Ytiomllkdfhglhaa.AB

set_option linter.unusedVariables false
set_option linter.unusedSimpArgs false
set_option maxRecDepth 100000
set_option maxHeartbeats 2000000
namespace Go.Proofs.Ytiomllkdfhglhaa.AB
open Go
/-! crucible/cruciblelaw12.RefmapMakes -/
noncomputable def X11 : Cx := ⟨tt, [(16, [.cd .bool]), (20, [.cd .bool]), (24, [.cd (.pair (.slice .bool) (.slice .bool))]), (37, [.cd (.pair (.slice .bool) (.slice .bool))]), (38, [.cd (.slice (.pair (.slice .bool) (.slice .bool)))]), (39, [.cd (.slice (.pair (.slice .bool) (.slice .bool)))])], [], [], [(11, [(0, mkM 58 0 [0, 1, 2, 7, 8], 0)])], []⟩
theorem FN11 : fnsB Try.prog X11.fns := (show True from trivial)
def M11_0 : List Bool × Nat := (mkM 58 0 [0, 1, 2, 7, 8], 0)
def S11_0 (states0 : List ((List (Int × ((Int × (List UInt8)) × Int))) × (List (Int × ((Int × (List UInt8)) × Int))))) (reached1 : List Bool) (l2 : List (Int × (Int × (Int × ((List Int) × (List Int)))))) (head7 : Bool) (i8 : Int) (T : Toks) : St :=
  mkS 58 [(0, (.v (.list (.pair (.slice (.pair (.int .i64) (.pair (.pair (.int .i64) .str) (.int .i64)))) (.slice (.pair (.int .i64) (.pair (.pair (.int .i64) .str) (.int .i64))))) states0 .no))), (1, (.v (.list .bool reached1 .no))), (2, (.v (.list (.pair (.int .i64) (.pair (.int .i64) (.pair (.int .i64) (.pair (.slice (.int .i64)) (.slice (.int .i64)))))) l2 .no))), (7, (.v (.bool head7))), (8, (.v (.int .i64 i8)))] [] T
noncomputable def B11_0 : (Exit → St → Prop) → St → Prop := (awp X11.tt (callN Try.prog X11 0) (X11.md 11) 0 (X11.mk1 11) 0 (codeAt [1, 1, 1, 0, 1, 0, 0] (bd Try.f11)))
noncomputable def K11_0 (R : V → Prop) : Exit → St → Prop := seqK ((awp X11.tt (callN Try.prog X11 0) (X11.md 11) 0 (X11.mk1 11) 0 (codeAt [1, 1, 1, 1] (bd Try.f11))) (retK tt Try.f11.results.toList fun x s' => topK R x ⟨[], s'.hp, s'.T⟩)) (retK tt Try.f11.results.toList fun x s' => topK R x ⟨[], s'.hp, s'.T⟩)
noncomputable def Q11_0 (R : V → Prop) : Exit → St → Prop := (blockK 0 (K11_0 R))
theorem E11 (states0 : (List ((List (Int × ((Int × (List UInt8)) × Int))) × (List (Int × ((Int × (List UInt8)) × Int)))))) (reached1 : (List Bool)) (l2 : (List (Int × (Int × (Int × ((List Int) × (List Int))))))) {R : V → Prop} (h : (∃ p1 : Bool, PC Try.prog 16 [] (.bool p1) ∧ (((!p1) = true → R (.bool false)) ∧
 ((!p1) = false → (Loops B11_0 M11_0 (Q11_0 R)
  (S11_0 states0 reached1 l2 p1 (0 : Int) ⟨0, []⟩)))))) :
  fnK X11.tt (callN Try.prog X11 0) (X11.md 11) (X11.mk1 11) Try.f11 [(.v (.list (.pair (.slice (.pair (.int .i64) (.pair (.pair (.int .i64) .str) (.int .i64)))) (.slice (.pair (.int .i64) (.pair (.pair (.int .i64) .str) (.int .i64))))) states0 .no)), (.v (.list .bool reached1 .no)), (.v (.list (.pair (.int .i64) (.pair (.int .i64) (.pair (.int .i64) (.pair (.slice (.int .i64)) (.slice (.int .i64)))))) l2 .no))] ⟨[], [], ⟨0, []⟩⟩ (topK R) := Eq.mp (by kernel_rfl) h
theorem L11_0 (states0 : List ((List (Int × ((Int × (List UInt8)) × Int))) × (List (Int × ((Int × (List UInt8)) × Int))))) (reached1 : List Bool) (l2 : List (Int × (Int × (Int × ((List Int) × (List Int)))))) (head7 : Bool) (i8 : Int) (T : Toks) {R : V → Prop} {k0 : St → Prop}
 (h : (((decide (i8 < ((states0).length : Int))) = true → (((decide (i8 < (300 : Int))) = true → (0 ≤ i8 ∧ i8 < ((states0).length : Int) ∧ (∃ p2 : ((List Bool) × (List Bool)), PC Try.prog 24 [(.agg [(.list (.pair (.int .i64) (.pair (.pair (.int .i64) .str) (.int .i64))) ((states0.getD (i8).toNat ([], [])).1) .no), (.list (.pair (.int .i64) (.pair (.pair (.int .i64) .str) (.int .i64))) ((states0.getD (i8).toNat ([], [])).2) .no)])] ((.agg [(.list .bool p2.1 .no), (.list .bool p2.2 .no)])) ∧ (0 ≤ i8 ∧ i8 < ((states0).length : Int) ∧ (∃ p3 : ((List Bool) × (List Bool)), PC Try.prog 37 [(.agg [(.list (.pair (.int .i64) (.pair (.pair (.int .i64) .str) (.int .i64))) ((states0.getD (i8).toNat ([], [])).1) .no), (.list (.pair (.int .i64) (.pair (.pair (.int .i64) .str) (.int .i64))) ((states0.getD (i8).toNat ([], [])).2) .no)])] ((.agg [(.list .bool p3.1 .no), (.list .bool p3.2 .no)])) ∧ (∃ p4 : Bool, PC Try.prog 20 [(.list (.pair (.slice .bool) (.slice .bool)) (([(p2.1, p2.2)] : List ((List Bool) × (List Bool)))) .no), (.list (.pair (.slice .bool) (.slice .bool)) (([(p3.1, p3.2)] : List ((List Bool) × (List Bool)))) .no)] (.bool p4) ∧ (((!p4) = true → R (.bool false)) ∧
 ((!p4) = false → k0 (S11_0 states0 reached1 l2 head7 ((IntKind.wrap .i64 (i8 + (1 : Int)))) T))))))))) ∧
 ((decide (i8 < (300 : Int))) = false → (∃ p5 : (List ((List Bool) × (List Bool))), PC Try.prog 38 [(.agg [(.list (.pair (.int .i64) (.pair (.int .i64) (.pair (.int .i64) (.pair (.slice (.int .i64)) (.slice (.int .i64)))))) l2 .no), (.list (.pair (.slice (.pair (.int .i64) (.pair (.pair (.int .i64) .str) (.int .i64)))) (.slice (.pair (.int .i64) (.pair (.pair (.int .i64) .str) (.int .i64))))) states0 .no), (.list .bool reached1 .no)])] ((.list (.pair (.slice .bool) (.slice .bool)) p5 .no)) ∧ (∃ p6 : (List ((List Bool) × (List Bool))), PC Try.prog 39 [(.agg [(.list (.pair (.int .i64) (.pair (.int .i64) (.pair (.int .i64) (.pair (.slice (.int .i64)) (.slice (.int .i64)))))) l2 .no), (.list (.pair (.slice (.pair (.int .i64) (.pair (.pair (.int .i64) .str) (.int .i64)))) (.slice (.pair (.int .i64) (.pair (.pair (.int .i64) .str) (.int .i64))))) states0 .no), (.list .bool reached1 .no)])] ((.list (.pair (.slice .bool) (.slice .bool)) p6 .no)) ∧ (∃ p7 : Bool, PC Try.prog 20 [(.list (.pair (.slice .bool) (.slice .bool)) p5 .no), (.list (.pair (.slice .bool) (.slice .bool)) p6 .no)] (.bool p7) ∧ ((head7 = true → R (.bool p7)) ∧ (head7 = false → R (.bool false))))))))) ∧ ((decide (i8 < ((states0).length : Int))) = false → (∃ p8 : (List ((List Bool) × (List Bool))), PC Try.prog 38 [(.agg [(.list (.pair (.int .i64) (.pair (.int .i64) (.pair (.int .i64) (.pair (.slice (.int .i64)) (.slice (.int .i64)))))) l2 .no), (.list (.pair (.slice (.pair (.int .i64) (.pair (.pair (.int .i64) .str) (.int .i64)))) (.slice (.pair (.int .i64) (.pair (.pair (.int .i64) .str) (.int .i64))))) states0 .no), (.list .bool reached1 .no)])] ((.list (.pair (.slice .bool) (.slice .bool)) p8 .no)) ∧ (∃ p9 : (List ((List Bool) × (List Bool))), PC Try.prog 39 [(.agg [(.list (.pair (.int .i64) (.pair (.int .i64) (.pair (.int .i64) (.pair (.slice (.int .i64)) (.slice (.int .i64)))))) l2 .no), (.list (.pair (.slice (.pair (.int .i64) (.pair (.pair (.int .i64) .str) (.int .i64)))) (.slice (.pair (.int .i64) (.pair (.pair (.int .i64) .str) (.int .i64))))) states0 .no), (.list .bool reached1 .no)])] ((.list (.pair (.slice .bool) (.slice .bool)) p9 .no)) ∧ (∃ p10 : Bool, PC Try.prog 20 [(.list (.pair (.slice .bool) (.slice .bool)) p8 .no), (.list (.pair (.slice .bool) (.slice .bool)) p9 .no)] (.bool p10) ∧ ((head7 = true → R (.bool p10)) ∧ (head7 = false → R (.bool false))))))))) :
  B11_0 (loopQ M11_0 k0 (Q11_0 R)) (S11_0 states0 reached1 l2 head7 i8 T) := Eq.mp (by kernel_rfl) h
end Go.Proofs.Ytiomllkdfhglhaa.AB

set_option linter.unusedVariables false
set_option linter.unusedSimpArgs false
set_option maxRecDepth 100000
set_option maxHeartbeats 2000000
namespace Go.Proofs.Ytiomllkdfhglhaa.AB
open Go
/-! crucible/refmap.Make -/
noncomputable def X38 : Cx := ⟨tt, [(24, [.cd (.pair (.slice .bool) (.slice .bool))])], [], [], [(38, [(0, mkM 46 0 [1, 3, 27, 28, 29], 2)])], []⟩
theorem FN38 : fnsB Try.prog X38.fns := (show True from trivial)
def M38_0 : List Bool × Nat := (mkM 46 0 [1, 3, 27, 28, 29], 2)
def S38_0 (l3n : Nat) (t27 : List ((List (Int × ((Int × (List UInt8)) × Int))) × (List (Int × ((Int × (List UInt8)) × Int))))) (t28 : Int) (t29 : Int) (hq0_0 : List (Int × (Int × (Int × ((List Int) × (List Int)))))) (hq0_0k : Tok) (hq0_1 : List ((List (Int × ((Int × (List UInt8)) × Int))) × (List (Int × ((Int × (List UInt8)) × Int))))) (hq0_1k : Tok) (hq0_2 : List Bool) (hq0_2k : Tok) (hq1 : List ((List Bool) × (List Bool))) (hq1s : Nat → Tok) (T : Toks) : St :=
  mkS 46 [(1, (.ptr 0 0 0 0)), (3, (.arr 1 0 0 l3n)), (27, (.v (.list (.pair (.slice (.pair (.int .i64) (.pair (.pair (.int .i64) .str) (.int .i64)))) (.slice (.pair (.int .i64) (.pair (.pair (.int .i64) .str) (.int .i64))))) t27 .no))), (28, (.v (.int .i64 t28))), (29, (.v (.int .i64 t29)))] [(some (.box (.v (.agg [(.list (.pair (.int .i64) (.pair (.int .i64) (.pair (.int .i64) (.pair (.slice (.int .i64)) (.slice (.int .i64)))))) hq0_0 hq0_0k), (.list (.pair (.slice (.pair (.int .i64) (.pair (.pair (.int .i64) .str) (.int .i64)))) (.slice (.pair (.int .i64) (.pair (.pair (.int .i64) .str) (.int .i64))))) hq0_1 hq0_1k), (.list .bool hq0_2 hq0_2k)])))), (some (.arr 0 (.pair (.slice .bool) (.slice .bool)) hq1 hq1s))] T
noncomputable def B38_0 : (Exit → St → Prop) → St → Prop := (awp X38.tt (callN Try.prog X38 0) (X38.md 38) 0 (X38.mk1 38) 0 (codeAt [1, 1, 1, 0, 1, 0, 0] (bd Try.f38)))
noncomputable def K38_0 (R : V → Prop) : Exit → St → Prop := seqK ((awp X38.tt (callN Try.prog X38 0) (X38.md 38) 0 (X38.mk1 38) 0 (codeAt [1, 1, 1, 1] (bd Try.f38))) (retK tt Try.f38.results.toList fun x s' => topK R x ⟨[], s'.hp, s'.T⟩)) (retK tt Try.f38.results.toList fun x s' => topK R x ⟨[], s'.hp, s'.T⟩)
noncomputable def Q38_0 (R : V → Prop) : Exit → St → Prop := (blockK 0 (K38_0 R))
theorem E38 (t0 : ((List (Int × (Int × (Int × ((List Int) × (List Int)))))) × ((List ((List (Int × ((Int × (List UInt8)) × Int))) × (List (Int × ((Int × (List UInt8)) × Int))))) × (List Bool)))) {R : V → Prop} (h : (((((t0.1).length : Int) != ((t0.2.1).length : Int)) = true → R (.list (.pair (.slice .bool) (.slice .bool)) (([] : List ((List Bool) × (List Bool)))) .no)) ∧ ((((t0.1).length : Int) != ((t0.2.1).length : Int)) = false → (((((t0.1).length : Int) != ((t0.2.2).length : Int)) = true → R (.list (.pair (.slice .bool) (.slice .bool)) (([] : List ((List Bool) × (List Bool)))) .no)) ∧
 ((((t0.1).length : Int) != ((t0.2.2).length : Int)) = false → (0 ≤ ((t0.1).length : Int) ∧ ((t0.1).length : Int) ≤ ((t0.1).length : Int) ∧ ((t0.1).length : Int) * (48 : Int) ≤ (room : Int) ∧ ((t0.1).length : Int) ≤ 9223372036854775807 ∧ (Loops B38_0 M38_0 (Q38_0 R)
  (S38_0 ((((t0.1).length : Int)).toNat) t0.2.1 (((t0.2.1).length : Int)) (0 : Int) t0.1 .no t0.2.1 .no t0.2.2 .no ((List.replicate (((t0.1).length : Int)).toNat ((([] : List Bool), ([] : List Bool))))) (fun _ => .no) ⟨0, []⟩)))))))) :
  fnK X38.tt (callN Try.prog X38 0) (X38.md 38) (X38.mk1 38) Try.f38 [(.v (.agg [(.list (.pair (.int .i64) (.pair (.int .i64) (.pair (.int .i64) (.pair (.slice (.int .i64)) (.slice (.int .i64)))))) t0.1 .no), (.list (.pair (.slice (.pair (.int .i64) (.pair (.pair (.int .i64) .str) (.int .i64)))) (.slice (.pair (.int .i64) (.pair (.pair (.int .i64) .str) (.int .i64))))) t0.2.1 .no), (.list .bool t0.2.2 .no)]))] ⟨[], [], ⟨0, []⟩⟩ (topK R) := Eq.mp (by kernel_rfl) h
theorem L38_0 (l3n : Nat) (t27 : List ((List (Int × ((Int × (List UInt8)) × Int))) × (List (Int × ((Int × (List UInt8)) × Int))))) (t28 : Int) (t29 : Int) (hq0_0 : List (Int × (Int × (Int × ((List Int) × (List Int)))))) (hq0_0k : Tok) (hq0_1 : List ((List (Int × ((Int × (List UInt8)) × Int))) × (List (Int × ((Int × (List UInt8)) × Int))))) (hq0_1k : Tok) (hq0_2 : List Bool) (hq0_2k : Tok) (hq1 : List ((List Bool) × (List Bool))) (hq1s : Nat → Tok) (T : Toks) {R : V → Prop} {k0 : St → Prop}
 (h : (((decide (t29 < t28)) = true → (0 ≤ t29 ∧ t29 < ((t27).length : Int) ∧ (0 ≤ t29 ∧ t29 < ((hq0_2).length : Int) ∧ (((hq0_2.getD (t29).toNat false) = true → (∃ p1 : ((List Bool) × (List Bool)), PC Try.prog 24 [(.agg [(.list (.pair (.int .i64) (.pair (.pair (.int .i64) .str) (.int .i64))) ((t27.getD (t29).toNat ([], [])).1) .no), (.list (.pair (.int .i64) (.pair (.pair (.int .i64) .str) (.int .i64))) ((t27.getD (t29).toNat ([], [])).2) .no)])] ((.agg [(.list .bool p1.1 .no), (.list .bool p1.2 .no)])) ∧ (0 = 0 ∧ 0 ≤ t29 ∧ t29 < ((l3n : Nat) : Int) ∧ (0 = 0 ∧ (0 + (t29).toNat) < (hq1).length ∧ k0 (S38_0 l3n t27 t28 ((IntKind.wrap .i64 (t29 + (1 : Int)))) hq0_0 hq0_0k hq0_1 hq0_1k hq0_2 hq0_2k ((hq1.set ((0 + (t29).toNat)) (p1.1, p1.2))) ((fun j => if j = (0 + (t29).toNat) then .no else hq1s j)) T))))) ∧
 ((hq0_2.getD (t29).toNat false) = false → k0 (S38_0 l3n t27 t28 ((IntKind.wrap .i64 (t29 + (1 : Int)))) hq0_0 hq0_0k hq0_1 hq0_1k hq0_2 hq0_2k hq1 hq1s T)))))) ∧
 ((decide (t29 < t28)) = false → (0 = 0 ∧ 0 + l3n ≤ (hq1).length ∧ R (.list (.pair (.slice .bool) (.slice .bool)) (((hq1.drop 0).take l3n)) .no))))) :
  B38_0 (loopQ M38_0 k0 (Q38_0 R)) (S38_0 l3n t27 t28 t29 hq0_0 hq0_0k hq0_1 hq0_1k hq0_2 hq0_2k hq1 hq1s T) := Eq.mp (by kernel_rfl) h
end Go.Proofs.Ytiomllkdfhglhaa.AB

set_option linter.unusedVariables false
set_option linter.unusedSimpArgs false
set_option maxRecDepth 100000
set_option maxHeartbeats 2000000
namespace Go.Proofs.Ytiomllkdfhglhaa.AB
open Go
/-! crucible/crucibleref12.Make -/
noncomputable def X39 : Cx := ⟨tt, [(37, [.cd (.pair (.slice .bool) (.slice .bool))])], [], [], [(39, [(0, mkM 46 0 [1, 3, 4], 1)])], []⟩
theorem FN39 : fnsB Try.prog X39.fns := (show True from trivial)
def M39_0 : List Bool × Nat := (mkM 46 0 [1, 3, 4], 1)
def S39_0 (out3 : List ((List Bool) × (List Bool))) (out3k : Tok) (i4 : Int) (hq0_0 : List (Int × (Int × (Int × ((List Int) × (List Int)))))) (hq0_0k : Tok) (hq0_1 : List ((List (Int × ((Int × (List UInt8)) × Int))) × (List (Int × ((Int × (List UInt8)) × Int))))) (hq0_1k : Tok) (hq0_2 : List Bool) (hq0_2k : Tok) (T : Toks) : St :=
  mkS 46 [(1, (.ptr 0 0 0 0)), (3, (.v (.list (.pair (.slice .bool) (.slice .bool)) out3 out3k))), (4, (.v (.int .i64 i4)))] [(some (.box (.v (.agg [(.list (.pair (.int .i64) (.pair (.int .i64) (.pair (.int .i64) (.pair (.slice (.int .i64)) (.slice (.int .i64)))))) hq0_0 hq0_0k), (.list (.pair (.slice (.pair (.int .i64) (.pair (.pair (.int .i64) .str) (.int .i64)))) (.slice (.pair (.int .i64) (.pair (.pair (.int .i64) .str) (.int .i64))))) hq0_1 hq0_1k), (.list .bool hq0_2 hq0_2k)]))))] T
noncomputable def B39_0 : (Exit → St → Prop) → St → Prop := (awp X39.tt (callN Try.prog X39 0) (X39.md 39) 0 (X39.mk1 39) 0 (codeAt [1, 1, 1, 0, 1, 0, 0] (bd Try.f39)))
noncomputable def K39_0 (R : V → Prop) : Exit → St → Prop := seqK ((awp X39.tt (callN Try.prog X39 0) (X39.md 39) 0 (X39.mk1 39) 0 (codeAt [1, 1, 1, 1] (bd Try.f39))) (retK tt Try.f39.results.toList fun x s' => topK R x ⟨[], s'.hp, s'.T⟩)) (retK tt Try.f39.results.toList fun x s' => topK R x ⟨[], s'.hp, s'.T⟩)
noncomputable def Q39_0 (R : V → Prop) : Exit → St → Prop := (blockK 0 (K39_0 R))
theorem E39 (t0 : ((List (Int × (Int × (Int × ((List Int) × (List Int)))))) × ((List ((List (Int × ((Int × (List UInt8)) × Int))) × (List (Int × ((Int × (List UInt8)) × Int))))) × (List Bool)))) {R : V → Prop} (h : (((((t0.1).length : Int) != ((t0.2.1).length : Int)) = true → R (.list (.pair (.slice .bool) (.slice .bool)) (([] : List ((List Bool) × (List Bool)))) .no)) ∧ ((((t0.1).length : Int) != ((t0.2.1).length : Int)) = false → (((((t0.1).length : Int) != ((t0.2.2).length : Int)) = true → R (.list (.pair (.slice .bool) (.slice .bool)) (([] : List ((List Bool) × (List Bool)))) .no)) ∧
 ((((t0.1).length : Int) != ((t0.2.2).length : Int)) = false → (Loops B39_0 M39_0 (Q39_0 R)
  (S39_0 (([] : List ((List Bool) × (List Bool)))) .exact (0 : Int) t0.1 .no t0.2.1 .no t0.2.2 .no ⟨0, []⟩))))))) :
  fnK X39.tt (callN Try.prog X39 0) (X39.md 39) (X39.mk1 39) Try.f39 [(.v (.agg [(.list (.pair (.int .i64) (.pair (.int .i64) (.pair (.int .i64) (.pair (.slice (.int .i64)) (.slice (.int .i64)))))) t0.1 .no), (.list (.pair (.slice (.pair (.int .i64) (.pair (.pair (.int .i64) .str) (.int .i64)))) (.slice (.pair (.int .i64) (.pair (.pair (.int .i64) .str) (.int .i64))))) t0.2.1 .no), (.list .bool t0.2.2 .no)]))] ⟨[], [], ⟨0, []⟩⟩ (topK R) := Eq.mp (by kernel_rfl) h
theorem L39_0 (out3 : List ((List Bool) × (List Bool))) (out3k : Tok) (i4 : Int) (hq0_0 : List (Int × (Int × (Int × ((List Int) × (List Int)))))) (hq0_0k : Tok) (hq0_1 : List ((List (Int × ((Int × (List UInt8)) × Int))) × (List (Int × ((Int × (List UInt8)) × Int))))) (hq0_1k : Tok) (hq0_2 : List Bool) (hq0_2k : Tok) (T : Toks) {R : V → Prop} {k0 : St → Prop}
 (h : (((decide (i4 < ((hq0_0).length : Int))) = true → (0 ≤ i4 ∧ i4 < ((hq0_2).length : Int) ∧ (((hq0_2.getD (i4).toNat false) = true → (0 ≤ i4 ∧ i4 < ((hq0_1).length : Int) ∧ (∃ p1 : ((List Bool) × (List Bool)), PC Try.prog 37 [(.agg [(.list (.pair (.int .i64) (.pair (.pair (.int .i64) .str) (.int .i64))) ((hq0_1.getD (i4).toNat ([], [])).1) .no), (.list (.pair (.int .i64) (.pair (.pair (.int .i64) .str) (.int .i64))) ((hq0_1.getD (i4).toNat ([], [])).2) .no)])] ((.agg [(.list .bool p1.1 .no), (.list .bool p1.2 .no)])) ∧ (Tok.own out3k T.l ∧ ((out3).length + (([(p1.1, p1.2)] : List ((List Bool) × (List Bool)))).length) * 48 ≤ room ∧ k0 (S39_0 ((out3 ++ ([(p1.1, p1.2)] : List ((List Bool) × (List Bool))))) (.tk T.n) ((IntKind.wrap .i64 (i4 + (1 : Int)))) hq0_0 hq0_0k hq0_1 hq0_1k hq0_2 hq0_2k ⟨(T.n + 1), (T.n :: Tok.drop out3k T.l)⟩))))) ∧
 ((hq0_2.getD (i4).toNat false) = false → (Tok.own out3k T.l ∧ ((out3).length + (([(([] : List Bool), ([] : List Bool))] : List ((List Bool) × (List Bool)))).length) * 48 ≤ room ∧ k0 (S39_0 ((out3 ++ ([(([] : List Bool), ([] : List Bool))] : List ((List Bool) × (List Bool))))) (.tk T.n) ((IntKind.wrap .i64 (i4 + (1 : Int)))) hq0_0 hq0_0k hq0_1 hq0_1k hq0_2 hq0_2k ⟨(T.n + 1), (T.n :: Tok.drop out3k T.l)⟩)))))) ∧
 ((decide (i4 < ((hq0_0).length : Int))) = false → R (.list (.pair (.slice .bool) (.slice .bool)) out3 .no)))) :
  B39_0 (loopQ M39_0 k0 (Q39_0 R)) (S39_0 out3 out3k i4 hq0_0 hq0_0k hq0_1 hq0_1k hq0_2 hq0_2k T) := Eq.mp (by kernel_rfl) h
end Go.Proofs.Ytiomllkdfhglhaa.AB

set_option linter.unusedVariables false
set_option linter.unusedSimpArgs false
namespace Go.Proofs.Ytiomllkdfhglhaa.AB
open Go

abbrev IN : Type := Int × (Int × (Int × ((List Int) × (List Int))))
abbrev cIN : Cd := .pair (.int .i64) (.pair (.int .i64) (.pair (.int .i64) (.pair (.slice (.int .i64)) (.slice (.int .i64)))))
abbrev cST : Cd := .pair (.slice cKN) (.slice cKN)

/-- Make -/
def makeR (l : List IN) (states : List ST) (reached : List Bool) : List BM :=
  if l.length = states.length ∧ l.length = reached.length then (List.range l.length).map fun i => if reached.getD i false then ofR (states.getD i ([], [])) else ([], []) else []

def small (states : List ST) : Prop := ∀ s ∈ states, s.1.length ≤ 1048576 ∧ s.2.length ≤ 1048576

/-- refmap.Make -/
theorem p38 (l : List IN) (states : List ST) (reached : List Bool) (hs : small states) (hl : l.length ≤ 1048576) (h1 : states.length ≤ 1048576) (h2 : reached.length ≤ 1048576) :
    PC Try.prog 38 [.agg [.list cIN l .no, .list cST states .no, .list .bool reached .no]] (.list cBM (makeR l states reached) .no) := by
  have bad : ¬ (l.length = states.length ∧ l.length = reached.length) → V.norm (.list cBM [] .no) = .list cBM (makeR l states reached) .no ∧ (V.list cBM (makeR l states reached) .no).nt = true := fun h => by
    unfold makeR; rw [if_neg h]; exact ⟨rfl, rfl⟩
  refine pcOf (X := X38) (d := 0) rfl FN38 (by kernel_rfl) (by decide) (E38 (l, states, reached) ⟨fun h => bad fun q => ?_, fun h => ⟨fun h' => bad fun q => ?_, fun h' => ?_⟩⟩)
  · simp [q.1] at h
  · simp [q.2] at h'
  have e1 : l.length = states.length := by
    have : (l.length : Int) = states.length := by simpa using h
    omega
  have e2 : l.length = reached.length := by
    have : (l.length : Int) = reached.length := by simpa using h'
    omega
  obtain ⟨g, hg⟩ : ∃ g : Nat → BM, g = fun i => if reached.getD i false then ofR (states.getD i ([], [])) else ([], []) := ⟨_, rfl⟩
  refine ⟨Int.natCast_nonneg _, Int.le_refl _, by show ((l.length : Int)) * 48 ≤ ((140737488355328 : Nat) : Int); omega, by show (l.length : Int) ≤ _; omega, ?_⟩
  refine Loops.intro (fun a : Nat × (Nat → Tok) => S38_0 l.length states states.length a.1 l .no states .no reached .no ((List.range a.1).map g ++ List.replicate (l.length - a.1) ([], [])) a.2 ⟨0, []⟩) (fun a => a.1 ≤ l.length) (fun a => l.length - a.1) (0, fun _ => .no) ?_ (Nat.zero_le _) ?_
  · simp only [Int.toNat_natCast]; rfl
  rintro ⟨n, ts⟩ hn
  have hn : n ≤ l.length := hn
  have hlen : ((List.range n).map g ++ List.replicate (l.length - n) (([], []) : BM)).length = l.length := by simp; omega
  have hns : ∀ m : BM, (l.length - n) = (l.length - (n + 1)) + 1 → ((List.range n).map g ++ List.replicate (l.length - n) (([], []) : BM)).set (0 + n) m = ((List.range n).map g ++ [m]) ++ List.replicate (l.length - (n + 1)) ([], []) := by
    intro m hm
    rw [Nat.zero_add, List.set_append_right _ _ (by simp), hm]
    simp [List.replicate_succ]
  refine L38_0 l.length states states.length n l .no states .no reached .no _ ts ⟨0, []⟩ ⟨fun h => ?_, fun h => ?_⟩
  · have hlt : n < states.length := by simpa using h
    rw [Int.toNat_natCast, wrap64 (by omega) (by omega), hlen]
    obtain ⟨s1, s2⟩ := hs _ (getD_mem hlt ([], []))
    refine ⟨by omega, by omega, by omega, by omega, fun h3 => ⟨ofR (states.getD n ([], [])), p24 _ (by omega) (by omega), rfl, by omega, by omega, rfl, by omega, ?_⟩, fun h3 => ?_⟩
    · refine Again.mk (n + 1, fun j => if j = 0 + n then .no else ts j) ?_ (show n + 1 ≤ l.length by omega) (show l.length - (n + 1) < l.length - n by omega)
      have : ((List.range n).map g ++ List.replicate (l.length - n) (([], []) : BM)).set (0 + n) ((ofR (states.getD n ([], []))).1, (ofR (states.getD n ([], []))).2) = (List.range (n + 1)).map g ++ List.replicate (l.length - (n + 1)) ([], []) := by
        rw [hns _ (by omega), List.range_succ, List.map_append]
        congr 2
        rw [hg]; simp only [List.map_cons, List.map_nil, h3, if_true]
      rw [this]
      rfl
    · refine Again.mk (n + 1, ts) ?_ (show n + 1 ≤ l.length by omega) (show l.length - (n + 1) < l.length - n by omega)
      have : (List.range n).map g ++ List.replicate (l.length - n) (([], []) : BM) = (List.range (n + 1)).map g ++ List.replicate (l.length - (n + 1)) ([], []) := by
        rw [List.range_succ, List.map_append, show l.length - n = (l.length - (n + 1)) + 1 by omega, List.replicate_succ, List.append_assoc]
        congr 1
        rw [hg]
        simp only [List.map_cons, List.map_nil, h3, Bool.false_eq_true, if_false, List.singleton_append]
      rw [this]
      rfl
  · have hge : n = l.length := by have := of_decide_eq_false h; omega
    subst hge
    refine ⟨rfl, by rw [hlen]; omega, ?_⟩
    have : (((List.range l.length).map g ++ List.replicate (l.length - l.length) (([], []) : BM)).drop 0).take l.length = makeR l states reached := by
      rw [Nat.sub_self, List.replicate_zero, List.append_nil, List.drop_zero, List.take_of_length_le (by simp)]
      unfold makeR
      rw [if_pos ⟨e1, e2⟩, hg]
    rw [this]
    exact ⟨rfl, rfl⟩

/-- crucibleref12.Make -/
theorem p39 (l : List IN) (states : List ST) (reached : List Bool) (hs : small states) (hl : l.length ≤ 1048576) (h1 : states.length ≤ 1048576) (h2 : reached.length ≤ 1048576) :
    PC Try.prog 39 [.agg [.list cIN l .no, .list cST states .no, .list .bool reached .no]] (.list cBM (makeR l states reached) .no) := by
  have bad : ¬ (l.length = states.length ∧ l.length = reached.length) → V.norm (.list cBM [] .no) = .list cBM (makeR l states reached) .no ∧ (V.list cBM (makeR l states reached) .no).nt = true := fun h => by
    unfold makeR; rw [if_neg h]; exact ⟨rfl, rfl⟩
  refine pcOf (X := X39) (d := 0) rfl FN39 (by kernel_rfl) (by decide) (E39 (l, states, reached) ⟨fun h => bad fun q => ?_, fun h => ⟨fun h' => bad fun q => ?_, fun h' => ?_⟩⟩)
  · simp [q.1] at h
  · simp [q.2] at h'
  have e1 : l.length = states.length := by
    have : (l.length : Int) = states.length := by simpa using h
    omega
  have e2 : l.length = reached.length := by
    have : (l.length : Int) = reached.length := by simpa using h'
    omega
  obtain ⟨g, hg⟩ : ∃ g : Nat → BM, g = fun i => if reached.getD i false then ofR (states.getD i ([], [])) else ([], []) := ⟨_, rfl⟩
  refine Loops.intro (fun a : Nat × Tok × Toks => S39_0 ((List.range a.1).map g) a.2.1 a.1 l .no states .no reached .no a.2.2) (fun a => a.1 ≤ l.length ∧ a.2.1.fresh a.2.2) (fun a => l.length - a.1) (0, .exact, ⟨0, []⟩) rfl ⟨Nat.zero_le _, trivial⟩ ?_
  rintro ⟨n, k, T⟩ ⟨hn, fk⟩
  have hn : n ≤ l.length := hn
  have fk : k.fresh T := fk
  refine L39_0 _ k n l .no states .no reached .no T ⟨fun h => ?_, fun h => ?_⟩
  · have hlt : n < l.length := by simpa using h
    rw [Int.toNat_natCast, wrap64 (by omega) (by omega)]
    obtain ⟨s1, s2⟩ := hs _ (getD_mem (l := states) (n := n) (by omega) ([], []))
    have hroom : (((List.range n).map g).length + 1) * 48 ≤ room := by simp only [List.length_map, List.length_range]; show (n + 1) * 48 ≤ 140737488355328; omega
    have go : ∀ m, m = g n → Again (fun a : Nat × Tok × Toks => S39_0 ((List.range a.1).map g) a.2.1 a.1 l .no states .no reached .no a.2.2) (fun a => a.1 ≤ l.length ∧ a.2.1.fresh a.2.2) (fun a => l.length - a.1) (l.length - n)
        (S39_0 ((List.range n).map g ++ [m]) (.tk T.n) ((n : Int) + 1) l .no states .no reached .no ⟨T.n + 1, T.n :: k.drop T.l⟩) := by
      rintro m rfl
      have : (List.range n).map g ++ [g n] = (List.range (n + 1)).map g := by simp [List.range_succ]
      rw [this]
      exact Again.mk (n + 1, .tk T.n, ⟨T.n + 1, T.n :: k.drop T.l⟩) rfl ⟨by omega, Tok.fresh_new _ _⟩ (show l.length - (n + 1) < l.length - n by omega)
    refine ⟨by omega, by omega, fun h3 => ⟨by omega, by omega, ofR (states.getD n ([], [])), p37 _ (by omega) (by omega), fk.own, hroom, go _ ?_⟩, fun h3 => ⟨fk.own, hroom, go _ ?_⟩⟩
    · rw [hg]; simp only [h3, if_true]
    · rw [hg]; simp only [h3, Bool.false_eq_true, if_false]
  · have hge : n = l.length := by have := of_decide_eq_false h; omega
    subst hge
    have : (List.range l.length).map g = makeR l states reached := by
      unfold makeR
      rw [if_pos ⟨e1, e2⟩, hg]
    rw [this]
    exact ⟨rfl, rfl⟩

theorem makeR_len (l : List IN) (states : List ST) (reached : List Bool) (hs : small states) (hl : l.length ≤ 1048576) : mLen (makeR l states reached) := by
  have hofl : ∀ s : ST, s ∈ states → (ofR s).1.length ≤ 9223372036854775807 ∧ (ofR s).2.length ≤ 9223372036854775807 := by
    intro s h
    have := hs s h
    simp only [ofR, refsR, List.length_map]
    omega
  unfold makeR
  split
  · rename_i q
    refine ⟨by simp; omega, fun m hm => ?_⟩
    simp only [List.mem_map, List.mem_range] at hm
    obtain ⟨i, hi, rfl⟩ := hm
    split
    · exact hofl _ (getD_mem (by omega) _)
    · simp
  · exact ⟨by simp, fun m hm => by cases hm⟩

/-- RefmapMakes -/
theorem p11 (states : List ST) (reached : List Bool) (l : List IN) (hs : small states) (h1 : states.length ≤ 1048576) (h2 : reached.length ≤ 1048576) (hl : l.length ≤ 1048576) :
    PC Try.prog 11 [.list cST states .no, .list .bool reached .no, .list cIN l .no] (.bool true) := by
  refine pcOf (X := X11) (d := 0) rfl FN11 (by kernel_rfl) (by decide) (E11 states reached l ⟨true, p16, fun h => (by cases h), fun _ => ?_⟩)
  refine Loops.intro (fun n : Nat => S11_0 states reached l true n ⟨0, []⟩) (fun n => n ≤ states.length) (fun n => states.length - n) 0 rfl (Nat.zero_le _) ?_
  intro n hn
  have tail : (∃ p5 : List BM, PC Try.prog 38 [.agg [.list cIN l .no, .list cST states .no, .list .bool reached .no]] (.list cBM p5 .no) ∧ (∃ p6 : List BM, PC Try.prog 39 [.agg [.list cIN l .no, .list cST states .no, .list .bool reached .no]] (.list cBM p6 .no) ∧
      (∃ p7 : Bool, PC Try.prog 20 [.list cBM p5 .no, .list cBM p6 .no] (.bool p7) ∧ ((true = true → V.norm (.bool p7) = .bool true ∧ (V.bool true).nt = true) ∧ (true = false → V.norm (.bool false) = .bool true ∧ (V.bool true).nt = true))))) := by
    refine ⟨_, p38 l states reached hs hl h1 h2, _, p39 l states reached hs hl h1 h2, _, p20 _ _ (makeR_len l states reached hs hl), fun _ => ?_, fun h => by cases h⟩
    rw [beq_self_eq_true]; exact ⟨rfl, rfl⟩
  refine L11_0 states reached l true n ⟨0, []⟩ ⟨fun h => ⟨fun h3 => ?_, fun h3 => tail⟩, fun h => tail⟩
  have hlt : n < states.length := by simpa using h
  obtain ⟨s1, s2⟩ := hs _ (getD_mem hlt ([], []))
  rw [Int.toNat_natCast, wrap64 (by omega) (by omega)]
  have hofl : ∀ s : ST, s.1.length ≤ 1048576 → s.2.length ≤ 1048576 → mLen [((ofR s).1, (ofR s).2)] := by
    intro s q1 q2
    refine ⟨by simp, fun m hm => ?_⟩
    simp only [List.mem_singleton] at hm
    subst hm
    simp only [ofR, refsR, List.length_map]
    omega
  refine ⟨by omega, by omega, ofR (states.getD n ([], [])), p24 _ (by omega) (by omega), by omega, by omega, ofR (states.getD n ([], [])), p37 _ (by omega) (by omega), _, p20 _ _ (hofl _ s1 s2), fun h4 => ?_, fun h4 => ?_⟩
  · rw [beq_self_eq_true] at h4; cases h4
  · exact Again.mk (n + 1) rfl (show n + 1 ≤ states.length by omega) (by omega)

theorem wt_mem {c : Cd} {l : List c.T} (h : Cd.wt (.slice c) l ≤ 1048576) : l.length ≤ 1048576 ∧ ∀ x ∈ l, c.wt x ≤ 1048576 := by
  have e : Cd.wt (.slice c) l = l.length + (l.map c.wt).sum := rfl
  refine ⟨by omega, fun x hx => ?_⟩
  have := wt_le c.wt hx
  omega

theorem law_RefmapMakesUpto (states : List ST) (reached : List Bool) (l : List IN) (f0 : Cd.wf (.slice cST) states) (f1 : Cd.wf (.slice .bool) reached) (f2 : Cd.wf (.slice cIN) l)
    (z0 : Cd.wt (.slice cST) states ≤ 1048576) (z1 : Cd.wt (.slice .bool) reached ≤ 1048576) (z2 : Cd.wt (.slice cIN) l ≤ 1048576) :
    PC Try.prog 11 [.list cST states .no, .list .bool reached .no, .list cIN l .no] (.bool true) := by
  have h0 := wt_mem z0
  refine p11 states reached l (fun s hs => ?_) h0.1 (wt_mem z1).1 (wt_mem z2).1
  have h := h0.2 s hs
  have e : Cd.wt cST s = (s.1.length + (s.1.map (Cd.wt cKN)).sum) + (s.2.length + (s.2.map (Cd.wt cKN)).sum) := rfl
  omega

end Go.Proofs.Ytiomllkdfhglhaa.AB

