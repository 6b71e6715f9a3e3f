/- Parts of the proof: what functions of the program compute, on plain values. -/
import Derived.Test.YtiomllkdfhglhaaABc2
import Derived.Test.YtiomllkdfhglhaaProg
import Derived.KernelRfl
set_option linter.unusedVariables false
set_option linter.unusedSimpArgs false
namespace Go.Proofs.Ytiomllkdfhglhaa.AB
open Go
def tt : TT := [
 ⟨.other, 0, 0, .undef, .unit, false, false⟩,
 ⟨.func, 1, 8, .nilf, .unit, true, false⟩,
 ⟨.int .i64, 1, 8, (.int .i64 (0 : Int)), (.int .i64), true, true⟩,
 ⟨.int .i64, 1, 8, (.int .i64 (0 : Int)), (.int .i64), true, true⟩,
 ⟨.bool, 1, 1, .ff, .bool, true, true⟩,
 ⟨.int .u8, 1, 1, (.int .u8 (0 : Int)), (.int .u8), true, true⟩,
 ⟨.int .u8, 1, 1, (.int .u8 (0 : Int)), (.int .u8), true, true⟩,
 ⟨.strct [(0, 2), (1, 3), (2, 4), (3, 6)], 4, 24, (.agg [(.int .i64 (0 : Int)), (.int .i64 (0 : Int)), .ff, (.int .u8 (0 : Int))]), (.pair (.int .i64) (.pair (.int .i64) (.pair .bool (.int .u8)))), true, true⟩,
 ⟨.strct [(0, 2), (1, 3), (2, 4), (3, 6)], 4, 24, (.agg [(.int .i64 (0 : Int)), (.int .i64 (0 : Int)), .ff, (.int .u8 (0 : Int))]), (.pair (.int .i64) (.pair (.int .i64) (.pair .bool (.int .u8)))), true, true⟩,
 ⟨.str, 1, 16, (.str ([])), .str, true, true⟩,
 ⟨.str, 1, 16, (.str ([])), .str, true, true⟩,
 ⟨.str, 1, 16, (.str ([])), .str, true, true⟩,
 ⟨.int .u64, 1, 8, (.int .u64 (0 : Int)), (.int .u64), true, true⟩,
 ⟨.strct [(0, 9), (1, 12)], 2, 24, (.agg [(.str ([])), (.int .u64 (0 : Int))]), (.pair .str (.int .u64)), true, true⟩,
 ⟨.strct [(0, 9), (1, 12)], 2, 24, (.agg [(.str ([])), (.int .u64 (0 : Int))]), (.pair .str (.int .u64)), true, true⟩,
 ⟨.ptr 168, 1, 8, .nilp, .unit, true, false⟩,
 ⟨.ptr 171, 1, 8, .nilp, .unit, true, false⟩,
 ⟨.ptr 181, 1, 8, .nilp, .unit, true, false⟩,
 ⟨.strct [(0, 17)], 1, 8, (.agg [.nilp]), .unit, true, false⟩,
 ⟨.strct [(0, 17)], 1, 8, (.agg [.nilp]), .unit, true, false⟩,
 ⟨.iface, 1, 16, .nili, .unit, true, false⟩,
 ⟨.int .i32, 1, 4, (.int .i32 (0 : Int)), (.int .i32), true, true⟩,
 ⟨.slice 36, 1, 24, (.list (.pair (.int .i64) (.pair (.int .i64) (.pair (.int .i64) (.int .i64)))) ([]) .exact), (.slice (.pair (.int .i64) (.pair (.int .i64) (.pair (.int .i64) (.int .i64))))), true, true⟩,
 ⟨.func, 1, 8, .nilf, .unit, true, false⟩,
 ⟨.slice 34, 1, 24, (.list (.pair (.int .i64) (.pair (.int .i64) (.pair (.int .i64) (.pair (.slice (.int .i64)) (.slice (.int .i64)))))) ([]) .exact), (.slice (.pair (.int .i64) (.pair (.int .i64) (.pair (.int .i64) (.pair (.slice (.int .i64)) (.slice (.int .i64))))))), true, true⟩,
 ⟨.int .i64, 1, 8, (.int .i64 (0 : Int)), (.int .i64), true, true⟩,
 ⟨.other, 0, 0, .undef, .unit, false, false⟩,
 ⟨.func, 1, 8, .nilf, .unit, true, false⟩,
 ⟨.slice 31, 1, 24, (.list (.slice (.int .i64)) ([]) .exact), (.slice (.slice (.int .i64))), true, true⟩,
 ⟨.other, 0, 0, .undef, .unit, false, false⟩,
 ⟨.func, 1, 8, .nilf, .unit, true, false⟩,
 ⟨.slice 3, 1, 24, (.list (.int .i64) ([]) .exact), (.slice (.int .i64)), true, true⟩,
 ⟨.func, 1, 8, .nilf, .unit, true, false⟩,
 ⟨.strct [(0, 3), (1, 3), (2, 3), (3, 31), (4, 31)], 5, 72, (.agg [(.int .i64 (0 : Int)), (.int .i64 (0 : Int)), (.int .i64 (0 : Int)), (.list (.int .i64) ([]) .exact), (.list (.int .i64) ([]) .exact)]), (.pair (.int .i64) (.pair (.int .i64) (.pair (.int .i64) (.pair (.slice (.int .i64)) (.slice (.int .i64)))))), true, true⟩,
 ⟨.strct [(0, 3), (1, 3), (2, 3), (3, 31), (4, 31)], 5, 72, (.agg [(.int .i64 (0 : Int)), (.int .i64 (0 : Int)), (.int .i64 (0 : Int)), (.list (.int .i64) ([]) .exact), (.list (.int .i64) ([]) .exact)]), (.pair (.int .i64) (.pair (.int .i64) (.pair (.int .i64) (.pair (.slice (.int .i64)) (.slice (.int .i64)))))), true, true⟩,
 ⟨.strct [(0, 3), (1, 3), (2, 3), (3, 3)], 4, 32, (.agg [(.int .i64 (0 : Int)), (.int .i64 (0 : Int)), (.int .i64 (0 : Int)), (.int .i64 (0 : Int))]), (.pair (.int .i64) (.pair (.int .i64) (.pair (.int .i64) (.int .i64)))), true, true⟩,
 ⟨.strct [(0, 3), (1, 3), (2, 3), (3, 3)], 4, 32, (.agg [(.int .i64 (0 : Int)), (.int .i64 (0 : Int)), (.int .i64 (0 : Int)), (.int .i64 (0 : Int))]), (.pair (.int .i64) (.pair (.int .i64) (.pair (.int .i64) (.int .i64)))), true, true⟩,
 ⟨.func, 1, 8, .nilf, .unit, true, false⟩,
 ⟨.slice 57, 1, 24, (.list (.slice .bool) ([]) .exact), (.slice (.slice .bool)), true, true⟩,
 ⟨.slice 59, 1, 24, (.list (.pair (.slice .bool) (.slice .bool)) ([]) .exact), (.slice (.pair (.slice .bool) (.slice .bool))), true, true⟩,
 ⟨.slice 75, 1, 24, (.list (.pair (.slice .bool) (.slice .bool)) ([]) .exact), (.slice (.pair (.slice .bool) (.slice .bool))), true, true⟩,
 ⟨.other, 0, 0, .undef, .unit, false, false⟩,
 ⟨.func, 1, 8, .nilf, .unit, true, false⟩,
 ⟨.other, 0, 0, .undef, .unit, false, false⟩,
 ⟨.func, 1, 8, .nilf, .unit, true, false⟩,
 ⟨.other, 0, 0, .undef, .unit, false, false⟩,
 ⟨.func, 1, 8, .nilf, .unit, true, false⟩,
 ⟨.func, 1, 8, .nilf, .unit, true, false⟩,
 ⟨.func, 1, 8, .nilf, .unit, true, false⟩,
 ⟨.func, 1, 8, .nilf, .unit, true, false⟩,
 ⟨.slice 93, 1, 24, (.list (.pair (.int .i64) (.pair (.pair (.int .i64) .str) (.int .i64))) ([]) .exact), (.slice (.pair (.int .i64) (.pair (.pair (.int .i64) .str) (.int .i64)))), true, true⟩,
 ⟨.strct [(0, 50), (1, 50)], 2, 48, (.agg [(.list (.pair (.int .i64) (.pair (.pair (.int .i64) .str) (.int .i64))) ([]) .exact), (.list (.pair (.int .i64) (.pair (.pair (.int .i64) .str) (.int .i64))) ([]) .exact)]), (.pair (.slice (.pair (.int .i64) (.pair (.pair (.int .i64) .str) (.int .i64)))) (.slice (.pair (.int .i64) (.pair (.pair (.int .i64) .str) (.int .i64))))), true, true⟩,
 ⟨.strct [(0, 50), (1, 50)], 2, 48, (.agg [(.list (.pair (.int .i64) (.pair (.pair (.int .i64) .str) (.int .i64))) ([]) .exact), (.list (.pair (.int .i64) (.pair (.pair (.int .i64) .str) (.int .i64))) ([]) .exact)]), (.pair (.slice (.pair (.int .i64) (.pair (.pair (.int .i64) .str) (.int .i64)))) (.slice (.pair (.int .i64) (.pair (.pair (.int .i64) .str) (.int .i64))))), true, true⟩,
 ⟨.ptr 104, 1, 8, .nilp, .unit, true, false⟩,
 ⟨.other, 0, 0, .undef, .unit, false, false⟩,
 ⟨.func, 1, 8, .nilf, .unit, true, false⟩,
 ⟨.func, 1, 8, .nilf, .unit, true, false⟩,
 ⟨.slice 4, 1, 24, (.list .bool ([]) .exact), (.slice .bool), true, true⟩,
 ⟨.strct [(0, 57), (1, 57)], 2, 48, (.agg [(.list .bool ([]) .exact), (.list .bool ([]) .exact)]), (.pair (.slice .bool) (.slice .bool)), true, true⟩,
 ⟨.strct [(0, 57), (1, 57)], 2, 48, (.agg [(.list .bool ([]) .exact), (.list .bool ([]) .exact)]), (.pair (.slice .bool) (.slice .bool)), true, true⟩,
 ⟨.func, 1, 8, .nilf, .unit, true, false⟩,
 ⟨.func, 1, 8, .nilf, .unit, true, false⟩,
 ⟨.slice 5, 1, 24, (.list (.int .u8) ([]) .exact), (.slice (.int .u8)), true, true⟩,
 ⟨.func, 1, 8, .nilf, .unit, true, false⟩,
 ⟨.func, 1, 8, .nilf, .unit, true, false⟩,
 ⟨.func, 1, 8, .nilf, .unit, true, false⟩,
 ⟨.func, 1, 8, .nilf, .unit, true, false⟩,
 ⟨.other, 0, 0, .undef, .unit, false, false⟩,
 ⟨.func, 1, 8, .nilf, .unit, true, false⟩,
 ⟨.func, 1, 8, .nilf, .unit, true, false⟩,
 ⟨.func, 1, 8, .nilf, .unit, true, false⟩,
 ⟨.func, 1, 8, .nilf, .unit, true, false⟩,
 ⟨.func, 1, 8, .nilf, .unit, true, false⟩,
 ⟨.func, 1, 8, .nilf, .unit, true, false⟩,
 ⟨.slice 52, 1, 24, (.list (.pair (.slice (.pair (.int .i64) (.pair (.pair (.int .i64) .str) (.int .i64)))) (.slice (.pair (.int .i64) (.pair (.pair (.int .i64) .str) (.int .i64))))) ([]) .exact), (.slice (.pair (.slice (.pair (.int .i64) (.pair (.pair (.int .i64) .str) (.int .i64)))) (.slice (.pair (.int .i64) (.pair (.pair (.int .i64) .str) (.int .i64)))))), true, true⟩,
 ⟨.strct [(0, 57), (1, 57)], 2, 48, (.agg [(.list .bool ([]) .exact), (.list .bool ([]) .exact)]), (.pair (.slice .bool) (.slice .bool)), true, true⟩,
 ⟨.func, 1, 8, .nilf, .unit, true, false⟩,
 ⟨.func, 1, 8, .nilf, .unit, true, false⟩,
 ⟨.strct [(0, 24), (1, 74), (2, 57)], 3, 72, (.agg [(.list (.pair (.int .i64) (.pair (.int .i64) (.pair (.int .i64) (.pair (.slice (.int .i64)) (.slice (.int .i64)))))) ([]) .exact), (.list (.pair (.slice (.pair (.int .i64) (.pair (.pair (.int .i64) .str) (.int .i64)))) (.slice (.pair (.int .i64) (.pair (.pair (.int .i64) .str) (.int .i64))))) ([]) .exact), (.list .bool ([]) .exact)]), (.pair (.slice (.pair (.int .i64) (.pair (.int .i64) (.pair (.int .i64) (.pair (.slice (.int .i64)) (.slice (.int .i64))))))) (.pair (.slice (.pair (.slice (.pair (.int .i64) (.pair (.pair (.int .i64) .str) (.int .i64)))) (.slice (.pair (.int .i64) (.pair (.pair (.int .i64) .str) (.int .i64)))))) (.slice .bool))), true, true⟩,
 ⟨.strct [(0, 24), (1, 74), (2, 57)], 3, 72, (.agg [(.list (.pair (.int .i64) (.pair (.int .i64) (.pair (.int .i64) (.pair (.slice (.int .i64)) (.slice (.int .i64)))))) ([]) .exact), (.list (.pair (.slice (.pair (.int .i64) (.pair (.pair (.int .i64) .str) (.int .i64)))) (.slice (.pair (.int .i64) (.pair (.pair (.int .i64) .str) (.int .i64))))) ([]) .exact), (.list .bool ([]) .exact)]), (.pair (.slice (.pair (.int .i64) (.pair (.int .i64) (.pair (.int .i64) (.pair (.slice (.int .i64)) (.slice (.int .i64))))))) (.pair (.slice (.pair (.slice (.pair (.int .i64) (.pair (.pair (.int .i64) .str) (.int .i64)))) (.slice (.pair (.int .i64) (.pair (.pair (.int .i64) .str) (.int .i64)))))) (.slice .bool))), true, true⟩,
 ⟨.func, 1, 8, .nilf, .unit, true, false⟩,
 ⟨.strct [(0, 24), (1, 74), (2, 57)], 3, 72, (.agg [(.list (.pair (.int .i64) (.pair (.int .i64) (.pair (.int .i64) (.pair (.slice (.int .i64)) (.slice (.int .i64)))))) ([]) .exact), (.list (.pair (.slice (.pair (.int .i64) (.pair (.pair (.int .i64) .str) (.int .i64)))) (.slice (.pair (.int .i64) (.pair (.pair (.int .i64) .str) (.int .i64))))) ([]) .exact), (.list .bool ([]) .exact)]), (.pair (.slice (.pair (.int .i64) (.pair (.int .i64) (.pair (.int .i64) (.pair (.slice (.int .i64)) (.slice (.int .i64))))))) (.pair (.slice (.pair (.slice (.pair (.int .i64) (.pair (.pair (.int .i64) .str) (.int .i64)))) (.slice (.pair (.int .i64) (.pair (.pair (.int .i64) .str) (.int .i64)))))) (.slice .bool))), true, true⟩,
 ⟨.func, 1, 8, .nilf, .unit, true, false⟩,
 ⟨.other, 0, 0, .undef, .unit, false, false⟩,
 ⟨.func, 1, 8, .nilf, .unit, true, false⟩,
 ⟨.func, 1, 8, .nilf, .unit, true, false⟩,
 ⟨.map 3 3, 1, 8, .nilm, .unit, true, false⟩,
 ⟨.func, 1, 8, .nilf, .unit, true, false⟩,
 ⟨.other, 0, 0, .undef, .unit, false, false⟩,
 ⟨.func, 1, 8, .nilf, .unit, true, false⟩,
 ⟨.strct [(0, 3), (1, 9)], 2, 24, (.agg [(.int .i64 (0 : Int)), (.str ([]))]), (.pair (.int .i64) .str), true, true⟩,
 ⟨.strct [(0, 3), (1, 9)], 2, 24, (.agg [(.int .i64 (0 : Int)), (.str ([]))]), (.pair (.int .i64) .str), true, true⟩,
 ⟨.strct [(0, 3), (1, 91), (3, 3)], 4, 40, (.agg [(.int .i64 (0 : Int)), (.int .i64 (0 : Int)), (.str ([])), (.int .i64 (0 : Int))]), (.pair (.int .i64) (.pair (.pair (.int .i64) .str) (.int .i64))), true, true⟩,
 ⟨.strct [(0, 3), (1, 91), (3, 3)], 4, 40, (.agg [(.int .i64 (0 : Int)), (.int .i64 (0 : Int)), (.str ([])), (.int .i64 (0 : Int))]), (.pair (.int .i64) (.pair (.pair (.int .i64) .str) (.int .i64))), true, true⟩,
 ⟨.int .u64, 1, 8, (.int .u64 (0 : Int)), (.int .u64), true, true⟩,
 ⟨.func, 1, 8, .nilf, .unit, true, false⟩,
 ⟨.func, 1, 8, .nilf, .unit, true, false⟩,
 ⟨.func, 1, 8, .nilf, .unit, true, false⟩,
 ⟨.func, 1, 8, .nilf, .unit, true, false⟩,
 ⟨.func, 1, 8, .nilf, .unit, true, false⟩,
 ⟨.slice 123, 1, 24, (.list (.pair (.slice (.pair (.int .i64) (.pair .str (.pair (.int .i64) (.pair (.int .i64) (.pair (.int .i64) (.int .i64))))))) (.pair (.int .i64) (.pair (.int .i64) (.pair (.int .i64) (.pair (.slice (.int .i64)) (.pair (.slice (.pair (.int .i64) (.pair (.int .i64) (.pair (.int .i64) (.pair (.int .i64) (.pair (.int .i64) (.pair .str (.slice (.pair (.int .i64) (.pair (.int .i64) (.pair (.int .i64) (.int .i64)))))))))))) (.slice (.pair (.int .i64) (.pair (.int .i64) (.pair (.int .i64) (.pair (.int .i64) (.pair (.int .i64) (.pair .str (.slice (.pair (.int .i64) (.pair (.int .i64) (.pair (.int .i64) (.int .i64)))))))))))))))))) ([]) .exact), (.slice (.pair (.slice (.pair (.int .i64) (.pair .str (.pair (.int .i64) (.pair (.int .i64) (.pair (.int .i64) (.int .i64))))))) (.pair (.int .i64) (.pair (.int .i64) (.pair (.int .i64) (.pair (.slice (.int .i64)) (.pair (.slice (.pair (.int .i64) (.pair (.int .i64) (.pair (.int .i64) (.pair (.int .i64) (.pair (.int .i64) (.pair .str (.slice (.pair (.int .i64) (.pair (.int .i64) (.pair (.int .i64) (.int .i64)))))))))))) (.slice (.pair (.int .i64) (.pair (.int .i64) (.pair (.int .i64) (.pair (.int .i64) (.pair (.int .i64) (.pair .str (.slice (.pair (.int .i64) (.pair (.int .i64) (.pair (.int .i64) (.int .i64))))))))))))))))))), true, true⟩,
 ⟨.slice 119, 1, 24, (.list (.pair .str (.pair .str (.pair (.slice .str) (.pair .bool (.pair .bool (.pair .bool (.int .i64))))))) ([]) .exact), (.slice (.pair .str (.pair .str (.pair (.slice .str) (.pair .bool (.pair .bool (.pair .bool (.int .i64)))))))), true, true⟩,
 ⟨.func, 1, 8, .nilf, .unit, true, false⟩,
 ⟨.strct [(0, 101)], 1, 24, (.agg [(.list (.pair .str (.pair .str (.pair (.slice .str) (.pair .bool (.pair .bool (.pair .bool (.int .i64))))))) ([]) .exact)]), (.pair (.slice (.pair .str (.pair .str (.pair (.slice .str) (.pair .bool (.pair .bool (.pair .bool (.int .i64)))))))) .unit), true, true⟩,
 ⟨.strct [(0, 101)], 1, 24, (.agg [(.list (.pair .str (.pair .str (.pair (.slice .str) (.pair .bool (.pair .bool (.pair .bool (.int .i64))))))) ([]) .exact)]), (.pair (.slice (.pair .str (.pair .str (.pair (.slice .str) (.pair .bool (.pair .bool (.pair .bool (.int .i64)))))))) .unit), true, true⟩,
 ⟨.func, 1, 8, .nilf, .unit, true, false⟩,
 ⟨.func, 1, 8, .nilf, .unit, true, false⟩,
 ⟨.func, 1, 8, .nilf, .unit, true, false⟩,
 ⟨.func, 1, 8, .nilf, .unit, true, false⟩,
 ⟨.func, 1, 8, .nilf, .unit, true, false⟩,
 ⟨.func, 1, 8, .nilf, .unit, true, false⟩,
 ⟨.func, 1, 8, .nilf, .unit, true, false⟩,
 ⟨.func, 1, 8, .nilf, .unit, true, false⟩,
 ⟨.func, 1, 8, .nilf, .unit, true, false⟩,
 ⟨.func, 1, 8, .nilf, .unit, true, false⟩,
 ⟨.func, 1, 8, .nilf, .unit, true, false⟩,
 ⟨.func, 1, 8, .nilf, .unit, true, false⟩,
 ⟨.slice 9, 1, 24, (.list .str ([]) .exact), (.slice .str), true, true⟩,
 ⟨.strct [(0, 9), (1, 9), (2, 117), (3, 4), (4, 4), (5, 4), (6, 3)], 7, 72, (.agg [(.str ([])), (.str ([])), (.list .str ([]) .exact), .ff, .ff, .ff, (.int .i64 (0 : Int))]), (.pair .str (.pair .str (.pair (.slice .str) (.pair .bool (.pair .bool (.pair .bool (.int .i64))))))), true, true⟩,
 ⟨.strct [(0, 9), (1, 9), (2, 117), (3, 4), (4, 4), (5, 4), (6, 3)], 7, 72, (.agg [(.str ([])), (.str ([])), (.list .str ([]) .exact), .ff, .ff, .ff, (.int .i64 (0 : Int))]), (.pair .str (.pair .str (.pair (.slice .str) (.pair .bool (.pair .bool (.pair .bool (.int .i64))))))), true, true⟩,
 ⟨.slice 137, 1, 24, (.list (.pair (.int .i64) (.pair .str (.pair (.int .i64) (.pair (.int .i64) (.pair (.int .i64) (.int .i64)))))) ([]) .exact), (.slice (.pair (.int .i64) (.pair .str (.pair (.int .i64) (.pair (.int .i64) (.pair (.int .i64) (.int .i64))))))), true, true⟩,
 ⟨.slice 147, 1, 24, (.list (.pair (.int .i64) (.pair (.int .i64) (.pair (.int .i64) (.pair (.int .i64) (.pair (.int .i64) (.pair .str (.slice (.pair (.int .i64) (.pair (.int .i64) (.pair (.int .i64) (.int .i64))))))))))) ([]) .exact), (.slice (.pair (.int .i64) (.pair (.int .i64) (.pair (.int .i64) (.pair (.int .i64) (.pair (.int .i64) (.pair .str (.slice (.pair (.int .i64) (.pair (.int .i64) (.pair (.int .i64) (.int .i64)))))))))))), true, true⟩,
 ⟨.strct [(0, 120), (1, 3), (2, 3), (3, 3), (4, 31), (5, 121), (6, 121)], 7, 120, (.agg [(.list (.pair (.int .i64) (.pair .str (.pair (.int .i64) (.pair (.int .i64) (.pair (.int .i64) (.int .i64)))))) ([]) .exact), (.int .i64 (0 : Int)), (.int .i64 (0 : Int)), (.int .i64 (0 : Int)), (.list (.int .i64) ([]) .exact), (.list (.pair (.int .i64) (.pair (.int .i64) (.pair (.int .i64) (.pair (.int .i64) (.pair (.int .i64) (.pair .str (.slice (.pair (.int .i64) (.pair (.int .i64) (.pair (.int .i64) (.int .i64))))))))))) ([]) .exact), (.list (.pair (.int .i64) (.pair (.int .i64) (.pair (.int .i64) (.pair (.int .i64) (.pair (.int .i64) (.pair .str (.slice (.pair (.int .i64) (.pair (.int .i64) (.pair (.int .i64) (.int .i64))))))))))) ([]) .exact)]), (.pair (.slice (.pair (.int .i64) (.pair .str (.pair (.int .i64) (.pair (.int .i64) (.pair (.int .i64) (.int .i64))))))) (.pair (.int .i64) (.pair (.int .i64) (.pair (.int .i64) (.pair (.slice (.int .i64)) (.pair (.slice (.pair (.int .i64) (.pair (.int .i64) (.pair (.int .i64) (.pair (.int .i64) (.pair (.int .i64) (.pair .str (.slice (.pair (.int .i64) (.pair (.int .i64) (.pair (.int .i64) (.int .i64)))))))))))) (.slice (.pair (.int .i64) (.pair (.int .i64) (.pair (.int .i64) (.pair (.int .i64) (.pair (.int .i64) (.pair .str (.slice (.pair (.int .i64) (.pair (.int .i64) (.pair (.int .i64) (.int .i64)))))))))))))))))), true, true⟩,
 ⟨.strct [(0, 120), (1, 3), (2, 3), (3, 3), (4, 31), (5, 121), (6, 121)], 7, 120, (.agg [(.list (.pair (.int .i64) (.pair .str (.pair (.int .i64) (.pair (.int .i64) (.pair (.int .i64) (.int .i64)))))) ([]) .exact), (.int .i64 (0 : Int)), (.int .i64 (0 : Int)), (.int .i64 (0 : Int)), (.list (.int .i64) ([]) .exact), (.list (.pair (.int .i64) (.pair (.int .i64) (.pair (.int .i64) (.pair (.int .i64) (.pair (.int .i64) (.pair .str (.slice (.pair (.int .i64) (.pair (.int .i64) (.pair (.int .i64) (.int .i64))))))))))) ([]) .exact), (.list (.pair (.int .i64) (.pair (.int .i64) (.pair (.int .i64) (.pair (.int .i64) (.pair (.int .i64) (.pair .str (.slice (.pair (.int .i64) (.pair (.int .i64) (.pair (.int .i64) (.int .i64))))))))))) ([]) .exact)]), (.pair (.slice (.pair (.int .i64) (.pair .str (.pair (.int .i64) (.pair (.int .i64) (.pair (.int .i64) (.int .i64))))))) (.pair (.int .i64) (.pair (.int .i64) (.pair (.int .i64) (.pair (.slice (.int .i64)) (.pair (.slice (.pair (.int .i64) (.pair (.int .i64) (.pair (.int .i64) (.pair (.int .i64) (.pair (.int .i64) (.pair .str (.slice (.pair (.int .i64) (.pair (.int .i64) (.pair (.int .i64) (.int .i64)))))))))))) (.slice (.pair (.int .i64) (.pair (.int .i64) (.pair (.int .i64) (.pair (.int .i64) (.pair (.int .i64) (.pair .str (.slice (.pair (.int .i64) (.pair (.int .i64) (.pair (.int .i64) (.int .i64)))))))))))))))))), true, true⟩,
 ⟨.func, 1, 8, .nilf, .unit, true, false⟩,
 ⟨.other, 0, 0, .undef, .unit, false, false⟩,
 ⟨.func, 1, 8, .nilf, .unit, true, false⟩,
 ⟨.func, 1, 8, .nilf, .unit, true, false⟩,
 ⟨.func, 1, 8, .nilf, .unit, true, false⟩,
 ⟨.func, 1, 8, .nilf, .unit, true, false⟩,
 ⟨.func, 1, 8, .nilf, .unit, true, false⟩,
 ⟨.func, 1, 8, .nilf, .unit, true, false⟩,
 ⟨.func, 1, 8, .nilf, .unit, true, false⟩,
 ⟨.func, 1, 8, .nilf, .unit, true, false⟩,
 ⟨.func, 1, 8, .nilf, .unit, true, false⟩,
 ⟨.func, 1, 8, .nilf, .unit, true, false⟩,
 ⟨.strct [(0, 3), (1, 9), (2, 3), (3, 3), (4, 3), (5, 3)], 6, 56, (.agg [(.int .i64 (0 : Int)), (.str ([])), (.int .i64 (0 : Int)), (.int .i64 (0 : Int)), (.int .i64 (0 : Int)), (.int .i64 (0 : Int))]), (.pair (.int .i64) (.pair .str (.pair (.int .i64) (.pair (.int .i64) (.pair (.int .i64) (.int .i64)))))), true, true⟩,
 ⟨.strct [(0, 3), (1, 9), (2, 3), (3, 3), (4, 3), (5, 3)], 6, 56, (.agg [(.int .i64 (0 : Int)), (.str ([])), (.int .i64 (0 : Int)), (.int .i64 (0 : Int)), (.int .i64 (0 : Int)), (.int .i64 (0 : Int))]), (.pair (.int .i64) (.pair .str (.pair (.int .i64) (.pair (.int .i64) (.pair (.int .i64) (.int .i64)))))), true, true⟩,
 ⟨.other, 0, 0, .undef, .unit, false, false⟩,
 ⟨.func, 1, 8, .nilf, .unit, true, false⟩,
 ⟨.func, 1, 8, .nilf, .unit, true, false⟩,
 ⟨.func, 1, 8, .nilf, .unit, true, false⟩,
 ⟨.func, 1, 8, .nilf, .unit, true, false⟩,
 ⟨.func, 1, 8, .nilf, .unit, true, false⟩,
 ⟨.func, 1, 8, .nilf, .unit, true, false⟩,
 ⟨.int .u64, 1, 8, (.int .u64 (0 : Int)), (.int .u64), true, true⟩,
 ⟨.strct [(0, 3), (1, 3), (2, 3), (3, 3), (4, 3), (5, 9), (6, 22)], 7, 80, (.agg [(.int .i64 (0 : Int)), (.int .i64 (0 : Int)), (.int .i64 (0 : Int)), (.int .i64 (0 : Int)), (.int .i64 (0 : Int)), (.str ([])), (.list (.pair (.int .i64) (.pair (.int .i64) (.pair (.int .i64) (.int .i64)))) ([]) .exact)]), (.pair (.int .i64) (.pair (.int .i64) (.pair (.int .i64) (.pair (.int .i64) (.pair (.int .i64) (.pair .str (.slice (.pair (.int .i64) (.pair (.int .i64) (.pair (.int .i64) (.int .i64))))))))))), true, true⟩,
 ⟨.strct [(0, 3), (1, 3), (2, 3), (3, 3), (4, 3), (5, 9), (6, 22)], 7, 80, (.agg [(.int .i64 (0 : Int)), (.int .i64 (0 : Int)), (.int .i64 (0 : Int)), (.int .i64 (0 : Int)), (.int .i64 (0 : Int)), (.str ([])), (.list (.pair (.int .i64) (.pair (.int .i64) (.pair (.int .i64) (.int .i64)))) ([]) .exact)]), (.pair (.int .i64) (.pair (.int .i64) (.pair (.int .i64) (.pair (.int .i64) (.pair (.int .i64) (.pair .str (.slice (.pair (.int .i64) (.pair (.int .i64) (.pair (.int .i64) (.int .i64))))))))))), true, true⟩,
 ⟨.func, 1, 8, .nilf, .unit, true, false⟩,
 ⟨.other, 0, 0, .undef, .unit, false, false⟩,
 ⟨.func, 1, 8, .nilf, .unit, true, false⟩,
 ⟨.other, 0, 0, .undef, .unit, false, false⟩,
 ⟨.func, 1, 8, .nilf, .unit, true, false⟩,
 ⟨.func, 1, 8, .nilf, .unit, true, false⟩,
 ⟨.func, 1, 8, .nilf, .unit, true, false⟩,
 ⟨.func, 1, 8, .nilf, .unit, true, false⟩,
 ⟨.slice 91, 1, 24, (.list (.pair (.int .i64) .str) ([]) .exact), (.slice (.pair (.int .i64) .str)), true, true⟩,
 ⟨.strct [(0, 156), (1, 91), (3, 4)], 4, 56, (.agg [(.list (.pair (.int .i64) .str) ([]) .exact), (.int .i64 (0 : Int)), (.str ([])), .ff]), (.pair (.slice (.pair (.int .i64) .str)) (.pair (.pair (.int .i64) .str) .bool)), true, true⟩,
 ⟨.strct [(0, 156), (1, 91), (3, 4)], 4, 56, (.agg [(.list (.pair (.int .i64) .str) ([]) .exact), (.int .i64 (0 : Int)), (.str ([])), .ff]), (.pair (.slice (.pair (.int .i64) .str)) (.pair (.pair (.int .i64) .str) .bool)), true, true⟩,
 ⟨.other, 0, 0, .undef, .unit, false, false⟩,
 ⟨.func, 1, 8, .nilf, .unit, true, false⟩,
 ⟨.func, 1, 8, .nilf, .unit, true, false⟩,
 ⟨.other, 0, 0, .undef, .unit, false, false⟩,
 ⟨.func, 1, 8, .nilf, .unit, true, false⟩,
 ⟨.other, 0, 0, .undef, .unit, false, false⟩,
 ⟨.func, 1, 8, .nilf, .unit, true, false⟩,
 ⟨.func, 1, 8, .nilf, .unit, true, false⟩,
 ⟨.strct [(0, 17), (1, 17), (2, 17), (3, 9)], 4, 40, (.agg [.nilp, .nilp, .nilp, (.str ([]))]), .unit, true, false⟩,
 ⟨.strct [(0, 17), (1, 17), (2, 17), (3, 9)], 4, 40, (.agg [.nilp, .nilp, .nilp, (.str ([]))]), .unit, true, false⟩,
 ⟨.arr 0 16, 0, 0, (.agg []), .unit, true, false⟩,
 ⟨.strct [(0, 169)], 0, 0, (.agg []), .unit, true, false⟩,
 ⟨.strct [(0, 169)], 0, 0, (.agg []), .unit, true, false⟩,
 ⟨.func, 1, 8, .nilf, .unit, true, false⟩,
 ⟨.int .u32, 1, 4, (.int .u32 (0 : Int)), (.int .u32), true, true⟩,
 ⟨.int .u8, 1, 1, (.int .u8 (0 : Int)), (.int .u8), true, true⟩,
 ⟨.int .u8, 1, 1, (.int .u8 (0 : Int)), (.int .u8), true, true⟩,
 ⟨.func, 1, 8, .nilf, .unit, true, false⟩,
 ⟨.ptr 5, 1, 8, .nilp, .unit, true, false⟩,
 ⟨.int .i32, 1, 4, (.int .i32 (0 : Int)), (.int .i32), true, true⟩,
 ⟨.int .i32, 1, 4, (.int .i32 (0 : Int)), (.int .i32), true, true⟩,
 ⟨.strct [(0, 12), (1, 12), (2, 173), (3, 174), (4, 5), (5, 5), (6, 175), (7, 176), (8, 177), (9, 178), (10, 179)], 11, 48, (.agg [(.int .u64 (0 : Int)), (.int .u64 (0 : Int)), (.int .u32 (0 : Int)), (.int .u8 (0 : Int)), (.int .u8 (0 : Int)), (.int .u8 (0 : Int)), (.int .u8 (0 : Int)), .nilf, .nilp, (.int .i32 (0 : Int)), (.int .i32 (0 : Int))]), .unit, true, false⟩,
 ⟨.strct [(0, 12), (1, 12), (2, 173), (3, 174), (4, 5), (5, 5), (6, 175), (7, 176), (8, 177), (9, 178), (10, 179)], 11, 48, (.agg [(.int .u64 (0 : Int)), (.int .u64 (0 : Int)), (.int .u32 (0 : Int)), (.int .u8 (0 : Int)), (.int .u8 (0 : Int)), (.int .u8 (0 : Int)), (.int .u8 (0 : Int)), .nilf, .nilp, (.int .i32 (0 : Int)), (.int .i32 (0 : Int))]), .unit, true, false⟩,
 ⟨.other, 0, 0, .undef, .unit, false, false⟩]
theorem tt_ok : TTOK Try.prog tt := ttok_of (by kernel_rfl)
end Go.Proofs.Ytiomllkdfhglhaa.AB

set_option linter.unusedVariables false
set_option linter.unusedSimpArgs false
namespace Go.Proofs.Ytiomllkdfhglhaa.AB
open Go

theorem mix : Try.prog.follows .mixedOrders = true := by kernel_rfl

theorem pcOf {X : Cx} (hX : X.tt = tt) (hfn : fnsB Try.prog X.fns) {d : Nat} {f : FuncId} {fn : Func} (hf : Try.prog.funcs[f]? = some fn) (hname : fn.name ≠ "runtime.NumGoroutine") {args : List V} {r : V}
    (h : fnK X.tt (callN Try.prog X d) (X.md f) (X.mk1 f) fn (args.map .v) ⟨[], [], ⟨0, []⟩⟩ (topK fun v => v.norm = r ∧ r.nt = true)) : PC Try.prog f args r := by
  have htt : TTOK Try.prog X.tt := by rw [hX]; exact tt_ok
  exact PC.of htt (callN_sound htt mix (fun f fn => fnsB_spec hfn f fn) d) (callN_det d) mix hf hname h

theorem wrap64 {x : Int} (h1 : -9223372036854775808 ≤ x) (h2 : x ≤ 9223372036854775807) : IntKind.wrap .i64 x = x := by
  have e : IntKind.wrap .i64 x = (if 9223372036854775808 ≤ x % 18446744073709551616 then x % 18446744073709551616 - 18446744073709551616 else x % 18446744073709551616) := by
    simp [IntKind.wrap, IntKind.bits, IntKind.signed]
  rw [e]
  split <;> omega

theorem take_succ_eq {α : Type} [DecidableEq α] {a b : List α} {n : Nat} {d : α} (h : a.take n = b.take n) (hn : n < a.length) (hm : n < b.length) (he : a.getD n d = b.getD n d) : a.take (n + 1) = b.take (n + 1) := by
  rw [List.take_succ_eq_append_getElem hn, List.take_succ_eq_append_getElem hm, h]
  simp only [List.getD, List.getElem?_eq_getElem hn, List.getElem?_eq_getElem hm, Option.getD_some] at he
  rw [he]

/-- a list of ours that may be appended to -/
def Tok.fresh (t : Tok) (T : Toks) : Prop :=
  match t with
  | .no => False
  | .exact => True
  | .tk n => n ∈ T.l ∧ n < T.n

def Tok.ne (t u : Tok) : Prop :=
  match t, u with
  | .tk a, .tk b => a ≠ b
  | _, _ => True

theorem Tok.fresh.own {t : Tok} {T : Toks} (h : t.fresh T) : t.own T.l := by
  cases t with
  | no => exact h
  | exact => trivial
  | tk n => exact h.1

theorem Tok.fresh_new (n : Nat) (l : List Nat) : (Tok.tk n).fresh ⟨n + 1, n :: l⟩ := ⟨by simp, Nat.lt_succ_self _⟩

theorem Tok.fresh.keep {t u : Tok} {T : Toks} (h : t.fresh T) (hne : u.ne t) : t.fresh ⟨T.n + 1, T.n :: u.drop T.l⟩ := by
  cases t with
  | no => exact h
  | exact => trivial
  | tk n =>
    refine ⟨List.mem_cons_of_mem _ ?_, Nat.lt_succ_of_lt h.2⟩
    cases u with
    | no => exact h.1
    | exact => exact h.1
    | tk m =>
      show n ∈ List.filter _ _
      rw [List.mem_filter]
      exact ⟨h.1, by simpa using fun e : n = m => hne e.symm⟩

theorem Tok.fresh.ne_new {t : Tok} {T : Toks} (h : t.fresh T) : t.ne (.tk T.n) := by
  cases t with
  | no => exact h.elim
  | exact => trivial
  | tk n => exact Nat.ne_of_lt h.2

theorem Tok.fresh.new_ne {t : Tok} {T : Toks} (h : t.fresh T) : (Tok.tk T.n).ne t := by
  cases t with
  | no => exact h.elim
  | exact => trivial
  | tk n => exact Nat.ne_of_gt h.2

/-- the elements of a list of lists may each be appended to -/
def FrT (ts : Nat → Tok) (T : Toks) : Prop := (∀ j, (ts j).fresh T) ∧ ∀ i j, i ≠ j → (ts i).ne (ts j)

theorem FrT.exact (T : Toks) : FrT (fun _ => .exact) T := ⟨fun _ => trivial, fun _ _ _ => trivial⟩

theorem FrT.upd {ts : Nat → Tok} {T : Toks} (h : FrT ts T) (i : Nat) : FrT (fun j => if j = i then .tk T.n else ts j) ⟨T.n + 1, T.n :: (ts i).drop T.l⟩ := by
  refine ⟨fun j => ?_, fun j k hjk => ?_⟩
  · by_cases e : j = i
    · simp only [e, if_true]; exact Tok.fresh_new _ _
    · simp only [e, if_false]; exact (h.1 j).keep (h.2 i j (fun e' => e e'.symm))
  · by_cases e : j = i
    · by_cases e' : k = i
      · exact absurd (e.trans e'.symm) hjk
      · simp only [e, e', if_true, if_false]; exact (h.1 k).new_ne
    · by_cases e' : k = i
      · simp only [e, e', if_true, if_false]; exact (h.1 j).ne_new
      · simp only [e, e', if_false]; exact h.2 j k hjk

end Go.Proofs.Ytiomllkdfhglhaa.AB

set_option linter.unusedVariables false
set_option linter.unusedSimpArgs false
namespace Go.Proofs.Ytiomllkdfhglhaa.AB
open Go

/-! crucible/crucibleref4.Ends -/
noncomputable def X36 : Cx := ⟨tt, [], [], [], []⟩
theorem FN36 : fnsB Try.prog X36.fns := (show True from trivial)
theorem E36 (op0 : Int) {R : V → Prop} (h : (((op0 == (20 : Int)) = true → R (.bool true)) ∧ ((op0 == (20 : Int)) = false → (((op0 == (30 : Int)) = true → R (.bool true)) ∧ ((op0 == (30 : Int)) = false → (((decide (op0 ≥ (44 : Int))) = true → R (.bool ((decide (op0 ≤ (46 : Int)))))) ∧ ((decide (op0 ≥ (44 : Int))) = false → R (.bool false)))))))) :
  fnK X36.tt (callN Try.prog X36 0) (X36.md 36) (X36.mk1 36) Try.f36 [(.v (.int .i64 op0))] ⟨[], [], ⟨0, []⟩⟩ (topK R) := Eq.mp (by kernel_rfl) h

end Go.Proofs.Ytiomllkdfhglhaa.AB

set_option linter.unusedVariables false
set_option linter.unusedSimpArgs false
namespace Go.Proofs.Ytiomllkdfhglhaa.AB
open Go

/-! crucible/code.Ends -/
noncomputable def X53 : Cx := ⟨tt, [], [], [], []⟩
theorem FN53 : fnsB Try.prog X53.fns := (show True from trivial)
theorem E53 (op0 : Int) {R : V → Prop} (h : (((op0 == (20 : Int)) = true → (((op0 == (20 : Int)) = true → R (.bool true)) ∧
 ((op0 == (20 : Int)) = false → R (.bool false)))) ∧
 ((op0 == (20 : Int)) = false → (((op0 == (30 : Int)) = true → (((op0 == (30 : Int)) = true → R (.bool true)) ∧
 ((op0 == (30 : Int)) = false → R (.bool false)))) ∧
 ((op0 == (30 : Int)) = false → (((op0 == (44 : Int)) = true → (((op0 == (44 : Int)) = true → R (.bool true)) ∧
 ((op0 == (44 : Int)) = false → R (.bool false)))) ∧
 ((op0 == (44 : Int)) = false → (((op0 == (45 : Int)) = true → (((op0 == (45 : Int)) = true → R (.bool true)) ∧
 ((op0 == (45 : Int)) = false → R (.bool false)))) ∧
 ((op0 == (45 : Int)) = false → (((op0 == (46 : Int)) = true → R (.bool true)) ∧
 ((op0 == (46 : Int)) = false → R (.bool false)))))))))))) :
  fnK X53.tt (callN Try.prog X53 0) (X53.md 53) (X53.mk1 53) Try.f53 [(.v (.int .i64 op0))] ⟨[], [], ⟨0, []⟩⟩ (topK R) := Eq.mp (by kernel_rfl) h

end Go.Proofs.Ytiomllkdfhglhaa.AB

set_option linter.unusedVariables false
set_option linter.unusedSimpArgs false
namespace Go.Proofs.Ytiomllkdfhglhaa.AB
open Go

theorem retB {b c : Bool} (h : b = c) : (V.bool b).norm = .bool c ∧ (V.bool c).nt = true := ⟨congrArg _ h, rfl⟩
theorem retI {k : IntKind} {b c : Int} (h : b = c) : (V.int k b).norm = .int k c ∧ (V.int k c).nt = true := ⟨congrArg _ h, rfl⟩

/-- the ops behind which nothing comes -/
def isEnd (op : Int) : Bool := op == 20 || op == 30 || (decide (44 ≤ op) && decide (op ≤ 46))

theorem p36 (op : Int) : PC Try.prog 36 [.int .i64 op] (.bool (isEnd op)) := by
  refine pcOf (X := X36) (d := 0) rfl trivial (by kernel_rfl) (by decide) (E36 op ⟨fun h => ?_, fun h => ⟨fun h2 => ?_, fun h2 => ⟨fun h3 => ?_, fun h3 => ?_⟩⟩⟩)
  · exact retB (by simp [isEnd, h])
  · exact retB (by simp [isEnd, h2])
  · have h3' : 44 ≤ op := by simpa using h3
    exact retB (by simp [isEnd, h, h2, h3'])
  · have h3' : ¬ 44 ≤ op := by simpa using h3
    exact retB (by simp [isEnd, h, h2, h3'])

theorem p53 (op : Int) : PC Try.prog 53 [.int .i64 op] (.bool (isEnd op)) := by
  refine pcOf (X := X53) (d := 0) rfl trivial (by kernel_rfl) (by decide) (E53 op ⟨fun h => ⟨fun _ => ?_, fun h' => ?_⟩, fun h1 => ⟨fun h => ⟨fun _ => ?_, fun h' => ?_⟩, fun h2 => ⟨fun h => ⟨fun _ => ?_, fun h' => ?_⟩, fun h3 =>
    ⟨fun h => ⟨fun _ => ?_, fun h' => ?_⟩, fun h4 => ⟨fun h => ?_, fun h5 => ?_⟩⟩⟩⟩⟩)
  all_goals simp only [beq_iff_eq, beq_eq_false_iff_ne] at *
  all_goals refine retB ?_
  all_goals simp only [isEnd]
  all_goals first
    | omega
    | (have e : ∀ a b : Bool, (a = true ↔ b = true) → a = b := by decide
       refine e _ _ ?_
       simp only [Bool.or_eq_true, Bool.and_eq_true, beq_iff_eq, decide_eq_true_eq, true_iff, false_iff, Bool.false_eq_true]
       omega)

end Go.Proofs.Ytiomllkdfhglhaa.AB

set_option linter.unusedVariables false
set_option linter.unusedSimpArgs false
namespace Go.Proofs.Ytiomllkdfhglhaa.AB
open Go

/-! crucible/crucibleref4.Index -/
noncomputable def X55 : Cx := ⟨tt, [], [], [(55, [(0, mkM 20 0 [0, 1, 5], 0)])], []⟩
theorem FN55 : fnsB Try.prog X55.fns := (show True from trivial)
def M55_0 : List Bool × Nat := (mkM 20 0 [0, 1, 5], 0)
def S55_0 (l0 : List (Int × (Int × (Int × ((List Int) × (List Int)))))) (pc1 : Int) (i5 : Int) (T : Toks) : St :=
  mkS 20 [(0, (.v (.list (.pair (.int .i64) (.pair (.int .i64) (.pair (.int .i64) (.pair (.slice (.int .i64)) (.slice (.int .i64)))))) l0 .no))), (1, (.v (.int .i64 pc1))), (5, (.v (.int .i64 i5)))] [] T
noncomputable def B55_0 : (Exit → St → Prop) → St → Prop := (awp X55.tt (callN Try.prog X55 0) (X55.md 55) 0 (X55.mk1 55) 0 (codeAt [1, 0, 1, 0, 0] (bd Try.f55)))
noncomputable def K55_0 (R : V → Prop) : Exit → St → Prop := seqK ((awp X55.tt (callN Try.prog X55 0) (X55.md 55) 0 (X55.mk1 55) 0 (codeAt [1, 1] (bd Try.f55))) (retK tt Try.f55.results.toList fun x s' => topK R x ⟨[], s'.hp, s'.T⟩)) (retK tt Try.f55.results.toList fun x s' => topK R x ⟨[], s'.hp, s'.T⟩)
noncomputable def Q55_0 (R : V → Prop) : Exit → St → Prop := (blockK 0 (K55_0 R))
theorem E55 (l0 : (List (Int × (Int × (Int × ((List Int) × (List Int))))))) (pc1 : Int) {R : V → Prop} (h : (Loops B55_0 M55_0 (Q55_0 R)
  (S55_0 l0 pc1 (0 : Int) ⟨0, []⟩))) :
  fnK X55.tt (callN Try.prog X55 0) (X55.md 55) (X55.mk1 55) Try.f55 [(.v (.list (.pair (.int .i64) (.pair (.int .i64) (.pair (.int .i64) (.pair (.slice (.int .i64)) (.slice (.int .i64)))))) l0 .no)), (.v (.int .i64 pc1))] ⟨[], [], ⟨0, []⟩⟩ (topK R) := Eq.mp (by kernel_rfl) h
theorem L55_0 (l0 : List (Int × (Int × (Int × ((List Int) × (List Int)))))) (pc1 : Int) (i5 : Int) (T : Toks) {R : V → Prop} {k0 : St → Prop}
 (h : (((decide (i5 < ((l0).length : Int))) = true → (0 ≤ i5 ∧ i5 < ((l0).length : Int) ∧ ((((l0.getD (i5).toNat (0, (0, (0, ([], []))))).1 == pc1) = true → R (.int .i64 i5)) ∧
 (((l0.getD (i5).toNat (0, (0, (0, ([], []))))).1 == pc1) = false → k0 (S55_0 l0 pc1 ((IntKind.wrap .i64 (i5 + (1 : Int)))) T))))) ∧
 ((decide (i5 < ((l0).length : Int))) = false → R (.int .i64 (-1 : Int))))) :
  B55_0 (loopQ M55_0 k0 (Q55_0 R)) (S55_0 l0 pc1 i5 T) := Eq.mp (by kernel_rfl) h

end Go.Proofs.Ytiomllkdfhglhaa.AB

set_option linter.unusedVariables false
set_option linter.unusedSimpArgs false
namespace Go.Proofs.Ytiomllkdfhglhaa.AB
open Go

abbrev Ins : Type := Int × (Int × (Int × ((List Int) × (List Int))))
abbrev cIns : Cd := .pair (.int .i64) (.pair (.int .i64) (.pair (.int .i64) (.pair (.slice (.int .i64)) (.slice (.int .i64)))))

/-- where a place of code stands in a list -/
def idx (l : List Ins) (pc : Int) : Int := match l.findIdx? (fun x => x.1 == pc) with
  | some i => (i : Int)
  | none => -1

theorem p55 (l : List Ins) (pc : Int) (hl : l.length < 9223372036854775807) : PC Try.prog 55 [.list cIns l .no, .int .i64 pc] (.int .i64 (idx l pc)) := by
  refine pcOf (X := X55) (d := 0) rfl trivial (by kernel_rfl) (by decide) (E55 l pc ?_)
  refine Loops.intro (fun n : Nat => S55_0 l pc n ⟨0, []⟩) (fun n => n ≤ l.length ∧ ∀ i, i < n → ∀ h : i < l.length, (l[i]).1 ≠ pc) (fun n => l.length - n) 0 rfl ⟨Nat.zero_le _, fun i hi => absurd hi (Nat.not_lt_zero _)⟩ ?_
  rintro n ⟨hn, hb⟩
  refine L55_0 l pc n ⟨0, []⟩ ⟨fun h => ?_, fun h => ?_⟩
  · have hlt : n < l.length := by simpa using h
    have hg : l.getD n (0, (0, (0, ([], [])))) = l[n] := by simp [List.getD, hlt]
    refine ⟨by omega, by omega, fun h => ?_, fun h => ?_⟩
    · have he : (l[n]).1 = pc := by rw [← hg]; simpa using h
      refine retI ?_
      have : l.findIdx? (fun x => x.1 == pc) = some n := by
        rw [List.findIdx?_eq_some_iff_getElem]
        exact ⟨hlt, by simpa using he, fun j hj => by simpa using hb j hj (by omega)⟩
      unfold idx; rw [this]
    · have he : (l[n]).1 ≠ pc := by rw [← hg]; simpa using h
      rw [wrap64 (by omega) (by omega)]
      refine Again.mk (n + 1) rfl ⟨by omega, fun i hi hil => ?_⟩ (by omega)
      rcases Nat.lt_or_ge i n with h' | h'
      · exact hb i h' hil
      · have : i = n := by omega
        subst this; exact he
  · have hge : n = l.length := by
      have : ¬ ((n : Int) < l.length) := by simpa using h
      omega
    refine retI ?_
    have : l.findIdx? (fun x => x.1 == pc) = none := by
      rw [List.findIdx?_eq_none_iff]
      intro x hx
      obtain ⟨i, hi, rfl⟩ := List.getElem_of_mem hx
      simpa using hb i (by omega) hi
    unfold idx; rw [this]

end Go.Proofs.Ytiomllkdfhglhaa.AB

set_option linter.unusedVariables false
set_option linter.unusedSimpArgs false
namespace Go.Proofs.Ytiomllkdfhglhaa.AB
open Go

/-! crucible/crucibleref4.one -/
noncomputable def X40 : Cx := ⟨tt, [(61, [.cd (.int .u8)]), (62, [.cd (.int .i64)]), (63, [.cd (.int .i64)])], [], [(40, [(2, mkM 115 0 [1, 4, 8, 9, 12, 13], 2)])], []⟩
theorem FN40 : fnsB Try.prog X40.fns := (show True from trivial)
def M40_2 : List Bool × Nat := (mkM 115 0 [1, 4, 8, 9, 12, 13], 2)
def S40_2 (pc1 : Int) (rest9 : List UInt8) (n12 : Int) (i13 : Int) (hq0_0 : Int) (hq0_1 : Int) (hq0_2 : Int) (hq0_3 : List Int) (hq0_3k : Tok) (hq0_4 : List Int) (hq0_4k : Tok) (hq1_0 : Int) (hq1_1 : Int) (hq1_2 : Int) (hq1_3 : List Int) (hq1_3k : Tok) (hq1_4 : List Int) (hq1_4k : Tok) (T : Toks) : St :=
  mkS 115 [(1, (.v (.int .i64 pc1))), (4, (.ptr 0 0 0 0)), (8, (.ptr 1 0 0 0)), (9, (.v (.str rest9))), (12, (.v (.int .i64 n12))), (13, (.v (.int .i64 i13)))] [(some (.box (.v (.agg [(.int .i64 hq0_0), (.int .i64 hq0_1), (.int .i64 hq0_2), (.list (.int .i64) hq0_3 hq0_3k), (.list (.int .i64) hq0_4 hq0_4k)])))), (some (.box (.v (.agg [(.int .i64 hq1_0), (.int .i64 hq1_1), (.int .i64 hq1_2), (.list (.int .i64) hq1_3 hq1_3k), (.list (.int .i64) hq1_4 hq1_4k)]))))] T
noncomputable def B40_2 : (Exit → St → Prop) → St → Prop := (awp X40.tt (callN Try.prog X40 0) (X40.md 40) 0 (X40.mk1 40) 2 (codeAt [1, 1, 1, 1, 1, 1, 1, 1, 1, 1, 1, 1, 0, 1, 0, 0] (bd Try.f40)))
noncomputable def K40_0 (R : V → Prop) : Exit → St → Prop := seqK ((awp X40.tt (callN Try.prog X40 0) (X40.md 40) 0 (X40.mk1 40) 0 (codeAt [1, 1, 1, 1, 1, 1, 1, 1, 1, 1, 1, 1, 1] (bd Try.f40))) (retK tt Try.f40.results.toList fun x s' => topK R x ⟨[], s'.hp, s'.T⟩)) (retK tt Try.f40.results.toList fun x s' => topK R x ⟨[], s'.hp, s'.T⟩)
noncomputable def Q40_2 (R : V → Prop) : Exit → St → Prop := (blockK 2 (K40_0 R))
theorem E40 (code0 : (List UInt8)) (pc1 : Int) {R : V → Prop} (h : (0 ≤ pc1 ∧ pc1 < ((code0).length : Int) ∧ (0 ≤ (IntKind.wrap .i64 (pc1 + (1 : Int))) ∧ (IntKind.wrap .i64 (pc1 + (1 : Int))) ≤ ((code0).length : Int) ∧ (∃ p1 : Int, PC Try.prog 61 [(.int .i64 ((IntKind.wrap .i64 ((code0.getD (pc1).toNat 0).toNat : Int))))] (.int .u8 p1) ∧ (((p1 == (0 : Int)) = true → R (.tup [(.agg [(.int .i64 pc1), (.int .i64 ((IntKind.wrap .i64 ((code0.getD (pc1).toNat 0).toNat : Int)))), (.int .i64 (0 : Int)), (.list (.int .i64) ([] : List Int) .no), (.list (.int .i64) ([] : List Int) .no)]), (.int .i64 (0 : Int)), (.int .i64 (11 : Int))])) ∧
 ((p1 == (0 : Int)) = false → (((p1 == (45 : Int)) = true → R (.tup [(.agg [(.int .i64 pc1), (.int .i64 ((IntKind.wrap .i64 ((code0.getD (pc1).toNat 0).toNat : Int)))), (.int .i64 (0 : Int)), (.list (.int .i64) ([] : List Int) .no), (.list (.int .i64) ([] : List Int) .no)]), (.int .i64 (1 : Int)), (.int .i64 (0 : Int))])) ∧
 ((p1 == (45 : Int)) = false → (((p1 == (98 : Int)) = true → (((decide (((((code0.take (code0).length).drop ((IntKind.wrap .i64 (pc1 + (1 : Int)))).toNat)).length : Int) < (1 : Int))) = true → R (.tup [(.agg [(.int .i64 pc1), (.int .i64 ((IntKind.wrap .i64 ((code0.getD (pc1).toNat 0).toNat : Int)))), (.int .i64 (0 : Int)), (.list (.int .i64) ([] : List Int) .no), (.list (.int .i64) ([] : List Int) .no)]), (.int .i64 (0 : Int)), (.int .i64 (5 : Int))])) ∧
 ((decide (((((code0.take (code0).length).drop ((IntKind.wrap .i64 (pc1 + (1 : Int)))).toNat)).length : Int) < (1 : Int))) = false → (((p1 == (98 : Int)) = true → (0 ≤ (0 : Int) ∧ (0 : Int) < ((((code0.take (code0).length).drop ((IntKind.wrap .i64 (pc1 + (1 : Int)))).toNat)).length : Int) ∧ R (.tup [(.agg [(.int .i64 pc1), (.int .i64 ((IntKind.wrap .i64 ((code0.getD (pc1).toNat 0).toNat : Int)))), (.int .i64 ((IntKind.wrap .i64 (((((code0.take (code0).length).drop ((IntKind.wrap .i64 (pc1 + (1 : Int)))).toNat)).getD ((0 : Int)).toNat 0).toNat : Int)))), (.list (.int .i64) ([] : List Int) .no), (.list (.int .i64) ([] : List Int) .no)]), (.int .i64 (2 : Int)), (.int .i64 (0 : Int))]))) ∧
 ((p1 == (98 : Int)) = false → (((p1 == (110 : Int)) = true → (∃ p2 : Int, PC Try.prog 62 [(.str (((code0.take (code0).length).drop ((IntKind.wrap .i64 (pc1 + (1 : Int)))).toNat)))] (.int .i64 p2) ∧ R (.tup [(.agg [(.int .i64 pc1), (.int .i64 ((IntKind.wrap .i64 ((code0.getD (pc1).toNat 0).toNat : Int)))), (.int .i64 p2), (.list (.int .i64) ([] : List Int) .no), (.list (.int .i64) ([] : List Int) .no)]), (.int .i64 (3 : Int)), (.int .i64 (0 : Int))]))) ∧
 ((p1 == (110 : Int)) = false → (((p1 == (106 : Int)) = true → (∃ p3 : Int, PC Try.prog 63 [(.str (((code0.take (code0).length).drop ((IntKind.wrap .i64 (pc1 + (1 : Int)))).toNat)))] (.int .i64 p3) ∧ R (.tup [(.agg [(.int .i64 pc1), (.int .i64 ((IntKind.wrap .i64 ((code0.getD (pc1).toNat 0).toNat : Int)))), (.int .i64 (0 : Int)), (.list (.int .i64) ([] : List Int) .no), (.list (.int .i64) (([(IntKind.wrap .i64 (pc1 + p3))] : List Int)) .no)]), (.int .i64 (3 : Int)), (.int .i64 (0 : Int))]))) ∧
 ((p1 == (106 : Int)) = false → (∃ p4 : Int, PC Try.prog 63 [(.str (((code0.take (code0).length).drop ((IntKind.wrap .i64 (pc1 + (1 : Int)))).toNat)))] (.int .i64 p4) ∧ (0 ≤ (2 : Int) ∧ (2 : Int) ≤ ((((code0.take (code0).length).drop ((IntKind.wrap .i64 (pc1 + (1 : Int)))).toNat)).length : Int) ∧ (∃ p5 : Int, PC Try.prog 62 [(.str ((((((code0.take (code0).length).drop ((IntKind.wrap .i64 (pc1 + (1 : Int)))).toNat)).take (((code0.take (code0).length).drop ((IntKind.wrap .i64 (pc1 + (1 : Int)))).toNat)).length).drop ((2 : Int)).toNat)))] (.int .i64 p5) ∧ (((decide (((((code0.take (code0).length).drop ((IntKind.wrap .i64 (pc1 + (1 : Int)))).toNat)).length : Int) < (IntKind.wrap .i64 ((4 : Int) + (IntKind.wrap .i64 ((4 : Int) * p5)))))) = true → R (.tup [(.agg [(.int .i64 pc1), (.int .i64 ((IntKind.wrap .i64 ((code0.getD (pc1).toNat 0).toNat : Int)))), (.int .i64 (0 : Int)), (.list (.int .i64) ([] : List Int) .no), (.list (.int .i64) (([(IntKind.wrap .i64 (pc1 + p4))] : List Int)) .no)]), (.int .i64 (0 : Int)), (.int .i64 (5 : Int))])) ∧
 ((decide (((((code0.take (code0).length).drop ((IntKind.wrap .i64 (pc1 + (1 : Int)))).toNat)).length : Int) < (IntKind.wrap .i64 ((4 : Int) + (IntKind.wrap .i64 ((4 : Int) * p5)))))) = false → (Loops B40_2 M40_2 (Q40_2 R)
  (S40_2 pc1 (((code0.take (code0).length).drop ((IntKind.wrap .i64 (pc1 + (1 : Int)))).toNat)) p5 (0 : Int) (0 : Int) (0 : Int) (0 : Int) ([] : List Int) .exact ([] : List Int) .exact pc1 ((IntKind.wrap .i64 ((code0.getD (pc1).toNat 0).toNat : Int))) (0 : Int) ([] : List Int) .exact (([(IntKind.wrap .i64 (pc1 + p4))] : List Int)) .exact ⟨0, []⟩)))))))))))))))) ∧
 ((p1 == (98 : Int)) = false → (((p1 == (115 : Int)) = true → (((decide (((((code0.take (code0).length).drop ((IntKind.wrap .i64 (pc1 + (1 : Int)))).toNat)).length : Int) < (4 : Int))) = true → R (.tup [(.agg [(.int .i64 pc1), (.int .i64 ((IntKind.wrap .i64 ((code0.getD (pc1).toNat 0).toNat : Int)))), (.int .i64 (0 : Int)), (.list (.int .i64) ([] : List Int) .no), (.list (.int .i64) ([] : List Int) .no)]), (.int .i64 (0 : Int)), (.int .i64 (5 : Int))])) ∧
 ((decide (((((code0.take (code0).length).drop ((IntKind.wrap .i64 (pc1 + (1 : Int)))).toNat)).length : Int) < (4 : Int))) = false → (((p1 == (98 : Int)) = true → (0 ≤ (0 : Int) ∧ (0 : Int) < ((((code0.take (code0).length).drop ((IntKind.wrap .i64 (pc1 + (1 : Int)))).toNat)).length : Int) ∧ R (.tup [(.agg [(.int .i64 pc1), (.int .i64 ((IntKind.wrap .i64 ((code0.getD (pc1).toNat 0).toNat : Int)))), (.int .i64 ((IntKind.wrap .i64 (((((code0.take (code0).length).drop ((IntKind.wrap .i64 (pc1 + (1 : Int)))).toNat)).getD ((0 : Int)).toNat 0).toNat : Int)))), (.list (.int .i64) ([] : List Int) .no), (.list (.int .i64) ([] : List Int) .no)]), (.int .i64 (2 : Int)), (.int .i64 (0 : Int))]))) ∧
 ((p1 == (98 : Int)) = false → (((p1 == (110 : Int)) = true → (∃ p6 : Int, PC Try.prog 62 [(.str (((code0.take (code0).length).drop ((IntKind.wrap .i64 (pc1 + (1 : Int)))).toNat)))] (.int .i64 p6) ∧ R (.tup [(.agg [(.int .i64 pc1), (.int .i64 ((IntKind.wrap .i64 ((code0.getD (pc1).toNat 0).toNat : Int)))), (.int .i64 p6), (.list (.int .i64) ([] : List Int) .no), (.list (.int .i64) ([] : List Int) .no)]), (.int .i64 (3 : Int)), (.int .i64 (0 : Int))]))) ∧
 ((p1 == (110 : Int)) = false → (((p1 == (106 : Int)) = true → (∃ p7 : Int, PC Try.prog 63 [(.str (((code0.take (code0).length).drop ((IntKind.wrap .i64 (pc1 + (1 : Int)))).toNat)))] (.int .i64 p7) ∧ R (.tup [(.agg [(.int .i64 pc1), (.int .i64 ((IntKind.wrap .i64 ((code0.getD (pc1).toNat 0).toNat : Int)))), (.int .i64 (0 : Int)), (.list (.int .i64) ([] : List Int) .no), (.list (.int .i64) (([(IntKind.wrap .i64 (pc1 + p7))] : List Int)) .no)]), (.int .i64 (3 : Int)), (.int .i64 (0 : Int))]))) ∧
 ((p1 == (106 : Int)) = false → (∃ p8 : Int, PC Try.prog 63 [(.str (((code0.take (code0).length).drop ((IntKind.wrap .i64 (pc1 + (1 : Int)))).toNat)))] (.int .i64 p8) ∧ (0 ≤ (2 : Int) ∧ (2 : Int) ≤ ((((code0.take (code0).length).drop ((IntKind.wrap .i64 (pc1 + (1 : Int)))).toNat)).length : Int) ∧ (∃ p9 : Int, PC Try.prog 62 [(.str ((((((code0.take (code0).length).drop ((IntKind.wrap .i64 (pc1 + (1 : Int)))).toNat)).take (((code0.take (code0).length).drop ((IntKind.wrap .i64 (pc1 + (1 : Int)))).toNat)).length).drop ((2 : Int)).toNat)))] (.int .i64 p9) ∧ (((decide (((((code0.take (code0).length).drop ((IntKind.wrap .i64 (pc1 + (1 : Int)))).toNat)).length : Int) < (IntKind.wrap .i64 ((4 : Int) + (IntKind.wrap .i64 ((4 : Int) * p9)))))) = true → R (.tup [(.agg [(.int .i64 pc1), (.int .i64 ((IntKind.wrap .i64 ((code0.getD (pc1).toNat 0).toNat : Int)))), (.int .i64 (0 : Int)), (.list (.int .i64) ([] : List Int) .no), (.list (.int .i64) (([(IntKind.wrap .i64 (pc1 + p8))] : List Int)) .no)]), (.int .i64 (0 : Int)), (.int .i64 (5 : Int))])) ∧
 ((decide (((((code0.take (code0).length).drop ((IntKind.wrap .i64 (pc1 + (1 : Int)))).toNat)).length : Int) < (IntKind.wrap .i64 ((4 : Int) + (IntKind.wrap .i64 ((4 : Int) * p9)))))) = false → (Loops B40_2 M40_2 (Q40_2 R)
  (S40_2 pc1 (((code0.take (code0).length).drop ((IntKind.wrap .i64 (pc1 + (1 : Int)))).toNat)) p9 (0 : Int) (0 : Int) (0 : Int) (0 : Int) ([] : List Int) .exact ([] : List Int) .exact pc1 ((IntKind.wrap .i64 ((code0.getD (pc1).toNat 0).toNat : Int))) (0 : Int) ([] : List Int) .exact (([(IntKind.wrap .i64 (pc1 + p8))] : List Int)) .exact ⟨0, []⟩)))))))))))))))) ∧
 ((p1 == (115 : Int)) = false → (((decide (((((code0.take (code0).length).drop ((IntKind.wrap .i64 (pc1 + (1 : Int)))).toNat)).length : Int) < (2 : Int))) = true → R (.tup [(.agg [(.int .i64 pc1), (.int .i64 ((IntKind.wrap .i64 ((code0.getD (pc1).toNat 0).toNat : Int)))), (.int .i64 (0 : Int)), (.list (.int .i64) ([] : List Int) .no), (.list (.int .i64) ([] : List Int) .no)]), (.int .i64 (0 : Int)), (.int .i64 (5 : Int))])) ∧
 ((decide (((((code0.take (code0).length).drop ((IntKind.wrap .i64 (pc1 + (1 : Int)))).toNat)).length : Int) < (2 : Int))) = false → (((p1 == (98 : Int)) = true → (0 ≤ (0 : Int) ∧ (0 : Int) < ((((code0.take (code0).length).drop ((IntKind.wrap .i64 (pc1 + (1 : Int)))).toNat)).length : Int) ∧ R (.tup [(.agg [(.int .i64 pc1), (.int .i64 ((IntKind.wrap .i64 ((code0.getD (pc1).toNat 0).toNat : Int)))), (.int .i64 ((IntKind.wrap .i64 (((((code0.take (code0).length).drop ((IntKind.wrap .i64 (pc1 + (1 : Int)))).toNat)).getD ((0 : Int)).toNat 0).toNat : Int)))), (.list (.int .i64) ([] : List Int) .no), (.list (.int .i64) ([] : List Int) .no)]), (.int .i64 (2 : Int)), (.int .i64 (0 : Int))]))) ∧
 ((p1 == (98 : Int)) = false → (((p1 == (110 : Int)) = true → (∃ p10 : Int, PC Try.prog 62 [(.str (((code0.take (code0).length).drop ((IntKind.wrap .i64 (pc1 + (1 : Int)))).toNat)))] (.int .i64 p10) ∧ R (.tup [(.agg [(.int .i64 pc1), (.int .i64 ((IntKind.wrap .i64 ((code0.getD (pc1).toNat 0).toNat : Int)))), (.int .i64 p10), (.list (.int .i64) ([] : List Int) .no), (.list (.int .i64) ([] : List Int) .no)]), (.int .i64 (3 : Int)), (.int .i64 (0 : Int))]))) ∧
 ((p1 == (110 : Int)) = false → (((p1 == (106 : Int)) = true → (∃ p11 : Int, PC Try.prog 63 [(.str (((code0.take (code0).length).drop ((IntKind.wrap .i64 (pc1 + (1 : Int)))).toNat)))] (.int .i64 p11) ∧ R (.tup [(.agg [(.int .i64 pc1), (.int .i64 ((IntKind.wrap .i64 ((code0.getD (pc1).toNat 0).toNat : Int)))), (.int .i64 (0 : Int)), (.list (.int .i64) ([] : List Int) .no), (.list (.int .i64) (([(IntKind.wrap .i64 (pc1 + p11))] : List Int)) .no)]), (.int .i64 (3 : Int)), (.int .i64 (0 : Int))]))) ∧
 ((p1 == (106 : Int)) = false → (∃ p12 : Int, PC Try.prog 63 [(.str (((code0.take (code0).length).drop ((IntKind.wrap .i64 (pc1 + (1 : Int)))).toNat)))] (.int .i64 p12) ∧ (0 ≤ (2 : Int) ∧ (2 : Int) ≤ ((((code0.take (code0).length).drop ((IntKind.wrap .i64 (pc1 + (1 : Int)))).toNat)).length : Int) ∧ (∃ p13 : Int, PC Try.prog 62 [(.str ((((((code0.take (code0).length).drop ((IntKind.wrap .i64 (pc1 + (1 : Int)))).toNat)).take (((code0.take (code0).length).drop ((IntKind.wrap .i64 (pc1 + (1 : Int)))).toNat)).length).drop ((2 : Int)).toNat)))] (.int .i64 p13) ∧ (((decide (((((code0.take (code0).length).drop ((IntKind.wrap .i64 (pc1 + (1 : Int)))).toNat)).length : Int) < (IntKind.wrap .i64 ((4 : Int) + (IntKind.wrap .i64 ((4 : Int) * p13)))))) = true → R (.tup [(.agg [(.int .i64 pc1), (.int .i64 ((IntKind.wrap .i64 ((code0.getD (pc1).toNat 0).toNat : Int)))), (.int .i64 (0 : Int)), (.list (.int .i64) ([] : List Int) .no), (.list (.int .i64) (([(IntKind.wrap .i64 (pc1 + p12))] : List Int)) .no)]), (.int .i64 (0 : Int)), (.int .i64 (5 : Int))])) ∧
 ((decide (((((code0.take (code0).length).drop ((IntKind.wrap .i64 (pc1 + (1 : Int)))).toNat)).length : Int) < (IntKind.wrap .i64 ((4 : Int) + (IntKind.wrap .i64 ((4 : Int) * p13)))))) = false → (Loops B40_2 M40_2 (Q40_2 R)
  (S40_2 pc1 (((code0.take (code0).length).drop ((IntKind.wrap .i64 (pc1 + (1 : Int)))).toNat)) p13 (0 : Int) (0 : Int) (0 : Int) (0 : Int) ([] : List Int) .exact ([] : List Int) .exact pc1 ((IntKind.wrap .i64 ((code0.getD (pc1).toNat 0).toNat : Int))) (0 : Int) ([] : List Int) .exact (([(IntKind.wrap .i64 (pc1 + p12))] : List Int)) .exact ⟨0, []⟩))))))))))))))))))))))))))) :
  fnK X40.tt (callN Try.prog X40 0) (X40.md 40) (X40.mk1 40) Try.f40 [(.v (.str code0)), (.v (.int .i64 pc1))] ⟨[], [], ⟨0, []⟩⟩ (topK R) := Eq.mp (by kernel_rfl) h
theorem L40_2 (pc1 : Int) (rest9 : List UInt8) (n12 : Int) (i13 : Int) (hq0_0 : Int) (hq0_1 : Int) (hq0_2 : Int) (hq0_3 : List Int) (hq0_3k : Tok) (hq0_4 : List Int) (hq0_4k : Tok) (hq1_0 : Int) (hq1_1 : Int) (hq1_2 : Int) (hq1_3 : List Int) (hq1_3k : Tok) (hq1_4 : List Int) (hq1_4k : Tok) (T : Toks) {R : V → Prop} {k2 : St → Prop}
 (h : (((decide (i13 < n12)) = true → (0 ≤ (IntKind.wrap .i64 ((4 : Int) + (IntKind.wrap .i64 ((4 : Int) * i13)))) ∧ (IntKind.wrap .i64 ((4 : Int) + (IntKind.wrap .i64 ((4 : Int) * i13)))) ≤ ((rest9).length : Int) ∧ (∃ p14 : Int, PC Try.prog 62 [(.str (((rest9.take (rest9).length).drop ((IntKind.wrap .i64 ((4 : Int) + (IntKind.wrap .i64 ((4 : Int) * i13))))).toNat)))] (.int .i64 p14) ∧ (Tok.own hq1_3k T.l ∧ ((hq1_3).length + (([p14] : List Int)).length) * 8 ≤ room ∧ (0 ≤ (IntKind.wrap .i64 ((6 : Int) + (IntKind.wrap .i64 ((4 : Int) * i13)))) ∧ (IntKind.wrap .i64 ((6 : Int) + (IntKind.wrap .i64 ((4 : Int) * i13)))) ≤ ((rest9).length : Int) ∧ (∃ p15 : Int, PC Try.prog 63 [(.str (((rest9.take (rest9).length).drop ((IntKind.wrap .i64 ((6 : Int) + (IntKind.wrap .i64 ((4 : Int) * i13))))).toNat)))] (.int .i64 p15) ∧ (Tok.own hq1_4k (T.n :: Tok.drop hq1_3k T.l) ∧ ((hq1_4).length + (([(IntKind.wrap .i64 (pc1 + p15))] : List Int)).length) * 8 ≤ room ∧ k2 (S40_2 pc1 rest9 n12 ((IntKind.wrap .i64 (i13 + (1 : Int)))) hq0_0 hq0_1 hq0_2 hq0_3 hq0_3k hq0_4 hq0_4k hq1_0 hq1_1 hq1_2 ((hq1_3 ++ ([p14] : List Int))) (.tk T.n) ((hq1_4 ++ ([(IntKind.wrap .i64 (pc1 + p15))] : List Int))) ((.tk (T.n + 1))) ⟨((T.n + 1) + 1), ((T.n + 1) :: Tok.drop hq1_4k (T.n :: Tok.drop hq1_3k T.l))⟩)))))))) ∧
 ((decide (i13 < n12)) = false → R (.tup [(.agg [(.int .i64 hq1_0), (.int .i64 hq1_1), (.int .i64 hq1_2), (.list (.int .i64) hq1_3 .no), (.list (.int .i64) hq1_4 .no)]), (.int .i64 ((IntKind.wrap .i64 ((5 : Int) + (IntKind.wrap .i64 ((4 : Int) * n12)))))), (.int .i64 (0 : Int))])))) :
  B40_2 (loopQ M40_2 k2 (Q40_2 R)) (S40_2 pc1 rest9 n12 i13 hq0_0 hq0_1 hq0_2 hq0_3 hq0_3k hq0_4 hq0_4k hq1_0 hq1_1 hq1_2 hq1_3 hq1_3k hq1_4 hq1_4k T) := Eq.mp (by kernel_rfl) h

/-! crucible/crucibleref4.ends -/
noncomputable def X41 : Cx := ⟨tt, [(36, [.cd .bool])], [], [(41, [(0, mkM 74 0 [0, 1, 5, 6], 1), (2, mkM 74 0 [0, 1, 5, 7], 1), (4, mkM 74 0 [0, 1, 5, 7, 8], 1)])], []⟩
theorem FN41 : fnsB Try.prog X41.fns := (show True from trivial)
def M41_0 : List Bool × Nat := (mkM 74 0 [0, 1, 5, 6], 1)
def S41_0 (l0 : List (Int × (Int × (Int × ((List Int) × (List Int)))))) (size1 : Int) (at5n : Nat) (i6 : Int) (hq0 : List Bool) (hq0s : Nat → Tok) (T : Toks) : St :=
  mkS 74 [(0, (.v (.list (.pair (.int .i64) (.pair (.int .i64) (.pair (.int .i64) (.pair (.slice (.int .i64)) (.slice (.int .i64)))))) l0 .no))), (1, (.v (.int .i64 size1))), (5, (.arr 0 0 0 at5n)), (6, (.v (.int .i64 i6)))] [(some (.arr 0 .bool hq0 hq0s))] T
noncomputable def B41_0 : (Exit → St → Prop) → St → Prop := (awp X41.tt (callN Try.prog X41 0) (X41.md 41) 0 (X41.mk1 41) 0 (codeAt [1, 1, 0, 1, 0, 0] (bd Try.f41)))
def M41_2 : List Bool × Nat := (mkM 74 0 [0, 1, 5, 7], 1)
def S41_2 (l0 : List (Int × (Int × (Int × ((List Int) × (List Int)))))) (size1 : Int) (at5n : Nat) (i7 : Int) (hq0 : List Bool) (hq0s : Nat → Tok) (T : Toks) : St :=
  mkS 74 [(0, (.v (.list (.pair (.int .i64) (.pair (.int .i64) (.pair (.int .i64) (.pair (.slice (.int .i64)) (.slice (.int .i64)))))) l0 .no))), (1, (.v (.int .i64 size1))), (5, (.arr 0 0 0 at5n)), (7, (.v (.int .i64 i7)))] [(some (.arr 0 .bool hq0 hq0s))] T
noncomputable def B41_2 : (Exit → St → Prop) → St → Prop := (awp X41.tt (callN Try.prog X41 0) (X41.md 41) 0 (X41.mk1 41) 2 (codeAt [1, 1, 1, 0, 1, 0, 0] (bd Try.f41)))
def M41_4 : List Bool × Nat := (mkM 74 0 [0, 1, 5, 7, 8], 1)
def S41_4 (l0 : List (Int × (Int × (Int × ((List Int) × (List Int)))))) (size1 : Int) (at5n : Nat) (i7 : Int) (k8 : Int) (hq0 : List Bool) (hq0s : Nat → Tok) (T : Toks) : St :=
  mkS 74 [(0, (.v (.list (.pair (.int .i64) (.pair (.int .i64) (.pair (.int .i64) (.pair (.slice (.int .i64)) (.slice (.int .i64)))))) l0 .no))), (1, (.v (.int .i64 size1))), (5, (.arr 0 0 0 at5n)), (7, (.v (.int .i64 i7))), (8, (.v (.int .i64 k8)))] [(some (.arr 0 .bool hq0 hq0s))] T
noncomputable def B41_4 : (Exit → St → Prop) → St → Prop := (awp X41.tt (callN Try.prog X41 0) (X41.md 41) 0 (X41.mk1 41) 4 (codeAt [1, 1, 1, 0, 1, 0, 0, 1, 0, 0, 1, 0, 0] (bd Try.f41)))
noncomputable def K41_0 (R : V → Prop) : Exit → St → Prop := seqK ((awp X41.tt (callN Try.prog X41 0) (X41.md 41) 0 (X41.mk1 41) 0 (codeAt [1, 1, 1] (bd Try.f41))) (retK tt Try.f41.results.toList fun x s' => topK R x ⟨[], s'.hp, s'.T⟩)) (retK tt Try.f41.results.toList fun x s' => topK R x ⟨[], s'.hp, s'.T⟩)
noncomputable def Q41_0 (R : V → Prop) : Exit → St → Prop := (blockK 0 (K41_0 R))
noncomputable def K41_1 (R : V → Prop) : Exit → St → Prop := seqK ((awp X41.tt (callN Try.prog X41 0) (X41.md 41) 0 (X41.mk1 41) 0 (codeAt [1, 1, 1, 1] (bd Try.f41))) (retK tt Try.f41.results.toList fun x s' => topK R x ⟨[], s'.hp, s'.T⟩)) (retK tt Try.f41.results.toList fun x s' => topK R x ⟨[], s'.hp, s'.T⟩)
noncomputable def Q41_2 (R : V → Prop) : Exit → St → Prop := (blockK 2 (K41_1 R))
noncomputable def K41_2 (R : V → Prop) (k2 : St → Prop) : Exit → St → Prop := seqK ((awp X41.tt (callN Try.prog X41 0) (X41.md 41) 0 (X41.mk1 41) 2 (codeAt [1, 1, 1, 0, 1, 0, 0, 1, 1] (bd Try.f41))) (loopQ M41_2 k2 (blockK 2 (K41_1 R)))) (loopQ M41_2 k2 (blockK 2 (K41_1 R)))
noncomputable def Q41_4 (R : V → Prop) (k2 : St → Prop) : Exit → St → Prop := (blockK 4 (blockK 3 (K41_2 R k2)))
theorem E41 (l0 : (List (Int × (Int × (Int × ((List Int) × (List Int))))))) (size1 : Int) {R : V → Prop} (h : (0 ≤ size1 ∧ size1 ≤ size1 ∧ size1 * (1 : Int) ≤ (room : Int) ∧ size1 ≤ 9223372036854775807 ∧ (Loops B41_0 M41_0 (Q41_0 R)
  (S41_0 l0 size1 ((size1).toNat) (0 : Int) ((List.replicate (size1).toNat false)) (fun _ => .no) ⟨0, []⟩)))) :
  fnK X41.tt (callN Try.prog X41 0) (X41.md 41) (X41.mk1 41) Try.f41 [(.v (.list (.pair (.int .i64) (.pair (.int .i64) (.pair (.int .i64) (.pair (.slice (.int .i64)) (.slice (.int .i64)))))) l0 .no)), (.v (.int .i64 size1))] ⟨[], [], ⟨0, []⟩⟩ (topK R) := Eq.mp (by kernel_rfl) h
theorem L41_0 (l0 : List (Int × (Int × (Int × ((List Int) × (List Int)))))) (size1 : Int) (at5n : Nat) (i6 : Int) (hq0 : List Bool) (hq0s : Nat → Tok) (T : Toks) {R : V → Prop} {k0 : St → Prop}
 (h : (((decide (i6 < ((l0).length : Int))) = true → (0 ≤ i6 ∧ i6 < ((l0).length : Int) ∧ (0 = 0 ∧ 0 ≤ (l0.getD (i6).toNat (0, (0, (0, ([], []))))).1 ∧ (l0.getD (i6).toNat (0, (0, (0, ([], []))))).1 < ((at5n : Nat) : Int) ∧ (0 = 0 ∧ (0 + ((l0.getD (i6).toNat (0, (0, (0, ([], []))))).1).toNat) < (hq0).length ∧ k0 (S41_0 l0 size1 at5n ((IntKind.wrap .i64 (i6 + (1 : Int)))) ((hq0.set ((0 + ((l0.getD (i6).toNat (0, (0, (0, ([], []))))).1).toNat)) true)) ((fun j => if j = (0 + ((l0.getD (i6).toNat (0, (0, (0, ([], []))))).1).toNat) then .no else hq0s j)) T))))) ∧
 ((decide (i6 < ((l0).length : Int))) = false → (Loops B41_2 M41_2 (Q41_2 R)
  (S41_2 l0 size1 at5n (0 : Int) hq0 hq0s T))))) :
  B41_0 (loopQ M41_0 k0 (Q41_0 R)) (S41_0 l0 size1 at5n i6 hq0 hq0s T) := Eq.mp (by kernel_rfl) h
theorem L41_2 (l0 : List (Int × (Int × (Int × ((List Int) × (List Int)))))) (size1 : Int) (at5n : Nat) (i7 : Int) (hq0 : List Bool) (hq0s : Nat → Tok) (T : Toks) {R : V → Prop} {k2 : St → Prop}
 (h : (((decide (i7 < ((l0).length : Int))) = true → (Loops B41_4 M41_4 (Q41_4 R k2)
  (S41_4 l0 size1 at5n i7 (0 : Int) hq0 hq0s T))) ∧
 ((decide (i7 < ((l0).length : Int))) = false → (0 ≤ (IntKind.wrap .i64 (((l0).length : Int) - (1 : Int))) ∧ (IntKind.wrap .i64 (((l0).length : Int) - (1 : Int))) < ((l0).length : Int) ∧ (∃ p1 : Bool, PC Try.prog 36 [(.int .i64 ((l0.getD ((IntKind.wrap .i64 (((l0).length : Int) - (1 : Int)))).toNat (0, (0, (0, ([], []))))).2.1))] (.bool p1) ∧ (((!p1) = true → R (.int .i64 (13 : Int))) ∧
 ((!p1) = false → R (.int .i64 (0 : Int))))))))) :
  B41_2 (loopQ M41_2 k2 (Q41_2 R)) (S41_2 l0 size1 at5n i7 hq0 hq0s T) := Eq.mp (by kernel_rfl) h
theorem L41_4 (l0 : List (Int × (Int × (Int × ((List Int) × (List Int)))))) (size1 : Int) (at5n : Nat) (i7 : Int) (k8 : Int) (hq0 : List Bool) (hq0s : Nat → Tok) (T : Toks) {R : V → Prop} {k2 : St → Prop} {k4 : St → Prop}
 (h : (0 ≤ i7 ∧ i7 < ((l0).length : Int) ∧ (((decide (k8 < (((l0.getD (i7).toNat (0, (0, (0, ([], []))))).2.2.2.2).length : Int))) = true → (0 ≤ i7 ∧ i7 < ((l0).length : Int) ∧ (0 ≤ k8 ∧ k8 < (((l0.getD (i7).toNat (0, (0, (0, ([], []))))).2.2.2.2).length : Int) ∧ (((decide ((((l0.getD (i7).toNat (0, (0, (0, ([], []))))).2.2.2.2).getD (k8).toNat 0) < (0 : Int))) = true → R (.int .i64 (12 : Int))) ∧ ((decide ((((l0.getD (i7).toNat (0, (0, (0, ([], []))))).2.2.2.2).getD (k8).toNat 0) < (0 : Int))) = false → (((decide ((((l0.getD (i7).toNat (0, (0, (0, ([], []))))).2.2.2.2).getD (k8).toNat 0) ≥ size1)) = true → R (.int .i64 (12 : Int))) ∧ ((decide ((((l0.getD (i7).toNat (0, (0, (0, ([], []))))).2.2.2.2).getD (k8).toNat 0) ≥ size1)) = false → (0 = 0 ∧ 0 ≤ (((l0.getD (i7).toNat (0, (0, (0, ([], []))))).2.2.2.2).getD (k8).toNat 0) ∧ (((l0.getD (i7).toNat (0, (0, (0, ([], []))))).2.2.2.2).getD (k8).toNat 0) < ((at5n : Nat) : Int) ∧ (0 = 0 ∧ (0 + ((((l0.getD (i7).toNat (0, (0, (0, ([], []))))).2.2.2.2).getD (k8).toNat 0)).toNat) < (hq0).length ∧ (((!((hq0.getD ((0 + ((((l0.getD (i7).toNat (0, (0, (0, ([], []))))).2.2.2.2).getD (k8).toNat 0)).toNat)) false))) = true → R (.int .i64 (12 : Int))) ∧
 ((!((hq0.getD ((0 + ((((l0.getD (i7).toNat (0, (0, (0, ([], []))))).2.2.2.2).getD (k8).toNat 0)).toNat)) false))) = false → k4 (S41_4 l0 size1 at5n i7 ((IntKind.wrap .i64 (k8 + (1 : Int)))) hq0 hq0s T)))))))))))) ∧
 ((decide (k8 < (((l0.getD (i7).toNat (0, (0, (0, ([], []))))).2.2.2.2).length : Int))) = false → k2 (S41_2 l0 size1 at5n ((IntKind.wrap .i64 (i7 + (1 : Int)))) hq0 hq0s T))))) :
  B41_4 (loopQ M41_4 k4 (Q41_4 R k2)) (S41_4 l0 size1 at5n i7 k8 hq0 hq0s T) := Eq.mp (by kernel_rfl) h

/-! crucible/crucibleref4.Decode -/
noncomputable def X13 : Cx := ⟨tt, [(40, [.cd (.pair (.int .i64) (.pair (.int .i64) (.pair (.int .i64) (.pair (.slice (.int .i64)) (.slice (.int .i64)))))), .cd (.int .i64), .cd (.int .i64)]), (41, [.cd (.int .i64)])], [], [(13, [(0, mkM 44 0 [0, 4, 5], 0)])], []⟩
theorem FN13 : fnsB Try.prog X13.fns := (show True from trivial)
def M13_0 : List Bool × Nat := (mkM 44 0 [0, 4, 5], 0)
def S13_0 (code0 : List UInt8) (l4 : List (Int × (Int × (Int × ((List Int) × (List Int)))))) (l4k : Tok) (pc5 : Int) (T : Toks) : St :=
  mkS 44 [(0, (.v (.str code0))), (4, (.v (.list (.pair (.int .i64) (.pair (.int .i64) (.pair (.int .i64) (.pair (.slice (.int .i64)) (.slice (.int .i64)))))) l4 l4k))), (5, (.v (.int .i64 pc5)))] [] T
noncomputable def B13_0 : (Exit → St → Prop) → St → Prop := (awp X13.tt (callN Try.prog X13 0) (X13.md 13) 0 (X13.mk1 13) 0 (codeAt [1, 1, 1, 1, 1, 0, 0, 0] (bd Try.f13)))
noncomputable def K13_0 (R : V → Prop) : Exit → St → Prop := seqK ((awp X13.tt (callN Try.prog X13 0) (X13.md 13) 0 (X13.mk1 13) 0 (codeAt [1, 1, 1, 1, 1, 1] (bd Try.f13))) (retK tt Try.f13.results.toList fun x s' => topK R x ⟨[], s'.hp, s'.T⟩)) (retK tt Try.f13.results.toList fun x s' => topK R x ⟨[], s'.hp, s'.T⟩)
noncomputable def Q13_0 (R : V → Prop) : Exit → St → Prop := (blockK 0 (K13_0 R))
theorem E13 (code0 : (List UInt8)) {R : V → Prop} (h : (((code0 == ([] : List UInt8)) = true → R (.tup [(.list (.pair (.int .i64) (.pair (.int .i64) (.pair (.int .i64) (.pair (.slice (.int .i64)) (.slice (.int .i64)))))) (([] : List (Int × (Int × (Int × ((List Int) × (List Int))))))) .no), (.int .i64 (5 : Int))])) ∧
 ((code0 == ([] : List UInt8)) = false → (((decide (((code0).length : Int) > (4096 : Int))) = true → R (.tup [(.list (.pair (.int .i64) (.pair (.int .i64) (.pair (.int .i64) (.pair (.slice (.int .i64)) (.slice (.int .i64)))))) (([] : List (Int × (Int × (Int × ((List Int) × (List Int))))))) .no), (.int .i64 (2 : Int))])) ∧
 ((decide (((code0).length : Int) > (4096 : Int))) = false → (Loops B13_0 M13_0 (Q13_0 R)
  (S13_0 code0 (([] : List (Int × (Int × (Int × ((List Int) × (List Int))))))) .exact (0 : Int) ⟨0, []⟩))))))) :
  fnK X13.tt (callN Try.prog X13 0) (X13.md 13) (X13.mk1 13) Try.f13 [(.v (.str code0))] ⟨[], [], ⟨0, []⟩⟩ (topK R) := Eq.mp (by kernel_rfl) h
theorem L13_0 (code0 : List UInt8) (l4 : List (Int × (Int × (Int × ((List Int) × (List Int)))))) (l4k : Tok) (pc5 : Int) (T : Toks) {R : V → Prop} {k0 : St → Prop}
 (h : (((decide (pc5 < ((code0).length : Int))) = true → (∃ p1 : (Int × (Int × (Int × ((List Int) × (List Int))))) × Int × Int, PC Try.prog 40 [(.str code0), (.int .i64 pc5)] ((.tup [(.agg [(.int .i64 p1.1.1), (.int .i64 p1.1.2.1), (.int .i64 p1.1.2.2.1), (.list (.int .i64) p1.1.2.2.2.1 .no), (.list (.int .i64) p1.1.2.2.2.2 .no)]), (.int .i64 p1.2.1), (.int .i64 p1.2.2)])) ∧ (((p1.2.2 != (0 : Int)) = true → R (.tup [(.list (.pair (.int .i64) (.pair (.int .i64) (.pair (.int .i64) (.pair (.slice (.int .i64)) (.slice (.int .i64)))))) (([] : List (Int × (Int × (Int × ((List Int) × (List Int))))))) .no), (.int .i64 p1.2.2)])) ∧
 ((p1.2.2 != (0 : Int)) = false → (Tok.own l4k T.l ∧ ((l4).length + (([(p1.1.1, (p1.1.2.1, (p1.1.2.2.1, (p1.1.2.2.2.1, p1.1.2.2.2.2))))] : List (Int × (Int × (Int × ((List Int) × (List Int))))))).length) * 72 ≤ room ∧ k0 (S13_0 code0 ((l4 ++ ([(p1.1.1, (p1.1.2.1, (p1.1.2.2.1, (p1.1.2.2.2.1, p1.1.2.2.2.2))))] : List (Int × (Int × (Int × ((List Int) × (List Int)))))))) (.tk T.n) ((IntKind.wrap .i64 (pc5 + p1.2.1))) ⟨(T.n + 1), (T.n :: Tok.drop l4k T.l)⟩)))))) ∧
 ((decide (pc5 < ((code0).length : Int))) = false → (∃ p2 : Int, PC Try.prog 41 [(.list (.pair (.int .i64) (.pair (.int .i64) (.pair (.int .i64) (.pair (.slice (.int .i64)) (.slice (.int .i64)))))) l4 .no), (.int .i64 (((code0).length : Int)))] (.int .i64 p2) ∧ (((p2 != (0 : Int)) = true → R (.tup [(.list (.pair (.int .i64) (.pair (.int .i64) (.pair (.int .i64) (.pair (.slice (.int .i64)) (.slice (.int .i64)))))) (([] : List (Int × (Int × (Int × ((List Int) × (List Int))))))) .no), (.int .i64 p2)])) ∧
 ((p2 != (0 : Int)) = false → R (.tup [(.list (.pair (.int .i64) (.pair (.int .i64) (.pair (.int .i64) (.pair (.slice (.int .i64)) (.slice (.int .i64)))))) l4 .no), (.int .i64 (0 : Int))]))))))) :
  B13_0 (loopQ M13_0 k0 (Q13_0 R)) (S13_0 code0 l4 l4k pc5 T) := Eq.mp (by kernel_rfl) h

end Go.Proofs.Ytiomllkdfhglhaa.AB

set_option linter.unusedVariables false
set_option linter.unusedSimpArgs false
namespace Go.Proofs.Ytiomllkdfhglhaa.AB
open Go

abbrev D0 : Ins := (0, (0, (0, ([], []))))

/-- is a place of code the start of an instruction -/
def isPc (l : List Ins) (pc : Int) : Bool := l.any fun x => x.1 == pc

/-- the error of jumps and of the end -/
def endsE (l : List Ins) : Int :=
  if l.all (fun x => x.2.2.2.2.all fun to => isPc l to) then (if isEnd (l.getD (l.length - 1) D0).2.1 then 0 else 13) else 12

theorem getD_lt {α : Type} {l : List α} {n : Nat} {d : α} (h : n < l.length) : l.getD n d = l[n] := by
  simp [List.getD, h]

theorem any_take_succ {α : Type} (l : List α) (p : α → Bool) {n : Nat} (h : n < l.length) : (l.take (n + 1)).any p = ((l.take n).any p || p l[n]) := by
  rw [List.take_succ_eq_append_getElem h, List.any_append]; simp only [List.any_cons, List.any_nil, Bool.or_false]

theorem all_take_succ {α : Type} (l : List α) (p : α → Bool) {n : Nat} (h : n < l.length) : (l.take (n + 1)).all p = ((l.take n).all p && p l[n]) := by
  rw [List.take_succ_eq_append_getElem h, List.all_append]; simp only [List.all_cons, List.all_nil, Bool.and_true]

theorem not_all {α : Type} (l : List α) (p : α → Bool) {n : Nat} (h : n < l.length) (hp : p l[n] = false) : l.all p = false := by
  cases hh : l.all p with
  | false => rfl
  | true => rw [List.all_eq_true] at hh; rw [hh _ (List.getElem_mem h)] at hp; cases hp

theorem getD_set' {l : List Bool} {j k : Nat} (hj : j < l.length) : (l.set j true).getD k false = (l.getD k false || j == k) := by
  simp only [List.getD, List.getElem?_set]
  by_cases e : j = k
  · subst e; simp [hj]
  · simp [e]

theorem p41 (l : List Ins) (size : Nat) (hs : size ≤ 1000000) (hl : 0 < l.length) (hl2 : l.length ≤ 1000000) (hp : ∀ x ∈ l, 0 ≤ x.1 ∧ x.1 < size) (hk : ∀ x ∈ l, x.2.2.2.2.length ≤ 1000000) :
    PC Try.prog 41 [.list cIns l .no, .int .i64 size] (.int .i64 (endsE l)) := by
  have hroom : room = 140737488355328 := rfl
  refine pcOf (X := X41) (d := 0) rfl trivial (by kernel_rfl) (by decide) (E41 l size ⟨by omega, by omega, by omega, by omega, ?_⟩)
  have second : ∀ (hq0 : List Bool) (hq0s : Nat → Tok) (T : Toks), hq0.length = size → (∀ j : Nat, hq0.getD j false = l.any (fun x => x.1 == (j : Int))) →
      Loops B41_2 M41_2 (Q41_2 fun v => v.norm = .int .i64 (endsE l) ∧ (V.int .i64 (endsE l)).nt = true) (S41_2 l size (Int.toNat size) 0 hq0 hq0s T) := by
    intro hq0 hq0s T h1 h2
    refine Loops.intro (fun n : Nat => S41_2 l size (Int.toNat size) n hq0 hq0s T) (fun n => n ≤ l.length ∧ (l.take n).all (fun x => x.2.2.2.2.all fun to => isPc l to) = true) (fun n => l.length - n) 0 rfl ⟨Nat.zero_le _, by simp⟩ ?_
    rintro n ⟨hn, ha⟩
    refine L41_2 l size (Int.toNat size) n hq0 hq0s T ⟨fun h => ?_, fun h => ?_⟩
    · have hlt : n < l.length := by simpa using h
      refine Loops.intro (fun k : Nat => S41_4 l size (Int.toNat size) n k hq0 hq0s T) (fun k => k ≤ l[n].2.2.2.2.length ∧ (l[n].2.2.2.2.take k).all (fun to => isPc l to) = true) (fun k => l[n].2.2.2.2.length - k) 0 rfl ⟨Nat.zero_le _, by simp⟩ ?_
      rintro k ⟨hkn, hka⟩
      have hlk := hk _ (List.getElem_mem hlt)
      refine L41_4 l size (Int.toNat size) n k hq0 hq0s T ?_
      simp only [Int.toNat_natCast, getD_lt hlt]
      refine ⟨by omega, by omega, fun h => ?_, fun h => ?_⟩
      · have hklt : k < l[n].2.2.2.2.length := by simpa using h
        simp only [getD_lt hklt, decide_eq_true_eq, decide_eq_false_iff_not]
        have bad : isPc l l[n].2.2.2.2[k] = false → V.norm (.int .i64 12) = .int .i64 (endsE l) ∧ (V.int .i64 (endsE l)).nt = true := by
          intro hb
          refine retI ?_
          unfold endsE
          rw [if_neg]
          rw [Bool.not_eq_true]
          exact not_all _ _ hlt (not_all _ _ hklt hb)
        have out : (l[n].2.2.2.2[k] < 0 ∨ l[n].2.2.2.2[k] ≥ size) → isPc l l[n].2.2.2.2[k] = false := by
          intro ho
          unfold isPc
          rw [List.any_eq_false]
          intro x hx
          have := hp x hx
          simp only [beq_iff_eq]
          omega
        refine ⟨by omega, by omega, by omega, by omega, fun h => bad (out (.inl h)), fun h1' => ⟨fun h => bad (out (.inr h)), fun h2' => ⟨trivial, by omega, by omega, trivial, by omega, fun h => bad ?_, fun h => ?_⟩⟩⟩
        · have h := h
          rw [Nat.zero_add, h2] at h
          unfold isPc
          rw [Int.toNat_of_nonneg (by omega)] at h
          simpa using h
        · have hin : isPc l l[n].2.2.2.2[k] = true := by
            rw [Nat.zero_add, h2, Int.toNat_of_nonneg (by omega)] at h
            unfold isPc
            simpa using h
          rw [wrap64 (by omega) (by omega)]
          exact Again.mk (k + 1) rfl ⟨by omega, by rw [all_take_succ _ _ hklt, hka, hin]; rfl⟩ (by omega)
      · have hke : k = l[n].2.2.2.2.length := by
          have : ¬ ((k : Int) < l[n].2.2.2.2.length) := by simpa using h
          omega
        rw [wrap64 (by omega) (by omega)]
        refine Again.mk (n + 1) rfl ⟨by omega, ?_⟩ (by omega)
        rw [all_take_succ _ _ hlt, ha]
        subst hke
        rw [List.take_length] at hka
        simpa using hka
    · have hge : n = l.length := by
        have : ¬ ((n : Int) < l.length) := by simpa using h
        omega
      subst hge
      rw [List.take_length] at ha
      have e : IntKind.wrap .i64 ((l.length : Int) - 1) = ((l.length - 1 : Nat) : Int) := by rw [wrap64 (by omega) (by omega)]; omega
      simp only [e, Int.toNat_natCast]
      refine ⟨by omega, by omega, _, p36 _, fun h => retI ?_, fun h => retI ?_⟩
      · unfold endsE; rw [if_pos ha, if_neg (by simpa using h)]
      · unfold endsE; rw [if_pos ha, if_pos (by simpa using h)]
  refine Loops.intro (fun a : Nat × List Bool × (Nat → Tok) => S41_0 l size (Int.toNat size) a.1 a.2.1 a.2.2 ⟨0, []⟩) (fun a => a.1 ≤ l.length ∧ a.2.1.length = size ∧ ∀ j : Nat, a.2.1.getD j false = (l.take a.1).any (fun x => x.1 == (j : Int)))
    (fun a => l.length - a.1) (0, List.replicate (Int.toNat size) false, fun _ => .no) rfl ⟨Nat.zero_le _, by simp, fun j => by simp [List.getD, List.getElem?_replicate]; split <;> rfl⟩ ?_
  rintro ⟨n, hq0, hq0s⟩ ⟨hn, h1, h2⟩
  refine L41_0 l size (Int.toNat size) n hq0 hq0s ⟨0, []⟩ ⟨fun h => ?_, fun h => ?_⟩
  · have hlt : n < l.length := by simpa using h
    have := hp _ (List.getElem_mem hlt)
    simp only at h1 h2 hn
    simp only [Int.toNat_natCast, getD_lt hlt]
    rw [wrap64 (by omega) (by omega)]
    refine ⟨by omega, by omega, trivial, by omega, by omega, trivial, by omega, ?_⟩
    refine Again.mk (n + 1, _, _) rfl ⟨by simp only; omega, by simpa using h1, fun j => ?_⟩ (by simp only; omega)
    simp only
    rw [getD_set' (by omega), any_take_succ _ _ hlt, h2]
    congr 1
    rw [Nat.zero_add, Bool.eq_iff_iff]
    simp only [beq_iff_eq]
    omega
  · have hge : n = l.length := by
      have : ¬ ((n : Int) < l.length) := by simpa using h
      omega
    subst hge
    refine second hq0 hq0s _ h1 fun j => ?_
    have := h2 j
    simp only [List.take_length] at this
    exact this

end Go.Proofs.Ytiomllkdfhglhaa.AB

set_option linter.unusedVariables false
set_option linter.unusedSimpArgs false
namespace Go.Proofs.Ytiomllkdfhglhaa.AB
open Go

/-! crucible/crucibleref4.Form -/
noncomputable def X61 : Cx := ⟨tt, [], [], [], []⟩
theorem FN61 : fnsB Try.prog X61.fns := (show True from trivial)
theorem E61 (op0 : Int) {R : V → Prop} (h : (((decide (op0 < (0 : Int))) = true → R (.int .u8 (0 : Int))) ∧ ((decide (op0 < (0 : Int))) = false → (((decide (op0 > (63 : Int))) = true → R (.int .u8 (0 : Int))) ∧
 ((decide (op0 > (63 : Int))) = false → (((op0 == (30 : Int)) = true → R (.int .u8 (115 : Int))) ∧
 ((op0 == (30 : Int)) = false → (((decide (op0 ≥ (20 : Int))) = true → (((decide (op0 ≤ (29 : Int))) = true → R (.int .u8 (106 : Int))) ∧
 ((decide (op0 ≤ (29 : Int))) = false → (((op0 == (4 : Int)) = true → R (.int .u8 (98 : Int))) ∧ ((op0 == (4 : Int)) = false → (((op0 == (5 : Int)) = true → R (.int .u8 (98 : Int))) ∧
 ((op0 == (5 : Int)) = false → (((op0 == (1 : Int)) = true → R (.int .u8 (110 : Int))) ∧ ((op0 == (1 : Int)) = false → (((op0 == (2 : Int)) = true → R (.int .u8 (110 : Int))) ∧ ((op0 == (2 : Int)) = false → (((op0 == (31 : Int)) = true → R (.int .u8 (110 : Int))) ∧ ((op0 == (31 : Int)) = false → (((op0 == (32 : Int)) = true → R (.int .u8 (110 : Int))) ∧ ((op0 == (32 : Int)) = false → (((decide (op0 ≥ (36 : Int))) = true → (((decide (op0 ≤ (43 : Int))) = true → R (.int .u8 (110 : Int))) ∧ ((decide (op0 ≤ (43 : Int))) = false → (((op0 == (47 : Int)) = true → R (.int .u8 (110 : Int))) ∧ ((op0 == (47 : Int)) = false → (((op0 == (48 : Int)) = true → R (.int .u8 (110 : Int))) ∧ ((op0 == (48 : Int)) = false → (((op0 == (51 : Int)) = true → R (.int .u8 (110 : Int))) ∧
 ((op0 == (51 : Int)) = false → R (.int .u8 (45 : Int))))))))))) ∧ ((decide (op0 ≥ (36 : Int))) = false → (((op0 == (47 : Int)) = true → R (.int .u8 (110 : Int))) ∧ ((op0 == (47 : Int)) = false → (((op0 == (48 : Int)) = true → R (.int .u8 (110 : Int))) ∧ ((op0 == (48 : Int)) = false → (((op0 == (51 : Int)) = true → R (.int .u8 (110 : Int))) ∧
 ((op0 == (51 : Int)) = false → R (.int .u8 (45 : Int))))))))))))))))))))))))) ∧ ((decide (op0 ≥ (20 : Int))) = false → (((op0 == (4 : Int)) = true → R (.int .u8 (98 : Int))) ∧ ((op0 == (4 : Int)) = false → (((op0 == (5 : Int)) = true → R (.int .u8 (98 : Int))) ∧
 ((op0 == (5 : Int)) = false → (((op0 == (1 : Int)) = true → R (.int .u8 (110 : Int))) ∧ ((op0 == (1 : Int)) = false → (((op0 == (2 : Int)) = true → R (.int .u8 (110 : Int))) ∧ ((op0 == (2 : Int)) = false → (((op0 == (31 : Int)) = true → R (.int .u8 (110 : Int))) ∧ ((op0 == (31 : Int)) = false → (((op0 == (32 : Int)) = true → R (.int .u8 (110 : Int))) ∧ ((op0 == (32 : Int)) = false → (((decide (op0 ≥ (36 : Int))) = true → (((decide (op0 ≤ (43 : Int))) = true → R (.int .u8 (110 : Int))) ∧ ((decide (op0 ≤ (43 : Int))) = false → (((op0 == (47 : Int)) = true → R (.int .u8 (110 : Int))) ∧ ((op0 == (47 : Int)) = false → (((op0 == (48 : Int)) = true → R (.int .u8 (110 : Int))) ∧ ((op0 == (48 : Int)) = false → (((op0 == (51 : Int)) = true → R (.int .u8 (110 : Int))) ∧
 ((op0 == (51 : Int)) = false → R (.int .u8 (45 : Int))))))))))) ∧ ((decide (op0 ≥ (36 : Int))) = false → (((op0 == (47 : Int)) = true → R (.int .u8 (110 : Int))) ∧ ((op0 == (47 : Int)) = false → (((op0 == (48 : Int)) = true → R (.int .u8 (110 : Int))) ∧ ((op0 == (48 : Int)) = false → (((op0 == (51 : Int)) = true → R (.int .u8 (110 : Int))) ∧
 ((op0 == (51 : Int)) = false → R (.int .u8 (45 : Int))))))))))))))))))))))))))))))) :
  fnK X61.tt (callN Try.prog X61 0) (X61.md 61) (X61.mk1 61) Try.f61 [(.v (.int .i64 op0))] ⟨[], [], ⟨0, []⟩⟩ (topK R) := Eq.mp (by kernel_rfl) h

end Go.Proofs.Ytiomllkdfhglhaa.AB

set_option linter.unusedVariables false
set_option linter.unusedSimpArgs false
namespace Go.Proofs.Ytiomllkdfhglhaa.AB
open Go

/-- the form of an op -/
def form (op : Int) : Int :=
  if op < 0 ∨ op > 63 then 0 else if op = 30 then 115 else if 20 ≤ op ∧ op ≤ 29 then 106 else if op = 4 ∨ op = 5 then 98
  else if op = 1 ∨ op = 2 ∨ op = 31 ∨ op = 32 ∨ (36 ≤ op ∧ op ≤ 43) ∨ op = 47 ∨ op = 48 ∨ op = 51 then 110 else 45

theorem p61 (op : Int) : PC Try.prog 61 [.int .i64 op] (.int .u8 (form op)) := by
  refine pcOf (X := X61) (d := 0) rfl trivial (by kernel_rfl) (by decide) (E61 op ?_)
  simp only [beq_iff_eq, beq_eq_false_iff_ne, decide_eq_true_eq, decide_eq_false_iff_not]
  repeat' (first | refine retI ?_ | apply And.intro | intro _)
  all_goals
    unfold form
    repeat' split
  all_goals omega

end Go.Proofs.Ytiomllkdfhglhaa.AB

set_option linter.unusedVariables false
set_option linter.unusedSimpArgs false
namespace Go.Proofs.Ytiomllkdfhglhaa.AB
open Go

/-! crucible/crucibleref4.two -/
noncomputable def X62 : Cx := ⟨tt, [], [], [], []⟩
theorem FN62 : fnsB Try.prog X62.fns := (show True from trivial)
theorem E62 (s0 : (List UInt8)) {R : V → Prop} (h : (0 ≤ (0 : Int) ∧ (0 : Int) < ((s0).length : Int) ∧ (0 ≤ (1 : Int) ∧ (1 : Int) < ((s0).length : Int) ∧ R (.int .i64 ((IntKind.wrap .i64 ((IntKind.wrap .i64 ((256 : Int) * (IntKind.wrap .i64 ((s0.getD ((0 : Int)).toNat 0).toNat : Int)))) + (IntKind.wrap .i64 ((s0.getD ((1 : Int)).toNat 0).toNat : Int))))))))) :
  fnK X62.tt (callN Try.prog X62 0) (X62.md 62) (X62.mk1 62) Try.f62 [(.v (.str s0))] ⟨[], [], ⟨0, []⟩⟩ (topK R) := Eq.mp (by kernel_rfl) h

end Go.Proofs.Ytiomllkdfhglhaa.AB

set_option linter.unusedVariables false
set_option linter.unusedSimpArgs false
namespace Go.Proofs.Ytiomllkdfhglhaa.AB
open Go

/-! crucible/crucibleref4.jump -/
noncomputable def X63 : Cx := ⟨tt, [(62, [.cd (.int .i64)])], [], [], []⟩
theorem FN63 : fnsB Try.prog X63.fns := (show True from trivial)
theorem E63 (s0 : (List UInt8)) {R : V → Prop} (h : (∃ p1 : Int, PC Try.prog 62 [(.str s0)] (.int .i64 p1) ∧ (((decide (p1 ≥ (32768 : Int))) = true → R (.int .i64 ((IntKind.wrap .i64 (p1 - (65536 : Int)))))) ∧
 ((decide (p1 ≥ (32768 : Int))) = false → R (.int .i64 p1))))) :
  fnK X63.tt (callN Try.prog X63 0) (X63.md 63) (X63.mk1 63) Try.f63 [(.v (.str s0))] ⟨[], [], ⟨0, []⟩⟩ (topK R) := Eq.mp (by kernel_rfl) h

end Go.Proofs.Ytiomllkdfhglhaa.AB

set_option linter.unusedVariables false
set_option linter.unusedSimpArgs false
namespace Go.Proofs.Ytiomllkdfhglhaa.AB
open Go

def byte (s : List UInt8) (i : Nat) : Int := ((s.getD i 0).toNat : Int)

theorem byte_lt (s : List UInt8) (i : Nat) : 0 ≤ byte s i ∧ byte s i < 256 := by
  have := UInt8.toNat_lt (s.getD i 0)
  unfold byte
  omega

def u16 (s : List UInt8) : Int := 256 * byte s 0 + byte s 1
def s16 (s : List UInt8) : Int := if u16 s ≥ 32768 then u16 s - 65536 else u16 s

theorem p62 (s : List UInt8) (h : 2 ≤ s.length) : PC Try.prog 62 [.str s] (.int .i64 (u16 s)) := by
  have h0 := byte_lt s 0
  have h1 := byte_lt s 1
  refine pcOf (X := X62) (d := 0) rfl trivial (by kernel_rfl) (by decide) (E62 s ⟨by omega, by omega, by omega, by omega, retI ?_⟩)
  show IntKind.wrap .i64 (IntKind.wrap .i64 (256 * IntKind.wrap .i64 (byte s 0)) + IntKind.wrap .i64 (byte s 1)) = _
  rw [wrap64 (x := byte s 0) (by omega) (by omega), wrap64 (x := byte s 1) (by omega) (by omega), wrap64 (x := 256 * byte s 0) (by omega) (by omega), wrap64 (by omega) (by omega)]
  rfl

theorem p63 (s : List UInt8) (h : 2 ≤ s.length) : PC Try.prog 63 [.str s] (.int .i64 (s16 s)) := by
  have h0 := byte_lt s 0
  have h1 := byte_lt s 1
  refine pcOf (X := X63) (d := 0) rfl trivial (by kernel_rfl) (by decide) (E63 s ⟨_, p62 s h, fun h => ?_, fun h => ?_⟩)
  · have hge : u16 s ≥ 32768 := by simpa using h
    refine retI ?_
    rw [wrap64 (by unfold u16 at *; omega) (by unfold u16 at *; omega)]
    unfold s16; rw [if_pos hge]
  · have hge : ¬ u16 s ≥ 32768 := by simpa using h
    refine retI ?_
    unfold s16; rw [if_neg hge]

end Go.Proofs.Ytiomllkdfhglhaa.AB

set_option linter.unusedVariables false
set_option linter.unusedSimpArgs false
namespace Go.Proofs.Ytiomllkdfhglhaa.AB
open Go

def keysOf (rest : List UInt8) (n : Nat) : List Int := (List.range n).map fun i => u16 (rest.drop (4 + 4 * i))
def tosOf (rest : List UInt8) (pc : Int) (n : Nat) : List Int := (List.range n).map fun i => pc + s16 (rest.drop (6 + 4 * i))

/-- the instruction at a place of code, how many bytes it has, and the error -/
def oneI (s : List UInt8) (pc : Nat) : Ins × Int × Int :=
  let op := byte s pc
  let rest := s.drop (pc + 1)
  let short : Ins × Int × Int := ((pc, op, 0, [], []), 0, 5)
  if form op = 0 then ((pc, op, 0, [], []), 0, 11)
  else if form op = 45 then ((pc, op, 0, [], []), 1, 0)
  else if form op = 98 then if rest.length < 1 then short else ((pc, op, byte rest 0, [], []), 2, 0)
  else if form op = 110 then if rest.length < 2 then short else ((pc, op, u16 rest, [], []), 3, 0)
  else if form op = 106 then if rest.length < 2 then short else ((pc, op, 0, [], [pc + s16 rest]), 3, 0)
  else if rest.length < 4 then short
  else if (rest.length : Int) < 4 + 4 * u16 (rest.drop 2) then ((pc, op, 0, [], [pc + s16 rest]), 0, 5)
  else ((pc, op, 0, keysOf rest (u16 (rest.drop 2)).toNat, (pc + s16 rest) :: tosOf rest pc (u16 (rest.drop 2)).toNat), 5 + 4 * u16 (rest.drop 2), 0)

theorem form_cases (op : Int) : form op = 0 ∨ form op = 45 ∨ form op = 98 ∨ form op = 110 ∨ form op = 106 ∨ form op = 115 := by
  unfold form
  repeat' split
  all_goals simp

theorem wrapByte (b : UInt8) : IntKind.wrap .i64 (b.toNat : Int) = (b.toNat : Int) := by
  have := UInt8.toNat_lt b
  exact wrap64 (by omega) (by omega)

theorem wrapB (s : List UInt8) (i : Nat) : IntKind.wrap .i64 ((s.getD i 0).toNat : Int) = byte s i := wrapByte _
theorem wrapB' (s : List UInt8) (i : Nat) : IntKind.wrap .i64 (byte s i) = byte s i := wrapByte _

theorem u16_lt (s : List UInt8) : 0 ≤ u16 s ∧ u16 s < 65536 := by
  have h0 := byte_lt s 0
  have h1 := byte_lt s 1
  unfold u16
  omega

theorem s16_lt (s : List UInt8) : -32768 ≤ s16 s ∧ s16 s < 32768 := by
  have := u16_lt s
  unfold s16
  split <;> omega

theorem retV {v r : V} (h : v = r) (hn : r.norm = r ∧ r.nt = true) : v.norm = r ∧ r.nt = true := by subst h; exact hn

/-- what one gives -/
abbrev oneV (p : Ins × Int × Int) : V := .tup [.agg [.int .i64 p.1.1, .int .i64 p.1.2.1, .int .i64 p.1.2.2.1, .list (.int .i64) p.1.2.2.2.1 .no, .list (.int .i64) p.1.2.2.2.2 .no], .int .i64 p.2.1, .int .i64 p.2.2]

theorem p40 (s : List UInt8) (pc : Nat) (h : pc < s.length) (hs : s.length ≤ 1000000) : PC Try.prog 40 [.str s, .int .i64 pc] (oneV (oneI s pc)) := by
  have hroom : room = 140737488355328 := rfl
  have b0 := byte_lt s pc
  have e1 : IntKind.wrap .i64 ((pc : Int) + 1) = ((pc + 1 : Nat) : Int) := by rw [wrap64 (by omega) (by omega)]; omega
  have e2 : ((s.getD pc 0).toNat : Int) = byte s pc := rfl
  have hfin : ∀ p : Ins × Int × Int, (oneV p).norm = oneV p ∧ (oneV p).nt = true := fun p => ⟨rfl, rfl⟩
  refine pcOf (X := X40) (d := 0) rfl trivial (by kernel_rfl) (by decide) (E40 s pc ?_)
  simp only [e1, wrapB, Int.toNat_natCast, List.take_length, e2, wrapB']
  refine ⟨by omega, by omega, by omega, by omega, _, p61 _, ?_⟩
  have hlen : (s.drop (pc + 1)).length = s.length - (pc + 1) := by simp
  generalize hrest : s.drop (pc + 1) = rest at *
  have b1 := byte_lt rest 0
  rcases form_cases (byte s pc) with hf | hf | hf | hf | hf | hf
  all_goals simp only [hf, Int.reduceBEq, Bool.false_eq_true, Bool.true_eq_false, forall_const, false_implies, and_true, true_and, reduceIte, Int.reduceEq, decide_eq_true_eq, decide_eq_false_iff_not]
  · exact ⟨by simp [oneI, hf, V.norm, V.norm1, V.norm0], rfl⟩
  · exact ⟨by simp [oneI, hf, V.norm, V.norm1, V.norm0], rfl⟩
  · refine ⟨fun h => ?_, fun h => ⟨by omega, by omega, ?_⟩⟩
    · have : rest.length < 1 := by omega
      exact ⟨by simp [oneI, hf, hrest, this, V.norm, V.norm1, V.norm0], rfl⟩
    · have : ¬ rest.length < 1 := by omega
      exact ⟨by simp [oneI, hf, hrest, this, V.norm, V.norm1, V.norm0], rfl⟩
  · refine ⟨fun h => ?_, fun h => ⟨_, p62 _ (by omega), ?_⟩⟩
    · have : rest.length < 2 := by omega
      exact ⟨by simp [oneI, hf, hrest, this, V.norm, V.norm1, V.norm0], rfl⟩
    · have : ¬ rest.length < 2 := by omega
      exact ⟨by simp [oneI, hf, hrest, this, V.norm, V.norm1, V.norm0], rfl⟩
  · refine ⟨fun h => ?_, fun h => ⟨_, p63 _ (by omega), ?_⟩⟩
    · have : rest.length < 2 := by omega
      exact ⟨by simp [oneI, hf, hrest, this, V.norm, V.norm1, V.norm0], rfl⟩
    · have : ¬ rest.length < 2 := by omega
      have this' := this
      have := s16_lt rest
      rw [wrap64 (by omega) (by omega)]
      exact ⟨by simp [oneI, hf, hrest, this', V.norm, V.norm1, V.norm0], rfl⟩
  · refine ⟨fun h => ?_, fun h => ⟨_, p63 _ (by omega), by omega, by omega, _, p62 _ (by simp; omega), ?_⟩⟩
    · have : rest.length < 4 := by omega
      exact ⟨by simp [oneI, hf, hrest, this, V.norm, V.norm1, V.norm0], rfl⟩
    · have : ¬ rest.length < 4 := by omega
      have g1 := s16_lt rest
      have e4 : (2 : Int).toNat = 2 := rfl
      rw [e4]
      have g2 := u16_lt (rest.drop 2)
      rw [wrap64 (x := pc + s16 rest) (by omega) (by omega), wrap64 (x := 4 * u16 (rest.drop 2)) (by omega) (by omega), wrap64 (x := 4 + 4 * u16 (rest.drop 2)) (by omega) (by omega)]
      refine ⟨fun h4 => ⟨by simp [oneI, hf, hrest, this, h4, V.norm, V.norm1, V.norm0], rfl⟩, fun h4 => ?_⟩
      generalize hn : u16 (rest.drop 2) = n at *
      have hone : oneI s pc = (((pc : Int), byte s pc, 0, keysOf rest n.toNat, (pc + s16 rest) :: tosOf rest pc n.toNat), 5 + 4 * n, 0) := by simp [oneI, hf, hrest, this, hn, h4]
      refine Loops.intro (fun a : Nat × Tok × Tok × Toks => S40_2 pc rest n a.1 0 0 0 [] .exact [] .exact pc (byte s pc) 0 (keysOf rest a.1) a.2.1 ((pc + s16 rest) :: tosOf rest pc a.1) a.2.2.1 a.2.2.2)
        (fun a => a.1 ≤ n.toNat ∧ a.2.1.fresh a.2.2.2 ∧ a.2.2.1.fresh a.2.2.2 ∧ a.2.1.ne a.2.2.1) (fun a => n.toNat - a.1) (0, .exact, .exact, ⟨0, []⟩) rfl ⟨Nat.zero_le _, trivial, trivial, trivial⟩ ?_
      rintro ⟨i, k1, k2, T⟩ ⟨hi, o1, o2, o3⟩
      simp only at hi o1 o2 o3
      have o2' := o2.keep o3
      refine L40_2 pc rest n i 0 0 0 [] .exact [] .exact pc (byte s pc) 0 (keysOf rest i) k1 ((pc + s16 rest) :: tosOf rest pc i) k2 T ⟨fun h => ?_, fun h => ?_⟩
      · have hlt : (i : Int) < n := by simpa using h
        have w1 : IntKind.wrap .i64 (4 + IntKind.wrap .i64 (4 * i)) = ((4 + 4 * i : Nat) : Int) := by
          rw [wrap64 (x := 4 * i) (by omega) (by omega), wrap64 (by omega) (by omega)]; omega
        have w2 : IntKind.wrap .i64 (6 + IntKind.wrap .i64 (4 * i)) = ((6 + 4 * i : Nat) : Int) := by
          rw [wrap64 (x := 4 * i) (by omega) (by omega), wrap64 (by omega) (by omega)]; omega
        have g3 := s16_lt (rest.drop (6 + 4 * i))
        rw [w1, w2, Int.toNat_natCast, Int.toNat_natCast, List.take_length]
        refine ⟨by omega, by omega, _, p62 _ (by simp; omega), o1.own, by simp [keysOf]; omega, by omega, by omega, _, p63 _ (by simp; omega), o2'.own, by simp [tosOf]; omega, ?_⟩
        rw [wrap64 (x := pc + s16 (rest.drop (6 + 4 * i))) (by omega) (by omega), wrap64 (x := (i : Int) + 1) (by omega) (by omega)]
        refine Again.mk (i + 1, .tk T.n, .tk (T.n + 1), _) ?_ ⟨by simp only; omega, (Tok.fresh_new T.n (k1.drop T.l)).keep (u := k2) (by have := o2.ne_new; exact this), Tok.fresh_new _ _, (Tok.fresh_new T.n (k1.drop T.l)).ne_new⟩ (by simp only; omega)
        simp only [keysOf, tosOf, List.range_succ, List.map_append, List.map_cons, List.map_nil]; rfl
      · have hge : (i : Int) = n := by
          have : ¬ ((i : Int) < n) := by simpa using h
          omega
        have : i = n.toNat := by omega
        subst this
        rw [wrap64 (x := 4 * n) (by omega) (by omega), wrap64 (x := 5 + 4 * n) (by omega) (by omega)]
        exact ⟨by rw [hone]; rfl, rfl⟩

end Go.Proofs.Ytiomllkdfhglhaa.AB

set_option linter.unusedVariables false
set_option linter.unusedSimpArgs false
namespace Go.Proofs.Ytiomllkdfhglhaa.AB
open Go

/-- the instructions of code from a place on, and the error -/
def scan (s : List UInt8) : Nat → Nat → List Ins × Int
  | 0, _ => ([], 0)
  | fuel + 1, pc => if pc < s.length then
      (if (oneI s pc).2.2 ≠ 0 then ([], (oneI s pc).2.2) else
        match scan s fuel (pc + (oneI s pc).2.1.toNat) with
        | (l, e) => if e ≠ 0 then ([], e) else ((oneI s pc).1 :: l, 0))
    else ([], 0)

def decodeI (s : List UInt8) : List Ins × Int :=
  if s = [] then ([], 5) else if s.length > 4096 then ([], 2) else
    match scan s s.length 0 with
    | (l, e) => if e ≠ 0 then ([], e) else if endsE l ≠ 0 then ([], endsE l) else (l, 0)

theorem oneI_ok {s : List UInt8} {pc : Nat} (h : pc < s.length) (he : (oneI s pc).2.2 = 0) :
    (oneI s pc).1.1 = pc ∧ 1 ≤ (oneI s pc).2.1 ∧ pc + (oneI s pc).2.1 ≤ s.length ∧ (oneI s pc).1.2.2.2.2.length ≤ 65536 ∧ (oneI s pc).1.2.2.2.1.length ≤ 65536 ∧ 0 ≤ (oneI s pc).1.2.1 ∧ (oneI s pc).1.2.1 < 256 := by
  have b := byte_lt s pc
  have u := u16_lt ((s.drop (pc + 1)).drop 2)
  have hl : (s.drop (pc + 1)).length = s.length - (pc + 1) := by simp
  generalize hp : oneI s pc = p at *
  unfold oneI at hp
  simp only at hp
  generalize hr : s.drop (pc + 1) = rest at *
  repeat' split at hp
  all_goals subst hp
  all_goals first
    | (simp at he; done)
    | skip
  all_goals simp only [keysOf, tosOf, List.length_nil, List.length_cons, List.length_map, List.length_range]
  all_goals (try refine ⟨trivial, ?_⟩)
  all_goals omega

theorem scan_ok (s : List UInt8) (hs : s.length ≤ 1000000) : ∀ (fuel pc : Nat), s.length ≤ pc + fuel → ∀ l, scan s fuel pc = (l, 0) →
    (∀ x ∈ l, (pc : Int) ≤ x.1 ∧ x.1 < s.length ∧ x.2.2.2.2.length ≤ 65536 ∧ x.2.2.2.1.length ≤ 65536 ∧ 0 ≤ x.2.1 ∧ x.2.1 < 256) ∧ l.Pairwise (fun a b => a.1 < b.1) ∧ pc + l.length ≤ max pc s.length ∧
      (pc < s.length → ∃ x r, l = x :: r ∧ x.1 = pc) := by
  intro fuel
  induction fuel with
  | zero =>
    intro pc hf l h
    simp only [scan, Prod.mk.injEq] at h
    obtain ⟨rfl, _⟩ := h
    refine ⟨fun x hx => (by cases hx), List.Pairwise.nil, by simp; omega, fun h => by omega⟩
  | succ n ih =>
    intro pc hf l h
    unfold scan at h
    split at h
    · rename_i hlt
      split at h
      · rename_i he
        simp only [Prod.mk.injEq] at h
        exact absurd h.2 he
      · rename_i he
        have he : (oneI s pc).2.2 = 0 := by simpa using he
        obtain ⟨k1, k2, k3, k4, k5, k6, k7⟩ := oneI_ok hlt he
        generalize hq : scan s n (pc + (oneI s pc).2.1.toNat) = q at h
        obtain ⟨l', e⟩ := q
        simp only at h
        split at h
        · rename_i he'
          simp only [Prod.mk.injEq] at h
          exact absurd h.2 he'
        · rename_i he'
          have he' : e = 0 := by simpa using he'
          subst he'
          simp only [Prod.mk.injEq, and_true] at h
          subst h
          obtain ⟨j1, j2, j3, j4⟩ := ih _ (by omega) l' hq
          refine ⟨fun x hx => ?_, List.Pairwise.cons (fun x hx => ?_) j2, by simp only [List.length_cons]; omega, fun _ => ⟨_, _, rfl, k1⟩⟩
          · rcases List.mem_cons.1 hx with rfl | hx
            · exact ⟨by omega, by omega, k4, k5, k6, k7⟩
            · obtain ⟨i1, i2, i3⟩ := j1 x hx
              exact ⟨by omega, i2, i3⟩
          · obtain ⟨i1, i2, i3⟩ := j1 x hx
            omega
    · rename_i hlt
      simp only [Prod.mk.injEq] at h
      obtain ⟨rfl, _⟩ := h
      exact ⟨fun x hx => (by cases hx), List.Pairwise.nil, by simp; omega, fun h => by omega⟩

/-- code that has been read -/
structure Code4 (s : List UInt8) (l : List Ins) : Prop where
  pos : ∀ x ∈ l, 0 ≤ x.1 ∧ x.1 < s.length
  tos : ∀ x ∈ l, x.2.2.2.2.length ≤ 65536
  keys : ∀ x ∈ l, x.2.2.2.1.length ≤ 65536
  ops : ∀ x ∈ l, 0 ≤ x.2.1 ∧ x.2.1 < 256
  inc : l.Pairwise (fun a b => a.1 < b.1)
  len : l.length ≤ s.length
  size : s.length ≤ 4096
  first : ∃ x r, l = x :: r ∧ x.1 = 0
  lands : ∀ x ∈ l, ∀ to ∈ x.2.2.2.2, isPc l to = true
  last : isEnd (l.getD (l.length - 1) D0).2.1 = true

theorem decodeI_ok {s : List UInt8} {l : List Ins} (h : decodeI s = (l, 0)) : Code4 s l := by
  unfold decodeI at h
  split at h
  · exact absurd (congrArg Prod.snd h) (by simp)
  rename_i hne
  split at h
  · exact absurd (congrArg Prod.snd h) (by simp)
  rename_i hlen
  have hpos : 0 < s.length := List.length_pos_iff.2 hne
  generalize hq : scan s s.length 0 = q at h
  obtain ⟨l', e⟩ := q
  simp only at h
  split at h
  · rename_i he'
    simp only [Prod.mk.injEq] at h
    exact absurd h.2 he'
  rename_i he'
  have he' : e = 0 := by simpa using he'
  subst he'
  split at h
  · rename_i he'
    simp only [Prod.mk.injEq] at h
    exact absurd h.2 he'
  rename_i he'
  simp only [Prod.mk.injEq, and_true] at h
  subst h
  obtain ⟨j1, j2, j3, j4⟩ := scan_ok s (by omega) s.length 0 (by omega) l' hq
  have he : endsE l' = 0 := by simpa using he'
  unfold endsE at he
  split at he
  case isFalse => exact absurd he (by decide)
  rename_i ha
  split at he
  case isFalse => exact absurd he (by decide)
  rename_i hb
  refine ⟨fun x hx => ⟨by have := (j1 x hx).1; omega, (j1 x hx).2.1⟩, fun x hx => (j1 x hx).2.2.1, fun x hx => (j1 x hx).2.2.2.1, fun x hx => (j1 x hx).2.2.2.2, j2, by omega, by omega, j4 hpos, fun x hx to hto => ?_, hb⟩
  rw [List.all_eq_true] at ha
  have := ha x hx
  rw [List.all_eq_true] at this
  exact this to hto

theorem scan_fuel (s : List UInt8) : ∀ (f g pc : Nat), s.length ≤ pc + f → s.length ≤ pc + g → scan s f pc = scan s g pc := by
  intro f
  induction f with
  | zero =>
    intro g pc hf hg
    cases g with
    | zero => rfl
    | succ g => unfold scan; rw [if_neg (by omega)]
  | succ f ih =>
    intro g pc hf hg
    cases g with
    | zero => unfold scan; rw [if_neg (by omega)]
    | succ g =>
      unfold scan
      by_cases hlt : pc < s.length
      · rw [if_pos hlt, if_pos hlt]
        by_cases he : (oneI s pc).2.2 ≠ 0
        · rw [if_pos he, if_pos he]
        · rw [if_neg he, if_neg he]
          have he : (oneI s pc).2.2 = 0 := by simpa using he
          obtain ⟨k1, k2, k3⟩ := oneI_ok hlt he
          rw [ih g _ (by omega) (by omega)]
      · rw [if_neg hlt, if_neg hlt]

/-- what is left to be read -/
abbrev scanAt (s : List UInt8) (pc : Nat) : List Ins × Int := scan s (s.length - pc) pc

theorem scanAt_step {s : List UInt8} {pc : Nat} (h : pc < s.length) : scanAt s pc = (if (oneI s pc).2.2 ≠ 0 then ([], (oneI s pc).2.2) else
        match scanAt s (pc + (oneI s pc).2.1.toNat) with
        | (l, e) => if e ≠ 0 then ([], e) else ((oneI s pc).1 :: l, 0)) := by
  unfold scanAt
  have : s.length - pc = (s.length - pc - 1) + 1 := by omega
  rw [this]
  conv => lhs; unfold scan
  rw [if_pos h]
  by_cases he : (oneI s pc).2.2 ≠ 0
  · rw [if_pos he, if_pos he]
  · rw [if_neg he, if_neg he]
    have he : (oneI s pc).2.2 = 0 := by simpa using he
    obtain ⟨k1, k2, k3⟩ := oneI_ok h he
    rw [scan_fuel s _ (s.length - (pc + (oneI s pc).2.1.toNat)) _ (by omega) (by omega)]

theorem scan_err (s : List UInt8) (f pc : Nat) (l : List Ins) (e : Int) (h : scan s f pc = (l, e)) (he : e ≠ 0) : l = [] := by
  cases f with
  | zero => simp only [scan, Prod.mk.injEq] at h; exact h.1.symm
  | succ f =>
    unfold scan at h
    split at h
    · split at h
      · exact (Prod.mk.inj h).1.symm
      · split at h
        split at h
        · exact (Prod.mk.inj h).1.symm
        · exact absurd (Prod.mk.inj h).2.symm he
    · exact (Prod.mk.inj h).1.symm

/-- what Decode gives -/
abbrev decV (p : List Ins × Int) : V := .tup [.list cIns p.1 .no, .int .i64 p.2]

theorem p13 (s : List UInt8) : PC Try.prog 13 [.str s] (decV (decodeI s)) := by
  have hroom : room = 140737488355328 := rfl
  refine pcOf (X := X13) (d := 0) rfl trivial (by kernel_rfl) (by decide) (E13 s ⟨fun h => ?_, fun hne => ⟨fun h => ?_, fun hlen => ?_⟩⟩)
  · have h : s = [] := by simpa using h
    subst h
    exact ⟨rfl, rfl⟩
  · have hne : s ≠ [] := by simpa using hne
    have h : s.length > 4096 := by have : (s.length : Int) > 4096 := by simpa using h
                                   omega
    exact ⟨by unfold decodeI; rw [if_neg hne, if_pos h]; rfl, rfl⟩
  · have hne : s ≠ [] := by simpa using hne
    have hlen : ¬ s.length > 4096 := by have : ¬ (s.length : Int) > 4096 := by simpa using hlen
                                        omega
    have hpos : 0 < s.length := List.length_pos_iff.2 hne
    refine Loops.intro (fun a : Nat × List Ins × Tok × Toks => S13_0 s a.2.1 a.2.2.1 a.1 a.2.2.2)
      (fun a => a.1 ≤ s.length ∧ a.2.2.1.fresh a.2.2.2 ∧ a.2.1.length ≤ a.1 ∧ (∀ e l, scanAt s a.1 = (l, e) → scanAt s 0 = if e ≠ 0 then ([], e) else (a.2.1 ++ l, 0))) (fun a => s.length - a.1) (0, [], .exact, ⟨0, []⟩) rfl
      ⟨Nat.zero_le _, trivial, Nat.le_refl _, fun e l h => ?_⟩ ?_
    · simp only
      by_cases hz : e = 0
      · subst hz; simpa using h
      · rw [h, if_pos hz, scan_err _ _ _ _ _ h hz]
    rintro ⟨pc, l, tk, T⟩ ⟨j1, j2, j3, j4⟩
    simp only at j1 j2 j3 j4
    have fin : ∀ p : List Ins × Int, decodeI s = p → (decV p).norm = decV (decodeI s) ∧ (decV (decodeI s)).nt = true := fun p h => by rw [h]; exact ⟨rfl, rfl⟩
    have hdec : ∀ l e, scanAt s 0 = (l, e) → decodeI s = if e ≠ 0 then ([], e) else if endsE l ≠ 0 then ([], endsE l) else (l, 0) := fun l e h => by
      unfold decodeI; rw [if_neg hne, if_neg hlen]; unfold scanAt at h; rw [Nat.sub_zero] at h; rw [h]
    refine L13_0 s l tk pc T ⟨fun h => ⟨oneI s pc, ?_, fun he => ?_, fun he => ?_⟩, fun h => ?_⟩
    · have hlt : pc < s.length := by have : (pc : Int) < s.length := by simpa using h
                                     omega
      exact p40 s pc hlt (by omega)
    · have hlt : pc < s.length := by have : (pc : Int) < s.length := by simpa using h
                                     omega
      have he : (oneI s pc).2.2 ≠ 0 := by simpa using he
      have hs := scanAt_step hlt
      rw [if_pos he] at hs
      have := j4 _ _ hs
      rw [if_pos he] at this
      have := hdec _ _ this
      rw [if_pos he] at this
      exact fin _ this
    · have hlt : pc < s.length := by have : (pc : Int) < s.length := by simpa using h
                                     omega
      have he : (oneI s pc).2.2 = 0 := by simpa using he
      have hs := scanAt_step hlt
      obtain ⟨k1, k2, k3⟩ := oneI_ok hlt he
      rw [if_neg (by simpa using he)] at hs
      rw [wrap64 (by omega) (by omega)]
      refine ⟨j2.own, by simp; omega, Again.mk (pc + (oneI s pc).2.1.toNat, l ++ [(oneI s pc).1], .tk T.n, _) (by simp only; congr 1; omega) ⟨by simp only; omega, Tok.fresh_new _ _, by simp; omega, fun e l' h' => ?_⟩ (by simp only; omega)⟩
      rw [h'] at hs
      by_cases hz : e = 0
      · subst hz
        have := j4 _ _ hs
        simpa using this
      · have := j4 _ _ (by simpa [hz] using hs)
        simpa [hz] using this
    · have hge : pc = s.length := by have : ¬ (pc : Int) < s.length := by simpa using h
                                     omega
      subst hge
      have hs : scanAt s 0 = (l, 0) := by
        have := j4 0 [] (by unfold scanAt; rw [Nat.sub_self]; rfl)
        simpa using this
      have hd := hdec _ _ hs
      obtain ⟨i1, i2, i3, i4⟩ := scan_ok s (by omega) s.length 0 (by omega) l hs
      obtain ⟨x, r, hx, _⟩ := i4 hpos
      refine ⟨_, p41 l s.length (by omega) (by rw [hx]; simp) (by omega) (fun x hx => ⟨by have := (i1 x hx).1; omega, (i1 x hx).2.1⟩) (fun x hx => by have := (i1 x hx).2.2.1; omega), fun h => ?_, fun h => ?_⟩
      · refine fin ([], endsE l) ?_
        rw [hd, if_neg (by simp), if_pos (by simpa using h)]
      · refine fin (l, 0) ?_
        rw [hd, if_neg (by simp), if_neg (by simpa using h)]

end Go.Proofs.Ytiomllkdfhglhaa.AB

set_option linter.unusedVariables false
set_option linter.unusedSimpArgs false
namespace Go.Proofs.Ytiomllkdfhglhaa.AB
open Go

/-! crucible/code.Index -/
noncomputable def X44 : Cx := ⟨tt, [], [(44, [(1, 2, .inl)]), (64, [(4, 5, .inl)])], [(64, [(0, mkM 19 0 [0, 1, 7, 8], 0)])], [(64, Try.f64), (65, Try.f65)]⟩
theorem FN44 : fnsB Try.prog X44.fns := (show (Try.prog.funcs[64]? = some Try.f64 ∧ Try.f64.name ≠ "runtime.NumGoroutine" ∧ (Try.prog.funcs[65]? = some Try.f65 ∧ Try.f65.name ≠ "runtime.NumGoroutine" ∧ True)) from ⟨by kernel_rfl, by decide, ⟨by kernel_rfl, by decide, trivial⟩⟩)
def M44c1_2_0 : List Bool × Nat := (mkM 19 0 [0, 1, 7, 8], 1)
def S44c1_2_0 (s0 : List (Int × (Int × (Int × ((List Int) × (List Int)))))) (t7 : Int) (t8 : Int) (hq0 : Int) (T : Toks) : St :=
  mkS 19 [(0, (.v (.list (.pair (.int .i64) (.pair (.int .i64) (.pair (.int .i64) (.pair (.slice (.int .i64)) (.slice (.int .i64)))))) s0 .no))), (1, (.clo 65 [(.ptr 0 0 0 0)])), (7, (.v (.int .i64 t7))), (8, (.v (.int .i64 t8)))] [(some (.box (.v (.int .i64 hq0))))] T
noncomputable def B44c1_2_0 : (Exit → St → Prop) → St → Prop := (awp X44.tt (callN Try.prog X44 1) (X44.md 64) 1 (X44.mk1 64) 0 (codeAt [1, 0, 1, 0, 0] (bd Try.f64)))
noncomputable def K44_0 (R : V → Prop) : Exit → St → Prop := seqK ((awp X44.tt (callN Try.prog X44 2) (X44.md 44) 0 (X44.mk1 44) 0 (codeAt [1, 1] (bd Try.f44))) (retK tt Try.f44.results.toList fun x s' => topK R x ⟨[], s'.hp, s'.T⟩)) (retK tt Try.f44.results.toList fun x s' => topK R x ⟨[], s'.hp, s'.T⟩)
noncomputable def A44c1_2 (R : V → Prop) : TV → St → Prop := fun x s' => awpL X44.tt (callN Try.prog X44 2) (X44.md 44) 1 (regOps (codeAt [1, 0] (bd Try.f44))) 3 ((regOps (codeAt [1, 0] (bd Try.f44))).toList.drop 3) ((K44_0 R) .normal) (s'.put (some 7) x)
def W44c1_2 (z1_2_l0 : List (Int × (Int × (Int × ((List Int) × (List Int)))))) (z1_2_pc1 : Int) (z1_2_t4 : Int) (z1_2_t5 : List (Int × (Int × (Int × ((List Int) × (List Int)))))) : List TV := mkL 8 0 [(0, (.v (.list (.pair (.int .i64) (.pair (.int .i64) (.pair (.int .i64) (.pair (.slice (.int .i64)) (.slice (.int .i64)))))) z1_2_l0 .no))), (1, (.v (.int .i64 z1_2_pc1))), (3, (.ptr 0 0 0 0)), (4, (.v (.int .i64 z1_2_t4))), (5, (.v (.list (.pair (.int .i64) (.pair (.int .i64) (.pair (.int .i64) (.pair (.slice (.int .i64)) (.slice (.int .i64)))))) z1_2_t5 .no))), (6, (.clo 65 [(.ptr 0 0 0 0)]))]
noncomputable def K44c1_2_1 (R : V → Prop) (z1_2_l0 : List (Int × (Int × (Int × ((List Int) × (List Int)))))) (z1_2_pc1 : Int) (z1_2_t4 : Int) (z1_2_t5 : List (Int × (Int × (Int × ((List Int) × (List Int)))))) : Exit → St → Prop := seqK ((awp X44.tt (callN Try.prog X44 1) (X44.md 64) 1 (X44.mk1 64) 0 (codeAt [1, 1] (bd Try.f64))) (retK X44.tt Try.f64.results.toList fun x s' => A44c1_2 R x ⟨W44c1_2 z1_2_l0 z1_2_pc1 z1_2_t4 z1_2_t5, s'.hp, s'.T⟩)) (retK X44.tt Try.f64.results.toList fun x s' => A44c1_2 R x ⟨W44c1_2 z1_2_l0 z1_2_pc1 z1_2_t4 z1_2_t5, s'.hp, s'.T⟩)
noncomputable def Q44c1_2_0 (R : V → Prop) (z1_2_l0 : List (Int × (Int × (Int × ((List Int) × (List Int)))))) (z1_2_pc1 : Int) (z1_2_t4 : Int) (z1_2_t5 : List (Int × (Int × (Int × ((List Int) × (List Int)))))) : Exit → St → Prop := (blockK 0 (K44c1_2_1 R z1_2_l0 z1_2_pc1 z1_2_t4 z1_2_t5))
theorem E44 (l0 : (List (Int × (Int × (Int × ((List Int) × (List Int))))))) (pc1 : Int) {R : V → Prop} (h : (Loops B44c1_2_0 M44c1_2_0 (Q44c1_2_0 R l0 pc1 (0 : Int) l0)
  (S44c1_2_0 l0 (((l0).length : Int)) (0 : Int) pc1 ⟨0, []⟩))) :
  fnK X44.tt (callN Try.prog X44 2) (X44.md 44) (X44.mk1 44) Try.f44 [(.v (.list (.pair (.int .i64) (.pair (.int .i64) (.pair (.int .i64) (.pair (.slice (.int .i64)) (.slice (.int .i64)))))) l0 .no)), (.v (.int .i64 pc1))] ⟨[], [], ⟨0, []⟩⟩ (topK R) := Eq.mp (by kernel_rfl) h
theorem L44c1_2_0 (s0 : List (Int × (Int × (Int × ((List Int) × (List Int)))))) (t7 : Int) (t8 : Int) (hq0 : Int) (T : Toks) {R : V → Prop} {z1_2_l0 : List (Int × (Int × (Int × ((List Int) × (List Int)))))} {z1_2_pc1 : Int} {z1_2_t4 : Int} {z1_2_t5 : List (Int × (Int × (Int × ((List Int) × (List Int)))))} {kc1_2_0 : St → Prop}
 (h : (((decide (t8 < t7)) = true → (0 ≤ t8 ∧ t8 < ((s0).length : Int) ∧ ((((s0.getD (t8).toNat (0, (0, (0, ([], []))))).1 == hq0) = true → R (.int .i64 t8)) ∧
 (((s0.getD (t8).toNat (0, (0, (0, ([], []))))).1 == hq0) = false → kc1_2_0 (S44c1_2_0 s0 t7 ((IntKind.wrap .i64 (t8 + (1 : Int)))) hq0 T))))) ∧
 ((decide (t8 < t7)) = false → R (.int .i64 (-1 : Int))))) :
  B44c1_2_0 (loopQ M44c1_2_0 kc1_2_0 (Q44c1_2_0 R z1_2_l0 z1_2_pc1 z1_2_t4 z1_2_t5)) (S44c1_2_0 s0 t7 t8 hq0 T) := Eq.mp (by kernel_rfl) h

end Go.Proofs.Ytiomllkdfhglhaa.AB

set_option linter.unusedVariables false
set_option linter.unusedSimpArgs false
namespace Go.Proofs.Ytiomllkdfhglhaa.AB
open Go

/-! crucible/flow.places -/
noncomputable def X42 : Cx := ⟨tt, [], [], [(42, [(0, mkM 31 0 [3, 9, 10, 11], 1)])], []⟩
theorem FN42 : fnsB Try.prog X42.fns := (show True from trivial)
def M42_0 : List Bool × Nat := (mkM 31 0 [3, 9, 10, 11], 1)
def S42_0 (t9 : List (Int × (Int × (Int × ((List Int) × (List Int)))))) (t10 : Int) (t11 : Int) (hq0 : List (Int × Int × Tok)) (T : Toks) : St :=
  mkS 31 [(3, (.mapr 0)), (9, (.v (.list (.pair (.int .i64) (.pair (.int .i64) (.pair (.int .i64) (.pair (.slice (.int .i64)) (.slice (.int .i64)))))) t9 .no))), (10, (.v (.int .i64 t10))), (11, (.v (.int .i64 t11)))] [(some (.map (.int .i64) (.int .i64) hq0))] T
noncomputable def B42_0 : (Exit → St → Prop) → St → Prop := (awp X42.tt (callN Try.prog X42 0) (X42.md 42) 0 (X42.mk1 42) 0 (codeAt [1, 1, 0, 1, 0, 0] (bd Try.f42)))
noncomputable def K42_0 (R : V → Prop) : Exit → St → Prop := seqK ((awp X42.tt (callN Try.prog X42 0) (X42.md 42) 0 (X42.mk1 42) 0 (codeAt [1, 1, 1] (bd Try.f42))) (retK tt Try.f42.results.toList fun x s' => topK R x ⟨[], s'.hp, s'.T⟩)) (retK tt Try.f42.results.toList fun x s' => topK R x ⟨[], s'.hp, s'.T⟩)
noncomputable def Q42_0 (R : V → Prop) : Exit → St → Prop := (blockK 0 (K42_0 R))
theorem E42 (l0 : (List (Int × (Int × (Int × ((List Int) × (List Int))))))) {R : V → Prop} (h : (Loops B42_0 M42_0 (Q42_0 R)
  (S42_0 l0 (((l0).length : Int)) (0 : Int) (([] : List (Int × Int × Tok))) ⟨0, []⟩))) :
  fnK X42.tt (callN Try.prog X42 0) (X42.md 42) (X42.mk1 42) Try.f42 [(.v (.list (.pair (.int .i64) (.pair (.int .i64) (.pair (.int .i64) (.pair (.slice (.int .i64)) (.slice (.int .i64)))))) l0 .no))] ⟨[], [], ⟨0, []⟩⟩ (topK R) := Eq.mp (by kernel_rfl) h
theorem L42_0 (t9 : List (Int × (Int × (Int × ((List Int) × (List Int)))))) (t10 : Int) (t11 : Int) (hq0 : List (Int × Int × Tok)) (T : Toks) {R : V → Prop} {k0 : St → Prop}
 (h : (((decide (t11 < t10)) = true → (0 ≤ t11 ∧ t11 < ((t9).length : Int) ∧ ((∀ (a1 : Int) (t2 : Tok), mfind (Cd.keq (.int .i64) ((t9.getD (t11).toNat (0, (0, (0, ([], []))))).1)) hq0 = some (a1, t2) → (((!true) = true → k0 (S42_0 t9 t10 ((IntKind.wrap .i64 (t11 + (1 : Int)))) ((mset (Cd.keq (.int .i64) ((t9.getD (t11).toNat (0, (0, (0, ([], []))))).1)) ((t9.getD (t11).toNat (0, (0, (0, ([], []))))).1) (t11, .no) hq0)) T)) ∧
 ((!true) = false → k0 (S42_0 t9 t10 ((IntKind.wrap .i64 (t11 + (1 : Int)))) hq0 T)))) ∧ (mfind (Cd.keq (.int .i64) ((t9.getD (t11).toNat (0, (0, (0, ([], []))))).1)) hq0 = none → (((!false) = true → k0 (S42_0 t9 t10 ((IntKind.wrap .i64 (t11 + (1 : Int)))) ((mset (Cd.keq (.int .i64) ((t9.getD (t11).toNat (0, (0, (0, ([], []))))).1)) ((t9.getD (t11).toNat (0, (0, (0, ([], []))))).1) (t11, .no) hq0)) T)) ∧
 ((!false) = false → k0 (S42_0 t9 t10 ((IntKind.wrap .i64 (t11 + (1 : Int)))) hq0 T))))))) ∧
 ((decide (t11 < t10)) = false → R (.fmap (.int .i64) (.int .i64) ((hq0.map fun e => (e.1, e.2.1))))))) :
  B42_0 (loopQ M42_0 k0 (Q42_0 R)) (S42_0 t9 t10 t11 hq0 T) := Eq.mp (by kernel_rfl) h

end Go.Proofs.Ytiomllkdfhglhaa.AB

set_option linter.unusedVariables false
set_option linter.unusedSimpArgs false
namespace Go.Proofs.Ytiomllkdfhglhaa.AB
open Go

/-! crucible/flow.Starts -/
noncomputable def X15 : Cx := ⟨tt, [(44, [.cd (.int .i64)])], [], [(15, [(0, mkM 23 0 [0, 5, 8, 9, 10], 0)])], []⟩
theorem FN15 : fnsB Try.prog X15.fns := (show True from trivial)
def M15_0 : List Bool × Nat := (mkM 23 0 [0, 5, 8, 9, 10], 0)
def S15_0 (l0 : List (Int × (Int × (Int × ((List Int) × (List Int)))))) (out5 : List Int) (out5k : Tok) (t8 : List (Int × (Int × (Int × Int)))) (t9 : Int) (t10 : Int) (T : Toks) : St :=
  mkS 23 [(0, (.v (.list (.pair (.int .i64) (.pair (.int .i64) (.pair (.int .i64) (.pair (.slice (.int .i64)) (.slice (.int .i64)))))) l0 .no))), (5, (.v (.list (.int .i64) out5 out5k))), (8, (.v (.list (.pair (.int .i64) (.pair (.int .i64) (.pair (.int .i64) (.int .i64)))) t8 .no))), (9, (.v (.int .i64 t9))), (10, (.v (.int .i64 t10)))] [] T
noncomputable def B15_0 : (Exit → St → Prop) → St → Prop := (awp X15.tt (callN Try.prog X15 0) (X15.md 15) 0 (X15.mk1 15) 0 (codeAt [1, 1, 0, 1, 0, 0] (bd Try.f15)))
noncomputable def K15_0 (R : V → Prop) : Exit → St → Prop := seqK ((awp X15.tt (callN Try.prog X15 0) (X15.md 15) 0 (X15.mk1 15) 0 (codeAt [1, 1, 1] (bd Try.f15))) (retK tt Try.f15.results.toList fun x s' => topK R x ⟨[], s'.hp, s'.T⟩)) (retK tt Try.f15.results.toList fun x s' => topK R x ⟨[], s'.hp, s'.T⟩)
noncomputable def Q15_0 (R : V → Prop) : Exit → St → Prop := (blockK 0 (K15_0 R))
theorem E15 (l0 : (List (Int × (Int × (Int × ((List Int) × (List Int))))))) (handlers1 : (List (Int × (Int × (Int × Int))))) {R : V → Prop} (h : (Loops B15_0 M15_0 (Q15_0 R)
  (S15_0 l0 ([] : List Int) .exact handlers1 (((handlers1).length : Int)) (0 : Int) ⟨0, []⟩))) :
  fnK X15.tt (callN Try.prog X15 0) (X15.md 15) (X15.mk1 15) Try.f15 [(.v (.list (.pair (.int .i64) (.pair (.int .i64) (.pair (.int .i64) (.pair (.slice (.int .i64)) (.slice (.int .i64)))))) l0 .no)), (.v (.list (.pair (.int .i64) (.pair (.int .i64) (.pair (.int .i64) (.int .i64)))) handlers1 .no))] ⟨[], [], ⟨0, []⟩⟩ (topK R) := Eq.mp (by kernel_rfl) h
theorem L15_0 (l0 : List (Int × (Int × (Int × ((List Int) × (List Int)))))) (out5 : List Int) (out5k : Tok) (t8 : List (Int × (Int × (Int × Int)))) (t9 : Int) (t10 : Int) (T : Toks) {R : V → Prop} {k0 : St → Prop}
 (h : (((decide (t10 < t9)) = true → (0 ≤ t10 ∧ t10 < ((t8).length : Int) ∧ (∃ p1 : Int, PC Try.prog 44 [(.list (.pair (.int .i64) (.pair (.int .i64) (.pair (.int .i64) (.pair (.slice (.int .i64)) (.slice (.int .i64)))))) l0 .no), (.int .i64 ((t8.getD (t10).toNat (0, (0, (0, 0)))).2.2.1))] (.int .i64 p1) ∧ (Tok.own out5k T.l ∧ ((out5).length + (([p1] : List Int)).length) * 8 ≤ room ∧ k0 (S15_0 l0 ((out5 ++ ([p1] : List Int))) (.tk T.n) t8 t9 ((IntKind.wrap .i64 (t10 + (1 : Int)))) ⟨(T.n + 1), (T.n :: Tok.drop out5k T.l)⟩))))) ∧
 ((decide (t10 < t9)) = false → R (.list (.int .i64) out5 .no)))) :
  B15_0 (loopQ M15_0 k0 (Q15_0 R)) (S15_0 l0 out5 out5k t8 t9 t10 T) := Eq.mp (by kernel_rfl) h

end Go.Proofs.Ytiomllkdfhglhaa.AB

set_option linter.unusedVariables false
set_option linter.unusedSimpArgs false
namespace Go.Proofs.Ytiomllkdfhglhaa.AB
open Go

/-! crucible/crucibleref8.Starts -/
noncomputable def X30 : Cx := ⟨tt, [(55, [.cd (.int .i64)])], [], [(30, [(0, mkM 24 0 [0, 1, 5, 6], 0)])], []⟩
theorem FN30 : fnsB Try.prog X30.fns := (show True from trivial)
def M30_0 : List Bool × Nat := (mkM 24 0 [0, 1, 5, 6], 0)
def S30_0 (l0 : List (Int × (Int × (Int × ((List Int) × (List Int)))))) (handlers1 : List (Int × (Int × (Int × Int)))) (out5 : List Int) (out5k : Tok) (k6 : Int) (T : Toks) : St :=
  mkS 24 [(0, (.v (.list (.pair (.int .i64) (.pair (.int .i64) (.pair (.int .i64) (.pair (.slice (.int .i64)) (.slice (.int .i64)))))) l0 .no))), (1, (.v (.list (.pair (.int .i64) (.pair (.int .i64) (.pair (.int .i64) (.int .i64)))) handlers1 .no))), (5, (.v (.list (.int .i64) out5 out5k))), (6, (.v (.int .i64 k6)))] [] T
noncomputable def B30_0 : (Exit → St → Prop) → St → Prop := (awp X30.tt (callN Try.prog X30 0) (X30.md 30) 0 (X30.mk1 30) 0 (codeAt [1, 1, 0, 1, 0, 0] (bd Try.f30)))
noncomputable def K30_0 (R : V → Prop) : Exit → St → Prop := seqK ((awp X30.tt (callN Try.prog X30 0) (X30.md 30) 0 (X30.mk1 30) 0 (codeAt [1, 1, 1] (bd Try.f30))) (retK tt Try.f30.results.toList fun x s' => topK R x ⟨[], s'.hp, s'.T⟩)) (retK tt Try.f30.results.toList fun x s' => topK R x ⟨[], s'.hp, s'.T⟩)
noncomputable def Q30_0 (R : V → Prop) : Exit → St → Prop := (blockK 0 (K30_0 R))
theorem E30 (l0 : (List (Int × (Int × (Int × ((List Int) × (List Int))))))) (handlers1 : (List (Int × (Int × (Int × Int))))) {R : V → Prop} (h : (Loops B30_0 M30_0 (Q30_0 R)
  (S30_0 l0 handlers1 ([] : List Int) .exact (0 : Int) ⟨0, []⟩))) :
  fnK X30.tt (callN Try.prog X30 0) (X30.md 30) (X30.mk1 30) Try.f30 [(.v (.list (.pair (.int .i64) (.pair (.int .i64) (.pair (.int .i64) (.pair (.slice (.int .i64)) (.slice (.int .i64)))))) l0 .no)), (.v (.list (.pair (.int .i64) (.pair (.int .i64) (.pair (.int .i64) (.int .i64)))) handlers1 .no))] ⟨[], [], ⟨0, []⟩⟩ (topK R) := Eq.mp (by kernel_rfl) h
theorem L30_0 (l0 : List (Int × (Int × (Int × ((List Int) × (List Int)))))) (handlers1 : List (Int × (Int × (Int × Int)))) (out5 : List Int) (out5k : Tok) (k6 : Int) (T : Toks) {R : V → Prop} {k0 : St → Prop}
 (h : (((decide (k6 < ((handlers1).length : Int))) = true → (0 ≤ k6 ∧ k6 < ((handlers1).length : Int) ∧ (∃ p1 : Int, PC Try.prog 55 [(.list (.pair (.int .i64) (.pair (.int .i64) (.pair (.int .i64) (.pair (.slice (.int .i64)) (.slice (.int .i64)))))) l0 .no), (.int .i64 ((handlers1.getD (k6).toNat (0, (0, (0, 0)))).2.2.1))] (.int .i64 p1) ∧ (Tok.own out5k T.l ∧ ((out5).length + (([p1] : List Int)).length) * 8 ≤ room ∧ k0 (S30_0 l0 handlers1 ((out5 ++ ([p1] : List Int))) (.tk T.n) ((IntKind.wrap .i64 (k6 + (1 : Int)))) ⟨(T.n + 1), (T.n :: Tok.drop out5k T.l)⟩))))) ∧
 ((decide (k6 < ((handlers1).length : Int))) = false → R (.list (.int .i64) out5 .no)))) :
  B30_0 (loopQ M30_0 k0 (Q30_0 R)) (S30_0 l0 handlers1 out5 out5k k6 T) := Eq.mp (by kernel_rfl) h

end Go.Proofs.Ytiomllkdfhglhaa.AB

set_option linter.unusedVariables false
set_option linter.unusedSimpArgs false
namespace Go.Proofs.Ytiomllkdfhglhaa.AB
open Go

/-! slices.Contains[[]int,int] -/
noncomputable def X54 : Cx := ⟨tt, [(76, [.cd (.int .i64)])], [], [], []⟩
theorem FN54 : fnsB Try.prog X54.fns := (show True from trivial)
theorem E54 (s0 : (List Int)) (v1 : Int) {R : V → Prop} (h : (∃ p1 : Int, PC Try.prog 76 [(.list (.int .i64) s0 .no), (.int .i64 v1)] (.int .i64 p1) ∧ R (.bool ((decide (p1 ≥ (0 : Int))))))) :
  fnK X54.tt (callN Try.prog X54 0) (X54.md 54) (X54.mk1 54) Try.f54 [(.v (.list (.int .i64) s0 .no)), (.v (.int .i64 v1))] ⟨[], [], ⟨0, []⟩⟩ (topK R) := Eq.mp (by kernel_rfl) h

end Go.Proofs.Ytiomllkdfhglhaa.AB

set_option linter.unusedVariables false
set_option linter.unusedSimpArgs false
namespace Go.Proofs.Ytiomllkdfhglhaa.AB
open Go

/-! slices.Index[[]int,int] -/
noncomputable def X76 : Cx := ⟨tt, [], [], [(76, [(0, mkM 19 0 [0, 1, 7, 8], 0)])], []⟩
theorem FN76 : fnsB Try.prog X76.fns := (show True from trivial)
def M76_0 : List Bool × Nat := (mkM 19 0 [0, 1, 7, 8], 0)
def S76_0 (s0 : List Int) (v1 : Int) (t7 : Int) (t8 : Int) (T : Toks) : St :=
  mkS 19 [(0, (.v (.list (.int .i64) s0 .no))), (1, (.v (.int .i64 v1))), (7, (.v (.int .i64 t7))), (8, (.v (.int .i64 t8)))] [] T
noncomputable def B76_0 : (Exit → St → Prop) → St → Prop := (awp X76.tt (callN Try.prog X76 0) (X76.md 76) 0 (X76.mk1 76) 0 (codeAt [1, 0, 1, 0, 0] (bd Try.f76)))
noncomputable def K76_0 (R : V → Prop) : Exit → St → Prop := seqK ((awp X76.tt (callN Try.prog X76 0) (X76.md 76) 0 (X76.mk1 76) 0 (codeAt [1, 1] (bd Try.f76))) (retK tt Try.f76.results.toList fun x s' => topK R x ⟨[], s'.hp, s'.T⟩)) (retK tt Try.f76.results.toList fun x s' => topK R x ⟨[], s'.hp, s'.T⟩)
noncomputable def Q76_0 (R : V → Prop) : Exit → St → Prop := (blockK 0 (K76_0 R))
theorem E76 (s0 : (List Int)) (v1 : Int) {R : V → Prop} (h : (Loops B76_0 M76_0 (Q76_0 R)
  (S76_0 s0 v1 (((s0).length : Int)) (0 : Int) ⟨0, []⟩))) :
  fnK X76.tt (callN Try.prog X76 0) (X76.md 76) (X76.mk1 76) Try.f76 [(.v (.list (.int .i64) s0 .no)), (.v (.int .i64 v1))] ⟨[], [], ⟨0, []⟩⟩ (topK R) := Eq.mp (by kernel_rfl) h
theorem L76_0 (s0 : List Int) (v1 : Int) (t7 : Int) (t8 : Int) (T : Toks) {R : V → Prop} {k0 : St → Prop}
 (h : (((decide (t8 < t7)) = true → (0 ≤ t8 ∧ t8 < ((s0).length : Int) ∧ (((v1 == (s0.getD (t8).toNat 0)) = true → R (.int .i64 t8)) ∧
 ((v1 == (s0.getD (t8).toNat 0)) = false → k0 (S76_0 s0 v1 t7 ((IntKind.wrap .i64 (t8 + (1 : Int)))) T))))) ∧
 ((decide (t8 < t7)) = false → R (.int .i64 (-1 : Int))))) :
  B76_0 (loopQ M76_0 k0 (Q76_0 R)) (S76_0 s0 v1 t7 t8 T) := Eq.mp (by kernel_rfl) h

end Go.Proofs.Ytiomllkdfhglhaa.AB

set_option linter.unusedVariables false
set_option linter.unusedSimpArgs false
namespace Go.Proofs.Ytiomllkdfhglhaa.AB
open Go

/-! crucible/crucibleref8.has -/
noncomputable def X56 : Cx := ⟨tt, [], [], [(56, [(0, mkM 18 0 [0, 1, 5], 0)])], []⟩
theorem FN56 : fnsB Try.prog X56.fns := (show True from trivial)
def M56_0 : List Bool × Nat := (mkM 18 0 [0, 1, 5], 0)
def S56_0 (l0 : List Int) (x1 : Int) (i5 : Int) (T : Toks) : St :=
  mkS 18 [(0, (.v (.list (.int .i64) l0 .no))), (1, (.v (.int .i64 x1))), (5, (.v (.int .i64 i5)))] [] T
noncomputable def B56_0 : (Exit → St → Prop) → St → Prop := (awp X56.tt (callN Try.prog X56 0) (X56.md 56) 0 (X56.mk1 56) 0 (codeAt [1, 0, 1, 0, 0] (bd Try.f56)))
noncomputable def K56_0 (R : V → Prop) : Exit → St → Prop := seqK ((awp X56.tt (callN Try.prog X56 0) (X56.md 56) 0 (X56.mk1 56) 0 (codeAt [1, 1] (bd Try.f56))) (retK tt Try.f56.results.toList fun x s' => topK R x ⟨[], s'.hp, s'.T⟩)) (retK tt Try.f56.results.toList fun x s' => topK R x ⟨[], s'.hp, s'.T⟩)
noncomputable def Q56_0 (R : V → Prop) : Exit → St → Prop := (blockK 0 (K56_0 R))
theorem E56 (l0 : (List Int)) (x1 : Int) {R : V → Prop} (h : (Loops B56_0 M56_0 (Q56_0 R)
  (S56_0 l0 x1 (0 : Int) ⟨0, []⟩))) :
  fnK X56.tt (callN Try.prog X56 0) (X56.md 56) (X56.mk1 56) Try.f56 [(.v (.list (.int .i64) l0 .no)), (.v (.int .i64 x1))] ⟨[], [], ⟨0, []⟩⟩ (topK R) := Eq.mp (by kernel_rfl) h
theorem L56_0 (l0 : List Int) (x1 : Int) (i5 : Int) (T : Toks) {R : V → Prop} {k0 : St → Prop}
 (h : (((decide (i5 < ((l0).length : Int))) = true → (0 ≤ i5 ∧ i5 < ((l0).length : Int) ∧ ((((l0.getD (i5).toNat 0) == x1) = true → R (.bool true)) ∧
 (((l0.getD (i5).toNat 0) == x1) = false → k0 (S56_0 l0 x1 ((IntKind.wrap .i64 (i5 + (1 : Int)))) T))))) ∧
 ((decide (i5 < ((l0).length : Int))) = false → R (.bool false)))) :
  B56_0 (loopQ M56_0 k0 (Q56_0 R)) (S56_0 l0 x1 i5 T) := Eq.mp (by kernel_rfl) h

end Go.Proofs.Ytiomllkdfhglhaa.AB

set_option linter.unusedVariables false
set_option linter.unusedSimpArgs false
namespace Go.Proofs.Ytiomllkdfhglhaa.AB
open Go

abbrev Hd : Type := Int × (Int × (Int × Int))
abbrev cH : Cd := .pair (.int .i64) (.pair (.int .i64) (.pair (.int .i64) (.int .i64)))
abbrev DH : Hd := (0, (0, (0, 0)))

theorem idx_some {l : List Ins} {pc : Int} {n : Nat} (hlt : n < l.length) (he : (l[n]).1 = pc) (hb : ∀ i, i < n → ∀ h : i < l.length, (l[i]).1 ≠ pc) : idx l pc = n := by
  have : l.findIdx? (fun x => x.1 == pc) = some n := by
    rw [List.findIdx?_eq_some_iff_getElem]
    exact ⟨hlt, by simpa using he, fun j hj => by simpa using hb j hj (by omega)⟩
  unfold idx; rw [this]

theorem idx_none {l : List Ins} {pc : Int} (hb : ∀ i, ∀ h : i < l.length, (l[i]).1 ≠ pc) : idx l pc = -1 := by
  have : l.findIdx? (fun x => x.1 == pc) = none := by
    rw [List.findIdx?_eq_none_iff]
    intro x hx
    obtain ⟨i, hi, rfl⟩ := List.getElem_of_mem hx
    simpa using hb i hi
  unfold idx; rw [this]

theorem p44 (l : List Ins) (pc : Int) (hl : l.length < 9223372036854775807) : PC Try.prog 44 [.list cIns l .no, .int .i64 pc] (.int .i64 (idx l pc)) := by
  refine pcOf (X := X44) (d := 2) rfl FN44 (by kernel_rfl) (by decide) (E44 l pc ?_)
  refine Loops.intro (fun n : Nat => S44c1_2_0 l l.length n pc ⟨0, []⟩) (fun n => n ≤ l.length ∧ ∀ i, i < n → ∀ h : i < l.length, (l[i]).1 ≠ pc) (fun n => l.length - n) 0 rfl ⟨Nat.zero_le _, fun i hi => absurd hi (Nat.not_lt_zero _)⟩ ?_
  rintro n ⟨hn, hb⟩
  refine L44c1_2_0 l l.length n pc ⟨0, []⟩ ?_
  simp only [Bool.not_true, Bool.not_false, Bool.true_eq_false, Bool.false_eq_true, forall_const, false_implies, true_implies, and_true, true_and, eq_self, implies_true, Nat.zero_add, Int.toNat_natCast, List.take_length, decide_eq_true_eq, decide_eq_false_iff_not, beq_iff_eq, beq_eq_false_iff_ne, bne_iff_ne, bne_eq_false_iff_eq, ne_eq, Bool.not_eq_true', Bool.not_eq_false', Int.not_le, Int.not_lt, List.length_cons, List.length_nil, List.length_append, Nat.add_zero, List.drop_zero]
  refine ⟨fun h => ⟨by omega, by omega, fun h1 => ?_, fun h1 => ?_⟩, fun h => ?_⟩
  · have hlt : n < l.length := by omega
    rw [getD_lt hlt] at h1
    exact retI (idx_some hlt h1 hb).symm
  · have hlt : n < l.length := by omega
    rw [getD_lt hlt] at h1
    rw [wrap64 (by omega) (by omega)]
    refine Again.mk (n + 1) rfl ⟨by omega, fun i hi hil => ?_⟩ (by omega)
    rcases Nat.lt_or_ge i n with h' | h'
    · exact hb i h' hil
    · have : i = n := by omega
      subst this; exact h1
  · exact retI (idx_none fun i hi => hb i (by omega) hi).symm

theorem p76 (l : List Int) (x : Int) (hl : l.length < 9223372036854775807) : ∃ r : Int, PC Try.prog 76 [.list (.int .i64) l .no, .int .i64 x] (.int .i64 r) ∧ (0 ≤ r ↔ x ∈ l) := by
  by_cases hx : x ∈ l
  · refine ⟨(l.idxOf x : Nat), ?_, by simp [hx]⟩
    refine pcOf (X := X76) (d := 0) rfl trivial (by kernel_rfl) (by decide) (E76 l x ?_)
    refine Loops.intro (fun n : Nat => S76_0 l x l.length n ⟨0, []⟩) (fun n => n ≤ l.idxOf x) (fun n => l.length - n) 0 rfl (Nat.zero_le _) ?_
    intro n hn
    have hix := List.idxOf_lt_length_iff.2 hx
    refine L76_0 l x l.length n ⟨0, []⟩ ?_
    simp only [Bool.not_true, Bool.not_false, Bool.true_eq_false, Bool.false_eq_true, forall_const, false_implies, true_implies, and_true, true_and, eq_self, implies_true, Nat.zero_add, Int.toNat_natCast, List.take_length, decide_eq_true_eq, decide_eq_false_iff_not, beq_iff_eq, beq_eq_false_iff_ne, bne_iff_ne, bne_eq_false_iff_eq, ne_eq, Bool.not_eq_true', Bool.not_eq_false', Int.not_le, Int.not_lt, List.length_cons, List.length_nil, List.length_append, Nat.add_zero, List.drop_zero]
    refine ⟨fun h => ⟨by omega, by omega, fun h1 => ?_, fun h1 => ?_⟩, fun h => ?_⟩
    · have hlt : n < l.length := by omega
      rw [getD_lt hlt] at h1
      refine retI ?_
      have : ¬ n < l.idxOf x := fun hlt' => by have := List.not_of_lt_findIdx hlt'; simp [h1] at this
      omega
    · have hlt : n < l.length := by omega
      rw [getD_lt hlt] at h1
      rw [wrap64 (by omega) (by omega)]
      refine Again.mk (n + 1) rfl ?_ (by omega)
      rcases Nat.lt_or_ge n (l.idxOf x) with h' | h'
      · exact h'
      · have : n = l.idxOf x := by omega
        subst this
        exact absurd (List.getElem_idxOf hix).symm h1
    · omega
  · refine ⟨-1, ?_, by simp [hx]⟩
    refine pcOf (X := X76) (d := 0) rfl trivial (by kernel_rfl) (by decide) (E76 l x ?_)
    refine Loops.intro (fun n : Nat => S76_0 l x l.length n ⟨0, []⟩) (fun n => n ≤ l.length) (fun n => l.length - n) 0 rfl (Nat.zero_le _) ?_
    intro n hn
    refine L76_0 l x l.length n ⟨0, []⟩ ?_
    simp only [Bool.not_true, Bool.not_false, Bool.true_eq_false, Bool.false_eq_true, forall_const, false_implies, true_implies, and_true, true_and, eq_self, implies_true, Nat.zero_add, Int.toNat_natCast, List.take_length, decide_eq_true_eq, decide_eq_false_iff_not, beq_iff_eq, beq_eq_false_iff_ne, bne_iff_ne, bne_eq_false_iff_eq, ne_eq, Bool.not_eq_true', Bool.not_eq_false', Int.not_le, Int.not_lt, List.length_cons, List.length_nil, List.length_append, Nat.add_zero, List.drop_zero]
    refine ⟨fun h => ⟨by omega, by omega, fun h1 => ?_, fun h1 => ?_⟩, fun h => ?_⟩
    · have hlt : n < l.length := by omega
      rw [getD_lt hlt] at h1
      exact absurd (h1 ▸ List.getElem_mem hlt) hx
    · have hlt : n < l.length := by omega
      rw [wrap64 (by omega) (by omega)]
      exact Again.mk (n + 1) rfl hlt (by omega)
    · exact retI rfl

theorem p54 (l : List Int) (x : Int) (hl : l.length < 9223372036854775807) : PC Try.prog 54 [.list (.int .i64) l .no, .int .i64 x] (.bool (l.contains x)) := by
  obtain ⟨r, h1, h2⟩ := p76 l x hl
  refine pcOf (X := X54) (d := 0) rfl trivial (by kernel_rfl) (by decide) (E54 l x ⟨r, h1, retB ?_⟩)
  rw [Bool.eq_iff_iff]
  simpa using h2

theorem p56 (l : List Int) (x : Int) (hl : l.length < 9223372036854775807) : PC Try.prog 56 [.list (.int .i64) l .no, .int .i64 x] (.bool (l.contains x)) := by
  refine pcOf (X := X56) (d := 0) rfl trivial (by kernel_rfl) (by decide) (E56 l x ?_)
  refine Loops.intro (fun n : Nat => S56_0 l x n ⟨0, []⟩) (fun n => n ≤ l.length ∧ (l.take n).contains x = false) (fun n => l.length - n) 0 rfl ⟨Nat.zero_le _, by simp⟩ ?_
  rintro n ⟨hn, hb⟩
  refine L56_0 l x n ⟨0, []⟩ ?_
  simp only [Bool.not_true, Bool.not_false, Bool.true_eq_false, Bool.false_eq_true, forall_const, false_implies, true_implies, and_true, true_and, eq_self, implies_true, Nat.zero_add, Int.toNat_natCast, List.take_length, decide_eq_true_eq, decide_eq_false_iff_not, beq_iff_eq, beq_eq_false_iff_ne, bne_iff_ne, bne_eq_false_iff_eq, ne_eq, Bool.not_eq_true', Bool.not_eq_false', Int.not_le, Int.not_lt, List.length_cons, List.length_nil, List.length_append, Nat.add_zero, List.drop_zero]
  refine ⟨fun h => ⟨by omega, by omega, fun h1 => ?_, fun h1 => ?_⟩, fun h => ?_⟩
  · have hlt : n < l.length := by omega
    rw [getD_lt hlt] at h1
    exact retB (by symm; simp; exact h1 ▸ List.getElem_mem hlt)
  · have hlt : n < l.length := by omega
    rw [getD_lt hlt] at h1
    rw [wrap64 (by omega) (by omega)]
    refine Again.mk (n + 1) rfl ⟨by omega, ?_⟩ (by omega)
    rw [List.take_succ_eq_append_getElem hlt]
    simp only [List.contains_eq_mem, List.mem_append, List.mem_singleton, decide_eq_false_iff_not] at hb ⊢
    rintro (h' | h')
    · exact hb h'
    · exact h1 h'.symm
  · have : n = l.length := by omega
    subst this
    rw [List.take_length] at hb
    exact retB hb.symm

end Go.Proofs.Ytiomllkdfhglhaa.AB

set_option linter.unusedVariables false
set_option linter.unusedSimpArgs false
namespace Go.Proofs.Ytiomllkdfhglhaa.AB
open Go

/-- places by instructions -/
def pl (l : List Ins) : List (Int × Int) := l.mapIdx fun i x => (x.1, (i : Int))

theorem pl_take {l : List Ins} {n : Nat} (h : n < l.length) : pl (l.take (n + 1)) = pl (l.take n) ++ [((l[n]).1, (n : Int))] := by
  unfold pl
  rw [List.take_succ_eq_append_getElem h, List.mapIdx_append]
  simp [Nat.min_eq_left (Nat.le_of_lt h)]

theorem mfind_none {α β : Type} {eq : α → Bool} {l : List (α × β)} (h : ∀ p ∈ l, eq p.1 = false) : mfind eq l = none := by
  induction l with
  | nil => rfl
  | cons p l ih =>
    obtain ⟨a, b⟩ := p
    unfold mfind
    have h1 : eq a = false := h _ (List.mem_cons_self ..)
    simp only [h1]
    exact ih fun q hq => h q (List.mem_cons_of_mem _ hq)

theorem mset_new {α β : Type} {eq : α → Bool} {l : List (α × β)} {k : α} {b : β} (h : ∀ p ∈ l, eq p.1 = false) : mset eq k b l = l ++ [(k, b)] := by
  induction l with
  | nil => rfl
  | cons p l ih =>
    obtain ⟨a, b'⟩ := p
    unfold mset
    have h1 : eq a = false := h _ (List.mem_cons_self ..)
    simp only [h1]
    rw [ih fun q hq => h q (List.mem_cons_of_mem _ hq)]
    rfl

theorem mfind_map {α β γ : Type} {eq : α → Bool} (f : β → γ) (l : List (α × β)) : mfind eq (l.map fun p => (p.1, f p.2)) = (mfind eq l).map f := by
  induction l with
  | nil => rfl
  | cons p l ih =>
    obtain ⟨a, b⟩ := p
    simp only [List.map_cons]
    unfold mfind
    cases eq a with
    | true => rfl
    | false => exact ih

/-- the table of places, as memory has it -/
abbrev plT (l : List Ins) : List (Int × Int × Tok) := (pl l).map fun p => (p.1, (p.2, Tok.no))

theorem keq_int (a b : Int) : Cd.keq (.int .i64) a b = decide (a = b) := rfl

theorem pl_fst {l : List Ins} {p : Int × Int} (h : p ∈ pl l) : ∃ x ∈ l, p.1 = x.1 := by
  unfold pl at h
  rw [List.mem_mapIdx] at h
  obtain ⟨i, hi, rfl⟩ := h
  exact ⟨_, List.getElem_mem hi, rfl⟩

theorem p42 (l : List Ins) (hl : l.length < 9223372036854775807) (hd : l.Pairwise (fun a b => a.1 < b.1)) : PC Try.prog 42 [.list cIns l .no] (.fmap (.int .i64) (.int .i64) (pl l)) := by
  refine pcOf (X := X42) (d := 0) rfl trivial (by kernel_rfl) (by decide) (E42 l ?_)
  refine Loops.intro (fun n : Nat => S42_0 l l.length n (plT (l.take n)) ⟨0, []⟩) (fun n => n ≤ l.length) (fun n => l.length - n) 0 rfl (Nat.zero_le _) ?_
  intro n hn
  have hn : n ≤ l.length := hn
  refine L42_0 l l.length n (plT (l.take n)) ⟨0, []⟩ ?_
  simp only [Bool.not_true, Bool.not_false, Bool.true_eq_false, Bool.false_eq_true, forall_const, false_implies, true_implies, and_true, true_and, eq_self, implies_true, Nat.zero_add, Int.toNat_natCast, List.take_length, decide_eq_true_eq, decide_eq_false_iff_not, beq_iff_eq, beq_eq_false_iff_ne, bne_iff_ne, bne_eq_false_iff_eq, ne_eq, Bool.not_eq_true', Bool.not_eq_false', Int.not_le, Int.not_lt, List.length_cons, List.length_nil, List.length_append, Nat.add_zero, List.drop_zero]
  refine ⟨fun h => ?_, fun h => ?_⟩
  · have hlt : n < l.length := by omega
    have hnew : ∀ p ∈ plT (l.take n), Cd.keq (.int .i64) (l[n]).1 p.1 = false := by
      intro p hp
      rw [List.mem_map] at hp
      obtain ⟨q, hq, rfl⟩ := hp
      obtain ⟨x, hx, he⟩ := pl_fst hq
      obtain ⟨i, hi, rfl⟩ := List.getElem_of_mem hx
      rw [List.length_take] at hi
      rw [keq_int, decide_eq_false_iff_not, he, List.getElem_take]
      have := List.pairwise_iff_getElem.1 hd i n (by omega) hlt (by omega)
      omega
    simp only [getD_lt hlt]
    rw [mfind_none hnew, mset_new hnew, wrap64 (by omega) (by omega)]
    refine ⟨by omega, by omega, fun a t h => (by cases h), fun _ => ?_⟩
    refine Again.mk (n + 1) ?_ (show n + 1 ≤ l.length by omega) (by omega)
    unfold plT
    rw [pl_take hlt, List.map_append]
    rfl
  · have : n = l.length := by omega
    subst this
    rw [List.take_length]
    refine ⟨?_, rfl⟩
    unfold plT
    rw [List.map_map]
    simp only [Function.comp_def, V.norm, V.norm1, V.norm0, List.map_id']

theorem mfind_pl (l : List Ins) (pc : Int) : mfind (Cd.keq (.int .i64) pc) (pl l) = if isPc l pc then some (idx l pc) else none := by
  have key : ∀ (l : List Ins) (k : Nat), mfind (Cd.keq (.int .i64) pc) (l.mapIdx fun i x => (x.1, ((i + k : Nat) : Int))) = if isPc l pc then some (idx l pc + k) else none := by
    intro l
    induction l with
    | nil => intro k; rfl
    | cons x l ih =>
      intro k
      rw [List.mapIdx_cons]
      unfold mfind
      rw [keq_int]
      by_cases h : pc = x.1
      · have h1 : isPc (x :: l) pc = true := by simp [isPc, h]
        have h2 : idx (x :: l) pc = 0 := by simp [idx, List.findIdx?_cons, h]
        simp [h, h1, h2]
        simp [← h, h1, h2]
      · have h1 : isPc (x :: l) pc = isPc l pc := by
          have : ¬ x.1 = pc := fun e => h e.symm
          simp [isPc, this]
        simp only [h, decide_false, h1]
        have h3 : (fun i (x : Ins) => (x.1, ((i + 1 + k : Nat) : Int))) = fun i x => (x.1, ((i + (k + 1) : Nat) : Int)) := by
          funext i x; congr 2; omega
        rw [h3, ih (k + 1)]
        by_cases hp : isPc l pc = true
        · rw [if_pos hp, if_pos hp]
          congr 1
          unfold isPc at hp
          have : ∃ i, l.findIdx? (fun x => x.1 == pc) = some i := by
            cases hf : l.findIdx? (fun x => x.1 == pc) with
            | some i => exact ⟨i, rfl⟩
            | none =>
              rw [List.findIdx?_eq_none_iff] at hf
              rw [List.any_eq_true] at hp
              obtain ⟨y, hy, he⟩ := hp
              rw [hf y hy] at he
              cases he
          obtain ⟨i, hi⟩ := this
          have hne : ¬ x.1 = pc := fun e => h e.symm
          simp [idx, List.findIdx?_cons, hne, hi]
          omega
        · rw [if_neg hp, if_neg hp]
  have := key l 0
  simpa [pl] using this

theorem idx_neg {l : List Ins} {pc : Int} (h : isPc l pc = false) : idx l pc = -1 := by
  refine idx_none fun i hi he => ?_
  unfold isPc at h
  rw [List.any_eq_false] at h
  exact h _ (List.getElem_mem hi) (by simpa using he)

theorem idx_pos {l : List Ins} {pc : Int} (h : isPc l pc = true) : ∃ i, ∃ hi : i < l.length, idx l pc = i ∧ (l[i]).1 = pc := by
  unfold isPc at h
  cases hf : l.findIdx? (fun x => x.1 == pc) with
  | some i =>
    obtain ⟨hi, he, _⟩ := List.findIdx?_eq_some_iff_getElem.1 hf
    exact ⟨i, hi, by unfold idx; rw [hf], by simpa using he⟩
  | none =>
    rw [List.findIdx?_eq_none_iff] at hf
    rw [List.any_eq_true] at h
    obtain ⟨y, hy, he⟩ := h
    rw [hf y hy] at he
    cases he

def startsI (l : List Ins) (hs : List Hd) : List Int := hs.map fun h => idx l h.2.2.1

theorem p15 (l : List Ins) (hs : List Hd) (hl : l.length < 9223372036854775807) (hh : hs.length ≤ 1000000) : PC Try.prog 15 [.list cIns l .no, .list cH hs .no] (.list (.int .i64) (startsI l hs) .no) := by
  have hroom : room = 140737488355328 := rfl
  refine pcOf (X := X15) (d := 0) rfl trivial (by kernel_rfl) (by decide) (E15 l hs ?_)
  refine Loops.intro (fun a : Nat × Tok × Toks => S15_0 l (startsI l (hs.take a.1)) a.2.1 hs hs.length a.1 a.2.2) (fun a => a.1 ≤ hs.length ∧ a.2.1.fresh a.2.2) (fun a => hs.length - a.1) (0, .exact, ⟨0, []⟩) rfl ⟨Nat.zero_le _, trivial⟩ ?_
  rintro ⟨n, tk, T⟩ ⟨hn, hT⟩
  simp only at hn hT
  refine L15_0 l (startsI l (hs.take n)) tk hs hs.length n T ?_
  simp only [Bool.not_true, Bool.not_false, Bool.true_eq_false, Bool.false_eq_true, forall_const, false_implies, true_implies, and_true, true_and, eq_self, implies_true, Nat.zero_add, Int.toNat_natCast, List.take_length, decide_eq_true_eq, decide_eq_false_iff_not, beq_iff_eq, beq_eq_false_iff_ne, bne_iff_ne, bne_eq_false_iff_eq, ne_eq, Bool.not_eq_true', Bool.not_eq_false', Int.not_le, Int.not_lt, List.length_cons, List.length_nil, List.length_append, Nat.add_zero, List.drop_zero]
  refine ⟨fun h => ?_, fun h => ?_⟩
  · have hlt : n < hs.length := by omega
    simp only [getD_lt hlt]
    rw [wrap64 (by omega) (by omega)]
    refine ⟨by omega, by omega, _, p44 l _ hl, hT.own, by simp [startsI]; omega, Again.mk (n + 1, .tk T.n, ⟨T.n + 1, T.n :: tk.drop T.l⟩) ?_ ⟨by simp only; omega, Tok.fresh_new _ _⟩ (by simp only; omega)⟩
    simp only [startsI]
    rw [List.take_succ_eq_append_getElem hlt, List.map_append]
    rfl
  · have : n = hs.length := by omega
    subst this
    rw [List.take_length]
    exact ⟨rfl, rfl⟩

theorem p30 (l : List Ins) (hs : List Hd) (hl : l.length < 9223372036854775807) (hh : hs.length ≤ 1000000) : PC Try.prog 30 [.list cIns l .no, .list cH hs .no] (.list (.int .i64) (startsI l hs) .no) := by
  have hroom : room = 140737488355328 := rfl
  refine pcOf (X := X30) (d := 0) rfl trivial (by kernel_rfl) (by decide) (E30 l hs ?_)
  refine Loops.intro (fun a : Nat × Tok × Toks => S30_0 l hs (startsI l (hs.take a.1)) a.2.1 a.1 a.2.2) (fun a => a.1 ≤ hs.length ∧ a.2.1.fresh a.2.2) (fun a => hs.length - a.1) (0, .exact, ⟨0, []⟩) rfl ⟨Nat.zero_le _, trivial⟩ ?_
  rintro ⟨n, tk, T⟩ ⟨hn, hT⟩
  simp only at hn hT
  refine L30_0 l hs (startsI l (hs.take n)) tk n T ?_
  simp only [Bool.not_true, Bool.not_false, Bool.true_eq_false, Bool.false_eq_true, forall_const, false_implies, true_implies, and_true, true_and, eq_self, implies_true, Nat.zero_add, Int.toNat_natCast, List.take_length, decide_eq_true_eq, decide_eq_false_iff_not, beq_iff_eq, beq_eq_false_iff_ne, bne_iff_ne, bne_eq_false_iff_eq, ne_eq, Bool.not_eq_true', Bool.not_eq_false', Int.not_le, Int.not_lt, List.length_cons, List.length_nil, List.length_append, Nat.add_zero, List.drop_zero]
  refine ⟨fun h => ?_, fun h => ?_⟩
  · have hlt : n < hs.length := by omega
    simp only [getD_lt hlt]
    rw [wrap64 (by omega) (by omega)]
    refine ⟨by omega, by omega, _, p55 l _ hl, hT.own, by simp [startsI]; omega, Again.mk (n + 1, .tk T.n, ⟨T.n + 1, T.n :: tk.drop T.l⟩) ?_ ⟨by simp only; omega, Tok.fresh_new _ _⟩ (by simp only; omega)⟩
    simp only [startsI]
    rw [List.take_succ_eq_append_getElem hlt, List.map_append]
    rfl
  · have : n = hs.length := by omega
    subst this
    rw [List.take_length]
    exact ⟨rfl, rfl⟩

end Go.Proofs.Ytiomllkdfhglhaa.AB

set_option linter.unusedVariables false
set_option linter.unusedSimpArgs false
namespace Go.Proofs.Ytiomllkdfhglhaa.AB
open Go

/-! crucible/flow.Cover -/
noncomputable def X14 : Cx := ⟨tt, [(42, [.mp (.int .i64) (.int .i64)])], [(14, [(6, 3, .inl), (6, 9, .inl), (6, 21, .inl)])], [(14, [(0, mkM 96 0 [0, 1, 2, 9, 20, 21, 22], 1), (2, mkM 96 0 [2, 12, 55, 56, 57], 2), (4, mkM 96 0 [2, 12, 13, 14, 55, 56, 57, 63, 64], 3)])], [(43, Try.f43)]⟩
theorem FN14 : fnsB Try.prog X14.fns := (show (Try.prog.funcs[43]? = some Try.f43 ∧ Try.f43.name ≠ "runtime.NumGoroutine" ∧ True) from ⟨by kernel_rfl, by decide, trivial⟩)
def M14_0 : List Bool × Nat := (mkM 96 0 [0, 1, 2, 9, 20, 21, 22], 1)
def S14_0 (l0 : List (Int × (Int × (Int × ((List Int) × (List Int)))))) (size1 : Int) (handlers2 : List (Int × (Int × (Int × Int)))) (t20 : List (Int × (Int × (Int × Int)))) (t21 : Int) (t22 : Int) (hq0 : List (Int × Int)) (T : Toks) : St :=
  mkS 96 [(0, (.v (.list (.pair (.int .i64) (.pair (.int .i64) (.pair (.int .i64) (.pair (.slice (.int .i64)) (.slice (.int .i64)))))) l0 .no))), (1, (.v (.int .i64 size1))), (2, (.v (.list (.pair (.int .i64) (.pair (.int .i64) (.pair (.int .i64) (.int .i64)))) handlers2 .no))), (9, (.clo 43 [(.ptr 0 0 0 0)])), (20, (.v (.list (.pair (.int .i64) (.pair (.int .i64) (.pair (.int .i64) (.int .i64)))) t20 .no))), (21, (.v (.int .i64 t21))), (22, (.v (.int .i64 t22)))] [(some (.box (.v (.fmap (.int .i64) (.int .i64) hq0))))] T
noncomputable def B14_0 : (Exit → St → Prop) → St → Prop := (awp X14.tt (callN Try.prog X14 1) (X14.md 14) 0 (X14.mk1 14) 0 (codeAt [1, 1, 1, 0, 1, 0, 0] (bd Try.f14)))
def M14_2 : List Bool × Nat := (mkM 96 0 [2, 12, 55, 56, 57], 2)
def S14_2 (handlers2 : List (Int × (Int × (Int × Int)))) (out12n : Nat) (t55 : List (Int × (Int × (Int × ((List Int) × (List Int)))))) (t56 : Int) (t57 : Int) (hq0 : List (Int × Int)) (hq1 : List (List Int)) (hq1s : Nat → Tok) (T : Toks) : St :=
  mkS 96 [(2, (.v (.list (.pair (.int .i64) (.pair (.int .i64) (.pair (.int .i64) (.int .i64)))) handlers2 .no))), (12, (.arr 1 0 0 out12n)), (55, (.v (.list (.pair (.int .i64) (.pair (.int .i64) (.pair (.int .i64) (.pair (.slice (.int .i64)) (.slice (.int .i64)))))) t55 .no))), (56, (.v (.int .i64 t56))), (57, (.v (.int .i64 t57)))] [(some (.box (.v (.fmap (.int .i64) (.int .i64) hq0)))), (some (.arr 0 (.slice (.int .i64)) hq1 hq1s))] T
noncomputable def B14_2 : (Exit → St → Prop) → St → Prop := (awp X14.tt (callN Try.prog X14 1) (X14.md 14) 0 (X14.mk1 14) 2 (codeAt [1, 1, 1, 1, 1, 0, 1, 0, 0] (bd Try.f14)))
def M14_4 : List Bool × Nat := (mkM 96 0 [2, 12, 13, 14, 55, 56, 57, 63, 64], 3)
def S14_4 (handlers2 : List (Int × (Int × (Int × Int)))) (out12n : Nat) (i13 : Int) (t55 : List (Int × (Int × (Int × ((List Int) × (List Int)))))) (t56 : Int) (t57 : Int) (t63 : Int) (t64 : Int) (hq0 : List (Int × Int)) (hq1 : List (List Int)) (hq1s : Nat → Tok) (hq2_0 : Int) (hq2_1 : Int) (hq2_2 : Int) (hq2_3 : List Int) (hq2_3k : Tok) (hq2_4 : List Int) (hq2_4k : Tok) (T : Toks) : St :=
  mkS 96 [(2, (.v (.list (.pair (.int .i64) (.pair (.int .i64) (.pair (.int .i64) (.int .i64)))) handlers2 .no))), (12, (.arr 1 0 0 out12n)), (13, (.v (.int .i64 i13))), (14, (.ptr 2 0 0 0)), (55, (.v (.list (.pair (.int .i64) (.pair (.int .i64) (.pair (.int .i64) (.pair (.slice (.int .i64)) (.slice (.int .i64)))))) t55 .no))), (56, (.v (.int .i64 t56))), (57, (.v (.int .i64 t57))), (63, (.v (.int .i64 t63))), (64, (.v (.int .i64 t64)))] [(some (.box (.v (.fmap (.int .i64) (.int .i64) hq0)))), (some (.arr 0 (.slice (.int .i64)) hq1 hq1s)), (some (.box (.v (.agg [(.int .i64 hq2_0), (.int .i64 hq2_1), (.int .i64 hq2_2), (.list (.int .i64) hq2_3 hq2_3k), (.list (.int .i64) hq2_4 hq2_4k)]))))] T
noncomputable def B14_4 : (Exit → St → Prop) → St → Prop := (awp X14.tt (callN Try.prog X14 1) (X14.md 14) 0 (X14.mk1 14) 4 (codeAt [1, 1, 1, 1, 1, 0, 1, 0, 0, 1, 1, 0, 0, 1, 1, 0, 0] (bd Try.f14)))
noncomputable def K14_0 (R : V → Prop) : Exit → St → Prop := seqK ((awp X14.tt (callN Try.prog X14 1) (X14.md 14) 0 (X14.mk1 14) 0 (codeAt [1, 1, 1, 1] (bd Try.f14))) (retK tt Try.f14.results.toList fun x s' => topK R x ⟨[], s'.hp, s'.T⟩)) (retK tt Try.f14.results.toList fun x s' => topK R x ⟨[], s'.hp, s'.T⟩)
noncomputable def Q14_0 (R : V → Prop) : Exit → St → Prop := (blockK 0 (K14_0 R))
noncomputable def K14_1 (R : V → Prop) : Exit → St → Prop := seqK ((awp X14.tt (callN Try.prog X14 1) (X14.md 14) 0 (X14.mk1 14) 0 (codeAt [1, 1, 1, 1, 1, 1] (bd Try.f14))) (retK tt Try.f14.results.toList fun x s' => topK R x ⟨[], s'.hp, s'.T⟩)) (retK tt Try.f14.results.toList fun x s' => topK R x ⟨[], s'.hp, s'.T⟩)
noncomputable def Q14_2 (R : V → Prop) : Exit → St → Prop := (blockK 2 (K14_1 R))
noncomputable def K14_2 (R : V → Prop) (k2 : St → Prop) : Exit → St → Prop := seqK ((awp X14.tt (callN Try.prog X14 1) (X14.md 14) 0 (X14.mk1 14) 2 (codeAt [1, 1, 1, 1, 1, 0, 1, 0, 0, 1, 1, 1] (bd Try.f14))) (loopQ M14_2 k2 (blockK 2 (K14_1 R)))) (loopQ M14_2 k2 (blockK 2 (K14_1 R)))
noncomputable def Q14_4 (R : V → Prop) (k2 : St → Prop) : Exit → St → Prop := (blockK 4 (blockK 3 (K14_2 R k2)))
theorem E14 (l0 : (List (Int × (Int × (Int × ((List Int) × (List Int))))))) (size1 : Int) (handlers2 : (List (Int × (Int × (Int × Int))))) {R : V → Prop} (h : (∃ p1 : List (Int × Int), PC Try.prog 42 [(.list (.pair (.int .i64) (.pair (.int .i64) (.pair (.int .i64) (.pair (.slice (.int .i64)) (.slice (.int .i64)))))) l0 .no)] ((.fmap (.int .i64) (.int .i64) p1)) ∧ (Loops B14_0 M14_0 (Q14_0 R)
  (S14_0 l0 size1 handlers2 handlers2 (((handlers2).length : Int)) (0 : Int) p1 ⟨0, []⟩)))) :
  fnK X14.tt (callN Try.prog X14 1) (X14.md 14) (X14.mk1 14) Try.f14 [(.v (.list (.pair (.int .i64) (.pair (.int .i64) (.pair (.int .i64) (.pair (.slice (.int .i64)) (.slice (.int .i64)))))) l0 .no)), (.v (.int .i64 size1)), (.v (.list (.pair (.int .i64) (.pair (.int .i64) (.pair (.int .i64) (.int .i64)))) handlers2 .no))] ⟨[], [], ⟨0, []⟩⟩ (topK R) := Eq.mp (by kernel_rfl) h
theorem L14_0 (l0 : List (Int × (Int × (Int × ((List Int) × (List Int)))))) (size1 : Int) (handlers2 : List (Int × (Int × (Int × Int)))) (t20 : List (Int × (Int × (Int × Int)))) (t21 : Int) (t22 : Int) (hq0 : List (Int × Int)) (T : Toks) {R : V → Prop} {k0 : St → Prop}
 (h : (((decide (t22 < t21)) = true → (0 ≤ t22 ∧ t22 < ((t20).length : Int) ∧ ((∀ (a2 : Int) (t3 : Tok), ((mfind (Cd.keq (.int .i64) ((t20.getD (t22).toNat (0, (0, (0, 0)))).1)) hq0).map fun b => (b, Tok.no)) = some (a2, t3) → (((!true) = true → R (.tup [(.list (.slice (.int .i64)) (([] : List (List Int))) .no), (.int .i64 (12 : Int))])) ∧ ((!true) = false → ((∀ (a4 : Int) (t5 : Tok), ((mfind (Cd.keq (.int .i64) ((t20.getD (t22).toNat (0, (0, (0, 0)))).2.2.1)) hq0).map fun b => (b, Tok.no)) = some (a4, t5) → (((!true) = true → R (.tup [(.list (.slice (.int .i64)) (([] : List (List Int))) .no), (.int .i64 (12 : Int))])) ∧ ((!true) = false → ((((t20.getD (t22).toNat (0, (0, (0, 0)))).2.1 != size1) = true → ((∀ (a6 : Int) (t7 : Tok), ((mfind (Cd.keq (.int .i64) ((t20.getD (t22).toNat (0, (0, (0, 0)))).2.1)) hq0).map fun b => (b, Tok.no)) = some (a6, t7) → (((!true) = true → R (.tup [(.list (.slice (.int .i64)) (([] : List (List Int))) .no), (.int .i64 (12 : Int))])) ∧
 ((!true) = false → k0 (S14_0 l0 size1 handlers2 t20 t21 ((IntKind.wrap .i64 (t22 + (1 : Int)))) hq0 T)))) ∧ (((mfind (Cd.keq (.int .i64) ((t20.getD (t22).toNat (0, (0, (0, 0)))).2.1)) hq0).map fun b => (b, Tok.no)) = none → (((!false) = true → R (.tup [(.list (.slice (.int .i64)) (([] : List (List Int))) .no), (.int .i64 (12 : Int))])) ∧
 ((!false) = false → k0 (S14_0 l0 size1 handlers2 t20 t21 ((IntKind.wrap .i64 (t22 + (1 : Int)))) hq0 T)))))) ∧ (((t20.getD (t22).toNat (0, (0, (0, 0)))).2.1 != size1) = false → k0 (S14_0 l0 size1 handlers2 t20 t21 ((IntKind.wrap .i64 (t22 + (1 : Int)))) hq0 T)))))) ∧ (((mfind (Cd.keq (.int .i64) ((t20.getD (t22).toNat (0, (0, (0, 0)))).2.2.1)) hq0).map fun b => (b, Tok.no)) = none → (((!false) = true → R (.tup [(.list (.slice (.int .i64)) (([] : List (List Int))) .no), (.int .i64 (12 : Int))])) ∧ ((!false) = false → ((((t20.getD (t22).toNat (0, (0, (0, 0)))).2.1 != size1) = true → ((∀ (a8 : Int) (t9 : Tok), ((mfind (Cd.keq (.int .i64) ((t20.getD (t22).toNat (0, (0, (0, 0)))).2.1)) hq0).map fun b => (b, Tok.no)) = some (a8, t9) → (((!true) = true → R (.tup [(.list (.slice (.int .i64)) (([] : List (List Int))) .no), (.int .i64 (12 : Int))])) ∧
 ((!true) = false → k0 (S14_0 l0 size1 handlers2 t20 t21 ((IntKind.wrap .i64 (t22 + (1 : Int)))) hq0 T)))) ∧ (((mfind (Cd.keq (.int .i64) ((t20.getD (t22).toNat (0, (0, (0, 0)))).2.1)) hq0).map fun b => (b, Tok.no)) = none → (((!false) = true → R (.tup [(.list (.slice (.int .i64)) (([] : List (List Int))) .no), (.int .i64 (12 : Int))])) ∧
 ((!false) = false → k0 (S14_0 l0 size1 handlers2 t20 t21 ((IntKind.wrap .i64 (t22 + (1 : Int)))) hq0 T)))))) ∧ (((t20.getD (t22).toNat (0, (0, (0, 0)))).2.1 != size1) = false → k0 (S14_0 l0 size1 handlers2 t20 t21 ((IntKind.wrap .i64 (t22 + (1 : Int)))) hq0 T)))))))))) ∧ (((mfind (Cd.keq (.int .i64) ((t20.getD (t22).toNat (0, (0, (0, 0)))).1)) hq0).map fun b => (b, Tok.no)) = none → (((!false) = true → R (.tup [(.list (.slice (.int .i64)) (([] : List (List Int))) .no), (.int .i64 (12 : Int))])) ∧ ((!false) = false → ((∀ (a10 : Int) (t11 : Tok), ((mfind (Cd.keq (.int .i64) ((t20.getD (t22).toNat (0, (0, (0, 0)))).2.2.1)) hq0).map fun b => (b, Tok.no)) = some (a10, t11) → (((!true) = true → R (.tup [(.list (.slice (.int .i64)) (([] : List (List Int))) .no), (.int .i64 (12 : Int))])) ∧ ((!true) = false → ((((t20.getD (t22).toNat (0, (0, (0, 0)))).2.1 != size1) = true → ((∀ (a12 : Int) (t13 : Tok), ((mfind (Cd.keq (.int .i64) ((t20.getD (t22).toNat (0, (0, (0, 0)))).2.1)) hq0).map fun b => (b, Tok.no)) = some (a12, t13) → (((!true) = true → R (.tup [(.list (.slice (.int .i64)) (([] : List (List Int))) .no), (.int .i64 (12 : Int))])) ∧
 ((!true) = false → k0 (S14_0 l0 size1 handlers2 t20 t21 ((IntKind.wrap .i64 (t22 + (1 : Int)))) hq0 T)))) ∧ (((mfind (Cd.keq (.int .i64) ((t20.getD (t22).toNat (0, (0, (0, 0)))).2.1)) hq0).map fun b => (b, Tok.no)) = none → (((!false) = true → R (.tup [(.list (.slice (.int .i64)) (([] : List (List Int))) .no), (.int .i64 (12 : Int))])) ∧
 ((!false) = false → k0 (S14_0 l0 size1 handlers2 t20 t21 ((IntKind.wrap .i64 (t22 + (1 : Int)))) hq0 T)))))) ∧ (((t20.getD (t22).toNat (0, (0, (0, 0)))).2.1 != size1) = false → k0 (S14_0 l0 size1 handlers2 t20 t21 ((IntKind.wrap .i64 (t22 + (1 : Int)))) hq0 T)))))) ∧ (((mfind (Cd.keq (.int .i64) ((t20.getD (t22).toNat (0, (0, (0, 0)))).2.2.1)) hq0).map fun b => (b, Tok.no)) = none → (((!false) = true → R (.tup [(.list (.slice (.int .i64)) (([] : List (List Int))) .no), (.int .i64 (12 : Int))])) ∧ ((!false) = false → ((((t20.getD (t22).toNat (0, (0, (0, 0)))).2.1 != size1) = true → ((∀ (a14 : Int) (t15 : Tok), ((mfind (Cd.keq (.int .i64) ((t20.getD (t22).toNat (0, (0, (0, 0)))).2.1)) hq0).map fun b => (b, Tok.no)) = some (a14, t15) → (((!true) = true → R (.tup [(.list (.slice (.int .i64)) (([] : List (List Int))) .no), (.int .i64 (12 : Int))])) ∧
 ((!true) = false → k0 (S14_0 l0 size1 handlers2 t20 t21 ((IntKind.wrap .i64 (t22 + (1 : Int)))) hq0 T)))) ∧ (((mfind (Cd.keq (.int .i64) ((t20.getD (t22).toNat (0, (0, (0, 0)))).2.1)) hq0).map fun b => (b, Tok.no)) = none → (((!false) = true → R (.tup [(.list (.slice (.int .i64)) (([] : List (List Int))) .no), (.int .i64 (12 : Int))])) ∧
 ((!false) = false → k0 (S14_0 l0 size1 handlers2 t20 t21 ((IntKind.wrap .i64 (t22 + (1 : Int)))) hq0 T)))))) ∧ (((t20.getD (t22).toNat (0, (0, (0, 0)))).2.1 != size1) = false → k0 (S14_0 l0 size1 handlers2 t20 t21 ((IntKind.wrap .i64 (t22 + (1 : Int)))) hq0 T))))))))))))) ∧
 ((decide (t22 < t21)) = false → (0 ≤ ((l0).length : Int) ∧ ((l0).length : Int) ≤ ((l0).length : Int) ∧ ((l0).length : Int) * (24 : Int) ≤ (room : Int) ∧ ((l0).length : Int) ≤ 9223372036854775807 ∧ (Loops B14_2 M14_2 (Q14_2 R)
  (S14_2 handlers2 ((((l0).length : Int)).toNat) l0 (((l0).length : Int)) (0 : Int) hq0 ((List.replicate (((l0).length : Int)).toNat ([] : List Int))) (fun _ => .exact) T)))))) :
  B14_0 (loopQ M14_0 k0 (Q14_0 R)) (S14_0 l0 size1 handlers2 t20 t21 t22 hq0 T) := Eq.mp (by kernel_rfl) h
theorem L14_2 (handlers2 : List (Int × (Int × (Int × Int)))) (out12n : Nat) (t55 : List (Int × (Int × (Int × ((List Int) × (List Int)))))) (t56 : Int) (t57 : Int) (hq0 : List (Int × Int)) (hq1 : List (List Int)) (hq1s : Nat → Tok) (T : Toks) {R : V → Prop} {k2 : St → Prop}
 (h : (((decide (t57 < t56)) = true → (0 ≤ t57 ∧ t57 < ((t55).length : Int) ∧ (Loops B14_4 M14_4 (Q14_4 R k2)
  (S14_4 handlers2 out12n t57 t55 t56 t57 (((handlers2).length : Int)) (0 : Int) hq0 hq1 hq1s ((t55.getD (t57).toNat (0, (0, (0, ([], []))))).1) ((t55.getD (t57).toNat (0, (0, (0, ([], []))))).2.1) ((t55.getD (t57).toNat (0, (0, (0, ([], []))))).2.2.1) ((t55.getD (t57).toNat (0, (0, (0, ([], []))))).2.2.2.1) .no ((t55.getD (t57).toNat (0, (0, (0, ([], []))))).2.2.2.2) .no T)))) ∧
 ((decide (t57 < t56)) = false → (0 = 0 ∧ 0 + out12n ≤ (hq1).length ∧ R (.tup [(.list (.slice (.int .i64)) (((hq1.drop 0).take out12n)) .no), (.int .i64 (0 : Int))]))))) :
  B14_2 (loopQ M14_2 k2 (Q14_2 R)) (S14_2 handlers2 out12n t55 t56 t57 hq0 hq1 hq1s T) := Eq.mp (by kernel_rfl) h
theorem L14_4 (handlers2 : List (Int × (Int × (Int × Int)))) (out12n : Nat) (i13 : Int) (t55 : List (Int × (Int × (Int × ((List Int) × (List Int)))))) (t56 : Int) (t57 : Int) (t63 : Int) (t64 : Int) (hq0 : List (Int × Int)) (hq1 : List (List Int)) (hq1s : Nat → Tok) (hq2_0 : Int) (hq2_1 : Int) (hq2_2 : Int) (hq2_3 : List Int) (hq2_3k : Tok) (hq2_4 : List Int) (hq2_4k : Tok) (T : Toks) {R : V → Prop} {k2 : St → Prop} {k4 : St → Prop}
 (h : (((decide (t64 < t63)) = true → (0 ≤ t64 ∧ t64 < ((handlers2).length : Int) ∧ (((decide ((handlers2.getD (t64).toNat (0, (0, (0, 0)))).1 ≤ hq2_0)) = true → (((decide (hq2_0 < (handlers2.getD (t64).toNat (0, (0, (0, 0)))).2.1)) = true → (0 = 0 ∧ 0 ≤ i13 ∧ i13 < ((out12n : Nat) : Int) ∧ (0 = 0 ∧ (0 + (i13).toNat) < (hq1).length ∧ (Tok.own ((hq1s ((0 + (i13).toNat)))) T.l ∧ (((hq1.getD ((0 + (i13).toNat)) [])).length + (([t64] : List Int)).length) * 8 ≤ room ∧ (0 = 0 ∧ 0 ≤ i13 ∧ i13 < ((out12n : Nat) : Int) ∧ (0 = 0 ∧ (0 + (i13).toNat) < (hq1).length ∧ k4 (S14_4 handlers2 out12n i13 t55 t56 t57 t63 ((IntKind.wrap .i64 (t64 + (1 : Int)))) hq0 ((hq1.set ((0 + (i13).toNat)) (((hq1.getD ((0 + (i13).toNat)) []) ++ ([t64] : List Int))))) ((fun j => if j = (0 + (i13).toNat) then (.tk T.n) else hq1s j)) hq2_0 hq2_1 hq2_2 hq2_3 hq2_3k hq2_4 hq2_4k ⟨(T.n + 1), (T.n :: Tok.drop ((hq1s ((0 + (i13).toNat)))) T.l)⟩))))))) ∧
 ((decide (hq2_0 < (handlers2.getD (t64).toNat (0, (0, (0, 0)))).2.1)) = false → k4 (S14_4 handlers2 out12n i13 t55 t56 t57 t63 ((IntKind.wrap .i64 (t64 + (1 : Int)))) hq0 hq1 hq1s hq2_0 hq2_1 hq2_2 hq2_3 hq2_3k hq2_4 hq2_4k T)))) ∧ ((decide ((handlers2.getD (t64).toNat (0, (0, (0, 0)))).1 ≤ hq2_0)) = false → k4 (S14_4 handlers2 out12n i13 t55 t56 t57 t63 ((IntKind.wrap .i64 (t64 + (1 : Int)))) hq0 hq1 hq1s hq2_0 hq2_1 hq2_2 hq2_3 hq2_3k hq2_4 hq2_4k T))))) ∧
 ((decide (t64 < t63)) = false → k2 (S14_2 handlers2 out12n t55 t56 ((IntKind.wrap .i64 (t57 + (1 : Int)))) hq0 hq1 hq1s T)))) :
  B14_4 (loopQ M14_4 k4 (Q14_4 R k2)) (S14_4 handlers2 out12n i13 t55 t56 t57 t63 t64 hq0 hq1 hq1s hq2_0 hq2_1 hq2_2 hq2_3 hq2_3k hq2_4 hq2_4k T) := Eq.mp (by kernel_rfl) h

end Go.Proofs.Ytiomllkdfhglhaa.AB

set_option linter.unusedVariables false
set_option linter.unusedSimpArgs false
namespace Go.Proofs.Ytiomllkdfhglhaa.AB
open Go

/-! crucible/crucibleref8.Cover -/
noncomputable def X28 : Cx := ⟨tt, [(55, [.cd (.int .i64)])], [], [(28, [(0, mkM 94 0 [0, 1, 2, 8], 0), (2, mkM 94 0 [0, 2, 10, 11], 0), (4, mkM 94 0 [0, 2, 10, 11, 12, 13], 0)])], []⟩
theorem FN28 : fnsB Try.prog X28.fns := (show True from trivial)
def M28_0 : List Bool × Nat := (mkM 94 0 [0, 1, 2, 8], 0)
def S28_0 (l0 : List (Int × (Int × (Int × ((List Int) × (List Int)))))) (size1 : Int) (handlers2 : List (Int × (Int × (Int × Int)))) (k8 : Int) (T : Toks) : St :=
  mkS 94 [(0, (.v (.list (.pair (.int .i64) (.pair (.int .i64) (.pair (.int .i64) (.pair (.slice (.int .i64)) (.slice (.int .i64)))))) l0 .no))), (1, (.v (.int .i64 size1))), (2, (.v (.list (.pair (.int .i64) (.pair (.int .i64) (.pair (.int .i64) (.int .i64)))) handlers2 .no))), (8, (.v (.int .i64 k8)))] [] T
noncomputable def B28_0 : (Exit → St → Prop) → St → Prop := (awp X28.tt (callN Try.prog X28 0) (X28.md 28) 0 (X28.mk1 28) 0 (codeAt [1, 0, 1, 0, 0] (bd Try.f28)))
def M28_2 : List Bool × Nat := (mkM 94 0 [0, 2, 10, 11], 0)
def S28_2 (l0 : List (Int × (Int × (Int × ((List Int) × (List Int)))))) (handlers2 : List (Int × (Int × (Int × Int)))) (out10 : List (List Int)) (out10k : Tok) (i11 : Int) (T : Toks) : St :=
  mkS 94 [(0, (.v (.list (.pair (.int .i64) (.pair (.int .i64) (.pair (.int .i64) (.pair (.slice (.int .i64)) (.slice (.int .i64)))))) l0 .no))), (2, (.v (.list (.pair (.int .i64) (.pair (.int .i64) (.pair (.int .i64) (.int .i64)))) handlers2 .no))), (10, (.v (.list (.slice (.int .i64)) out10 out10k))), (11, (.v (.int .i64 i11)))] [] T
noncomputable def B28_2 : (Exit → St → Prop) → St → Prop := (awp X28.tt (callN Try.prog X28 0) (X28.md 28) 0 (X28.mk1 28) 2 (codeAt [1, 1, 1, 0, 1, 0, 0] (bd Try.f28)))
def M28_4 : List Bool × Nat := (mkM 94 0 [0, 2, 10, 11, 12, 13], 0)
def S28_4 (l0 : List (Int × (Int × (Int × ((List Int) × (List Int)))))) (handlers2 : List (Int × (Int × (Int × Int)))) (out10 : List (List Int)) (out10k : Tok) (i11 : Int) (s12 : List Int) (s12k : Tok) (k13 : Int) (T : Toks) : St :=
  mkS 94 [(0, (.v (.list (.pair (.int .i64) (.pair (.int .i64) (.pair (.int .i64) (.pair (.slice (.int .i64)) (.slice (.int .i64)))))) l0 .no))), (2, (.v (.list (.pair (.int .i64) (.pair (.int .i64) (.pair (.int .i64) (.int .i64)))) handlers2 .no))), (10, (.v (.list (.slice (.int .i64)) out10 out10k))), (11, (.v (.int .i64 i11))), (12, (.v (.list (.int .i64) s12 s12k))), (13, (.v (.int .i64 k13)))] [] T
noncomputable def B28_4 : (Exit → St → Prop) → St → Prop := (awp X28.tt (callN Try.prog X28 0) (X28.md 28) 0 (X28.mk1 28) 4 (codeAt [1, 1, 1, 0, 1, 0, 0, 1, 0, 0, 1, 0, 1, 0, 0] (bd Try.f28)))
noncomputable def K28_0 (R : V → Prop) : Exit → St → Prop := seqK ((awp X28.tt (callN Try.prog X28 0) (X28.md 28) 0 (X28.mk1 28) 0 (codeAt [1, 1] (bd Try.f28))) (retK tt Try.f28.results.toList fun x s' => topK R x ⟨[], s'.hp, s'.T⟩)) (retK tt Try.f28.results.toList fun x s' => topK R x ⟨[], s'.hp, s'.T⟩)
noncomputable def Q28_0 (R : V → Prop) : Exit → St → Prop := (blockK 0 (K28_0 R))
noncomputable def K28_1 (R : V → Prop) : Exit → St → Prop := seqK ((awp X28.tt (callN Try.prog X28 0) (X28.md 28) 0 (X28.mk1 28) 0 (codeAt [1, 1, 1, 1] (bd Try.f28))) (retK tt Try.f28.results.toList fun x s' => topK R x ⟨[], s'.hp, s'.T⟩)) (retK tt Try.f28.results.toList fun x s' => topK R x ⟨[], s'.hp, s'.T⟩)
noncomputable def Q28_2 (R : V → Prop) : Exit → St → Prop := (blockK 2 (K28_1 R))
noncomputable def K28_2 (R : V → Prop) (k2 : St → Prop) : Exit → St → Prop := seqK ((awp X28.tt (callN Try.prog X28 0) (X28.md 28) 0 (X28.mk1 28) 2 (codeAt [1, 1, 1, 0, 1, 0, 0, 1, 1] (bd Try.f28))) (loopQ M28_2 k2 (blockK 2 (K28_1 R)))) (loopQ M28_2 k2 (blockK 2 (K28_1 R)))
noncomputable def K28_3 (R : V → Prop) (k2 : St → Prop) : Exit → St → Prop := seqK ((awp X28.tt (callN Try.prog X28 0) (X28.md 28) 0 (X28.mk1 28) 3 (codeAt [1, 1, 1, 0, 1, 0, 0, 1, 0, 0, 1, 1] (bd Try.f28))) (blockK 3 (K28_2 R k2))) (blockK 3 (K28_2 R k2))
noncomputable def Q28_4 (R : V → Prop) (k2 : St → Prop) : Exit → St → Prop := (blockK 4 (K28_3 R k2))
theorem E28 (l0 : (List (Int × (Int × (Int × ((List Int) × (List Int))))))) (size1 : Int) (handlers2 : (List (Int × (Int × (Int × Int))))) {R : V → Prop} (h : (Loops B28_0 M28_0 (Q28_0 R)
  (S28_0 l0 size1 handlers2 (0 : Int) ⟨0, []⟩))) :
  fnK X28.tt (callN Try.prog X28 0) (X28.md 28) (X28.mk1 28) Try.f28 [(.v (.list (.pair (.int .i64) (.pair (.int .i64) (.pair (.int .i64) (.pair (.slice (.int .i64)) (.slice (.int .i64)))))) l0 .no)), (.v (.int .i64 size1)), (.v (.list (.pair (.int .i64) (.pair (.int .i64) (.pair (.int .i64) (.int .i64)))) handlers2 .no))] ⟨[], [], ⟨0, []⟩⟩ (topK R) := Eq.mp (by kernel_rfl) h
theorem L28_0 (l0 : List (Int × (Int × (Int × ((List Int) × (List Int)))))) (size1 : Int) (handlers2 : List (Int × (Int × (Int × Int)))) (k8 : Int) (T : Toks) {R : V → Prop} {k0 : St → Prop}
 (h : (((decide (k8 < ((handlers2).length : Int))) = true → (0 ≤ k8 ∧ k8 < ((handlers2).length : Int) ∧ (∃ p1 : Int, PC Try.prog 55 [(.list (.pair (.int .i64) (.pair (.int .i64) (.pair (.int .i64) (.pair (.slice (.int .i64)) (.slice (.int .i64)))))) l0 .no), (.int .i64 ((handlers2.getD (k8).toNat (0, (0, (0, 0)))).1))] (.int .i64 p1) ∧ (((decide (p1 < (0 : Int))) = true → R (.tup [(.list (.slice (.int .i64)) (([] : List (List Int))) .no), (.int .i64 (12 : Int))])) ∧ ((decide (p1 < (0 : Int))) = false → (∃ p2 : Int, PC Try.prog 55 [(.list (.pair (.int .i64) (.pair (.int .i64) (.pair (.int .i64) (.pair (.slice (.int .i64)) (.slice (.int .i64)))))) l0 .no), (.int .i64 ((handlers2.getD (k8).toNat (0, (0, (0, 0)))).2.2.1))] (.int .i64 p2) ∧ (((decide (p2 < (0 : Int))) = true → R (.tup [(.list (.slice (.int .i64)) (([] : List (List Int))) .no), (.int .i64 (12 : Int))])) ∧ ((decide (p2 < (0 : Int))) = false → ((((handlers2.getD (k8).toNat (0, (0, (0, 0)))).2.1 != size1) = true → (∃ p3 : Int, PC Try.prog 55 [(.list (.pair (.int .i64) (.pair (.int .i64) (.pair (.int .i64) (.pair (.slice (.int .i64)) (.slice (.int .i64)))))) l0 .no), (.int .i64 ((handlers2.getD (k8).toNat (0, (0, (0, 0)))).2.1))] (.int .i64 p3) ∧ (((decide (p3 < (0 : Int))) = true → R (.tup [(.list (.slice (.int .i64)) (([] : List (List Int))) .no), (.int .i64 (12 : Int))])) ∧
 ((decide (p3 < (0 : Int))) = false → k0 (S28_0 l0 size1 handlers2 ((IntKind.wrap .i64 (k8 + (1 : Int)))) T))))) ∧ (((handlers2.getD (k8).toNat (0, (0, (0, 0)))).2.1 != size1) = false → k0 (S28_0 l0 size1 handlers2 ((IntKind.wrap .i64 (k8 + (1 : Int)))) T))))))))))) ∧
 ((decide (k8 < ((handlers2).length : Int))) = false → (Loops B28_2 M28_2 (Q28_2 R)
  (S28_2 l0 handlers2 (([] : List (List Int))) .exact (0 : Int) T))))) :
  B28_0 (loopQ M28_0 k0 (Q28_0 R)) (S28_0 l0 size1 handlers2 k8 T) := Eq.mp (by kernel_rfl) h
theorem L28_2 (l0 : List (Int × (Int × (Int × ((List Int) × (List Int)))))) (handlers2 : List (Int × (Int × (Int × Int)))) (out10 : List (List Int)) (out10k : Tok) (i11 : Int) (T : Toks) {R : V → Prop} {k2 : St → Prop}
 (h : (((decide (i11 < ((l0).length : Int))) = true → (Loops B28_4 M28_4 (Q28_4 R k2)
  (S28_4 l0 handlers2 out10 out10k i11 ([] : List Int) .exact (0 : Int) T))) ∧
 ((decide (i11 < ((l0).length : Int))) = false → R (.tup [(.list (.slice (.int .i64)) out10 .no), (.int .i64 (0 : Int))])))) :
  B28_2 (loopQ M28_2 k2 (Q28_2 R)) (S28_2 l0 handlers2 out10 out10k i11 T) := Eq.mp (by kernel_rfl) h
theorem L28_4 (l0 : List (Int × (Int × (Int × ((List Int) × (List Int)))))) (handlers2 : List (Int × (Int × (Int × Int)))) (out10 : List (List Int)) (out10k : Tok) (i11 : Int) (s12 : List Int) (s12k : Tok) (k13 : Int) (T : Toks) {R : V → Prop} {k2 : St → Prop} {k4 : St → Prop}
 (h : (((decide (k13 < ((handlers2).length : Int))) = true → (0 ≤ k13 ∧ k13 < ((handlers2).length : Int) ∧ (0 ≤ i11 ∧ i11 < ((l0).length : Int) ∧ (((decide ((handlers2.getD (k13).toNat (0, (0, (0, 0)))).1 ≤ (l0.getD (i11).toNat (0, (0, (0, ([], []))))).1)) = true → (0 ≤ i11 ∧ i11 < ((l0).length : Int) ∧ (0 ≤ k13 ∧ k13 < ((handlers2).length : Int) ∧ (((decide ((l0.getD (i11).toNat (0, (0, (0, ([], []))))).1 < (handlers2.getD (k13).toNat (0, (0, (0, 0)))).2.1)) = true → (Tok.own s12k T.l ∧ ((s12).length + (([k13] : List Int)).length) * 8 ≤ room ∧ k4 (S28_4 l0 handlers2 out10 out10k i11 ((s12 ++ ([k13] : List Int))) (.tk T.n) ((IntKind.wrap .i64 (k13 + (1 : Int)))) ⟨(T.n + 1), (T.n :: Tok.drop s12k T.l)⟩))) ∧
 ((decide ((l0.getD (i11).toNat (0, (0, (0, ([], []))))).1 < (handlers2.getD (k13).toNat (0, (0, (0, 0)))).2.1)) = false → k4 (S28_4 l0 handlers2 out10 out10k i11 s12 s12k ((IntKind.wrap .i64 (k13 + (1 : Int)))) T)))))) ∧ ((decide ((handlers2.getD (k13).toNat (0, (0, (0, 0)))).1 ≤ (l0.getD (i11).toNat (0, (0, (0, ([], []))))).1)) = false → k4 (S28_4 l0 handlers2 out10 out10k i11 s12 s12k ((IntKind.wrap .i64 (k13 + (1 : Int)))) T)))))) ∧
 ((decide (k13 < ((handlers2).length : Int))) = false → (Tok.own out10k T.l ∧ ((out10).length + (([s12] : List (List Int))).length) * 24 ≤ room ∧ k2 (S28_2 l0 handlers2 ((out10 ++ ([s12] : List (List Int)))) (.tk T.n) ((IntKind.wrap .i64 (i11 + (1 : Int)))) ⟨(T.n + 1), (T.n :: Tok.drop out10k T.l)⟩))))) :
  B28_4 (loopQ M28_4 k4 (Q28_4 R k2)) (S28_4 l0 handlers2 out10 out10k i11 s12 s12k k13 T) := Eq.mp (by kernel_rfl) h

end Go.Proofs.Ytiomllkdfhglhaa.AB

set_option linter.unusedVariables false
set_option linter.unusedSimpArgs false
namespace Go.Proofs.Ytiomllkdfhglhaa.AB
open Go

/-- a handler whose places are none -/
def badH (l : List Ins) (size : Int) (h : Hd) : Bool := !isPc l h.1 || !isPc l h.2.2.1 || (h.2.1 != size && !isPc l h.2.1)

def coverN (hs : List Hd) (pc : Int) (n : Nat) : List Int := ((List.range n).filter fun k => decide ((hs.getD k (0, (0, (0, 0)))).1 ≤ pc) && decide (pc < (hs.getD k (0, (0, (0, 0)))).2.1)).map fun k : Nat => (k : Int)

/-- which handlers cover a place -/
abbrev coverI (hs : List Hd) (pc : Int) : List Int := coverN hs pc hs.length

def coverL (l : List Ins) (hs : List Hd) : List (List Int) := l.map fun x => coverI hs x.1

def coverAll (l : List Ins) (size : Int) (hs : List Hd) : List (List Int) × Int :=
  if hs.any (badH l size) then ([], 12) else (coverL l hs, 0)

abbrev covV (p : List (List Int) × Int) : V := .tup [.list (.slice (.int .i64)) p.1 .no, .int .i64 p.2]

theorem coverN_succ (hs : List Hd) (pc : Int) (n : Nat) : coverN hs pc (n + 1) = coverN hs pc n ++ if decide ((hs.getD n (0, (0, (0, 0)))).1 ≤ pc) && decide (pc < (hs.getD n (0, (0, (0, 0)))).2.1) then [(n : Int)] else [] := by
  unfold coverN
  rw [List.range_succ, List.filter_append, List.map_append]
  congr 1
  simp only [List.filter_cons, List.filter_nil]
  split <;> rfl

theorem coverN_len (hs : List Hd) (pc : Int) (n : Nat) : (coverN hs pc n).length ≤ n := by
  unfold coverN
  rw [List.length_map]
  have := List.length_filter_le (fun k => decide ((hs.getD k (0, (0, (0, 0)))).1 ≤ pc) && decide (pc < (hs.getD k (0, (0, (0, 0)))).2.1)) (List.range n)
  rwa [List.length_range] at this

theorem idxEq (l : List Ins) (pc : Int) : (idx l pc < 0) ↔ isPc l pc = false := by
  cases h : isPc l pc with
  | false => rw [idx_neg h]; simp
  | true => obtain ⟨i, hi, h1, _⟩ := idx_pos h; rw [h1]; simp

theorem getD_setD {α : Type} {l : List α} {j k : Nat} {a d : α} (hj : j < l.length) : (l.set j a).getD k d = if j = k then a else l.getD k d := by
  simp only [List.getD, List.getElem?_set]
  by_cases e : j = k
  · subst e; simp [hj]
  · simp [e]

theorem eq_of_getD {α : Type} {l r : List α} (d : α) (hlen : l.length = r.length) (h : ∀ j, j < r.length → l.getD j d = r.getD j d) : l = r := by
  refine List.ext_getElem hlen fun i h1 h2 => ?_
  have := h i h2
  rwa [getD_lt h1, getD_lt h2] at this

theorem p14 (l : List Ins) (size : Int) (hs : List Hd) (hl : l.length ≤ 1000000) (hh : hs.length ≤ 1000000) (hd : l.Pairwise (fun a b => a.1 < b.1)) :
    PC Try.prog 14 [.list cIns l .no, .int .i64 size, .list cH hs .no] (covV (coverAll l size hs)) := by
  have hroom : room = 140737488355328 := rfl
  refine pcOf (X := X14) (d := 1) rfl FN14 (by kernel_rfl) (by decide) (E14 l size hs ⟨_, p42 l (by omega) hd, ?_⟩)
  have fin : ∀ p, coverAll l size hs = p → (covV p).norm = covV (coverAll l size hs) ∧ (covV (coverAll l size hs)).nt = true := fun p h => by rw [h]; exact ⟨rfl, rfl⟩
  refine Loops.intro (fun n : Nat => S14_0 l size hs hs hs.length n (pl l) ⟨0, []⟩) (fun n => n ≤ hs.length ∧ (hs.take n).any (badH l size) = false) (fun n => hs.length - n) 0 rfl ⟨Nat.zero_le _, rfl⟩ ?_
  rintro n ⟨hn, hb⟩
  refine L14_0 l size hs hs hs.length n (pl l) ⟨0, []⟩ ?_
  simp only [Bool.not_true, Bool.not_false, Bool.true_eq_false, Bool.false_eq_true, forall_const, false_implies, true_implies, and_true, true_and, eq_self, implies_true, Nat.zero_add, Int.toNat_natCast, List.take_length, decide_eq_true_eq, decide_eq_false_iff_not, beq_iff_eq, beq_eq_false_iff_ne, bne_iff_ne, bne_eq_false_iff_eq, ne_eq, Bool.not_eq_true', Bool.not_eq_false', Int.not_le, Int.not_lt, List.length_cons, List.length_nil, List.length_append, Nat.add_zero, List.drop_zero, mfind_pl]
  refine ⟨fun h => ?_, fun h => ?_⟩
  · have hlt : n < hs.length := by omega
    simp only [getD_lt hlt]
    rw [wrap64 (by omega) (by omega)]
    have bad : badH l size hs[n] = true → V.norm (.tup [.list (.slice (.int .i64)) [] .no, .int .i64 12]) = covV (coverAll l size hs) ∧ (covV (coverAll l size hs)).nt = true := by
      intro hbad
      refine fin ([], 12) ?_
      unfold coverAll
      rw [if_pos]
      rw [List.any_eq_true]
      exact ⟨_, List.getElem_mem hlt, hbad⟩
    have good : badH l size hs[n] = false → Again (fun n : Nat => S14_0 l size hs hs hs.length n (pl l) ⟨0, []⟩) (fun n => n ≤ hs.length ∧ (hs.take n).any (badH l size) = false) (fun n => hs.length - n) (hs.length - n) (S14_0 l size hs hs hs.length ((n : Int) + 1) (pl l) ⟨0, []⟩) := by
      intro hgood
      exact Again.mk (n + 1) rfl ⟨by omega, by rw [any_take_succ _ _ hlt, hb, hgood]; rfl⟩ (by omega)
    refine ⟨by omega, by omega, ?_⟩
    obtain ⟨A, hA⟩ : ∃ A : Prop, A = Again (fun n : Nat => S14_0 l size hs hs hs.length n (pl l) ⟨0, []⟩) (fun n => n ≤ hs.length ∧ (hs.take n).any (badH l size) = false) (fun n => hs.length - n) (hs.length - n) (S14_0 l size hs hs hs.length ((n : Int) + 1) (pl l) ⟨0, []⟩) := ⟨_, rfl⟩
    obtain ⟨B, hB⟩ : ∃ B : Prop, B = (V.norm (.tup [.list (.slice (.int .i64)) [] .no, .int .i64 12]) = covV (coverAll l size hs) ∧ (covV (coverAll l size hs)).nt = true) := ⟨_, rfl⟩
    rw [← hA] at good ⊢
    rw [← hB] at bad ⊢
    clear hA hB fin hb
    unfold badH at bad good
    revert bad good
    generalize hs[n] = hn
    rw [mfind_pl l hn.1, mfind_pl l hn.2.2.1, mfind_pl l hn.2.1]
    cases isPc l hn.1 <;> cases isPc l hn.2.2.1 <;> cases isPc l hn.2.1 <;> by_cases he : hn.2.1 = size <;> simp [he] <;> intros <;> simp_all
  · have hnn : n = hs.length := by omega
    subst hnn
    rw [List.take_length] at hb
    refine ⟨by omega, by omega, by omega, by omega, ?_⟩
    have hcov : coverAll l size hs = (coverL l hs, 0) := by unfold coverAll; rw [if_neg (by simp [hb])]
    refine Loops.intro (fun a : Nat × List (List Int) × (Nat → Tok) × Toks => S14_2 hs l.length l l.length a.1 (pl l) a.2.1 a.2.2.1 a.2.2.2)
      (fun a => a.1 ≤ l.length ∧ a.2.1.length = l.length ∧ FrT a.2.2.1 a.2.2.2 ∧ ∀ j, j < l.length → a.2.1.getD j [] = if j < a.1 then coverI hs (l.getD j D0).1 else []) (fun a => l.length - a.1)
      (0, List.replicate l.length [], fun _ => .exact, ⟨0, []⟩) rfl ⟨Nat.zero_le _, by simp, FrT.exact _, fun j hj => by simp [List.getD, List.getElem?_replicate, hj]⟩ ?_
    rintro ⟨n, hq, ts, T⟩ ⟨hn, hq1, hT, hq2⟩
    simp only at hn hq1 hT hq2
    refine L14_2 hs l.length l l.length n (pl l) hq ts T ?_
    simp only [Bool.not_true, Bool.not_false, Bool.true_eq_false, Bool.false_eq_true, forall_const, false_implies, true_implies, and_true, true_and, eq_self, implies_true, Nat.zero_add, Int.toNat_natCast, List.take_length, decide_eq_true_eq, decide_eq_false_iff_not, beq_iff_eq, beq_eq_false_iff_ne, bne_iff_ne, bne_eq_false_iff_eq, ne_eq, Bool.not_eq_true', Bool.not_eq_false', Int.not_le, Int.not_lt, List.length_cons, List.length_nil, List.length_append, Nat.add_zero, List.drop_zero]
    refine ⟨fun h => ⟨by omega, by omega, ?_⟩, fun h => ⟨by omega, ?_⟩⟩
    · have hlt : n < l.length := by omega
      simp only [getD_lt hlt]
      refine Loops.intro (fun a : Nat × List (List Int) × (Nat → Tok) × Toks => S14_4 hs l.length n l l.length n hs.length a.1 (pl l) a.2.1 a.2.2.1 l[n].1 l[n].2.1 l[n].2.2.1 l[n].2.2.2.1 .no l[n].2.2.2.2 .no a.2.2.2)
        (fun a => a.1 ≤ hs.length ∧ a.2.1.length = l.length ∧ FrT a.2.2.1 a.2.2.2 ∧ ∀ j, j < l.length → a.2.1.getD j [] = if j < n then coverI hs (l.getD j D0).1 else if j = n then coverN hs l[n].1 a.1 else []) (fun a => hs.length - a.1)
        (0, hq, ts, T) rfl ⟨Nat.zero_le _, hq1, hT, fun j hj => by rw [hq2 j hj]; simp [coverN]⟩ ?_
      rintro ⟨k, hr, us, U⟩ ⟨hk, hr1, hU, hr2⟩
      simp only at hk hr1 hU hr2
      refine L14_4 hs l.length n l l.length n hs.length k (pl l) hr us l[n].1 l[n].2.1 l[n].2.2.1 l[n].2.2.2.1 .no l[n].2.2.2.2 .no U ?_
      simp only [Bool.not_true, Bool.not_false, Bool.true_eq_false, Bool.false_eq_true, forall_const, false_implies, true_implies, and_true, true_and, eq_self, implies_true, Nat.zero_add, Int.toNat_natCast, List.take_length, decide_eq_true_eq, decide_eq_false_iff_not, beq_iff_eq, beq_eq_false_iff_ne, bne_iff_ne, bne_eq_false_iff_eq, ne_eq, Bool.not_eq_true', Bool.not_eq_false', Int.not_le, Int.not_lt, List.length_cons, List.length_nil, List.length_append, Nat.add_zero, List.drop_zero]
      refine ⟨fun h => ?_, fun h => ?_⟩
      · have hklt : k < hs.length := by omega
        rw [wrap64 (by omega) (by omega)]
        have hnk := coverN_len hs l[n].1 k
        have e := hr2 n hlt
        rw [if_neg (by omega), if_pos rfl] at e
        refine ⟨by omega, by omega, fun h1 => ⟨fun h2 => ⟨by omega, by omega, by omega, (hU.1 n).own, by rw [e]; omega, by omega, by omega, by omega, ?_⟩, fun h2 => ?_⟩, fun h1 => ?_⟩
        · refine Again.mk (k + 1, hr.set n (hr.getD n [] ++ [(k : Int)]), _, _) rfl ⟨by simp only; omega, by simpa using hr1, hU.upd n, fun j hj => ?_⟩ (by simp only; omega)
          simp only
          rw [getD_setD (by omega), hr2 j hj, e]
          by_cases hjn : n = j
          · subst hjn
            simp only [if_true, Nat.lt_irrefl, if_false]
            rw [coverN_succ]
            rw [if_pos (by simp only [h1, h2, decide_true, Bool.and_true])]
          · simp only [hjn, if_false]
            have : ¬ j = n := fun e => hjn e.symm
            simp only [this, if_false]
        · refine Again.mk (k + 1, hr, us, U) rfl ⟨by simp only; omega, hr1, hU, fun j hj => ?_⟩ (by simp only; omega)
          simp only
          rw [hr2 j hj, coverN_succ]
          have : ¬ l[n].1 < (hs.getD k (0, (0, (0, 0)))).2.1 := by omega
          simp only [this, decide_false, Bool.and_false, Bool.false_eq_true, if_false, List.append_nil]
        · refine Again.mk (k + 1, hr, us, U) rfl ⟨by simp only; omega, hr1, hU, fun j hj => ?_⟩ (by simp only; omega)
          simp only
          rw [hr2 j hj, coverN_succ]
          have : ¬ (hs.getD k (0, (0, (0, 0)))).1 ≤ l[n].1 := by omega
          simp only [this, decide_false, Bool.false_and, Bool.false_eq_true, if_false, List.append_nil]
      · have hkk : k = hs.length := by omega
        subst hkk
        rw [wrap64 (by omega) (by omega)]
        refine Again.mk (n + 1, hr, us, U) rfl ⟨by simp only; omega, hr1, hU, fun j hj => ?_⟩ (by simp only; omega)
        simp only
        rw [hr2 j hj]
        rcases Nat.lt_trichotomy j n with h' | h' | h'
        · rw [if_pos h', if_pos (by omega)]
        · subst h'
          rw [if_neg (by omega), if_pos rfl, if_pos (by omega), getD_lt hlt]
        · rw [if_neg (by omega), if_neg (by omega), if_neg (by omega)]
    · have hnn : n = l.length := by omega
      subst hnn
      have : hq = coverL l hs := by
        refine eq_of_getD [] (by simp [coverL, hq1]) fun j hj => ?_
        simp only [coverL, List.length_map] at hj
        rw [hq2 j hj, if_pos hj]
        simp [coverL, List.getD, hj]
      rw [← hq1, List.take_length, this]
      exact fin (coverL l hs, 0) hcov

end Go.Proofs.Ytiomllkdfhglhaa.AB

set_option linter.unusedVariables false
set_option linter.unusedSimpArgs false
namespace Go.Proofs.Ytiomllkdfhglhaa.AB
open Go

/-! crucible/flow.Back -/
noncomputable def X34 : Cx := ⟨tt, [], [(34, [(5, 5, .inl)]), (58, [(1, 2, .inl)]), (77, [(4, 5, .inl)])], [(34, [(0, mkM 25 0 [3, 9, 10, 11], 1)]), (77, [(0, mkM 19 0 [0, 1, 7, 8], 0)])], [(58, Try.f58), (59, Try.f59), (77, Try.f77)]⟩
theorem FN34 : fnsB Try.prog X34.fns := (show (Try.prog.funcs[58]? = some Try.f58 ∧ Try.f58.name ≠ "runtime.NumGoroutine" ∧ (Try.prog.funcs[59]? = some Try.f59 ∧ Try.f59.name ≠ "runtime.NumGoroutine" ∧ (Try.prog.funcs[77]? = some Try.f77 ∧ Try.f77.name ≠ "runtime.NumGoroutine" ∧ True))) from ⟨by kernel_rfl, by decide, ⟨by kernel_rfl, by decide, ⟨by kernel_rfl, by decide, trivial⟩⟩⟩)
def M34_0 : List Bool × Nat := (mkM 25 0 [3, 9, 10, 11], 1)
def S34_0 (out3n : Nat) (t9 : List (Int × (Int × (Int × ((List Int) × (List Int)))))) (t10 : Int) (t11 : Int) (hq0 : List Bool) (hq0s : Nat → Tok) (T : Toks) : St :=
  mkS 25 [(3, (.arr 0 0 0 out3n)), (9, (.v (.list (.pair (.int .i64) (.pair (.int .i64) (.pair (.int .i64) (.pair (.slice (.int .i64)) (.slice (.int .i64)))))) t9 .no))), (10, (.v (.int .i64 t10))), (11, (.v (.int .i64 t11)))] [(some (.arr 0 .bool hq0 hq0s))] T
noncomputable def B34_0 : (Exit → St → Prop) → St → Prop := (awp X34.tt (callN Try.prog X34 3) (X34.md 34) 0 (X34.mk1 34) 0 (codeAt [1, 1, 0, 1, 0, 0] (bd Try.f34)))
def M34c5_5_1_2_0 : List Bool × Nat := (mkM 19 0 [0, 1, 7, 8], 2)
def S34c5_5_1_2_0 (s0 : List Int) (t7 : Int) (t8 : Int) (hq0 : List Bool) (hq0s : Nat → Tok) (hq1_0 : Int) (hq1_1 : Int) (hq1_2 : Int) (hq1_3 : List Int) (hq1_3k : Tok) (hq1_4 : List Int) (hq1_4k : Tok) (T : Toks) : St :=
  mkS 19 [(0, (.v (.list (.int .i64) s0 .no))), (1, (.clo 59 [(.ptr 1 0 0 0)])), (7, (.v (.int .i64 t7))), (8, (.v (.int .i64 t8)))] [(some (.arr 0 .bool hq0 hq0s)), (some (.box (.v (.agg [(.int .i64 hq1_0), (.int .i64 hq1_1), (.int .i64 hq1_2), (.list (.int .i64) hq1_3 hq1_3k), (.list (.int .i64) hq1_4 hq1_4k)]))))] T
noncomputable def B34c5_5_1_2_0 : (Exit → St → Prop) → St → Prop := (awp X34.tt (callN Try.prog X34 1) (X34.md 77) 2 (X34.mk1 77) 0 (codeAt [1, 0, 1, 0, 0] (bd Try.f77)))
noncomputable def K34_0 (R : V → Prop) : Exit → St → Prop := seqK ((awp X34.tt (callN Try.prog X34 3) (X34.md 34) 0 (X34.mk1 34) 0 (codeAt [1, 1, 1] (bd Try.f34))) (retK tt Try.f34.results.toList fun x s' => topK R x ⟨[], s'.hp, s'.T⟩)) (retK tt Try.f34.results.toList fun x s' => topK R x ⟨[], s'.hp, s'.T⟩)
noncomputable def Q34_0 (R : V → Prop) : Exit → St → Prop := (blockK 0 (K34_0 R))
noncomputable def K34_1 (R : V → Prop) (k0 : St → Prop) : Exit → St → Prop := seqK ((awp X34.tt (callN Try.prog X34 3) (X34.md 34) 0 (X34.mk1 34) 0 (codeAt [1, 1, 0, 1, 0, 0, 1, 1, 1] (bd Try.f34))) (loopQ M34_0 k0 (blockK 0 (K34_0 R)))) (loopQ M34_0 k0 (blockK 0 (K34_0 R)))
noncomputable def A34c5_5 (R : V → Prop) (k0 : St → Prop) : TV → St → Prop := fun x s' => awpL X34.tt (callN Try.prog X34 3) (X34.md 34) 5 (regOps (codeAt [1, 1, 0, 1, 0, 0, 1, 1, 0, 0, 1] (bd Try.f34))) 6 ((regOps (codeAt [1, 1, 0, 1, 0, 0, 1, 1, 0, 0, 1] (bd Try.f34))).toList.drop 6) ((blockK 1 (K34_1 R k0)) .normal) (s'.put (some 21) x)
def W34c5_5 (z5_5_out3n : Nat) (z5_5_i4 : Int) (z5_5_t9 : List (Int × (Int × (Int × ((List Int) × (List Int)))))) (z5_5_t10 : Int) (z5_5_t11 : Int) (z5_5_t12 : Bool) (z5_5_t13 : Int) (z5_5_t14_0 : Int) (z5_5_t14_1 : Int) (z5_5_t14_2 : Int) (z5_5_t14_3 : List Int) (z5_5_t14_3k : Tok) (z5_5_t14_4 : List Int) (z5_5_t14_4k : Tok) (z5_5_t15_0 : Int) (z5_5_t15_1 : Int) (z5_5_t15_2 : Int) (z5_5_t15_3 : List Int) (z5_5_t15_3k : Tok) (z5_5_t15_4 : List Int) (z5_5_t15_4k : Tok) (z5_5_t16g : Nat) (z5_5_t16n : Nat) (z5_5_t17 : Int) (z5_5_t19 : List Int) (z5_5_t19k : Tok) : List TV := mkL 25 0 [(3, (.arr 0 0 0 z5_5_out3n)), (4, (.v (.int .i64 z5_5_i4))), (5, (.ptr 1 0 0 0)), (9, (.v (.list (.pair (.int .i64) (.pair (.int .i64) (.pair (.int .i64) (.pair (.slice (.int .i64)) (.slice (.int .i64)))))) z5_5_t9 .no))), (10, (.v (.int .i64 z5_5_t10))), (11, (.v (.int .i64 z5_5_t11))), (12, (.v (.bool z5_5_t12))), (13, (.v (.int .i64 z5_5_t13))), (14, (.v (.fptr (.agg [(.int .i64 z5_5_t14_0), (.int .i64 z5_5_t14_1), (.int .i64 z5_5_t14_2), (.list (.int .i64) z5_5_t14_3 z5_5_t14_3k), (.list (.int .i64) z5_5_t14_4 z5_5_t14_4k)]) 0))), (15, (.v (.agg [(.int .i64 z5_5_t15_0), (.int .i64 z5_5_t15_1), (.int .i64 z5_5_t15_2), (.list (.int .i64) z5_5_t15_3 z5_5_t15_3k), (.list (.int .i64) z5_5_t15_4 z5_5_t15_4k)]))), (16, (.arr 0 z5_5_t16g 0 z5_5_t16n)), (17, (.v (.int .i64 z5_5_t17))), (18, (.ptr 1 0 0 4)), (19, (.v (.list (.int .i64) z5_5_t19 z5_5_t19k))), (20, (.clo 59 [(.ptr 1 0 0 0)]))]
noncomputable def K34c5_5_2 (R : V → Prop) (k0 : St → Prop) (z5_5_out3n : Nat) (z5_5_i4 : Int) (z5_5_t9 : List (Int × (Int × (Int × ((List Int) × (List Int)))))) (z5_5_t10 : Int) (z5_5_t11 : Int) (z5_5_t12 : Bool) (z5_5_t13 : Int) (z5_5_t14_0 : Int) (z5_5_t14_1 : Int) (z5_5_t14_2 : Int) (z5_5_t14_3 : List Int) (z5_5_t14_3k : Tok) (z5_5_t14_4 : List Int) (z5_5_t14_4k : Tok) (z5_5_t15_0 : Int) (z5_5_t15_1 : Int) (z5_5_t15_2 : Int) (z5_5_t15_3 : List Int) (z5_5_t15_3k : Tok) (z5_5_t15_4 : List Int) (z5_5_t15_4k : Tok) (z5_5_t16g : Nat) (z5_5_t16n : Nat) (z5_5_t17 : Int) (z5_5_t19 : List Int) (z5_5_t19k : Tok) : Exit → St → Prop := seqK ((awp X34.tt (callN Try.prog X34 2) (X34.md 58) 2 (X34.mk1 58) 0 (codeAt [1, 1] (bd Try.f58))) (retK X34.tt Try.f58.results.toList fun x s' => A34c5_5 R k0 x ⟨W34c5_5 z5_5_out3n z5_5_i4 z5_5_t9 z5_5_t10 z5_5_t11 z5_5_t12 z5_5_t13 z5_5_t14_0 z5_5_t14_1 z5_5_t14_2 z5_5_t14_3 z5_5_t14_3k z5_5_t14_4 z5_5_t14_4k z5_5_t15_0 z5_5_t15_1 z5_5_t15_2 z5_5_t15_3 z5_5_t15_3k z5_5_t15_4 z5_5_t15_4k z5_5_t16g z5_5_t16n z5_5_t17 z5_5_t19 z5_5_t19k, s'.hp, s'.T⟩)) (retK X34.tt Try.f58.results.toList fun x s' => A34c5_5 R k0 x ⟨W34c5_5 z5_5_out3n z5_5_i4 z5_5_t9 z5_5_t10 z5_5_t11 z5_5_t12 z5_5_t13 z5_5_t14_0 z5_5_t14_1 z5_5_t14_2 z5_5_t14_3 z5_5_t14_3k z5_5_t14_4 z5_5_t14_4k z5_5_t15_0 z5_5_t15_1 z5_5_t15_2 z5_5_t15_3 z5_5_t15_3k z5_5_t15_4 z5_5_t15_4k z5_5_t16g z5_5_t16n z5_5_t17 z5_5_t19 z5_5_t19k, s'.hp, s'.T⟩)
noncomputable def A34c5_5_1_2 (R : V → Prop) (k0 : St → Prop) (z5_5_out3n : Nat) (z5_5_i4 : Int) (z5_5_t9 : List (Int × (Int × (Int × ((List Int) × (List Int)))))) (z5_5_t10 : Int) (z5_5_t11 : Int) (z5_5_t12 : Bool) (z5_5_t13 : Int) (z5_5_t14_0 : Int) (z5_5_t14_1 : Int) (z5_5_t14_2 : Int) (z5_5_t14_3 : List Int) (z5_5_t14_3k : Tok) (z5_5_t14_4 : List Int) (z5_5_t14_4k : Tok) (z5_5_t15_0 : Int) (z5_5_t15_1 : Int) (z5_5_t15_2 : Int) (z5_5_t15_3 : List Int) (z5_5_t15_3k : Tok) (z5_5_t15_4 : List Int) (z5_5_t15_4k : Tok) (z5_5_t16g : Nat) (z5_5_t16n : Nat) (z5_5_t17 : Int) (z5_5_t19 : List Int) (z5_5_t19k : Tok) : TV → St → Prop := fun x s' => awpL X34.tt (callN Try.prog X34 2) (X34.md 58) 1 (regOps (codeAt [1, 0] (bd Try.f58))) 3 ((regOps (codeAt [1, 0] (bd Try.f58))).toList.drop 3) ((K34c5_5_2 R k0 z5_5_out3n z5_5_i4 z5_5_t9 z5_5_t10 z5_5_t11 z5_5_t12 z5_5_t13 z5_5_t14_0 z5_5_t14_1 z5_5_t14_2 z5_5_t14_3 z5_5_t14_3k z5_5_t14_4 z5_5_t14_4k z5_5_t15_0 z5_5_t15_1 z5_5_t15_2 z5_5_t15_3 z5_5_t15_3k z5_5_t15_4 z5_5_t15_4k z5_5_t16g z5_5_t16n z5_5_t17 z5_5_t19 z5_5_t19k) .normal) (s'.put (some 7) x)
def W34c5_5_1_2 (z5_5_1_2_s0 : List Int) (z5_5_1_2_t5 : List Int) : List TV := mkL 9 0 [(0, (.v (.list (.int .i64) z5_5_1_2_s0 .no))), (1, (.clo 59 [(.ptr 1 0 0 0)])), (4, (.v .ff)), (5, (.v (.list (.int .i64) z5_5_1_2_t5 .no))), (6, (.clo 59 [(.ptr 1 0 0 0)]))]
noncomputable def K34c5_5_1_2_3 (R : V → Prop) (k0 : St → Prop) (z5_5_out3n : Nat) (z5_5_i4 : Int) (z5_5_t9 : List (Int × (Int × (Int × ((List Int) × (List Int)))))) (z5_5_t10 : Int) (z5_5_t11 : Int) (z5_5_t12 : Bool) (z5_5_t13 : Int) (z5_5_t14_0 : Int) (z5_5_t14_1 : Int) (z5_5_t14_2 : Int) (z5_5_t14_3 : List Int) (z5_5_t14_3k : Tok) (z5_5_t14_4 : List Int) (z5_5_t14_4k : Tok) (z5_5_t15_0 : Int) (z5_5_t15_1 : Int) (z5_5_t15_2 : Int) (z5_5_t15_3 : List Int) (z5_5_t15_3k : Tok) (z5_5_t15_4 : List Int) (z5_5_t15_4k : Tok) (z5_5_t16g : Nat) (z5_5_t16n : Nat) (z5_5_t17 : Int) (z5_5_t19 : List Int) (z5_5_t19k : Tok) (z5_5_1_2_s0 : List Int) (z5_5_1_2_t5 : List Int) : Exit → St → Prop := seqK ((awp X34.tt (callN Try.prog X34 1) (X34.md 77) 2 (X34.mk1 77) 0 (codeAt [1, 1] (bd Try.f77))) (retK X34.tt Try.f77.results.toList fun x s' => A34c5_5_1_2 R k0 z5_5_out3n z5_5_i4 z5_5_t9 z5_5_t10 z5_5_t11 z5_5_t12 z5_5_t13 z5_5_t14_0 z5_5_t14_1 z5_5_t14_2 z5_5_t14_3 z5_5_t14_3k z5_5_t14_4 z5_5_t14_4k z5_5_t15_0 z5_5_t15_1 z5_5_t15_2 z5_5_t15_3 z5_5_t15_3k z5_5_t15_4 z5_5_t15_4k z5_5_t16g z5_5_t16n z5_5_t17 z5_5_t19 z5_5_t19k x ⟨W34c5_5_1_2 z5_5_1_2_s0 z5_5_1_2_t5, s'.hp, s'.T⟩)) (retK X34.tt Try.f77.results.toList fun x s' => A34c5_5_1_2 R k0 z5_5_out3n z5_5_i4 z5_5_t9 z5_5_t10 z5_5_t11 z5_5_t12 z5_5_t13 z5_5_t14_0 z5_5_t14_1 z5_5_t14_2 z5_5_t14_3 z5_5_t14_3k z5_5_t14_4 z5_5_t14_4k z5_5_t15_0 z5_5_t15_1 z5_5_t15_2 z5_5_t15_3 z5_5_t15_3k z5_5_t15_4 z5_5_t15_4k z5_5_t16g z5_5_t16n z5_5_t17 z5_5_t19 z5_5_t19k x ⟨W34c5_5_1_2 z5_5_1_2_s0 z5_5_1_2_t5, s'.hp, s'.T⟩)
noncomputable def Q34c5_5_1_2_0 (R : V → Prop) (k0 : St → Prop) (z5_5_out3n : Nat) (z5_5_i4 : Int) (z5_5_t9 : List (Int × (Int × (Int × ((List Int) × (List Int)))))) (z5_5_t10 : Int) (z5_5_t11 : Int) (z5_5_t12 : Bool) (z5_5_t13 : Int) (z5_5_t14_0 : Int) (z5_5_t14_1 : Int) (z5_5_t14_2 : Int) (z5_5_t14_3 : List Int) (z5_5_t14_3k : Tok) (z5_5_t14_4 : List Int) (z5_5_t14_4k : Tok) (z5_5_t15_0 : Int) (z5_5_t15_1 : Int) (z5_5_t15_2 : Int) (z5_5_t15_3 : List Int) (z5_5_t15_3k : Tok) (z5_5_t15_4 : List Int) (z5_5_t15_4k : Tok) (z5_5_t16g : Nat) (z5_5_t16n : Nat) (z5_5_t17 : Int) (z5_5_t19 : List Int) (z5_5_t19k : Tok) (z5_5_1_2_s0 : List Int) (z5_5_1_2_t5 : List Int) : Exit → St → Prop := (blockK 0 (K34c5_5_1_2_3 R k0 z5_5_out3n z5_5_i4 z5_5_t9 z5_5_t10 z5_5_t11 z5_5_t12 z5_5_t13 z5_5_t14_0 z5_5_t14_1 z5_5_t14_2 z5_5_t14_3 z5_5_t14_3k z5_5_t14_4 z5_5_t14_4k z5_5_t15_0 z5_5_t15_1 z5_5_t15_2 z5_5_t15_3 z5_5_t15_3k z5_5_t15_4 z5_5_t15_4k z5_5_t16g z5_5_t16n z5_5_t17 z5_5_t19 z5_5_t19k z5_5_1_2_s0 z5_5_1_2_t5))
theorem E34 (l0 : (List (Int × (Int × (Int × ((List Int) × (List Int))))))) {R : V → Prop} (h : (0 ≤ ((l0).length : Int) ∧ ((l0).length : Int) ≤ ((l0).length : Int) ∧ ((l0).length : Int) * (1 : Int) ≤ (room : Int) ∧ ((l0).length : Int) ≤ 9223372036854775807 ∧ (Loops B34_0 M34_0 (Q34_0 R)
  (S34_0 ((((l0).length : Int)).toNat) l0 (((l0).length : Int)) (0 : Int) ((List.replicate (((l0).length : Int)).toNat false)) (fun _ => .no) ⟨0, []⟩)))) :
  fnK X34.tt (callN Try.prog X34 3) (X34.md 34) (X34.mk1 34) Try.f34 [(.v (.list (.pair (.int .i64) (.pair (.int .i64) (.pair (.int .i64) (.pair (.slice (.int .i64)) (.slice (.int .i64)))))) l0 .no))] ⟨[], [], ⟨0, []⟩⟩ (topK R) := Eq.mp (by kernel_rfl) h
theorem L34_0 (out3n : Nat) (t9 : List (Int × (Int × (Int × ((List Int) × (List Int)))))) (t10 : Int) (t11 : Int) (hq0 : List Bool) (hq0s : Nat → Tok) (T : Toks) {R : V → Prop} {k0 : St → Prop}
 (h : (((decide (t11 < t10)) = true → (0 ≤ t11 ∧ t11 < ((t9).length : Int) ∧ (Loops B34c5_5_1_2_0 M34c5_5_1_2_0 (Q34c5_5_1_2_0 R k0 out3n t11 t9 t10 t11 ((decide (t11 < t10))) t11 ((t9.getD (t11).toNat (0, (0, (0, ([], []))))).1) ((t9.getD (t11).toNat (0, (0, (0, ([], []))))).2.1) ((t9.getD (t11).toNat (0, (0, (0, ([], []))))).2.2.1) ((t9.getD (t11).toNat (0, (0, (0, ([], []))))).2.2.2.1) .no ((t9.getD (t11).toNat (0, (0, (0, ([], []))))).2.2.2.2) .no ((t9.getD (t11).toNat (0, (0, (0, ([], []))))).1) ((t9.getD (t11).toNat (0, (0, (0, ([], []))))).2.1) ((t9.getD (t11).toNat (0, (0, (0, ([], []))))).2.2.1) ((t9.getD (t11).toNat (0, (0, (0, ([], []))))).2.2.2.1) .no ((t9.getD (t11).toNat (0, (0, (0, ([], []))))).2.2.2.2) .no 0 out3n t11 ((t9.getD (t11).toNat (0, (0, (0, ([], []))))).2.2.2.2) .no ((t9.getD (t11).toNat (0, (0, (0, ([], []))))).2.2.2.2) ((t9.getD (t11).toNat (0, (0, (0, ([], []))))).2.2.2.2))
  (S34c5_5_1_2_0 ((t9.getD (t11).toNat (0, (0, (0, ([], []))))).2.2.2.2) ((((t9.getD (t11).toNat (0, (0, (0, ([], []))))).2.2.2.2).length : Int)) (0 : Int) hq0 hq0s ((t9.getD (t11).toNat (0, (0, (0, ([], []))))).1) ((t9.getD (t11).toNat (0, (0, (0, ([], []))))).2.1) ((t9.getD (t11).toNat (0, (0, (0, ([], []))))).2.2.1) ((t9.getD (t11).toNat (0, (0, (0, ([], []))))).2.2.2.1) .no ((t9.getD (t11).toNat (0, (0, (0, ([], []))))).2.2.2.2) .no T)))) ∧
 ((decide (t11 < t10)) = false → (0 = 0 ∧ 0 + out3n ≤ (hq0).length ∧ R (.list .bool (((hq0.drop 0).take out3n)) .no))))) :
  B34_0 (loopQ M34_0 k0 (Q34_0 R)) (S34_0 out3n t9 t10 t11 hq0 hq0s T) := Eq.mp (by kernel_rfl) h
theorem L34c5_5_1_2_0 (s0 : List Int) (t7 : Int) (t8 : Int) (hq0 : List Bool) (hq0s : Nat → Tok) (hq1_0 : Int) (hq1_1 : Int) (hq1_2 : Int) (hq1_3 : List Int) (hq1_3k : Tok) (hq1_4 : List Int) (hq1_4k : Tok) (T : Toks) {R : V → Prop} {k0 : St → Prop} {z5_5_out3n : Nat} {z5_5_i4 : Int} {z5_5_t9 : List (Int × (Int × (Int × ((List Int) × (List Int)))))} {z5_5_t10 : Int} {z5_5_t11 : Int} {z5_5_t12 : Bool} {z5_5_t13 : Int} {z5_5_t14_0 : Int} {z5_5_t14_1 : Int} {z5_5_t14_2 : Int} {z5_5_t14_3 : List Int} {z5_5_t14_3k : Tok} {z5_5_t14_4 : List Int} {z5_5_t14_4k : Tok} {z5_5_t15_0 : Int} {z5_5_t15_1 : Int} {z5_5_t15_2 : Int} {z5_5_t15_3 : List Int} {z5_5_t15_3k : Tok} {z5_5_t15_4 : List Int} {z5_5_t15_4k : Tok} {z5_5_t16g : Nat} {z5_5_t16n : Nat} {z5_5_t17 : Int} {z5_5_t19 : List Int} {z5_5_t19k : Tok} {z5_5_1_2_s0 : List Int} {z5_5_1_2_t5 : List Int} {kc5_5_1_2_0 : St → Prop}
 (h : (((decide (t8 < t7)) = true → (0 ≤ t8 ∧ t8 < ((s0).length : Int) ∧ (((decide ((s0.getD (t8).toNat 0) ≤ hq1_0)) = true → (z5_5_t16g = 0 ∧ 0 ≤ z5_5_t17 ∧ z5_5_t17 < ((z5_5_t16n : Nat) : Int) ∧ (z5_5_t16g = 0 ∧ (0 + (z5_5_t17).toNat) < (hq0).length ∧ k0 (S34_0 z5_5_out3n z5_5_t9 z5_5_t10 ((IntKind.wrap .i64 (z5_5_t11 + (1 : Int)))) ((hq0.set ((0 + (z5_5_t17).toNat)) ((decide (t8 ≥ (0 : Int)))))) ((fun j => if j = (0 + (z5_5_t17).toNat) then .no else hq0s j)) T)))) ∧
 ((decide ((s0.getD (t8).toNat 0) ≤ hq1_0)) = false → kc5_5_1_2_0 (S34c5_5_1_2_0 s0 t7 ((IntKind.wrap .i64 (t8 + (1 : Int)))) hq0 hq0s hq1_0 hq1_1 hq1_2 hq1_3 hq1_3k hq1_4 hq1_4k T))))) ∧
 ((decide (t8 < t7)) = false → (z5_5_t16g = 0 ∧ 0 ≤ z5_5_t17 ∧ z5_5_t17 < ((z5_5_t16n : Nat) : Int) ∧ (z5_5_t16g = 0 ∧ (0 + (z5_5_t17).toNat) < (hq0).length ∧ k0 (S34_0 z5_5_out3n z5_5_t9 z5_5_t10 ((IntKind.wrap .i64 (z5_5_t11 + (1 : Int)))) ((hq0.set ((0 + (z5_5_t17).toNat)) ((decide ((-1 : Int) ≥ (0 : Int)))))) ((fun j => if j = (0 + (z5_5_t17).toNat) then .no else hq0s j)) T)))))) :
  B34c5_5_1_2_0 (loopQ M34c5_5_1_2_0 kc5_5_1_2_0 (Q34c5_5_1_2_0 R k0 z5_5_out3n z5_5_i4 z5_5_t9 z5_5_t10 z5_5_t11 z5_5_t12 z5_5_t13 z5_5_t14_0 z5_5_t14_1 z5_5_t14_2 z5_5_t14_3 z5_5_t14_3k z5_5_t14_4 z5_5_t14_4k z5_5_t15_0 z5_5_t15_1 z5_5_t15_2 z5_5_t15_3 z5_5_t15_3k z5_5_t15_4 z5_5_t15_4k z5_5_t16g z5_5_t16n z5_5_t17 z5_5_t19 z5_5_t19k z5_5_1_2_s0 z5_5_1_2_t5)) (S34c5_5_1_2_0 s0 t7 t8 hq0 hq0s hq1_0 hq1_1 hq1_2 hq1_3 hq1_3k hq1_4 hq1_4k T) := Eq.mp (by kernel_rfl) h

end Go.Proofs.Ytiomllkdfhglhaa.AB

set_option linter.unusedVariables false
set_option linter.unusedSimpArgs false
namespace Go.Proofs.Ytiomllkdfhglhaa.AB
open Go

/-! crucible/crucibleref8.Back -/
noncomputable def X35 : Cx := ⟨tt, [], [], [(35, [(0, mkM 45 0 [0, 3, 4], 0), (2, mkM 45 0 [0, 3, 4, 5, 6], 0)])], []⟩
theorem FN35 : fnsB Try.prog X35.fns := (show True from trivial)
def M35_0 : List Bool × Nat := (mkM 45 0 [0, 3, 4], 0)
def S35_0 (l0 : List (Int × (Int × (Int × ((List Int) × (List Int)))))) (out3 : List Bool) (out3k : Tok) (i4 : Int) (T : Toks) : St :=
  mkS 45 [(0, (.v (.list (.pair (.int .i64) (.pair (.int .i64) (.pair (.int .i64) (.pair (.slice (.int .i64)) (.slice (.int .i64)))))) l0 .no))), (3, (.v (.list .bool out3 out3k))), (4, (.v (.int .i64 i4)))] [] T
noncomputable def B35_0 : (Exit → St → Prop) → St → Prop := (awp X35.tt (callN Try.prog X35 0) (X35.md 35) 0 (X35.mk1 35) 0 (codeAt [1, 1, 0, 1, 0, 0] (bd Try.f35)))
def M35_2 : List Bool × Nat := (mkM 45 0 [0, 3, 4, 5, 6], 0)
def S35_2 (l0 : List (Int × (Int × (Int × ((List Int) × (List Int)))))) (out3 : List Bool) (out3k : Tok) (i4 : Int) (back5 : Bool) (k6 : Int) (T : Toks) : St :=
  mkS 45 [(0, (.v (.list (.pair (.int .i64) (.pair (.int .i64) (.pair (.int .i64) (.pair (.slice (.int .i64)) (.slice (.int .i64)))))) l0 .no))), (3, (.v (.list .bool out3 out3k))), (4, (.v (.int .i64 i4))), (5, (.v (.bool back5))), (6, (.v (.int .i64 k6)))] [] T
noncomputable def B35_2 : (Exit → St → Prop) → St → Prop := (awp X35.tt (callN Try.prog X35 0) (X35.md 35) 0 (X35.mk1 35) 2 (codeAt [1, 1, 0, 1, 0, 0, 1, 0, 0, 1, 0, 1, 0, 0] (bd Try.f35)))
noncomputable def K35_0 (R : V → Prop) : Exit → St → Prop := seqK ((awp X35.tt (callN Try.prog X35 0) (X35.md 35) 0 (X35.mk1 35) 0 (codeAt [1, 1, 1] (bd Try.f35))) (retK tt Try.f35.results.toList fun x s' => topK R x ⟨[], s'.hp, s'.T⟩)) (retK tt Try.f35.results.toList fun x s' => topK R x ⟨[], s'.hp, s'.T⟩)
noncomputable def Q35_0 (R : V → Prop) : Exit → St → Prop := (blockK 0 (K35_0 R))
noncomputable def K35_1 (R : V → Prop) (k0 : St → Prop) : Exit → St → Prop := seqK ((awp X35.tt (callN Try.prog X35 0) (X35.md 35) 0 (X35.mk1 35) 0 (codeAt [1, 1, 0, 1, 0, 0, 1, 1] (bd Try.f35))) (loopQ M35_0 k0 (blockK 0 (K35_0 R)))) (loopQ M35_0 k0 (blockK 0 (K35_0 R)))
noncomputable def K35_2 (R : V → Prop) (k0 : St → Prop) : Exit → St → Prop := seqK ((awp X35.tt (callN Try.prog X35 0) (X35.md 35) 0 (X35.mk1 35) 1 (codeAt [1, 1, 0, 1, 0, 0, 1, 0, 0, 1, 1] (bd Try.f35))) (blockK 1 (K35_1 R k0))) (blockK 1 (K35_1 R k0))
noncomputable def Q35_2 (R : V → Prop) (k0 : St → Prop) : Exit → St → Prop := (blockK 2 (K35_2 R k0))
theorem E35 (l0 : (List (Int × (Int × (Int × ((List Int) × (List Int))))))) {R : V → Prop} (h : (Loops B35_0 M35_0 (Q35_0 R)
  (S35_0 l0 ([] : List Bool) .exact (0 : Int) ⟨0, []⟩))) :
  fnK X35.tt (callN Try.prog X35 0) (X35.md 35) (X35.mk1 35) Try.f35 [(.v (.list (.pair (.int .i64) (.pair (.int .i64) (.pair (.int .i64) (.pair (.slice (.int .i64)) (.slice (.int .i64)))))) l0 .no))] ⟨[], [], ⟨0, []⟩⟩ (topK R) := Eq.mp (by kernel_rfl) h
theorem L35_0 (l0 : List (Int × (Int × (Int × ((List Int) × (List Int)))))) (out3 : List Bool) (out3k : Tok) (i4 : Int) (T : Toks) {R : V → Prop} {k0 : St → Prop}
 (h : (((decide (i4 < ((l0).length : Int))) = true → (Loops B35_2 M35_2 (Q35_2 R k0)
  (S35_2 l0 out3 out3k i4 false (0 : Int) T))) ∧
 ((decide (i4 < ((l0).length : Int))) = false → R (.list .bool out3 .no)))) :
  B35_0 (loopQ M35_0 k0 (Q35_0 R)) (S35_0 l0 out3 out3k i4 T) := Eq.mp (by kernel_rfl) h
theorem L35_2 (l0 : List (Int × (Int × (Int × ((List Int) × (List Int)))))) (out3 : List Bool) (out3k : Tok) (i4 : Int) (back5 : Bool) (k6 : Int) (T : Toks) {R : V → Prop} {k0 : St → Prop} {k2 : St → Prop}
 (h : (0 ≤ i4 ∧ i4 < ((l0).length : Int) ∧ (((decide (k6 < (((l0.getD (i4).toNat (0, (0, (0, ([], []))))).2.2.2.2).length : Int))) = true → ((back5 = true → k2 (S35_2 l0 out3 out3k i4 true ((IntKind.wrap .i64 (k6 + (1 : Int)))) T)) ∧ (back5 = false → (0 ≤ i4 ∧ i4 < ((l0).length : Int) ∧ (0 ≤ k6 ∧ k6 < (((l0.getD (i4).toNat (0, (0, (0, ([], []))))).2.2.2.2).length : Int) ∧ (0 ≤ i4 ∧ i4 < ((l0).length : Int) ∧ k2 (S35_2 l0 out3 out3k i4 ((decide ((((l0.getD (i4).toNat (0, (0, (0, ([], []))))).2.2.2.2).getD (k6).toNat 0) ≤ (l0.getD (i4).toNat (0, (0, (0, ([], []))))).1))) ((IntKind.wrap .i64 (k6 + (1 : Int)))) T))))))) ∧
 ((decide (k6 < (((l0.getD (i4).toNat (0, (0, (0, ([], []))))).2.2.2.2).length : Int))) = false → (Tok.own out3k T.l ∧ ((out3).length + (([back5] : List Bool)).length) * 1 ≤ room ∧ k0 (S35_0 l0 ((out3 ++ ([back5] : List Bool))) (.tk T.n) ((IntKind.wrap .i64 (i4 + (1 : Int)))) ⟨(T.n + 1), (T.n :: Tok.drop out3k T.l)⟩)))))) :
  B35_2 (loopQ M35_2 k2 (Q35_2 R k0)) (S35_2 l0 out3 out3k i4 back5 k6 T) := Eq.mp (by kernel_rfl) h

end Go.Proofs.Ytiomllkdfhglhaa.AB

set_option linter.unusedVariables false
set_option linter.unusedSimpArgs false
namespace Go.Proofs.Ytiomllkdfhglhaa.AB
open Go

theorem p28 (l : List Ins) (size : Int) (hs : List Hd) (hl : l.length ≤ 1000000) (hh : hs.length ≤ 1000000) :
    PC Try.prog 28 [.list cIns l .no, .int .i64 size, .list cH hs .no] (covV (coverAll l size hs)) := by
  have hroom : room = 140737488355328 := rfl
  refine pcOf (X := X28) (d := 0) rfl trivial (by kernel_rfl) (by decide) (E28 l size hs ?_)
  have fin : ∀ p, coverAll l size hs = p → (covV p).norm = covV (coverAll l size hs) ∧ (covV (coverAll l size hs)).nt = true := fun p h => by rw [h]; exact ⟨rfl, rfl⟩
  refine Loops.intro (fun n : Nat => S28_0 l size hs n ⟨0, []⟩) (fun n => n ≤ hs.length ∧ (hs.take n).any (badH l size) = false) (fun n => hs.length - n) 0 rfl ⟨Nat.zero_le _, rfl⟩ ?_
  rintro n ⟨hn, hb⟩
  refine L28_0 l size hs n ⟨0, []⟩ ?_
  simp only [Bool.not_true, Bool.not_false, Bool.true_eq_false, Bool.false_eq_true, forall_const, false_implies, true_implies, and_true, true_and, eq_self, implies_true, Nat.zero_add, Int.toNat_natCast, List.take_length, decide_eq_true_eq, decide_eq_false_iff_not, beq_iff_eq, beq_eq_false_iff_ne, bne_iff_ne, bne_eq_false_iff_eq, ne_eq, Bool.not_eq_true', Bool.not_eq_false', Int.not_le, Int.not_lt, List.length_cons, List.length_nil, List.length_append, Nat.add_zero, List.drop_zero]
  refine ⟨fun h => ?_, fun h => ?_⟩
  · have hlt : n < hs.length := by omega
    simp only [getD_lt hlt]
    rw [wrap64 (by omega) (by omega)]
    have bad : badH l size hs[n] = true → V.norm (.tup [.list (.slice (.int .i64)) [] .no, .int .i64 12]) = covV (coverAll l size hs) ∧ (covV (coverAll l size hs)).nt = true := by
      intro hbad
      refine fin ([], 12) ?_
      unfold coverAll
      rw [if_pos]
      rw [List.any_eq_true]
      exact ⟨_, List.getElem_mem hlt, hbad⟩
    have good : badH l size hs[n] = false → Again (fun n : Nat => S28_0 l size hs n ⟨0, []⟩) (fun n => n ≤ hs.length ∧ (hs.take n).any (badH l size) = false) (fun n => hs.length - n) (hs.length - n) (S28_0 l size hs ((n : Int) + 1) ⟨0, []⟩) := by
      intro hgood
      exact Again.mk (n + 1) rfl ⟨by omega, by rw [any_take_succ _ _ hlt, hb, hgood]; rfl⟩ (by omega)
    have g : ∀ pc, (idx l pc < 0 ↔ isPc l pc = false) ∧ (0 ≤ idx l pc ↔ isPc l pc = true) := fun pc => by
      have := idxEq l pc
      refine ⟨this, ?_⟩
      rw [← Bool.not_eq_false, ← this]; omega
    refine ⟨by omega, by omega, _, p55 l _ (by omega), fun h1 => bad ?_, fun h1 => ⟨_, p55 l _ (by omega), fun h2 => bad ?_, fun h2 => ⟨fun h3 => ⟨_, p55 l _ (by omega), fun h4 => bad ?_, fun h4 => good ?_⟩, fun h3 => good ?_⟩⟩⟩
    all_goals
      simp only [(g _).1, (g _).2] at *
      unfold badH
      simp [*]
  · have hnn : n = hs.length := by omega
    subst hnn
    rw [List.take_length] at hb
    have hcov : coverAll l size hs = (coverL l hs, 0) := by unfold coverAll; rw [if_neg (by simp [hb])]
    refine Loops.intro (fun a : Nat × Tok × Toks => S28_2 l hs (coverL (l.take a.1) hs) a.2.1 a.1 a.2.2)
      (fun a => a.1 ≤ l.length ∧ a.2.1.fresh a.2.2) (fun a => l.length - a.1) (0, .exact, ⟨0, []⟩) rfl ⟨Nat.zero_le _, trivial⟩ ?_
    rintro ⟨n, tk, T⟩ ⟨hn, hT⟩
    simp only at hn hT
    refine L28_2 l hs (coverL (l.take n) hs) tk n T ?_
    simp only [Bool.not_true, Bool.not_false, Bool.true_eq_false, Bool.false_eq_true, forall_const, false_implies, true_implies, and_true, true_and, eq_self, implies_true, Nat.zero_add, Int.toNat_natCast, List.take_length, decide_eq_true_eq, decide_eq_false_iff_not, beq_iff_eq, beq_eq_false_iff_ne, bne_iff_ne, bne_eq_false_iff_eq, ne_eq, Bool.not_eq_true', Bool.not_eq_false', Int.not_le, Int.not_lt, List.length_cons, List.length_nil, List.length_append, Nat.add_zero, List.drop_zero]
    refine ⟨fun h => ?_, fun h => ?_⟩
    · have hlt : n < l.length := by omega
      refine Loops.intro (fun a : Nat × Tok × Toks => S28_4 l hs (coverL (l.take n) hs) tk n (coverN hs l[n].1 a.1) a.2.1 a.1 a.2.2)
        (fun a => a.1 ≤ hs.length ∧ a.2.1.fresh a.2.2 ∧ tk.fresh a.2.2 ∧ a.2.1.ne tk) (fun a => hs.length - a.1) (0, .exact, T) rfl ⟨Nat.zero_le _, trivial, hT, trivial⟩ ?_
      rintro ⟨k, uk, U⟩ ⟨hk, hU, hV, hne⟩
      simp only at hk hU hV hne
      have hnk := coverN_len hs l[n].1 k
      refine L28_4 l hs (coverL (l.take n) hs) tk n (coverN hs l[n].1 k) uk k U ?_
      simp only [Bool.not_true, Bool.not_false, Bool.true_eq_false, Bool.false_eq_true, forall_const, false_implies, true_implies, and_true, true_and, eq_self, implies_true, Nat.zero_add, Int.toNat_natCast, List.take_length, decide_eq_true_eq, decide_eq_false_iff_not, beq_iff_eq, beq_eq_false_iff_ne, bne_iff_ne, bne_eq_false_iff_eq, ne_eq, Bool.not_eq_true', Bool.not_eq_false', Int.not_le, Int.not_lt, List.length_cons, List.length_nil, List.length_append, Nat.add_zero, List.drop_zero, getD_lt hlt]
      refine ⟨fun h => ?_, fun h => ?_⟩
      · have hklt : k < hs.length := by omega
        rw [wrap64 (by omega) (by omega)]
        refine ⟨by omega, by omega, by omega, by omega, fun h1 => ⟨by omega, by omega, by omega, by omega, fun h2 => ⟨hU.own, by omega, ?_⟩, fun h2 => ?_⟩, fun h1 => ?_⟩
        · refine Again.mk (k + 1, .tk U.n, ⟨U.n + 1, U.n :: uk.drop U.l⟩) ?_ ⟨by simp only; omega, Tok.fresh_new _ _, hV.keep hne, hV.new_ne⟩ (by simp only; omega)
          simp only [coverN_succ]
          rw [if_pos (by simp only [h1, h2, decide_true, Bool.and_true])]
          rfl
        · refine Again.mk (k + 1, uk, U) ?_ ⟨by simp only; omega, hU, hV, hne⟩ (by simp only; omega)
          have : ¬ l[n].1 < (hs.getD k (0, (0, (0, 0)))).2.1 := by omega
          simp only [coverN_succ, this, decide_false, Bool.and_false, Bool.false_eq_true, if_false, List.append_nil]
          rfl
        · refine Again.mk (k + 1, uk, U) ?_ ⟨by simp only; omega, hU, hV, hne⟩ (by simp only; omega)
          have : ¬ (hs.getD k (0, (0, (0, 0)))).1 ≤ l[n].1 := by omega
          simp only [coverN_succ, this, decide_false, Bool.false_and, Bool.false_eq_true, if_false, List.append_nil]
          rfl
      · have hkk : k = hs.length := by omega
        subst hkk
        rw [wrap64 (by omega) (by omega)]
        refine ⟨hV.own, by simp [coverL]; omega, ?_⟩
        refine Again.mk (n + 1, .tk U.n, ⟨U.n + 1, U.n :: tk.drop U.l⟩) ?_ ⟨by simp only; omega, Tok.fresh_new _ _⟩ (by simp only; omega)
        simp only [coverL]
        rw [List.take_succ_eq_append_getElem hlt, List.map_append]
        rfl
    · have hnn : n = l.length := by omega
      subst hnn
      rw [List.take_length]
      exact fin (coverL l hs, 0) hcov

/-- which instructions jump back -/
def backI (l : List Ins) : List Bool := l.map fun x => x.2.2.2.2.any fun to => decide (to ≤ x.1)

theorem p34 (l : List Ins) (hl : l.length ≤ 1000000) (ht : ∀ x ∈ l, x.2.2.2.2.length ≤ 1000000) : PC Try.prog 34 [.list cIns l .no] (.list .bool (backI l) .no) := by
  have hroom : room = 140737488355328 := rfl
  refine pcOf (X := X34) (d := 3) rfl FN34 (by kernel_rfl) (by decide) (E34 l ?_)
  simp only [Int.toNat_natCast]
  refine ⟨by omega, by omega, by omega, by omega, ?_⟩
  refine Loops.intro (fun a : Nat × List Bool × (Nat → Tok) => S34_0 l.length l l.length a.1 a.2.1 a.2.2 ⟨0, []⟩)
    (fun a => a.1 ≤ l.length ∧ a.2.1.length = l.length ∧ ∀ j, j < a.1 → a.2.1.getD j false = (backI l).getD j false) (fun a => l.length - a.1)
    (0, List.replicate l.length false, fun _ => .no) rfl ⟨Nat.zero_le _, by simp, fun j hj => absurd hj (Nat.not_lt_zero _)⟩ ?_
  rintro ⟨n, hq, ts⟩ ⟨hn, hq1, hq2⟩
  simp only at hn hq1 hq2
  refine L34_0 l.length l l.length n hq ts ⟨0, []⟩ ?_
  simp only [Bool.not_true, Bool.not_false, Bool.true_eq_false, Bool.false_eq_true, forall_const, false_implies, true_implies, and_true, true_and, eq_self, implies_true, Nat.zero_add, Int.toNat_natCast, List.take_length, decide_eq_true_eq, decide_eq_false_iff_not, beq_iff_eq, beq_eq_false_iff_ne, bne_iff_ne, bne_eq_false_iff_eq, ne_eq, Bool.not_eq_true', Bool.not_eq_false', Int.not_le, Int.not_lt, List.length_cons, List.length_nil, List.length_append, Nat.add_zero, List.drop_zero]
  refine ⟨fun h => ⟨by omega, by omega, ?_⟩, fun h => ⟨by omega, ?_⟩⟩
  · have hlt : n < l.length := by omega
    have hto := ht _ (List.getElem_mem hlt)
    simp only [getD_lt hlt]
    have next : ∀ (b : Bool) (T : Toks), b = (l[n].2.2.2.2.any fun to => decide (to ≤ l[n].1)) → Again (fun a : Nat × List Bool × (Nat → Tok) => S34_0 l.length l l.length a.1 a.2.1 a.2.2 ⟨0, []⟩)
        (fun a => a.1 ≤ l.length ∧ a.2.1.length = l.length ∧ ∀ j, j < a.1 → a.2.1.getD j false = (backI l).getD j false) (fun a => l.length - a.1) (l.length - n)
        (S34_0 l.length l l.length (IntKind.wrap .i64 (n + 1)) (hq.set n b) (fun j => if j = n then .no else ts j) ⟨0, []⟩) := by
      intro b T hb
      rw [wrap64 (by omega) (by omega)]
      refine Again.mk (n + 1, _, _) rfl ⟨by simp only; omega, by simpa using hq1, fun j hj => ?_⟩ (by simp only; omega)
      simp only at hj ⊢
      rw [getD_setD (by omega)]
      by_cases hjn : n = j
      · subst hjn
        rw [if_pos rfl, hb]
        simp [backI, List.getD, hlt]
      · rw [if_neg hjn, hq2 j (by omega)]
    refine Loops.intro (fun k : Nat => S34c5_5_1_2_0 l[n].2.2.2.2 l[n].2.2.2.2.length k hq ts l[n].1 l[n].2.1 l[n].2.2.1 l[n].2.2.2.1 .no l[n].2.2.2.2 .no ⟨0, []⟩)
      (fun k => k ≤ l[n].2.2.2.2.length ∧ (l[n].2.2.2.2.take k).any (fun to => decide (to ≤ l[n].1)) = false) (fun k => l[n].2.2.2.2.length - k) 0 rfl ⟨Nat.zero_le _, rfl⟩ ?_
    rintro k ⟨hk, hka⟩
    refine L34c5_5_1_2_0 l[n].2.2.2.2 l[n].2.2.2.2.length k hq ts l[n].1 l[n].2.1 l[n].2.2.1 l[n].2.2.2.1 .no l[n].2.2.2.2 .no ⟨0, []⟩ ?_
    simp only [Bool.not_true, Bool.not_false, Bool.true_eq_false, Bool.false_eq_true, forall_const, false_implies, true_implies, and_true, true_and, eq_self, implies_true, Nat.zero_add, Int.toNat_natCast, List.take_length, decide_eq_true_eq, decide_eq_false_iff_not, beq_iff_eq, beq_eq_false_iff_ne, bne_iff_ne, bne_eq_false_iff_eq, ne_eq, Bool.not_eq_true', Bool.not_eq_false', Int.not_le, Int.not_lt, List.length_cons, List.length_nil, List.length_append, Nat.add_zero, List.drop_zero]
    refine ⟨fun h => ⟨by omega, by omega, fun h1 => ⟨by omega, by omega, by omega, next _ ⟨0, []⟩ ?_⟩, fun h1 => ?_⟩, fun h => ⟨by omega, by omega, by omega, next _ ⟨0, []⟩ ?_⟩⟩
    · have hklt : k < l[n].2.2.2.2.length := by omega
      rw [getD_lt hklt] at h1
      have : l[n].2.2.2.2.any (fun to => decide (to ≤ l[n].1)) = true := List.any_eq_true.2 ⟨_, List.getElem_mem hklt, by simpa using h1⟩
      rw [this]
      simp
    · have hklt : k < l[n].2.2.2.2.length := by omega
      rw [getD_lt hklt] at h1
      rw [wrap64 (by omega) (by omega)]
      refine Again.mk (k + 1) rfl ⟨by omega, ?_⟩ (by omega)
      rw [any_take_succ _ _ hklt, hka]
      simp only [Bool.false_or, decide_eq_false_iff_not]
      omega
    · have hkk : k = l[n].2.2.2.2.length := by omega
      rw [hkk, List.take_length] at hka
      rw [hka]
      rfl
  · have hnn : n = l.length := by omega
    subst hnn
    have : hq = backI l := by
      refine eq_of_getD false (by simp [backI, hq1]) fun j hj => hq2 j (by simpa [backI] using hj)
    rw [← hq1, List.take_length, this]
    exact ⟨rfl, rfl⟩

end Go.Proofs.Ytiomllkdfhglhaa.AB

set_option linter.unusedVariables false
set_option linter.unusedSimpArgs false
namespace Go.Proofs.Ytiomllkdfhglhaa.AB
open Go

/-! crucible/flow.Succ -/
noncomputable def X26 : Cx := ⟨tt, [(42, [.mp (.int .i64) (.int .i64)]), (53, [.cd .bool]), (54, [.cd .bool])], [], [(26, [(0, mkM 80 0 [0, 3, 4, 16, 17, 18], 1), (2, mkM 80 0 [0, 3, 4, 5, 16, 17, 18, 46, 47, 48], 2)])], []⟩
theorem FN26 : fnsB Try.prog X26.fns := (show True from trivial)
def M26_0 : List Bool × Nat := (mkM 80 0 [0, 3, 4, 16, 17, 18], 1)
def S26_0 (l0 : List (Int × (Int × (Int × ((List Int) × (List Int)))))) (at3 : List (Int × Int)) (out4n : Nat) (t16 : List (Int × (Int × (Int × ((List Int) × (List Int)))))) (t17 : Int) (t18 : Int) (hq0 : List (List Int)) (hq0s : Nat → Tok) (T : Toks) : St :=
  mkS 80 [(0, (.v (.list (.pair (.int .i64) (.pair (.int .i64) (.pair (.int .i64) (.pair (.slice (.int .i64)) (.slice (.int .i64)))))) l0 .no))), (3, (.v (.fmap (.int .i64) (.int .i64) at3))), (4, (.arr 0 0 0 out4n)), (16, (.v (.list (.pair (.int .i64) (.pair (.int .i64) (.pair (.int .i64) (.pair (.slice (.int .i64)) (.slice (.int .i64)))))) t16 .no))), (17, (.v (.int .i64 t17))), (18, (.v (.int .i64 t18)))] [(some (.arr 0 (.slice (.int .i64)) hq0 hq0s))] T
noncomputable def B26_0 : (Exit → St → Prop) → St → Prop := (awp X26.tt (callN Try.prog X26 0) (X26.md 26) 0 (X26.mk1 26) 0 (codeAt [1, 1, 1, 0, 1, 0, 0] (bd Try.f26)))
def M26_2 : List Bool × Nat := (mkM 80 0 [0, 3, 4, 5, 16, 17, 18, 46, 47, 48], 2)
def S26_2 (l0 : List (Int × (Int × (Int × ((List Int) × (List Int)))))) (at3 : List (Int × Int)) (out4n : Nat) (i5 : Int) (t16 : List (Int × (Int × (Int × ((List Int) × (List Int)))))) (t17 : Int) (t18 : Int) (t46 : List Int) (t47 : Int) (t48 : Int) (hq0 : List (List Int)) (hq0s : Nat → Tok) (hq1_0 : Int) (hq1_1 : Int) (hq1_2 : Int) (hq1_3 : List Int) (hq1_3k : Tok) (hq1_4 : List Int) (hq1_4k : Tok) (T : Toks) : St :=
  mkS 80 [(0, (.v (.list (.pair (.int .i64) (.pair (.int .i64) (.pair (.int .i64) (.pair (.slice (.int .i64)) (.slice (.int .i64)))))) l0 .no))), (3, (.v (.fmap (.int .i64) (.int .i64) at3))), (4, (.arr 0 0 0 out4n)), (5, (.v (.int .i64 i5))), (16, (.v (.list (.pair (.int .i64) (.pair (.int .i64) (.pair (.int .i64) (.pair (.slice (.int .i64)) (.slice (.int .i64)))))) t16 .no))), (17, (.v (.int .i64 t17))), (18, (.v (.int .i64 t18))), (46, (.v (.list (.int .i64) t46 .no))), (47, (.v (.int .i64 t47))), (48, (.v (.int .i64 t48)))] [(some (.arr 0 (.slice (.int .i64)) hq0 hq0s)), (some (.box (.v (.agg [(.int .i64 hq1_0), (.int .i64 hq1_1), (.int .i64 hq1_2), (.list (.int .i64) hq1_3 hq1_3k), (.list (.int .i64) hq1_4 hq1_4k)]))))] T
noncomputable def B26_2 : (Exit → St → Prop) → St → Prop := (awp X26.tt (callN Try.prog X26 0) (X26.md 26) 0 (X26.mk1 26) 2 (codeAt [1, 1, 1, 0, 1, 0, 0, 1, 1, 0, 0, 1, 1, 1, 0, 0] (bd Try.f26)))
noncomputable def K26_0 (R : V → Prop) : Exit → St → Prop := seqK ((awp X26.tt (callN Try.prog X26 0) (X26.md 26) 0 (X26.mk1 26) 0 (codeAt [1, 1, 1, 1] (bd Try.f26))) (retK tt Try.f26.results.toList fun x s' => topK R x ⟨[], s'.hp, s'.T⟩)) (retK tt Try.f26.results.toList fun x s' => topK R x ⟨[], s'.hp, s'.T⟩)
noncomputable def Q26_0 (R : V → Prop) : Exit → St → Prop := (blockK 0 (K26_0 R))
noncomputable def K26_1 (R : V → Prop) (k0 : St → Prop) : Exit → St → Prop := seqK ((awp X26.tt (callN Try.prog X26 0) (X26.md 26) 0 (X26.mk1 26) 0 (codeAt [1, 1, 1, 0, 1, 0, 0, 1, 1, 1] (bd Try.f26))) (loopQ M26_0 k0 (blockK 0 (K26_0 R)))) (loopQ M26_0 k0 (blockK 0 (K26_0 R)))
noncomputable def Q26_2 (R : V → Prop) (k0 : St → Prop) : Exit → St → Prop := (blockK 2 (blockK 1 (K26_1 R k0)))
theorem E26 (l0 : (List (Int × (Int × (Int × ((List Int) × (List Int))))))) {R : V → Prop} (h : (∃ p1 : List (Int × Int), PC Try.prog 42 [(.list (.pair (.int .i64) (.pair (.int .i64) (.pair (.int .i64) (.pair (.slice (.int .i64)) (.slice (.int .i64)))))) l0 .no)] ((.fmap (.int .i64) (.int .i64) p1)) ∧ (0 ≤ ((l0).length : Int) ∧ ((l0).length : Int) ≤ ((l0).length : Int) ∧ ((l0).length : Int) * (24 : Int) ≤ (room : Int) ∧ ((l0).length : Int) ≤ 9223372036854775807 ∧ (Loops B26_0 M26_0 (Q26_0 R)
  (S26_0 l0 p1 ((((l0).length : Int)).toNat) l0 (((l0).length : Int)) (0 : Int) ((List.replicate (((l0).length : Int)).toNat ([] : List Int))) (fun _ => .exact) ⟨0, []⟩))))) :
  fnK X26.tt (callN Try.prog X26 0) (X26.md 26) (X26.mk1 26) Try.f26 [(.v (.list (.pair (.int .i64) (.pair (.int .i64) (.pair (.int .i64) (.pair (.slice (.int .i64)) (.slice (.int .i64)))))) l0 .no))] ⟨[], [], ⟨0, []⟩⟩ (topK R) := Eq.mp (by kernel_rfl) h
theorem L26_0 (l0 : List (Int × (Int × (Int × ((List Int) × (List Int)))))) (at3 : List (Int × Int)) (out4n : Nat) (t16 : List (Int × (Int × (Int × ((List Int) × (List Int)))))) (t17 : Int) (t18 : Int) (hq0 : List (List Int)) (hq0s : Nat → Tok) (T : Toks) {R : V → Prop} {k0 : St → Prop}
 (h : (((decide (t18 < t17)) = true → (0 ≤ t18 ∧ t18 < ((t16).length : Int) ∧ (∃ p2 : Bool, PC Try.prog 53 [(.int .i64 ((t16.getD (t18).toNat (0, (0, (0, ([], []))))).2.1))] (.bool p2) ∧ (((!p2) = true → (((decide ((IntKind.wrap .i64 (t18 + (1 : Int))) < ((l0).length : Int))) = true → (0 = 0 ∧ 0 ≤ t18 ∧ t18 < ((out4n : Nat) : Int) ∧ (0 = 0 ∧ (0 + (t18).toNat) < (hq0).length ∧ (Tok.own ((hq0s ((0 + (t18).toNat)))) T.l ∧ (((hq0.getD ((0 + (t18).toNat)) [])).length + (([(IntKind.wrap .i64 (t18 + (1 : Int)))] : List Int)).length) * 8 ≤ room ∧ (0 = 0 ∧ 0 ≤ t18 ∧ t18 < ((out4n : Nat) : Int) ∧ (0 = 0 ∧ (0 + (t18).toNat) < (hq0).length ∧ (Loops B26_2 M26_2 (Q26_2 R k0)
  (S26_2 l0 at3 out4n t18 t16 t17 t18 ((t16.getD (t18).toNat (0, (0, (0, ([], []))))).2.2.2.2) ((((t16.getD (t18).toNat (0, (0, (0, ([], []))))).2.2.2.2).length : Int)) (0 : Int) ((hq0.set ((0 + (t18).toNat)) (((hq0.getD ((0 + (t18).toNat)) []) ++ ([(IntKind.wrap .i64 (t18 + (1 : Int)))] : List Int))))) ((fun j => if j = (0 + (t18).toNat) then (.tk T.n) else hq0s j)) ((t16.getD (t18).toNat (0, (0, (0, ([], []))))).1) ((t16.getD (t18).toNat (0, (0, (0, ([], []))))).2.1) ((t16.getD (t18).toNat (0, (0, (0, ([], []))))).2.2.1) ((t16.getD (t18).toNat (0, (0, (0, ([], []))))).2.2.2.1) .no ((t16.getD (t18).toNat (0, (0, (0, ([], []))))).2.2.2.2) .no ⟨(T.n + 1), (T.n :: Tok.drop ((hq0s ((0 + (t18).toNat)))) T.l)⟩)))))))) ∧
 ((decide ((IntKind.wrap .i64 (t18 + (1 : Int))) < ((l0).length : Int))) = false → (Loops B26_2 M26_2 (Q26_2 R k0)
  (S26_2 l0 at3 out4n t18 t16 t17 t18 ((t16.getD (t18).toNat (0, (0, (0, ([], []))))).2.2.2.2) ((((t16.getD (t18).toNat (0, (0, (0, ([], []))))).2.2.2.2).length : Int)) (0 : Int) hq0 hq0s ((t16.getD (t18).toNat (0, (0, (0, ([], []))))).1) ((t16.getD (t18).toNat (0, (0, (0, ([], []))))).2.1) ((t16.getD (t18).toNat (0, (0, (0, ([], []))))).2.2.1) ((t16.getD (t18).toNat (0, (0, (0, ([], []))))).2.2.2.1) .no ((t16.getD (t18).toNat (0, (0, (0, ([], []))))).2.2.2.2) .no T))))) ∧ ((!p2) = false → (Loops B26_2 M26_2 (Q26_2 R k0)
  (S26_2 l0 at3 out4n t18 t16 t17 t18 ((t16.getD (t18).toNat (0, (0, (0, ([], []))))).2.2.2.2) ((((t16.getD (t18).toNat (0, (0, (0, ([], []))))).2.2.2.2).length : Int)) (0 : Int) hq0 hq0s ((t16.getD (t18).toNat (0, (0, (0, ([], []))))).1) ((t16.getD (t18).toNat (0, (0, (0, ([], []))))).2.1) ((t16.getD (t18).toNat (0, (0, (0, ([], []))))).2.2.1) ((t16.getD (t18).toNat (0, (0, (0, ([], []))))).2.2.2.1) .no ((t16.getD (t18).toNat (0, (0, (0, ([], []))))).2.2.2.2) .no T))))))) ∧
 ((decide (t18 < t17)) = false → (0 = 0 ∧ 0 + out4n ≤ (hq0).length ∧ R (.list (.slice (.int .i64)) (((hq0.drop 0).take out4n)) .no))))) :
  B26_0 (loopQ M26_0 k0 (Q26_0 R)) (S26_0 l0 at3 out4n t16 t17 t18 hq0 hq0s T) := Eq.mp (by kernel_rfl) h
theorem L26_2 (l0 : List (Int × (Int × (Int × ((List Int) × (List Int)))))) (at3 : List (Int × Int)) (out4n : Nat) (i5 : Int) (t16 : List (Int × (Int × (Int × ((List Int) × (List Int)))))) (t17 : Int) (t18 : Int) (t46 : List Int) (t47 : Int) (t48 : Int) (hq0 : List (List Int)) (hq0s : Nat → Tok) (hq1_0 : Int) (hq1_1 : Int) (hq1_2 : Int) (hq1_3 : List Int) (hq1_3k : Tok) (hq1_4 : List Int) (hq1_4k : Tok) (T : Toks) {R : V → Prop} {k0 : St → Prop} {k2 : St → Prop}
 (h : (((decide (t48 < t47)) = true → (0 ≤ t48 ∧ t48 < ((t46).length : Int) ∧ ((∀ (a3 : Int) (t4 : Tok), ((mfind (Cd.keq (.int .i64) ((t46.getD (t48).toNat 0))) at3).map fun b => (b, Tok.no)) = some (a3, t4) → (((!true) = true → (0 = 0 ∧ 0 ≤ i5 ∧ i5 < ((out4n : Nat) : Int) ∧ (0 = 0 ∧ (0 + (i5).toNat) < (hq0).length ∧ (∃ p5 : Bool, PC Try.prog 54 [(.list (.int .i64) ((hq0.getD ((0 + (i5).toNat)) [])) .no), (.int .i64 (-1 : Int))] (.bool p5) ∧ (((!p5) = true → (0 = 0 ∧ 0 ≤ i5 ∧ i5 < ((out4n : Nat) : Int) ∧ (0 = 0 ∧ (0 + (i5).toNat) < (hq0).length ∧ (Tok.own ((hq0s ((0 + (i5).toNat)))) T.l ∧ (((hq0.getD ((0 + (i5).toNat)) [])).length + (([(-1 : Int)] : List Int)).length) * 8 ≤ room ∧ (0 = 0 ∧ 0 ≤ i5 ∧ i5 < ((out4n : Nat) : Int) ∧ (0 = 0 ∧ (0 + (i5).toNat) < (hq0).length ∧ k2 (S26_2 l0 at3 out4n i5 t16 t17 t18 t46 t47 ((IntKind.wrap .i64 (t48 + (1 : Int)))) ((hq0.set ((0 + (i5).toNat)) (((hq0.getD ((0 + (i5).toNat)) []) ++ ([(-1 : Int)] : List Int))))) ((fun j => if j = (0 + (i5).toNat) then (.tk T.n) else hq0s j)) hq1_0 hq1_1 hq1_2 hq1_3 hq1_3k hq1_4 hq1_4k ⟨(T.n + 1), (T.n :: Tok.drop ((hq0s ((0 + (i5).toNat)))) T.l)⟩))))))) ∧
 ((!p5) = false → k2 (S26_2 l0 at3 out4n i5 t16 t17 t18 t46 t47 ((IntKind.wrap .i64 (t48 + (1 : Int)))) hq0 hq0s hq1_0 hq1_1 hq1_2 hq1_3 hq1_3k hq1_4 hq1_4k T))))))) ∧
 ((!true) = false → (0 = 0 ∧ 0 ≤ i5 ∧ i5 < ((out4n : Nat) : Int) ∧ (0 = 0 ∧ (0 + (i5).toNat) < (hq0).length ∧ (∃ p6 : Bool, PC Try.prog 54 [(.list (.int .i64) ((hq0.getD ((0 + (i5).toNat)) [])) .no), (.int .i64 a3)] (.bool p6) ∧ (((!p6) = true → (0 = 0 ∧ 0 ≤ i5 ∧ i5 < ((out4n : Nat) : Int) ∧ (0 = 0 ∧ (0 + (i5).toNat) < (hq0).length ∧ (Tok.own ((hq0s ((0 + (i5).toNat)))) T.l ∧ (((hq0.getD ((0 + (i5).toNat)) [])).length + (([a3] : List Int)).length) * 8 ≤ room ∧ (0 = 0 ∧ 0 ≤ i5 ∧ i5 < ((out4n : Nat) : Int) ∧ (0 = 0 ∧ (0 + (i5).toNat) < (hq0).length ∧ k2 (S26_2 l0 at3 out4n i5 t16 t17 t18 t46 t47 ((IntKind.wrap .i64 (t48 + (1 : Int)))) ((hq0.set ((0 + (i5).toNat)) (((hq0.getD ((0 + (i5).toNat)) []) ++ ([a3] : List Int))))) ((fun j => if j = (0 + (i5).toNat) then (.tk T.n) else hq0s j)) hq1_0 hq1_1 hq1_2 hq1_3 hq1_3k hq1_4 hq1_4k ⟨(T.n + 1), (T.n :: Tok.drop ((hq0s ((0 + (i5).toNat)))) T.l)⟩))))))) ∧
 ((!p6) = false → k2 (S26_2 l0 at3 out4n i5 t16 t17 t18 t46 t47 ((IntKind.wrap .i64 (t48 + (1 : Int)))) hq0 hq0s hq1_0 hq1_1 hq1_2 hq1_3 hq1_3k hq1_4 hq1_4k T))))))))) ∧ (((mfind (Cd.keq (.int .i64) ((t46.getD (t48).toNat 0))) at3).map fun b => (b, Tok.no)) = none → (((!false) = true → (0 = 0 ∧ 0 ≤ i5 ∧ i5 < ((out4n : Nat) : Int) ∧ (0 = 0 ∧ (0 + (i5).toNat) < (hq0).length ∧ (∃ p7 : Bool, PC Try.prog 54 [(.list (.int .i64) ((hq0.getD ((0 + (i5).toNat)) [])) .no), (.int .i64 (-1 : Int))] (.bool p7) ∧ (((!p7) = true → (0 = 0 ∧ 0 ≤ i5 ∧ i5 < ((out4n : Nat) : Int) ∧ (0 = 0 ∧ (0 + (i5).toNat) < (hq0).length ∧ (Tok.own ((hq0s ((0 + (i5).toNat)))) T.l ∧ (((hq0.getD ((0 + (i5).toNat)) [])).length + (([(-1 : Int)] : List Int)).length) * 8 ≤ room ∧ (0 = 0 ∧ 0 ≤ i5 ∧ i5 < ((out4n : Nat) : Int) ∧ (0 = 0 ∧ (0 + (i5).toNat) < (hq0).length ∧ k2 (S26_2 l0 at3 out4n i5 t16 t17 t18 t46 t47 ((IntKind.wrap .i64 (t48 + (1 : Int)))) ((hq0.set ((0 + (i5).toNat)) (((hq0.getD ((0 + (i5).toNat)) []) ++ ([(-1 : Int)] : List Int))))) ((fun j => if j = (0 + (i5).toNat) then (.tk T.n) else hq0s j)) hq1_0 hq1_1 hq1_2 hq1_3 hq1_3k hq1_4 hq1_4k ⟨(T.n + 1), (T.n :: Tok.drop ((hq0s ((0 + (i5).toNat)))) T.l)⟩))))))) ∧
 ((!p7) = false → k2 (S26_2 l0 at3 out4n i5 t16 t17 t18 t46 t47 ((IntKind.wrap .i64 (t48 + (1 : Int)))) hq0 hq0s hq1_0 hq1_1 hq1_2 hq1_3 hq1_3k hq1_4 hq1_4k T))))))) ∧
 ((!false) = false → (0 = 0 ∧ 0 ≤ i5 ∧ i5 < ((out4n : Nat) : Int) ∧ (0 = 0 ∧ (0 + (i5).toNat) < (hq0).length ∧ (∃ p8 : Bool, PC Try.prog 54 [(.list (.int .i64) ((hq0.getD ((0 + (i5).toNat)) [])) .no), (.int .i64 (0 : Int))] (.bool p8) ∧ (((!p8) = true → (0 = 0 ∧ 0 ≤ i5 ∧ i5 < ((out4n : Nat) : Int) ∧ (0 = 0 ∧ (0 + (i5).toNat) < (hq0).length ∧ (Tok.own ((hq0s ((0 + (i5).toNat)))) T.l ∧ (((hq0.getD ((0 + (i5).toNat)) [])).length + (([(0 : Int)] : List Int)).length) * 8 ≤ room ∧ (0 = 0 ∧ 0 ≤ i5 ∧ i5 < ((out4n : Nat) : Int) ∧ (0 = 0 ∧ (0 + (i5).toNat) < (hq0).length ∧ k2 (S26_2 l0 at3 out4n i5 t16 t17 t18 t46 t47 ((IntKind.wrap .i64 (t48 + (1 : Int)))) ((hq0.set ((0 + (i5).toNat)) (((hq0.getD ((0 + (i5).toNat)) []) ++ ([(0 : Int)] : List Int))))) ((fun j => if j = (0 + (i5).toNat) then (.tk T.n) else hq0s j)) hq1_0 hq1_1 hq1_2 hq1_3 hq1_3k hq1_4 hq1_4k ⟨(T.n + 1), (T.n :: Tok.drop ((hq0s ((0 + (i5).toNat)))) T.l)⟩))))))) ∧
 ((!p8) = false → k2 (S26_2 l0 at3 out4n i5 t16 t17 t18 t46 t47 ((IntKind.wrap .i64 (t48 + (1 : Int)))) hq0 hq0s hq1_0 hq1_1 hq1_2 hq1_3 hq1_3k hq1_4 hq1_4k T)))))))))))) ∧
 ((decide (t48 < t47)) = false → k0 (S26_0 l0 at3 out4n t16 t17 ((IntKind.wrap .i64 (t18 + (1 : Int)))) hq0 hq0s T)))) :
  B26_2 (loopQ M26_2 k2 (Q26_2 R k0)) (S26_2 l0 at3 out4n i5 t16 t17 t18 t46 t47 t48 hq0 hq0s hq1_0 hq1_1 hq1_2 hq1_3 hq1_3k hq1_4 hq1_4k T) := Eq.mp (by kernel_rfl) h

end Go.Proofs.Ytiomllkdfhglhaa.AB

set_option linter.unusedVariables false
set_option linter.unusedSimpArgs false
namespace Go.Proofs.Ytiomllkdfhglhaa.AB
open Go

/-! crucible/crucibleref8.Succ -/
noncomputable def X27 : Cx := ⟨tt, [(36, [.cd .bool]), (55, [.cd (.int .i64)]), (56, [.cd .bool])], [], [(27, [(0, mkM 70 0 [0, 3, 4], 0), (2, mkM 70 0 [0, 3, 4, 5, 7], 0)])], []⟩
theorem FN27 : fnsB Try.prog X27.fns := (show True from trivial)
def M27_0 : List Bool × Nat := (mkM 70 0 [0, 3, 4], 0)
def S27_0 (l0 : List (Int × (Int × (Int × ((List Int) × (List Int)))))) (out3 : List (List Int)) (out3k : Tok) (i4 : Int) (T : Toks) : St :=
  mkS 70 [(0, (.v (.list (.pair (.int .i64) (.pair (.int .i64) (.pair (.int .i64) (.pair (.slice (.int .i64)) (.slice (.int .i64)))))) l0 .no))), (3, (.v (.list (.slice (.int .i64)) out3 out3k))), (4, (.v (.int .i64 i4)))] [] T
noncomputable def B27_0 : (Exit → St → Prop) → St → Prop := (awp X27.tt (callN Try.prog X27 0) (X27.md 27) 0 (X27.mk1 27) 0 (codeAt [1, 1, 0, 1, 0, 0] (bd Try.f27)))
def M27_2 : List Bool × Nat := (mkM 70 0 [0, 3, 4, 5, 7], 0)
def S27_2 (l0 : List (Int × (Int × (Int × ((List Int) × (List Int)))))) (out3 : List (List Int)) (out3k : Tok) (i4 : Int) (s5 : List Int) (s5k : Tok) (k7 : Int) (T : Toks) : St :=
  mkS 70 [(0, (.v (.list (.pair (.int .i64) (.pair (.int .i64) (.pair (.int .i64) (.pair (.slice (.int .i64)) (.slice (.int .i64)))))) l0 .no))), (3, (.v (.list (.slice (.int .i64)) out3 out3k))), (4, (.v (.int .i64 i4))), (5, (.v (.list (.int .i64) s5 s5k))), (7, (.v (.int .i64 k7)))] [] T
noncomputable def B27_2 : (Exit → St → Prop) → St → Prop := (awp X27.tt (callN Try.prog X27 0) (X27.md 27) 0 (X27.mk1 27) 2 (codeAt [1, 1, 0, 1, 0, 0, 1, 0, 0, 1, 1, 1, 0, 1, 0, 0] (bd Try.f27)))
noncomputable def K27_0 (R : V → Prop) : Exit → St → Prop := seqK ((awp X27.tt (callN Try.prog X27 0) (X27.md 27) 0 (X27.mk1 27) 0 (codeAt [1, 1, 1] (bd Try.f27))) (retK tt Try.f27.results.toList fun x s' => topK R x ⟨[], s'.hp, s'.T⟩)) (retK tt Try.f27.results.toList fun x s' => topK R x ⟨[], s'.hp, s'.T⟩)
noncomputable def Q27_0 (R : V → Prop) : Exit → St → Prop := (blockK 0 (K27_0 R))
noncomputable def K27_1 (R : V → Prop) (k0 : St → Prop) : Exit → St → Prop := seqK ((awp X27.tt (callN Try.prog X27 0) (X27.md 27) 0 (X27.mk1 27) 0 (codeAt [1, 1, 0, 1, 0, 0, 1, 1] (bd Try.f27))) (loopQ M27_0 k0 (blockK 0 (K27_0 R)))) (loopQ M27_0 k0 (blockK 0 (K27_0 R)))
noncomputable def K27_2 (R : V → Prop) (k0 : St → Prop) : Exit → St → Prop := seqK ((awp X27.tt (callN Try.prog X27 0) (X27.md 27) 0 (X27.mk1 27) 1 (codeAt [1, 1, 0, 1, 0, 0, 1, 0, 0, 1, 1, 1, 1] (bd Try.f27))) (blockK 1 (K27_1 R k0))) (blockK 1 (K27_1 R k0))
noncomputable def Q27_2 (R : V → Prop) (k0 : St → Prop) : Exit → St → Prop := (blockK 2 (K27_2 R k0))
theorem E27 (l0 : (List (Int × (Int × (Int × ((List Int) × (List Int))))))) {R : V → Prop} (h : (Loops B27_0 M27_0 (Q27_0 R)
  (S27_0 l0 (([] : List (List Int))) .exact (0 : Int) ⟨0, []⟩))) :
  fnK X27.tt (callN Try.prog X27 0) (X27.md 27) (X27.mk1 27) Try.f27 [(.v (.list (.pair (.int .i64) (.pair (.int .i64) (.pair (.int .i64) (.pair (.slice (.int .i64)) (.slice (.int .i64)))))) l0 .no))] ⟨[], [], ⟨0, []⟩⟩ (topK R) := Eq.mp (by kernel_rfl) h
theorem L27_0 (l0 : List (Int × (Int × (Int × ((List Int) × (List Int)))))) (out3 : List (List Int)) (out3k : Tok) (i4 : Int) (T : Toks) {R : V → Prop} {k0 : St → Prop}
 (h : (((decide (i4 < ((l0).length : Int))) = true → (0 ≤ i4 ∧ i4 < ((l0).length : Int) ∧ (∃ p1 : Bool, PC Try.prog 36 [(.int .i64 ((l0.getD (i4).toNat (0, (0, (0, ([], []))))).2.1))] (.bool p1) ∧ (((!p1) = true → (((decide ((IntKind.wrap .i64 (i4 + (1 : Int))) < ((l0).length : Int))) = true → (Tok.own .exact T.l ∧ ((([] : List Int)).length + (([(IntKind.wrap .i64 (i4 + (1 : Int)))] : List Int)).length) * 8 ≤ room ∧ (Loops B27_2 M27_2 (Q27_2 R k0)
  (S27_2 l0 out3 out3k i4 ((([] : List Int) ++ ([(IntKind.wrap .i64 (i4 + (1 : Int)))] : List Int))) (.tk T.n) (0 : Int) ⟨(T.n + 1), (T.n :: T.l)⟩)))) ∧
 ((decide ((IntKind.wrap .i64 (i4 + (1 : Int))) < ((l0).length : Int))) = false → (Loops B27_2 M27_2 (Q27_2 R k0)
  (S27_2 l0 out3 out3k i4 ([] : List Int) .exact (0 : Int) T))))) ∧ ((!p1) = false → (Loops B27_2 M27_2 (Q27_2 R k0)
  (S27_2 l0 out3 out3k i4 ([] : List Int) .exact (0 : Int) T))))))) ∧
 ((decide (i4 < ((l0).length : Int))) = false → R (.list (.slice (.int .i64)) out3 .no)))) :
  B27_0 (loopQ M27_0 k0 (Q27_0 R)) (S27_0 l0 out3 out3k i4 T) := Eq.mp (by kernel_rfl) h
theorem L27_2 (l0 : List (Int × (Int × (Int × ((List Int) × (List Int)))))) (out3 : List (List Int)) (out3k : Tok) (i4 : Int) (s5 : List Int) (s5k : Tok) (k7 : Int) (T : Toks) {R : V → Prop} {k0 : St → Prop} {k2 : St → Prop}
 (h : (0 ≤ i4 ∧ i4 < ((l0).length : Int) ∧ (((decide (k7 < (((l0.getD (i4).toNat (0, (0, (0, ([], []))))).2.2.2.2).length : Int))) = true → (0 ≤ i4 ∧ i4 < ((l0).length : Int) ∧ (0 ≤ k7 ∧ k7 < (((l0.getD (i4).toNat (0, (0, (0, ([], []))))).2.2.2.2).length : Int) ∧ (∃ p2 : Int, PC Try.prog 55 [(.list (.pair (.int .i64) (.pair (.int .i64) (.pair (.int .i64) (.pair (.slice (.int .i64)) (.slice (.int .i64)))))) l0 .no), (.int .i64 ((((l0.getD (i4).toNat (0, (0, (0, ([], []))))).2.2.2.2).getD (k7).toNat 0)))] (.int .i64 p2) ∧ (∃ p3 : Bool, PC Try.prog 56 [(.list (.int .i64) s5 .no), (.int .i64 p2)] (.bool p3) ∧ (((!p3) = true → (Tok.own s5k T.l ∧ ((s5).length + (([p2] : List Int)).length) * 8 ≤ room ∧ k2 (S27_2 l0 out3 out3k i4 ((s5 ++ ([p2] : List Int))) (.tk T.n) ((IntKind.wrap .i64 (k7 + (1 : Int)))) ⟨(T.n + 1), (T.n :: Tok.drop s5k T.l)⟩))) ∧
 ((!p3) = false → k2 (S27_2 l0 out3 out3k i4 s5 s5k ((IntKind.wrap .i64 (k7 + (1 : Int)))) T)))))))) ∧
 ((decide (k7 < (((l0.getD (i4).toNat (0, (0, (0, ([], []))))).2.2.2.2).length : Int))) = false → (Tok.own out3k T.l ∧ ((out3).length + (([s5] : List (List Int))).length) * 24 ≤ room ∧ k0 (S27_0 l0 ((out3 ++ ([s5] : List (List Int)))) (.tk T.n) ((IntKind.wrap .i64 (i4 + (1 : Int)))) ⟨(T.n + 1), (T.n :: Tok.drop out3k T.l)⟩)))))) :
  B27_2 (loopQ M27_2 k2 (Q27_2 R k0)) (S27_2 l0 out3 out3k i4 s5 s5k k7 T) := Eq.mp (by kernel_rfl) h

end Go.Proofs.Ytiomllkdfhglhaa.AB

set_option linter.unusedVariables false
set_option linter.unusedSimpArgs false
namespace Go.Proofs.Ytiomllkdfhglhaa.AB
open Go

theorem p35 (l : List Ins) (hl : l.length ≤ 1000000) (ht : ∀ x ∈ l, x.2.2.2.2.length ≤ 1000000) : PC Try.prog 35 [.list cIns l .no] (.list .bool (backI l) .no) := by
  have hroom : room = 140737488355328 := rfl
  refine pcOf (X := X35) (d := 0) rfl trivial (by kernel_rfl) (by decide) (E35 l ?_)
  refine Loops.intro (fun a : Nat × Tok × Toks => S35_0 l (backI (l.take a.1)) a.2.1 a.1 a.2.2) (fun a => a.1 ≤ l.length ∧ a.2.1.fresh a.2.2) (fun a => l.length - a.1)
    (0, .exact, ⟨0, []⟩) rfl ⟨Nat.zero_le _, trivial⟩ ?_
  rintro ⟨n, tk, T⟩ ⟨hn, hT⟩
  simp only at hn hT
  refine L35_0 l (backI (l.take n)) tk n T ?_
  simp only [Bool.not_true, Bool.not_false, Bool.true_eq_false, Bool.false_eq_true, forall_const, false_implies, true_implies, and_true, true_and, eq_self, implies_true, Nat.zero_add, Int.toNat_natCast, List.take_length, decide_eq_true_eq, decide_eq_false_iff_not, beq_iff_eq, beq_eq_false_iff_ne, bne_iff_ne, bne_eq_false_iff_eq, ne_eq, Bool.not_eq_true', Bool.not_eq_false', Int.not_le, Int.not_lt, List.length_cons, List.length_nil, List.length_append, Nat.add_zero, List.drop_zero]
  refine ⟨fun h => ?_, fun h => ?_⟩
  · have hlt : n < l.length := by omega
    have hto := ht _ (List.getElem_mem hlt)
    refine Loops.intro (fun k : Nat => S35_2 l (backI (l.take n)) tk n ((l[n].2.2.2.2.take k).any fun to => decide (to ≤ l[n].1)) k T) (fun k => k ≤ l[n].2.2.2.2.length) (fun k => l[n].2.2.2.2.length - k) 0 rfl (Nat.zero_le _) ?_
    intro k hk
    have hk : k ≤ l[n].2.2.2.2.length := hk
    refine L35_2 l (backI (l.take n)) tk n ((l[n].2.2.2.2.take k).any fun to => decide (to ≤ l[n].1)) k T ?_
    simp only [Bool.not_true, Bool.not_false, Bool.true_eq_false, Bool.false_eq_true, forall_const, false_implies, true_implies, and_true, true_and, eq_self, implies_true, Nat.zero_add, Int.toNat_natCast, List.take_length, decide_eq_true_eq, decide_eq_false_iff_not, beq_iff_eq, beq_eq_false_iff_ne, bne_iff_ne, bne_eq_false_iff_eq, ne_eq, Bool.not_eq_true', Bool.not_eq_false', Int.not_le, Int.not_lt, List.length_cons, List.length_nil, List.length_append, Nat.add_zero, List.drop_zero, getD_lt hlt]
    refine ⟨by omega, by omega, fun h => ⟨fun hb => ?_, fun hb => ⟨by omega, by omega, by omega, by omega, by omega, by omega, ?_⟩⟩, fun h => ?_⟩
    · have hklt : k < l[n].2.2.2.2.length := by omega
      rw [wrap64 (by omega) (by omega)]
      refine Again.mk (k + 1) ?_ hklt (by omega)
      rw [any_take_succ _ _ hklt, hb]
      rfl
    · have hklt : k < l[n].2.2.2.2.length := by omega
      rw [wrap64 (by omega) (by omega), getD_lt hklt]
      refine Again.mk (k + 1) ?_ hklt (by omega)
      rw [any_take_succ _ _ hklt, hb]
      rfl
    · have hkk : k = l[n].2.2.2.2.length := by omega
      rw [hkk, List.take_length, wrap64 (by omega) (by omega)]
      refine ⟨hT.own, by simp [backI]; omega, ?_⟩
      refine Again.mk (n + 1, .tk T.n, ⟨T.n + 1, T.n :: tk.drop T.l⟩) ?_ ⟨by simp only; omega, Tok.fresh_new _ _⟩ (by simp only; omega)
      simp only [backI]
      rw [List.take_succ_eq_append_getElem hlt, List.map_append]
      rfl
  · have hnn : n = l.length := by omega
    subst hnn
    rw [List.take_length]
    exact ⟨rfl, rfl⟩

/-- jumps added to what may follow -/
def addTo (l : List Ins) (s : List Int) (to : Int) : List Int := if s.contains (idx l to) then s else s ++ [idx l to]

def succ0 (l : List Ins) (i : Nat) : List Int := if !isEnd (l.getD i (0, (0, (0, ([], []))))).2.1 && decide (i + 1 < l.length) then [((i + 1 : Nat) : Int)] else []

/-- what may follow an instruction -/
def succI (l : List Ins) (i : Nat) : List Int := (l.getD i (0, (0, (0, ([], []))))).2.2.2.2.foldl (addTo l) (succ0 l i)

def succL (l : List Ins) : List (List Int) := (List.range l.length).map (succI l)

theorem addTo_len (l : List Ins) (s : List Int) (to : Int) : (addTo l s to).length ≤ s.length + 1 := by
  unfold addTo; split <;> simp

theorem foldl_len (l : List Ins) : ∀ (tos : List Int) (s : List Int), (tos.foldl (addTo l) s).length ≤ s.length + tos.length
  | [], s => by simp
  | t :: tos, s => by
    have := foldl_len l tos (addTo l s t)
    have := addTo_len l s t
    simp only [List.foldl_cons, List.length_cons]; omega

theorem foldl_take {α β : Type} (f : β → α → β) (b : β) {l : List α} {n : Nat} (h : n < l.length) : (l.take (n + 1)).foldl f b = f ((l.take n).foldl f b) l[n] := by
  rw [List.take_succ_eq_append_getElem h, List.foldl_append]; rfl

theorem succ0_len (l : List Ins) (i : Nat) : (succ0 l i).length ≤ 1 := by unfold succ0; split <;> simp

def succP (l : List Ins) (n : Nat) : List (List Int) := (List.range n).map (succI l)

theorem succP_succ (l : List Ins) (n : Nat) : succP l (n + 1) = succP l n ++ [succI l n] := by
  unfold succP; rw [List.range_succ, List.map_append]; rfl

theorem p27 (l : List Ins) (hl : l.length ≤ 1000000) (ht : ∀ x ∈ l, x.2.2.2.2.length ≤ 1000000) : PC Try.prog 27 [.list cIns l .no] (.list (.slice (.int .i64)) (succL l) .no) := by
  have hroom : room = 140737488355328 := rfl
  refine pcOf (X := X27) (d := 0) rfl trivial (by kernel_rfl) (by decide) (E27 l ?_)
  refine Loops.intro (fun a : Nat × Tok × Toks => S27_0 l (succP l a.1) a.2.1 a.1 a.2.2) (fun a => a.1 ≤ l.length ∧ a.2.1.fresh a.2.2) (fun a => l.length - a.1)
    (0, .exact, ⟨0, []⟩) rfl ⟨Nat.zero_le _, trivial⟩ ?_
  rintro ⟨n, tk, T⟩ ⟨hn, hT⟩
  simp only at hn hT
  refine L27_0 l (succP l n) tk n T ?_
  simp only [Bool.not_true, Bool.not_false, Bool.true_eq_false, Bool.false_eq_true, forall_const, false_implies, true_implies, and_true, true_and, eq_self, implies_true, Nat.zero_add, Int.toNat_natCast, List.take_length, decide_eq_true_eq, decide_eq_false_iff_not, beq_iff_eq, beq_eq_false_iff_ne, bne_iff_ne, bne_eq_false_iff_eq, ne_eq, Bool.not_eq_true', Bool.not_eq_false', Int.not_le, Int.not_lt, List.length_cons, List.length_nil, List.length_append, Nat.add_zero, List.drop_zero]
  refine ⟨fun h => ?_, fun h => ?_⟩
  · have hlt : n < l.length := by omega
    have hto := ht _ (List.getElem_mem hlt)
    have hg : l.getD n (0, (0, (0, ([], [])))) = l[n] := getD_lt hlt
    have inner : ∀ s0 sk0 T0, s0 = succ0 l n → tk.fresh T0 → sk0.fresh T0 → sk0.ne tk → Loops B27_2 M27_2 (Q27_2 (fun v => v.norm = .list (.slice (.int .i64)) (succL l) .no ∧ (V.list (.slice (.int .i64)) (succL l) .no).nt = true)
        (Again (fun a : Nat × Tok × Toks => S27_0 l (succP l a.1) a.2.1 a.1 a.2.2) (fun a => a.1 ≤ l.length ∧ a.2.1.fresh a.2.2) (fun a => l.length - a.1) (l.length - n))) (S27_2 l (succP l n) tk n s0 sk0 0 T0) := by
      rintro s0 sk0 T0 rfl g1 g2 g3
      refine Loops.intro (fun a : Nat × Tok × Toks => S27_2 l (succP l n) tk n ((l[n].2.2.2.2.take a.1).foldl (addTo l) (succ0 l n)) a.2.1 a.1 a.2.2)
        (fun a => a.1 ≤ l[n].2.2.2.2.length ∧ a.2.1.fresh a.2.2 ∧ tk.fresh a.2.2 ∧ a.2.1.ne tk) (fun a => l[n].2.2.2.2.length - a.1) (0, sk0, T0) rfl ⟨Nat.zero_le _, g2, g1, g3⟩ ?_
      rintro ⟨k, uk, U⟩ ⟨hk, hU, hV, hne⟩
      simp only at hk hU hV hne
      have hlen := foldl_len l (l[n].2.2.2.2.take k) (succ0 l n)
      rw [List.length_take, Nat.min_eq_left hk] at hlen
      have h0 := succ0_len l n
      generalize hs : (l[n].2.2.2.2.take k).foldl (addTo l) (succ0 l n) = s at hlen
      refine L27_2 l (succP l n) tk n s uk k U ?_
      simp only [Bool.not_true, Bool.not_false, Bool.true_eq_false, Bool.false_eq_true, forall_const, false_implies, true_implies, and_true, true_and, eq_self, implies_true, Nat.zero_add, Int.toNat_natCast, List.take_length, decide_eq_true_eq, decide_eq_false_iff_not, beq_iff_eq, beq_eq_false_iff_ne, bne_iff_ne, bne_eq_false_iff_eq, ne_eq, Bool.not_eq_true', Bool.not_eq_false', Int.not_le, Int.not_lt, List.length_cons, List.length_nil, List.length_append, Nat.add_zero, List.drop_zero, hg]
      refine ⟨by omega, by omega, fun h => ⟨by omega, by omega, by omega, by omega, _, p55 l _ (by omega), _, p56 s _ (by omega), fun hc => ⟨hU.own, by omega, ?_⟩, fun hc => ?_⟩, fun h => ⟨hV.own, by simp [succP]; omega, ?_⟩⟩
      · have hklt : k < l[n].2.2.2.2.length := by omega
        rw [getD_lt hklt] at hc ⊢
        rw [wrap64 (by omega) (by omega)]
        refine Again.mk (k + 1, .tk U.n, ⟨U.n + 1, U.n :: uk.drop U.l⟩) ?_ ⟨by simp only; omega, Tok.fresh_new _ _, hV.keep hne, hV.new_ne⟩ (by simp only; omega)
        simp only [foldl_take (addTo l) (succ0 l n) hklt, hs]
        unfold addTo
        rw [if_neg (by rw [hc]; simp)]
        rfl
      · have hklt : k < l[n].2.2.2.2.length := by omega
        rw [getD_lt hklt] at hc
        rw [wrap64 (by omega) (by omega)]
        refine Again.mk (k + 1, uk, U) ?_ ⟨by simp only; omega, hU, hV, hne⟩ (by simp only; omega)
        simp only [foldl_take (addTo l) (succ0 l n) hklt, hs]
        unfold addTo
        rw [if_pos hc]
        rfl
      · have hkk : k = l[n].2.2.2.2.length := by omega
        rw [hkk, List.take_length] at hs
        rw [wrap64 (by omega) (by omega)]
        refine Again.mk (n + 1, .tk U.n, ⟨U.n + 1, U.n :: tk.drop U.l⟩) ?_ ⟨by simp only; omega, Tok.fresh_new _ _⟩ (by simp only; omega)
        simp only [succP_succ]
        rw [← hs]
        unfold succI
        rw [hg]
        rfl
    have w : IntKind.wrap .i64 ((n : Int) + 1) = ((n + 1 : Nat) : Int) := by rw [wrap64 (by omega) (by omega)]; omega
    rw [w]
    refine ⟨by omega, by omega, _, p36 _, fun h1 => ⟨fun h2 => ⟨trivial, by omega, inner _ _ _ ?_ (hT.keep (u := .exact) trivial) (Tok.fresh_new _ _) hT.new_ne⟩, fun h2 => inner _ _ _ ?_ hT trivial trivial⟩, fun h1 => inner _ _ _ ?_ hT trivial trivial⟩
    · unfold succ0; rw [if_pos (by rw [h1]; simp; omega)]; rfl
    · unfold succ0; rw [if_neg (by simp; intro _; omega)]
    · unfold succ0; rw [if_neg (by rw [h1]; simp)]
  · have hnn : n = l.length := by omega
    subst hnn
    exact ⟨rfl, rfl⟩

theorem p26 (l : List Ins) (hl : l.length ≤ 1000000) (ht : ∀ x ∈ l, x.2.2.2.2.length ≤ 1000000) (hd : l.Pairwise (fun a b => a.1 < b.1)) : PC Try.prog 26 [.list cIns l .no] (.list (.slice (.int .i64)) (succL l) .no) := by
  have hroom : room = 140737488355328 := rfl
  refine pcOf (X := X26) (d := 0) rfl trivial (by kernel_rfl) (by decide) (E26 l ⟨_, p42 l (by omega) hd, ?_⟩)
  simp only [Int.toNat_natCast]
  refine ⟨by omega, by omega, by omega, by omega, ?_⟩
  refine Loops.intro (fun a : Nat × List (List Int) × (Nat → Tok) × Toks => S26_0 l (pl l) l.length l l.length a.1 a.2.1 a.2.2.1 a.2.2.2)
    (fun a => a.1 ≤ l.length ∧ a.2.1.length = l.length ∧ FrT a.2.2.1 a.2.2.2 ∧ ∀ j, j < l.length → a.2.1.getD j [] = if j < a.1 then succI l j else []) (fun a => l.length - a.1)
    (0, List.replicate l.length [], fun _ => .exact, ⟨0, []⟩) rfl ⟨Nat.zero_le _, by simp, FrT.exact _, fun j hj => by simp [List.getD, List.getElem?_replicate, hj]⟩ ?_
  rintro ⟨n, hq, ts, T⟩ ⟨hn, hq1, hT, hq2⟩
  simp only at hn hq1 hT hq2
  refine L26_0 l (pl l) l.length l l.length n hq ts T ?_
  simp only [Bool.not_true, Bool.not_false, Bool.true_eq_false, Bool.false_eq_true, forall_const, false_implies, true_implies, and_true, true_and, eq_self, implies_true, Nat.zero_add, Int.toNat_natCast, List.take_length, decide_eq_true_eq, decide_eq_false_iff_not, beq_iff_eq, beq_eq_false_iff_ne, bne_iff_ne, bne_eq_false_iff_eq, ne_eq, Bool.not_eq_true', Bool.not_eq_false', Int.not_le, Int.not_lt, List.length_cons, List.length_nil, List.length_append, Nat.add_zero, List.drop_zero]
  refine ⟨fun h => ⟨by omega, by omega, ?_⟩, fun h => ⟨by omega, ?_⟩⟩
  · have hlt : n < l.length := by omega
    have hto := ht _ (List.getElem_mem hlt)
    have hg : l.getD n (0, (0, (0, ([], [])))) = l[n] := getD_lt hlt
    have w : IntKind.wrap .i64 ((n : Int) + 1) = ((n + 1 : Nat) : Int) := by rw [wrap64 (by omega) (by omega)]; omega
    have inner : ∀ hr us U, hr.length = l.length → FrT us U → (∀ j, j < l.length → hr.getD j [] = if j < n then succI l j else if j = n then succ0 l n else []) → Loops B26_2 M26_2 (Q26_2 (fun v => v.norm = .list (.slice (.int .i64)) (succL l) .no ∧ (V.list (.slice (.int .i64)) (succL l) .no).nt = true)
        (Again (fun a : Nat × List (List Int) × (Nat → Tok) × Toks => S26_0 l (pl l) l.length l l.length a.1 a.2.1 a.2.2.1 a.2.2.2)
          (fun a => a.1 ≤ l.length ∧ a.2.1.length = l.length ∧ FrT a.2.2.1 a.2.2.2 ∧ ∀ j, j < l.length → a.2.1.getD j [] = if j < a.1 then succI l j else []) (fun a => l.length - a.1) (l.length - n)))
        (S26_2 l (pl l) l.length n l l.length n l[n].2.2.2.2 l[n].2.2.2.2.length 0 hr us l[n].1 l[n].2.1 l[n].2.2.1 l[n].2.2.2.1 .no l[n].2.2.2.2 .no U) := by
      intro hr0 us0 U0 g1 g2 g3
      refine Loops.intro (fun a : Nat × List (List Int) × (Nat → Tok) × Toks => S26_2 l (pl l) l.length n l l.length n l[n].2.2.2.2 l[n].2.2.2.2.length a.1 a.2.1 a.2.2.1 l[n].1 l[n].2.1 l[n].2.2.1 l[n].2.2.2.1 .no l[n].2.2.2.2 .no a.2.2.2)
        (fun a => a.1 ≤ l[n].2.2.2.2.length ∧ a.2.1.length = l.length ∧ FrT a.2.2.1 a.2.2.2 ∧ ∀ j, j < l.length → a.2.1.getD j [] = if j < n then succI l j else if j = n then (l[n].2.2.2.2.take a.1).foldl (addTo l) (succ0 l n) else [])
        (fun a => l[n].2.2.2.2.length - a.1) (0, hr0, us0, U0) rfl ⟨Nat.zero_le _, g1, g2, g3⟩ ?_
      rintro ⟨k, hr, us, U⟩ ⟨hk, hr1, hU, hr2⟩
      simp only at hk hr1 hU hr2
      have hlen := foldl_len l (l[n].2.2.2.2.take k) (succ0 l n)
      rw [List.length_take, Nat.min_eq_left hk] at hlen
      have h0 := succ0_len l n
      have e := hr2 n hlt
      rw [if_neg (by omega), if_pos rfl] at e
      generalize hs : (l[n].2.2.2.2.take k).foldl (addTo l) (succ0 l n) = s at hlen e hr2
      refine L26_2 l (pl l) l.length n l l.length n l[n].2.2.2.2 l[n].2.2.2.2.length k hr us l[n].1 l[n].2.1 l[n].2.2.1 l[n].2.2.2.1 .no l[n].2.2.2.2 .no U ?_
      simp only [Bool.not_true, Bool.not_false, Bool.true_eq_false, Bool.false_eq_true, forall_const, false_implies, true_implies, and_true, true_and, eq_self, implies_true, Nat.zero_add, Int.toNat_natCast, List.take_length, decide_eq_true_eq, decide_eq_false_iff_not, beq_iff_eq, beq_eq_false_iff_ne, bne_iff_ne, bne_eq_false_iff_eq, ne_eq, Bool.not_eq_true', Bool.not_eq_false', Int.not_le, Int.not_lt, List.length_cons, List.length_nil, List.length_append, Nat.add_zero, List.drop_zero]
      refine ⟨fun h => ⟨by omega, by omega, ?_⟩, fun h => ?_⟩
      · have hklt : k < l[n].2.2.2.2.length := by omega
        have both : ∀ x : Int, x = idx l (l[n].2.2.2.2.getD k 0) → ∃ p : Bool, PC Try.prog 54 [.list (.int .i64) (hr.getD n []) .no, .int .i64 x] (.bool p) ∧
            (p = false → (us n).own U.l ∧ ((hr.getD n []).length + 1) * 8 ≤ room ∧ Again (fun a : Nat × List (List Int) × (Nat → Tok) × Toks => S26_2 l (pl l) l.length n l l.length n l[n].2.2.2.2 l[n].2.2.2.2.length a.1 a.2.1 a.2.2.1 l[n].1 l[n].2.1 l[n].2.2.1 l[n].2.2.2.1 .no l[n].2.2.2.2 .no a.2.2.2)
              (fun a => a.1 ≤ l[n].2.2.2.2.length ∧ a.2.1.length = l.length ∧ FrT a.2.2.1 a.2.2.2 ∧ ∀ j, j < l.length → a.2.1.getD j [] = if j < n then succI l j else if j = n then (l[n].2.2.2.2.take a.1).foldl (addTo l) (succ0 l n) else [])
              (fun a => l[n].2.2.2.2.length - a.1) (l[n].2.2.2.2.length - k)
              (S26_2 l (pl l) l.length n l l.length n l[n].2.2.2.2 l[n].2.2.2.2.length (IntKind.wrap .i64 (k + 1)) (hr.set n (hr.getD n [] ++ [x])) (fun j => if j = n then .tk U.n else us j) l[n].1 l[n].2.1 l[n].2.2.1 l[n].2.2.2.1 .no l[n].2.2.2.2 .no ⟨U.n + 1, U.n :: (us n).drop U.l⟩)) ∧
            (p = true → Again (fun a : Nat × List (List Int) × (Nat → Tok) × Toks => S26_2 l (pl l) l.length n l l.length n l[n].2.2.2.2 l[n].2.2.2.2.length a.1 a.2.1 a.2.2.1 l[n].1 l[n].2.1 l[n].2.2.1 l[n].2.2.2.1 .no l[n].2.2.2.2 .no a.2.2.2)
              (fun a => a.1 ≤ l[n].2.2.2.2.length ∧ a.2.1.length = l.length ∧ FrT a.2.2.1 a.2.2.2 ∧ ∀ j, j < l.length → a.2.1.getD j [] = if j < n then succI l j else if j = n then (l[n].2.2.2.2.take a.1).foldl (addTo l) (succ0 l n) else [])
              (fun a => l[n].2.2.2.2.length - a.1) (l[n].2.2.2.2.length - k)
              (S26_2 l (pl l) l.length n l l.length n l[n].2.2.2.2 l[n].2.2.2.2.length (IntKind.wrap .i64 (k + 1)) hr us l[n].1 l[n].2.1 l[n].2.2.1 l[n].2.2.2.1 .no l[n].2.2.2.2 .no U)) := by
          rintro x rfl
          rw [e, getD_lt hklt, wrap64 (by omega) (by omega)]
          refine ⟨_, p54 s _ (by omega), fun hc => ⟨(hU.1 n).own, by omega, ?_⟩, fun hc => ?_⟩
          · refine Again.mk (k + 1, hr.set n (s ++ [idx l l[n].2.2.2.2[k]]), _, _) rfl ⟨by simp only; omega, by simpa using hr1, hU.upd n, fun j hj => ?_⟩ (by simp only; omega)
            simp only
            rw [getD_setD (by omega), hr2 j hj]
            by_cases hjn : n = j
            · subst hjn
              rw [if_pos rfl, if_neg (by omega), if_pos rfl, foldl_take (addTo l) (succ0 l n) hklt, hs]
              unfold addTo
              rw [if_neg (by rw [hc]; simp)]
            · have hjn' : ¬ j = n := fun e => hjn e.symm
              simp only [hjn, hjn', if_false]
          · refine Again.mk (k + 1, hr, us, U) rfl ⟨by simp only; omega, hr1, hU, fun j hj => ?_⟩ (by simp only; omega)
            simp only
            rw [hr2 j hj, foldl_take (addTo l) (succ0 l n) hklt, hs]
            unfold addTo
            rw [if_pos hc]
        rw [mfind_pl l]
        cases hp : isPc l (l[n].2.2.2.2.getD k 0) with
        | true =>
          simp only [if_true, Option.map_some, Option.some.injEq, Prod.mk.injEq, reduceCtorEq, false_implies, and_true]
          rintro a t ⟨rfl, rfl⟩
          obtain ⟨p, h1, h2, h3⟩ := both _ rfl
          exact ⟨by omega, by omega, by omega, p, h1, fun hc => ⟨by omega, by omega, by omega, (h2 hc).1, (h2 hc).2.1, by omega, by omega, by omega, (h2 hc).2.2⟩, fun hc => h3 hc⟩
        | false =>
          simp only [Bool.false_eq_true, if_false, Option.map_none, reduceCtorEq, false_implies, implies_true, true_and, true_implies]
          obtain ⟨p, h1, h2, h3⟩ := both _ (idx_neg hp).symm
          exact ⟨by omega, by omega, by omega, p, h1, fun hc => ⟨by omega, by omega, by omega, (h2 hc).1, (h2 hc).2.1, by omega, by omega, by omega, (h2 hc).2.2⟩, fun hc => h3 hc⟩
      · have hkk : k = l[n].2.2.2.2.length := by omega
        rw [hkk, List.take_length] at hs
        rw [w]
        refine Again.mk (n + 1, hr, us, U) rfl ⟨by simp only; omega, hr1, hU, fun j hj => ?_⟩ (by simp only; omega)
        simp only
        rw [hr2 j hj]
        rcases Nat.lt_trichotomy j n with h' | h' | h'
        · rw [if_pos h', if_pos (by omega)]
        · subst h'
          rw [if_neg (by omega), if_pos rfl, if_pos (by omega), ← hs]
          unfold succI
          rw [hg]
        · rw [if_neg (by omega), if_neg (by omega), if_neg (by omega)]
    rw [hg, w]
    have same : succ0 l n = [] → ∀ j, j < l.length → hq.getD j [] = if j < n then succI l j else if j = n then succ0 l n else [] := by
      intro h0 j hj
      rw [hq2 j hj, h0]
      split
      · rfl
      · split <;> rfl
    have e0 := hq2 n hlt
    rw [if_neg (by omega)] at e0
    refine ⟨_, p53 _, fun h1 => ⟨fun h2 => ⟨by omega, by omega, by omega, (hT.1 n).own, by rw [e0]; simp; omega, by omega, by omega, by omega, inner _ _ _ (by simpa using hq1) (hT.upd n) fun j hj => ?_⟩, fun h2 => inner _ _ _ hq1 hT (same ?_)⟩, fun h1 => inner _ _ _ hq1 hT (same ?_)⟩
    · rw [getD_setD (by omega), hq2 j hj, e0]
      by_cases hjn : n = j
      · subst hjn
        rw [if_pos rfl, if_neg (by omega), if_pos rfl]
        unfold succ0
        rw [hg, if_pos (by rw [h1]; simp; omega)]
        rfl
      · have hjn' : ¬ j = n := fun e => hjn e.symm
        simp only [hjn, hjn', if_false]
    · unfold succ0; rw [if_neg (by simp; intro _; omega)]
    · unfold succ0; rw [hg, if_neg (by simp [h1])]
  · have hnn : n = l.length := by omega
    subst hnn
    have : hq = succL l := by
      refine eq_of_getD [] (by simp [succL, hq1]) fun j hj => ?_
      simp only [succL, List.length_map, List.length_range] at hj
      rw [hq2 j hj, if_pos hj]
      simp [succL, List.getD, hj]
    rw [← hq1, List.take_length, this]
    exact ⟨rfl, rfl⟩

end Go.Proofs.Ytiomllkdfhglhaa.AB

set_option linter.unusedVariables false
set_option linter.unusedSimpArgs false
namespace Go.Proofs.Ytiomllkdfhglhaa.AB
open Go

/-! crucible/cruciblelaw8.sameInts -/
noncomputable def X29 : Cx := ⟨tt, [], [], [(29, [(0, mkM 26 0 [0, 1, 5], 0)])], []⟩
theorem FN29 : fnsB Try.prog X29.fns := (show True from trivial)
def M29_0 : List Bool × Nat := (mkM 26 0 [0, 1, 5], 0)
def S29_0 (a0 : List Int) (b1 : List Int) (i5 : Int) (T : Toks) : St :=
  mkS 26 [(0, (.v (.list (.int .i64) a0 .no))), (1, (.v (.list (.int .i64) b1 .no))), (5, (.v (.int .i64 i5)))] [] T
noncomputable def B29_0 : (Exit → St → Prop) → St → Prop := (awp X29.tt (callN Try.prog X29 0) (X29.md 29) 0 (X29.mk1 29) 0 (codeAt [1, 1, 0, 1, 0, 0] (bd Try.f29)))
noncomputable def K29_0 (R : V → Prop) : Exit → St → Prop := seqK ((awp X29.tt (callN Try.prog X29 0) (X29.md 29) 0 (X29.mk1 29) 0 (codeAt [1, 1, 1] (bd Try.f29))) (retK tt Try.f29.results.toList fun x s' => topK R x ⟨[], s'.hp, s'.T⟩)) (retK tt Try.f29.results.toList fun x s' => topK R x ⟨[], s'.hp, s'.T⟩)
noncomputable def Q29_0 (R : V → Prop) : Exit → St → Prop := (blockK 0 (K29_0 R))
theorem E29 (a0 : (List Int)) (b1 : (List Int)) {R : V → Prop} (h : (((((a0).length : Int) != ((b1).length : Int)) = true → R (.bool false)) ∧
 ((((a0).length : Int) != ((b1).length : Int)) = false → (Loops B29_0 M29_0 (Q29_0 R)
  (S29_0 a0 b1 (0 : Int) ⟨0, []⟩))))) :
  fnK X29.tt (callN Try.prog X29 0) (X29.md 29) (X29.mk1 29) Try.f29 [(.v (.list (.int .i64) a0 .no)), (.v (.list (.int .i64) b1 .no))] ⟨[], [], ⟨0, []⟩⟩ (topK R) := Eq.mp (by kernel_rfl) h
theorem L29_0 (a0 : List Int) (b1 : List Int) (i5 : Int) (T : Toks) {R : V → Prop} {k0 : St → Prop}
 (h : (((decide (i5 < ((a0).length : Int))) = true → (0 ≤ i5 ∧ i5 < ((a0).length : Int) ∧ (0 ≤ i5 ∧ i5 < ((b1).length : Int) ∧ ((((a0.getD (i5).toNat 0) != (b1.getD (i5).toNat 0)) = true → R (.bool false)) ∧
 (((a0.getD (i5).toNat 0) != (b1.getD (i5).toNat 0)) = false → k0 (S29_0 a0 b1 ((IntKind.wrap .i64 (i5 + (1 : Int)))) T)))))) ∧
 ((decide (i5 < ((a0).length : Int))) = false → R (.bool true)))) :
  B29_0 (loopQ M29_0 k0 (Q29_0 R)) (S29_0 a0 b1 i5 T) := Eq.mp (by kernel_rfl) h

end Go.Proofs.Ytiomllkdfhglhaa.AB

set_option linter.unusedVariables false
set_option linter.unusedSimpArgs false
namespace Go.Proofs.Ytiomllkdfhglhaa.AB
open Go

theorem p29 (a b : List Int) (ha : a.length < 9223372036854775807) : PC Try.prog 29 [.list (.int .i64) a .no, .list (.int .i64) b .no] (.bool (a == b)) := by
  refine pcOf (X := X29) (d := 0) rfl trivial (by kernel_rfl) (by decide) (E29 a b ⟨fun h => ?_, fun h => ?_⟩)
  · have hne : a ≠ b := by rintro rfl; simp at h
    have : (a == b) = false := by simpa using hne
    rw [this]; exact ⟨rfl, rfl⟩
  · have hl : a.length = b.length := by
      have : (a.length : Int) = b.length := by simpa using h
      omega
    refine Loops.intro (fun n : Nat => S29_0 a b n ⟨0, []⟩) (fun n => n ≤ a.length ∧ a.take n = b.take n) (fun n => a.length - n) 0 rfl ⟨Nat.zero_le _, rfl⟩ ?_
    rintro n ⟨hn, ht⟩
    refine L29_0 a b n ⟨0, []⟩ ⟨fun h => ?_, fun h => ?_⟩
    · have hlt : n < a.length := by simpa using h
      refine ⟨by omega, by omega, by omega, by omega, fun h => ?_, fun h => ?_⟩
      · have hne : a ≠ b := by rintro rfl; simp at h
        have : (a == b) = false := by simpa using hne
        rw [this]; exact ⟨rfl, rfl⟩
      · have he : a.getD n 0 = b.getD n 0 := by simpa using h
        rw [wrap64 (by omega) (by omega)]
        exact Again.mk (n + 1) rfl ⟨by omega, take_succ_eq ht hlt (by omega) he⟩ (by omega)
    · have hge : n = a.length := by
        have : ¬ ((n : Int) < a.length) := by simpa using h
        omega
      have : a = b := by
        rw [hge, List.take_length] at ht
        rw [hl, List.take_length] at ht
        exact ht
      subst this
      have : (a == a) = true := by simp
      rw [this]; exact ⟨rfl, rfl⟩

end Go.Proofs.Ytiomllkdfhglhaa.AB

set_option linter.unusedVariables false
set_option linter.unusedSimpArgs false
namespace Go.Proofs.Ytiomllkdfhglhaa.AB
open Go

/-! crucible/cruciblelaw8.sameLists -/
noncomputable def X25 : Cx := ⟨tt, [(29, [.cd .bool])], [], [(25, [(0, mkM 29 0 [0, 1, 5], 0)])], []⟩
theorem FN25 : fnsB Try.prog X25.fns := (show True from trivial)
def M25_0 : List Bool × Nat := (mkM 29 0 [0, 1, 5], 0)
def S25_0 (a0 : List (List Int)) (b1 : List (List Int)) (i5 : Int) (T : Toks) : St :=
  mkS 29 [(0, (.v (.list (.slice (.int .i64)) a0 .no))), (1, (.v (.list (.slice (.int .i64)) b1 .no))), (5, (.v (.int .i64 i5)))] [] T
noncomputable def B25_0 : (Exit → St → Prop) → St → Prop := (awp X25.tt (callN Try.prog X25 0) (X25.md 25) 0 (X25.mk1 25) 0 (codeAt [1, 1, 0, 1, 0, 0] (bd Try.f25)))
noncomputable def K25_0 (R : V → Prop) : Exit → St → Prop := seqK ((awp X25.tt (callN Try.prog X25 0) (X25.md 25) 0 (X25.mk1 25) 0 (codeAt [1, 1, 1] (bd Try.f25))) (retK tt Try.f25.results.toList fun x s' => topK R x ⟨[], s'.hp, s'.T⟩)) (retK tt Try.f25.results.toList fun x s' => topK R x ⟨[], s'.hp, s'.T⟩)
noncomputable def Q25_0 (R : V → Prop) : Exit → St → Prop := (blockK 0 (K25_0 R))
theorem E25 (a0 : (List (List Int))) (b1 : (List (List Int))) {R : V → Prop} (h : (((((a0).length : Int) != ((b1).length : Int)) = true → R (.bool false)) ∧
 ((((a0).length : Int) != ((b1).length : Int)) = false → (Loops B25_0 M25_0 (Q25_0 R)
  (S25_0 a0 b1 (0 : Int) ⟨0, []⟩))))) :
  fnK X25.tt (callN Try.prog X25 0) (X25.md 25) (X25.mk1 25) Try.f25 [(.v (.list (.slice (.int .i64)) a0 .no)), (.v (.list (.slice (.int .i64)) b1 .no))] ⟨[], [], ⟨0, []⟩⟩ (topK R) := Eq.mp (by kernel_rfl) h
theorem L25_0 (a0 : List (List Int)) (b1 : List (List Int)) (i5 : Int) (T : Toks) {R : V → Prop} {k0 : St → Prop}
 (h : (((decide (i5 < ((a0).length : Int))) = true → (0 ≤ i5 ∧ i5 < ((a0).length : Int) ∧ (0 ≤ i5 ∧ i5 < ((b1).length : Int) ∧ (∃ p1 : Bool, PC Try.prog 29 [(.list (.int .i64) ((a0.getD (i5).toNat [])) .no), (.list (.int .i64) ((b1.getD (i5).toNat [])) .no)] (.bool p1) ∧ (((!p1) = true → R (.bool false)) ∧
 ((!p1) = false → k0 (S25_0 a0 b1 ((IntKind.wrap .i64 (i5 + (1 : Int)))) T))))))) ∧
 ((decide (i5 < ((a0).length : Int))) = false → R (.bool true)))) :
  B25_0 (loopQ M25_0 k0 (Q25_0 R)) (S25_0 a0 b1 i5 T) := Eq.mp (by kernel_rfl) h

end Go.Proofs.Ytiomllkdfhglhaa.AB

set_option linter.unusedVariables false
set_option linter.unusedSimpArgs false
namespace Go.Proofs.Ytiomllkdfhglhaa.AB
open Go

theorem p25 (a b : List (List Int)) (ha : a.length < 9223372036854775807) (hb : ∀ x ∈ a, x.length < 9223372036854775807) :
    PC Try.prog 25 [.list (.slice (.int .i64)) a .no, .list (.slice (.int .i64)) b .no] (.bool (a == b)) := by
  refine pcOf (X := X25) (d := 0) rfl trivial (by kernel_rfl) (by decide) (E25 a b ⟨fun h => ?_, fun h => ?_⟩)
  · have hne : a ≠ b := by rintro rfl; simp at h
    have : (a == b) = false := by simpa using hne
    rw [this]; exact ⟨rfl, rfl⟩
  · have hl : a.length = b.length := by
      have : (a.length : Int) = b.length := by simpa using h
      omega
    refine Loops.intro (fun n : Nat => S25_0 a b n ⟨0, []⟩) (fun n => n ≤ a.length ∧ a.take n = b.take n) (fun n => a.length - n) 0 rfl ⟨Nat.zero_le _, rfl⟩ ?_
    rintro n ⟨hn, ht⟩
    refine L25_0 a b n ⟨0, []⟩ ⟨fun h => ?_, fun h => ?_⟩
    · have hlt : n < a.length := by simpa using h
      refine ⟨by omega, by omega, by omega, by omega, _, p29 _ _ ?_, fun h => ?_, fun h => ?_⟩
      · rw [List.getD_eq_getElem?_getD, Int.toNat_natCast, List.getElem?_eq_getElem hlt]
        exact hb _ (List.getElem_mem hlt)
      · have hne : a ≠ b := by rintro rfl; simp at h
        have : (a == b) = false := by simpa using hne
        rw [this]; exact ⟨rfl, rfl⟩
      · have he : a.getD n [] = b.getD n [] := by simpa using h
        rw [wrap64 (by omega) (by omega)]
        exact Again.mk (n + 1) rfl ⟨by omega, take_succ_eq ht hlt (by omega) he⟩ (by omega)
    · have hge : n = a.length := by
        have : ¬ ((n : Int) < a.length) := by simpa using h
        omega
      have : a = b := by
        rw [hge, List.take_length] at ht
        rw [hl, List.take_length] at ht
        exact ht
      subst this
      have : (a == a) = true := by simp
      rw [this]; exact ⟨rfl, rfl⟩

end Go.Proofs.Ytiomllkdfhglhaa.AB

set_option linter.unusedVariables false
set_option linter.unusedSimpArgs false
namespace Go.Proofs.Ytiomllkdfhglhaa.AB
open Go

/-! crucible/cruciblelaw8.sameBools -/
noncomputable def X33 : Cx := ⟨tt, [], [], [(33, [(0, mkM 26 0 [0, 1, 5], 0)])], []⟩
theorem FN33 : fnsB Try.prog X33.fns := (show True from trivial)
def M33_0 : List Bool × Nat := (mkM 26 0 [0, 1, 5], 0)
def S33_0 (a0 : List Bool) (b1 : List Bool) (i5 : Int) (T : Toks) : St :=
  mkS 26 [(0, (.v (.list .bool a0 .no))), (1, (.v (.list .bool b1 .no))), (5, (.v (.int .i64 i5)))] [] T
noncomputable def B33_0 : (Exit → St → Prop) → St → Prop := (awp X33.tt (callN Try.prog X33 0) (X33.md 33) 0 (X33.mk1 33) 0 (codeAt [1, 1, 0, 1, 0, 0] (bd Try.f33)))
noncomputable def K33_0 (R : V → Prop) : Exit → St → Prop := seqK ((awp X33.tt (callN Try.prog X33 0) (X33.md 33) 0 (X33.mk1 33) 0 (codeAt [1, 1, 1] (bd Try.f33))) (retK tt Try.f33.results.toList fun x s' => topK R x ⟨[], s'.hp, s'.T⟩)) (retK tt Try.f33.results.toList fun x s' => topK R x ⟨[], s'.hp, s'.T⟩)
noncomputable def Q33_0 (R : V → Prop) : Exit → St → Prop := (blockK 0 (K33_0 R))
theorem E33 (a0 : (List Bool)) (b1 : (List Bool)) {R : V → Prop} (h : (((((a0).length : Int) != ((b1).length : Int)) = true → R (.bool false)) ∧
 ((((a0).length : Int) != ((b1).length : Int)) = false → (Loops B33_0 M33_0 (Q33_0 R)
  (S33_0 a0 b1 (0 : Int) ⟨0, []⟩))))) :
  fnK X33.tt (callN Try.prog X33 0) (X33.md 33) (X33.mk1 33) Try.f33 [(.v (.list .bool a0 .no)), (.v (.list .bool b1 .no))] ⟨[], [], ⟨0, []⟩⟩ (topK R) := Eq.mp (by kernel_rfl) h
theorem L33_0 (a0 : List Bool) (b1 : List Bool) (i5 : Int) (T : Toks) {R : V → Prop} {k0 : St → Prop}
 (h : (((decide (i5 < ((a0).length : Int))) = true → (0 ≤ i5 ∧ i5 < ((a0).length : Int) ∧ (0 ≤ i5 ∧ i5 < ((b1).length : Int) ∧ (((!((a0.getD (i5).toNat false) == (b1.getD (i5).toNat false))) = true → R (.bool false)) ∧
 ((!((a0.getD (i5).toNat false) == (b1.getD (i5).toNat false))) = false → k0 (S33_0 a0 b1 ((IntKind.wrap .i64 (i5 + (1 : Int)))) T)))))) ∧
 ((decide (i5 < ((a0).length : Int))) = false → R (.bool true)))) :
  B33_0 (loopQ M33_0 k0 (Q33_0 R)) (S33_0 a0 b1 i5 T) := Eq.mp (by kernel_rfl) h

end Go.Proofs.Ytiomllkdfhglhaa.AB

set_option linter.unusedVariables false
set_option linter.unusedSimpArgs false
namespace Go.Proofs.Ytiomllkdfhglhaa.AB
open Go

theorem p33 (a b : List Bool) (ha : a.length < 9223372036854775807) : PC Try.prog 33 [.list .bool a .no, .list .bool b .no] (.bool (a == b)) := by
  refine pcOf (X := X33) (d := 0) rfl trivial (by kernel_rfl) (by decide) (E33 a b ⟨fun h => ?_, fun h => ?_⟩)
  · have hne : a ≠ b := by rintro rfl; simp at h
    have : (a == b) = false := by simpa using hne
    rw [this]; exact ⟨rfl, rfl⟩
  · have hl : a.length = b.length := by
      have : (a.length : Int) = b.length := by simpa using h
      omega
    refine Loops.intro (fun n : Nat => S33_0 a b n ⟨0, []⟩) (fun n => n ≤ a.length ∧ a.take n = b.take n) (fun n => a.length - n) 0 rfl ⟨Nat.zero_le _, rfl⟩ ?_
    rintro n ⟨hn, ht⟩
    refine L33_0 a b n ⟨0, []⟩ ⟨fun h => ?_, fun h => ?_⟩
    · have hlt : n < a.length := by simpa using h
      refine ⟨by omega, by omega, by omega, by omega, fun h => ?_, fun h => ?_⟩
      · have hne : a ≠ b := by rintro rfl; simp at h
        have : (a == b) = false := by simpa using hne
        rw [this]; exact ⟨rfl, rfl⟩
      · have he : a.getD n false = b.getD n false := by simpa using h
        rw [wrap64 (by omega) (by omega)]
        exact Again.mk (n + 1) rfl ⟨by omega, take_succ_eq ht hlt (by omega) he⟩ (by omega)
    · have hge : n = a.length := by
        have : ¬ ((n : Int) < a.length) := by simpa using h
        omega
      have : a = b := by
        rw [hge, List.take_length] at ht
        rw [hl, List.take_length] at ht
        exact ht
      subst this
      have : (a == a) = true := by simp
      rw [this]; exact ⟨rfl, rfl⟩

end Go.Proofs.Ytiomllkdfhglhaa.AB

set_option linter.unusedVariables false
set_option linter.unusedSimpArgs false
namespace Go.Proofs.Ytiomllkdfhglhaa.AB
open Go

/-! crucible/cruciblelaw8.shown -/
noncomputable def X12 : Cx := ⟨tt, [(13, [.cd (.slice (.pair (.int .i64) (.pair (.int .i64) (.pair (.int .i64) (.pair (.slice (.int .i64)) (.slice (.int .i64))))))), .cd (.int .i64)]), (14, [.cd (.slice (.slice (.int .i64))), .cd (.int .i64)]), (25, [.cd .bool]), (26, [.cd (.slice (.slice (.int .i64)))]), (33, [.cd .bool]), (34, [.cd (.slice .bool)])], [], [], []⟩
theorem FN12 : fnsB Try.prog X12.fns := (show True from trivial)
theorem E12 {R : V → Prop} (h : (∃ p1 : (List (Int × (Int × (Int × ((List Int) × (List Int)))))) × Int, PC Try.prog 13 [(.str ([4, 0, 21, 0, 4, 44, 20, 255, 250] : List UInt8))] ((.tup [(.list (.pair (.int .i64) (.pair (.int .i64) (.pair (.int .i64) (.pair (.slice (.int .i64)) (.slice (.int .i64)))))) p1.1 .no), (.int .i64 p1.2)])) ∧ (((p1.2 != (0 : Int)) = true → R (.bool false)) ∧ ((p1.2 != (0 : Int)) = false → (((((p1.1).length : Int) != (4 : Int)) = true → R (.bool false)) ∧
 ((((p1.1).length : Int) != (4 : Int)) = false → (∃ p2 : (List (List Int)), PC Try.prog 26 [(.list (.pair (.int .i64) (.pair (.int .i64) (.pair (.int .i64) (.pair (.slice (.int .i64)) (.slice (.int .i64)))))) p1.1 .no)] ((.list (.slice (.int .i64)) p2 .no)) ∧ (∃ p3 : Bool, PC Try.prog 25 [(.list (.slice (.int .i64)) p2 .no), (.list (.slice (.int .i64)) (([([(1 : Int)] : List Int), ([(2 : Int), (3 : Int)] : List Int), ([] : List Int), ([(0 : Int)] : List Int)] : List (List Int))) .no)] (.bool p3) ∧ (∃ p4 : (List Bool), PC Try.prog 34 [(.list (.pair (.int .i64) (.pair (.int .i64) (.pair (.int .i64) (.pair (.slice (.int .i64)) (.slice (.int .i64)))))) p1.1 .no)] (.list .bool p4 .no) ∧ (∃ p5 : Bool, PC Try.prog 33 [(.list .bool p4 .no), (.list .bool ([false, false, false, true] : List Bool) .no)] (.bool p5) ∧ (∃ p6 : (List (List Int)) × Int, PC Try.prog 14 [(.list (.pair (.int .i64) (.pair (.int .i64) (.pair (.int .i64) (.pair (.slice (.int .i64)) (.slice (.int .i64)))))) p1.1 .no), (.int .i64 (9 : Int)), (.list (.pair (.int .i64) (.pair (.int .i64) (.pair (.int .i64) (.int .i64)))) (([((0 : Int), ((5 : Int), ((5 : Int), (0 : Int))))] : List (Int × (Int × (Int × Int))))) .no)] ((.tup [(.list (.slice (.int .i64)) p6.1 .no), (.int .i64 p6.2)])) ∧ (∃ p7 : Bool, PC Try.prog 25 [(.list (.slice (.int .i64)) p6.1 .no), (.list (.slice (.int .i64)) (([([(0 : Int)] : List Int), ([(0 : Int)] : List Int), ([] : List Int), ([] : List Int)] : List (List Int))) .no)] (.bool p7) ∧ (∃ p8 : (List (List Int)) × Int, PC Try.prog 14 [(.list (.pair (.int .i64) (.pair (.int .i64) (.pair (.int .i64) (.pair (.slice (.int .i64)) (.slice (.int .i64)))))) p1.1 .no), (.int .i64 (9 : Int)), (.list (.pair (.int .i64) (.pair (.int .i64) (.pair (.int .i64) (.int .i64)))) (([((1 : Int), ((5 : Int), ((5 : Int), (0 : Int))))] : List (Int × (Int × (Int × Int))))) .no)] ((.tup [(.list (.slice (.int .i64)) p8.1 .no), (.int .i64 p8.2)])) ∧ (∃ p9 : (List (List Int)) × Int, PC Try.prog 14 [(.list (.pair (.int .i64) (.pair (.int .i64) (.pair (.int .i64) (.pair (.slice (.int .i64)) (.slice (.int .i64)))))) p1.1 .no), (.int .i64 (9 : Int)), (.list (.pair (.int .i64) (.pair (.int .i64) (.pair (.int .i64) (.int .i64)))) (([((0 : Int), ((9 : Int), ((5 : Int), (0 : Int))))] : List (Int × (Int × (Int × Int))))) .no)] ((.tup [(.list (.slice (.int .i64)) p9.1 .no), (.int .i64 p9.2)])) ∧ (∃ p10 : (List (List Int)) × Int, PC Try.prog 14 [(.list (.pair (.int .i64) (.pair (.int .i64) (.pair (.int .i64) (.pair (.slice (.int .i64)) (.slice (.int .i64)))))) p1.1 .no), (.int .i64 (9 : Int)), (.list (.pair (.int .i64) (.pair (.int .i64) (.pair (.int .i64) (.int .i64)))) (([((0 : Int), ((8 : Int), ((5 : Int), (0 : Int))))] : List (Int × (Int × (Int × Int))))) .no)] ((.tup [(.list (.slice (.int .i64)) p10.1 .no), (.int .i64 p10.2)])) ∧ ((p3 = true → ((p5 = true → (((p6.2 == (0 : Int)) = true → ((p7 = true → (((p8.2 == (12 : Int)) = true → (((p9.2 == (0 : Int)) = true → R (.bool ((p10.2 == (12 : Int))))) ∧ ((p9.2 == (0 : Int)) = false → R (.bool false)))) ∧ ((p8.2 == (12 : Int)) = false → R (.bool false)))) ∧ (p7 = false → R (.bool false)))) ∧ ((p6.2 == (0 : Int)) = false → R (.bool false)))) ∧ (p5 = false → R (.bool false)))) ∧ (p3 = false → R (.bool false)))))))))))))))))) :
  fnK X12.tt (callN Try.prog X12 0) (X12.md 12) (X12.mk1 12) Try.f12 [] ⟨[], [], ⟨0, []⟩⟩ (topK R) := Eq.mp (by kernel_rfl) h

end Go.Proofs.Ytiomllkdfhglhaa.AB

