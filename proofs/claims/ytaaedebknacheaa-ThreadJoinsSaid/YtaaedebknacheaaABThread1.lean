/- Parts of the proof: what functions of the program compute, on plain values. -/
import Derived.Shelf.SlIterI.Nil
import Derived.Shelf.SortM.Plain
import Derived.Shelf.SortM.SortNone
import Derived.Ground.GgzProg
import Derived.Ground.SlgmProg
import Derived.Test.YtaaedebknacheaaProg
import Derived.Test.YtaaedebknacheaaABx3
import Derived.KernelRfl
import Derived.Test.YtaaedebknacheaaABx4
import Derived.Maps.OwnSet
namespace Go.Proofs.Ytaaedebknacheaa.AB
open Go Go.Proofs Go.RowKit Go.Maps Go.Sort Go.Shelf

def keysL_ren : Go.Shelf.Ren :=
  {
  f := fun x =>
    match x with
    | 7 => 74
    | 10 => 100
    | n => n,
  t := fun x =>
    match x with
    | 23 => 89
    | 26 => 3
    | 3 => 92
    | 28 => 122
    | 0 => 0
    | 27 => 121
    | 33 => 44
    | 4 => 4
    | n => n,
  g := fun x =>
    x }

set_option maxRecDepth 100000 in
theorem keysL : SlLaysZI.n7 Try.prog keysL_ren :=
  { mixed := by kernel_rfl, f7 := Exists.intro "maps.Keys[map[int]*crucible/thread.one,int,*crucible/thread.one]" ⟨of_decide_eq_true (by kernel_rfl), Eq.trans Try.func74 (congrArg some (by kernel_rfl))⟩, f10 := Exists.intro "maps.Keys[map[int]*crucible/thread.one,int,*crucible/thread.one]$1" ⟨of_decide_eq_true (by kernel_rfl), Eq.trans Try.func100 (congrArg some (by kernel_rfl))⟩, t0 := Try.underlying0, a0 := Try.isAgg0, z0 := Try.sizeOf0, v0 := Try.zeroValue0, t4 := Try.underlying4, a4 := Try.isAgg4, z4 := Try.sizeOf4, v4 := Try.zeroValue4, t23 := Try.underlying89, a23 := Try.isAgg89, z23 := Try.sizeOf89, v23 := Try.zeroValue89, t26 := Try.underlying3, a26 := Try.isAgg3, z26 := Try.sizeOf3, v26 := Try.zeroValue3, t27 := Try.underlying121, a27 := Try.isAgg121, z27 := Try.sizeOf121, v27 := Try.zeroValue121, t28 := Try.underlying122, a28 := Try.isAgg122, z28 := Try.sizeOf122, v28 := Try.zeroValue122, t33 := Try.underlying44, a33 := Try.isAgg44, z33 := Try.sizeOf44, v33 := Try.zeroValue44 }

def sortedL_ren : Go.Shelf.Ren :=
  {
  f := fun x =>
    match x with
    | 6 => 73
    | 8 => 98
    | 9 => 99
    | 11 => 105
    | 13 => 107
    | 12 => 106
    | 23 => 117
    | 24 => 118
    | 14 => 108
    | 15 => 109
    | 16 => 110
    | 17 => 111
    | 18 => 112
    | 19 => 113
    | 20 => 114
    | 21 => 115
    | 22 => 116
    | 25 => 119
    | 26 => 120
    | 27 => 121
    | 28 => 122
    | 29 => 123
    | 30 => 124
    | 31 => 125
    | n => n,
  t := fun x =>
    match x with
    | 26 => 3
    | 28 => 122
    | 24 => 22
    | 0 => 0
    | 3 => 3
    | 37 => 139
    | 48 => 155
    | 50 => 157
    | 4 => 4
    | 40 => 149
    | 39 => 148
    | 45 => 32
    | 5 => 5
    | 9 => 9
    | 51 => 158
    | 55 => 132
    | 57 => 163
    | 58 => 164
    | 33 => 44
    | n => n,
  g := fun x =>
    x }

set_option maxRecDepth 100000 in
theorem sortedL : SlLaysZI.n6 Try.prog sortedL_ren :=
  { mixed := by kernel_rfl, f6 := Exists.intro "slices.Sorted[int]" ⟨of_decide_eq_true (by kernel_rfl), Eq.trans Try.func73 (congrArg some (by kernel_rfl))⟩, f8 := Exists.intro "slices.Collect[int]" ⟨of_decide_eq_true (by kernel_rfl), Eq.trans Try.func98 (congrArg some (by kernel_rfl))⟩, f11 := Exists.intro "slices.AppendSeq[[]int,int]" ⟨of_decide_eq_true (by kernel_rfl), Eq.trans Try.func105 (congrArg some (by kernel_rfl))⟩, t0 := Try.underlying0, a0 := Try.isAgg0, z0 := Try.sizeOf0, v0 := Try.zeroValue0, t24 := Try.underlying22, a24 := Try.isAgg22, z24 := Try.sizeOf22, v24 := Try.zeroValue22, t26 := Try.underlying3, a26 := Try.isAgg3, z26 := Try.sizeOf3, v26 := Try.zeroValue3, t28 := Try.underlying122, a28 := Try.isAgg122, z28 := Try.sizeOf122, v28 := Try.zeroValue122, i26 := Eq.refl (some (some (Value.int IntKind.i64 0), 1, 8)) }

def sortL_ren : Go.Shelf.Ren :=
  {
  f := fun x =>
    match x with
    | 5 => 99
    | 8 => 107
    | 7 => 106
    | 19 => 117
    | 20 => 118
    | 10 => 108
    | 11 => 109
    | 12 => 110
    | 13 => 111
    | 14 => 112
    | 15 => 113
    | 16 => 114
    | 17 => 115
    | 18 => 116
    | 30 => 119
    | 31 => 120
    | 32 => 121
    | 33 => 122
    | 34 => 123
    | 35 => 124
    | 40 => 125
    | n => n,
  t := fun x =>
    match x with
    | 23 => 22
    | 25 => 3
    | 3 => 3
    | 32 => 139
    | 22 => 22
    | 0 => 0
    | 44 => 155
    | 46 => 157
    | 4 => 4
    | 36 => 149
    | 35 => 148
    | 41 => 32
    | 5 => 5
    | 9 => 9
    | 53 => 158
    | 57 => 132
    | 63 => 163
    | 64 => 164
    | n => n,
  g := fun x =>
    x }

set_option maxRecDepth 100000 in
theorem sortL : SlLaysM.n5 Try.prog sortL_ren :=
  { mixed := by kernel_rfl, f5 := Exists.intro "slices.Sort[[]int,int]" ⟨of_decide_eq_true (by kernel_rfl), Eq.trans Try.func99 (congrArg some (by kernel_rfl))⟩, f7 := Exists.intro "slices.pdqsortOrdered[int]" ⟨of_decide_eq_true (by kernel_rfl), Eq.trans Try.func106 (congrArg some (by kernel_rfl))⟩, f8 := Eq.trans Try.func107 (congrArg some (by kernel_rfl)), f10 := Exists.intro "slices.insertionSortOrdered[int]" ⟨of_decide_eq_true (by kernel_rfl), Eq.trans Try.func108 (congrArg some (by kernel_rfl))⟩, f11 := Exists.intro "slices.heapSortOrdered[int]" ⟨of_decide_eq_true (by kernel_rfl), Eq.trans Try.func109 (congrArg some (by kernel_rfl))⟩, f12 := Exists.intro "slices.breakPatternsOrdered[int]" ⟨of_decide_eq_true (by kernel_rfl), Eq.trans Try.func110 (congrArg some (by kernel_rfl))⟩, f13 := Exists.intro "slices.choosePivotOrdered[int]" ⟨of_decide_eq_true (by kernel_rfl), Eq.trans Try.func111 (congrArg some (by kernel_rfl))⟩, f14 := Exists.intro "slices.reverseRangeOrdered[int]" ⟨of_decide_eq_true (by kernel_rfl), Eq.trans Try.func112 (congrArg some (by kernel_rfl))⟩, f15 := Exists.intro "slices.partialInsertionSortOrdered[int]" ⟨of_decide_eq_true (by kernel_rfl), Eq.trans Try.func113 (congrArg some (by kernel_rfl))⟩, f16 := Exists.intro "cmp.Less[int]" ⟨of_decide_eq_true (by kernel_rfl), Eq.trans Try.func114 (congrArg some (by kernel_rfl))⟩, f17 := Exists.intro "slices.partitionEqualOrdered[int]" ⟨of_decide_eq_true (by kernel_rfl), Eq.trans Try.func115 (congrArg some (by kernel_rfl))⟩, f18 := Exists.intro "slices.partitionOrdered[int]" ⟨of_decide_eq_true (by kernel_rfl), Eq.trans Try.func116 (congrArg some (by kernel_rfl))⟩, f19 := Eq.trans Try.func117 (congrArg some (by kernel_rfl)), f20 := Eq.trans Try.func118 (congrArg some (by kernel_rfl)), f30 := Exists.intro "slices.siftDownOrdered[int]" ⟨of_decide_eq_true (by kernel_rfl), Eq.trans Try.func119 (congrArg some (by kernel_rfl))⟩, f31 := Eq.trans Try.func120 (congrArg some (by kernel_rfl)), f32 := Eq.trans Try.func121 (congrArg some (by kernel_rfl)), f33 := Exists.intro "slices.medianAdjacentOrdered[int]" ⟨of_decide_eq_true (by kernel_rfl), Eq.trans Try.func122 (congrArg some (by kernel_rfl))⟩, f34 := Exists.intro "slices.medianOrdered[int]" ⟨of_decide_eq_true (by kernel_rfl), Eq.trans Try.func123 (congrArg some (by kernel_rfl))⟩, f35 := Exists.intro "cmp.isNaN[int]" ⟨of_decide_eq_true (by kernel_rfl), Eq.trans Try.func124 (congrArg some (by kernel_rfl))⟩, f40 := Exists.intro "slices.order2Ordered[int]" ⟨of_decide_eq_true (by kernel_rfl), Eq.trans Try.func125 (congrArg some (by kernel_rfl))⟩, t0 := Try.underlying0, a0 := Try.isAgg0, z0 := Try.sizeOf0, v0 := Try.zeroValue0, t3 := Try.underlying3, a3 := Try.isAgg3, z3 := Try.sizeOf3, v3 := Try.zeroValue3, t4 := Try.underlying4, a4 := Try.isAgg4, z4 := Try.sizeOf4, v4 := Try.zeroValue4, t5 := Try.underlying5, a5 := Try.isAgg5, z5 := Try.sizeOf5, v5 := Try.zeroValue5, t9 := Try.underlying9, a9 := Try.isAgg9, z9 := Try.sizeOf9, v9 := Try.zeroValue9, t22 := Try.underlying22, a22 := Try.isAgg22, z22 := Try.sizeOf22, v22 := Try.zeroValue22, t23 := Try.underlying22, a23 := Try.isAgg22, z23 := Try.sizeOf22, v23 := Try.zeroValue22, t25 := Try.underlying3, a25 := Try.isAgg3, z25 := Try.sizeOf3, v25 := Try.zeroValue3, t32 := Try.underlying139, a32 := Try.isAgg139, z32 := Try.sizeOf139, v32 := Try.zeroValue139, t35 := Try.underlying148, a35 := Try.isAgg148, z35 := Try.sizeOf148, v35 := Try.zeroValue148, t36 := Try.underlying149, a36 := Try.isAgg149, z36 := Try.sizeOf149, v36 := Try.zeroValue149, t41 := Try.underlying32, a41 := Try.isAgg32, z41 := Try.sizeOf32, v41 := Try.zeroValue32, t44 := Try.underlying155, a44 := Try.isAgg155, z44 := Try.sizeOf155, v44 := Try.zeroValue155, t46 := Try.underlying157, a46 := Try.isAgg157, z46 := Try.sizeOf157, v46 := Try.zeroValue157, t53 := Try.underlying158, a53 := Try.isAgg158, z53 := Try.sizeOf158, v53 := Try.zeroValue158, t57 := Try.underlying132, a57 := Try.isAgg132, z57 := Try.sizeOf132, v57 := Try.zeroValue132, t63 := Try.underlying163, a63 := Try.isAgg163, z63 := Try.sizeOf163, v63 := Try.zeroValue163, t64 := Try.underlying164, a64 := Try.isAgg164, z64 := Try.sizeOf164, v64 := Try.zeroValue164 }


/-- slices.Sort's two contracts at this dump, at the fence that asks nothing. -/
theorem sortsL (m : Nat) : AnyZI.SortsIn Try.prog sortedL_ren Fence.wide m :=
  ⟨fun blk off cap ss W hH hblk hsz => callsIn_wide.2 (AnyM.slices_Sort_int sortL blk off cap ss W hH hblk hsz),
   fun p cap W => callsIn_wide.2 (AnyM.slices_Sort_int_none sortL p cap W)⟩

set_option maxHeartbeats 1000000 in
theorem live_calls {H : Type} (a b nn : Nat) (D0 : DataW H) (R : Value → Option (DataW H × List MemPlace)) (w : World) (hc : w.cell? ⟨a, 0, none⟩ = some (.map (some b))) (hown : w.ownsMap Try.prog 3 R b nn D0) (hmax : Maps.size D0 ≤ maxLen)
    (hbytes : Maps.size D0 * 8 ≤ 140737488355328) :
    Calls Try.prog 50 #[.pointer (some ⟨a, 0, none⟩)] w fun e w' => ∃ (v : Value) (ss : List Int), e = .returned v ∧ ss.Perm (intKeys D0) ∧
      w'.ownsRow w.heap.size 3 1 v ss.length ((ss.mergeSort (fun x y => decide (x ≤ y))).map encZ) ∧ Below w.heap.size w w' := by
  refine (callsIn_wide (n := 6)).1 ?_
  have hbl := hown.lt
  have hseq : SeqGives Fence.wide 2 Try.prog 100 #[.pointer (some ⟨w.heap.size, 0, none⟩)] encZ (fun ss => ss.Perm (intKeys D0)) (Maps.size D0) (w.alloc (.cells #[.map (some b)] 89)) :=
    AnyZI.keys_gives (ρ := keysL_ren) { keysL with } Fence.wide _ trivial rfl (by omega) w.heap.size b nn D0 _ (by simp) (by simp) (by
      obtain ⟨es, clock, hb, Ft, hs, hD⟩ := hown
      exact ⟨es, clock, (Below.heap_alloc _ _ b hbl).trans hb, Ft, hs, hD⟩)
  have cK : ∀ mb W, CallsIn Fence.wide 5 Try.prog 74 #[.map mb] W fun e w' => e = .returned (.func (.func 100) #[] #[.pointer (some ⟨W.heap.size, 0, none⟩)]) ∧ w' = W.alloc (.cells #[.map mb] 89) := fun mb W => AnyZI.keys_in keysL Fence.wide 5 trivial rfl mb W
  have cS := AnyZI.sorted_in sortedL Fence.wide 5 trivial trivial trivial trivial rfl (by omega) (sortsL _) (enters_of Try.func99 (by kernel_rfl) rfl) 100 #[.pointer (some ⟨w.heap.size, 0, none⟩)] trivial (enters_of Try.func100 (by kernel_rfl) rfl) _ _ hmax hbytes _ hseq
  change CallsIn _ _ Try.prog 73 _ _ _ at cS
  have hfK : Fence.wide.fn 74 := trivial
  have hfS : Fence.wide.fn 73 := trivial
  refine callsIn_of_wp Try.func50 rfl trivial ?_ rfl
  simp only [Try.ntmps50, List.size_toArray, List.length_cons, List.length_nil, Nat.reduceAdd, Nat.reduceSub, Array.replicate_succ, Array.replicate_zero, List.push_toArray, List.append_toArray, List.nil_append, List.cons_append]
  gi_wp2_with (first
    | (gi_at_call 74; refine (cK _ _).mono ?_; rintro e w' ⟨rfl, rfl⟩)
    | (gi_at_call 73; refine cS.mono ?_; rintro e w' ⟨v, ss, rfl, hS, hrow, hnil, hb⟩))
  go_ret
  exact ⟨v, ss, rfl, hS, ownsRow_base_a hrow (by simp), ((Below.refl _ w).alloc (Nat.le_refl _) _).trans (hb.mono (by simp))⟩

end Go.Proofs.Ytaaedebknacheaa.AB

set_option linter.unusedVariables false
set_option linter.unusedSimpArgs false
set_option maxRecDepth 100000
set_option maxHeartbeats 2000000
namespace Go.Proofs.Ytaaedebknacheaa.AB
open Go
def tt : TT := [
 ⟨.other, 0, 0, .undef, .unit, false, false⟩,
 ⟨.func, 1, 8, .nilf, .unit, true, false⟩,
 ⟨.int .i64, 1, 8, (.int .i64 (0 : Int)), (.int .i64), true, true⟩,
 ⟨.int .i64, 1, 8, (.int .i64 (0 : Int)), (.int .i64), true, true⟩,
 ⟨.bool, 1, 1, .ff, .bool, true, true⟩,
 ⟨.int .u8, 1, 1, (.int .u8 (0 : Int)), (.int .u8), true, true⟩,
 ⟨.int .u8, 1, 1, (.int .u8 (0 : Int)), (.int .u8), true, true⟩,
 ⟨.strct [(0, 2), (1, 3), (2, 4), (3, 6)], 4, 24, (.agg [(.int .i64 (0 : Int)), (.int .i64 (0 : Int)), .ff, (.int .u8 (0 : Int))]), (.pair (.int .i64) (.pair (.int .i64) (.pair .bool (.int .u8)))), true, true⟩,
 ⟨.strct [(0, 2), (1, 3), (2, 4), (3, 6)], 4, 24, (.agg [(.int .i64 (0 : Int)), (.int .i64 (0 : Int)), .ff, (.int .u8 (0 : Int))]), (.pair (.int .i64) (.pair (.int .i64) (.pair .bool (.int .u8)))), true, true⟩,
 ⟨.str, 1, 16, (.str ([] : List UInt8)), .str, true, true⟩,
 ⟨.str, 1, 16, (.str ([] : List UInt8)), .str, true, true⟩,
 ⟨.str, 1, 16, (.str ([] : List UInt8)), .str, true, true⟩,
 ⟨.int .u64, 1, 8, (.int .u64 (0 : Int)), (.int .u64), true, true⟩,
 ⟨.strct [(0, 9), (1, 12)], 2, 24, (.agg [(.str ([] : List UInt8)), (.int .u64 (0 : Int))]), (.pair .str (.int .u64)), true, true⟩,
 ⟨.strct [(0, 9), (1, 12)], 2, 24, (.agg [(.str ([] : List UInt8)), (.int .u64 (0 : Int))]), (.pair .str (.int .u64)), true, true⟩,
 ⟨.ptr 168, 1, 8, .nilp, .unit, true, false⟩,
 ⟨.ptr 171, 1, 8, .nilp, .unit, true, false⟩,
 ⟨.ptr 179, 1, 8, .nilp, .unit, true, false⟩,
 ⟨.strct [(0, 17)], 1, 8, (.agg [.nilp]), .unit, true, false⟩,
 ⟨.strct [(0, 17)], 1, 8, (.agg [.nilp]), .unit, true, false⟩,
 ⟨.iface, 1, 16, .nili, .unit, true, false⟩,
 ⟨.int .i32, 1, 4, (.int .i32 (0 : Int)), (.int .i32), true, true⟩,
 ⟨.slice 3, 1, 24, (.list (.int .i64) ([] : List Int) .exact), (.slice (.int .i64)), true, true⟩,
 ⟨.func, 1, 8, .nilf, .unit, true, false⟩,
 ⟨.ptr 91, 1, 8, .nilp, .unit, true, false⟩,
 ⟨.func, 1, 8, .nilf, .unit, true, false⟩,
 ⟨.func, 1, 8, .nilf, .unit, true, false⟩,
 ⟨.int .i64, 1, 8, (.int .i64 (0 : Int)), (.int .i64), true, true⟩,
 ⟨.other, 0, 0, .undef, .unit, false, false⟩,
 ⟨.func, 1, 8, .nilf, .unit, true, false⟩,
 ⟨.strct [(0, 3), (1, 3), (2, 22), (3, 22)], 4, 64, (.agg [(.int .i64 (0 : Int)), (.int .i64 (0 : Int)), (.list (.int .i64) ([] : List Int) .exact), (.list (.int .i64) ([] : List Int) .exact)]), (.pair (.int .i64) (.pair (.int .i64) (.pair (.slice (.int .i64)) (.slice (.int .i64))))), true, true⟩,
 ⟨.strct [(0, 3), (1, 3), (2, 22), (3, 22)], 4, 64, (.agg [(.int .i64 (0 : Int)), (.int .i64 (0 : Int)), (.list (.int .i64) ([] : List Int) .exact), (.list (.int .i64) ([] : List Int) .exact)]), (.pair (.int .i64) (.pair (.int .i64) (.pair (.slice (.int .i64)) (.slice (.int .i64))))), true, true⟩,
 ⟨.other, 0, 0, .undef, .unit, false, false⟩,
 ⟨.func, 1, 8, .nilf, .unit, true, false⟩,
 ⟨.func, 1, 8, .nilf, .unit, true, false⟩,
 ⟨.func, 1, 8, .nilf, .unit, true, false⟩,
 ⟨.func, 1, 8, .nilf, .unit, true, false⟩,
 ⟨.other, 0, 0, .undef, .unit, false, false⟩,
 ⟨.func, 1, 8, .nilf, .unit, true, false⟩,
 ⟨.func, 1, 8, .nilf, .unit, true, false⟩,
 ⟨.other, 0, 0, .undef, .unit, false, false⟩,
 ⟨.func, 1, 8, .nilf, .unit, true, false⟩,
 ⟨.func, 1, 8, .nilf, .unit, true, false⟩,
 ⟨.func, 1, 8, .nilf, .unit, true, false⟩,
 ⟨.func, 1, 8, .nilf, .unit, true, false⟩,
 ⟨.func, 1, 8, .nilf, .unit, true, false⟩,
 ⟨.slice 51, 1, 24, (.list (.pair (.int .i64) (.pair (.int .i64) (.pair (.int .i64) (.pair (.slice (.int .i64)) (.slice (.int .i64)))))) (([] : List (Int × (Int × (Int × ((List Int) × (List Int))))))) .exact), (.slice (.pair (.int .i64) (.pair (.int .i64) (.pair (.int .i64) (.pair (.slice (.int .i64)) (.slice (.int .i64))))))), true, true⟩,
 ⟨.other, 0, 0, .undef, .unit, false, false⟩,
 ⟨.func, 1, 8, .nilf, .unit, true, false⟩,
 ⟨.slice 5, 1, 24, (.list (.int .u8) ([] : List Int) .exact), (.slice (.int .u8)), true, true⟩,
 ⟨.strct [(0, 3), (1, 3), (2, 3), (3, 22), (4, 22)], 5, 72, (.agg [(.int .i64 (0 : Int)), (.int .i64 (0 : Int)), (.int .i64 (0 : Int)), (.list (.int .i64) ([] : List Int) .exact), (.list (.int .i64) ([] : List Int) .exact)]), (.pair (.int .i64) (.pair (.int .i64) (.pair (.int .i64) (.pair (.slice (.int .i64)) (.slice (.int .i64)))))), true, true⟩,
 ⟨.strct [(0, 3), (1, 3), (2, 3), (3, 22), (4, 22)], 5, 72, (.agg [(.int .i64 (0 : Int)), (.int .i64 (0 : Int)), (.int .i64 (0 : Int)), (.list (.int .i64) ([] : List Int) .exact), (.list (.int .i64) ([] : List Int) .exact)]), (.pair (.int .i64) (.pair (.int .i64) (.pair (.int .i64) (.pair (.slice (.int .i64)) (.slice (.int .i64)))))), true, true⟩,
 ⟨.func, 1, 8, .nilf, .unit, true, false⟩,
 ⟨.func, 1, 8, .nilf, .unit, true, false⟩,
 ⟨.func, 1, 8, .nilf, .unit, true, false⟩,
 ⟨.func, 1, 8, .nilf, .unit, true, false⟩,
 ⟨.func, 1, 8, .nilf, .unit, true, false⟩,
 ⟨.func, 1, 8, .nilf, .unit, true, false⟩,
 ⟨.func, 1, 8, .nilf, .unit, true, false⟩,
 ⟨.func, 1, 8, .nilf, .unit, true, false⟩,
 ⟨.func, 1, 8, .nilf, .unit, true, false⟩,
 ⟨.slice 31, 1, 24, (.list (.pair (.int .i64) (.pair (.int .i64) (.pair (.slice (.int .i64)) (.slice (.int .i64))))) (([] : List (Int × (Int × ((List Int) × (List Int)))))) .exact), (.slice (.pair (.int .i64) (.pair (.int .i64) (.pair (.slice (.int .i64)) (.slice (.int .i64)))))), true, true⟩,
 ⟨.func, 1, 8, .nilf, .unit, true, false⟩,
 ⟨.other, 0, 0, .undef, .unit, false, false⟩,
 ⟨.func, 1, 8, .nilf, .unit, true, false⟩,
 ⟨.func, 1, 8, .nilf, .unit, true, false⟩,
 ⟨.strct [(0, 3), (1, 3), (2, 22), (3, 22)], 4, 64, (.agg [(.int .i64 (0 : Int)), (.int .i64 (0 : Int)), (.list (.int .i64) ([] : List Int) .exact), (.list (.int .i64) ([] : List Int) .exact)]), (.pair (.int .i64) (.pair (.int .i64) (.pair (.slice (.int .i64)) (.slice (.int .i64))))), true, true⟩,
 ⟨.func, 1, 8, .nilf, .unit, true, false⟩,
 ⟨.func, 1, 8, .nilf, .unit, true, false⟩,
 ⟨.other, 0, 0, .undef, .unit, false, false⟩,
 ⟨.func, 1, 8, .nilf, .unit, true, false⟩,
 ⟨.func, 1, 8, .nilf, .unit, true, false⟩,
 ⟨.other, 0, 0, .undef, .unit, false, false⟩,
 ⟨.func, 1, 8, .nilf, .unit, true, false⟩,
 ⟨.other, 0, 0, .undef, .unit, false, false⟩,
 ⟨.func, 1, 8, .nilf, .unit, true, false⟩,
 ⟨.slice 82, 1, 24, (.list (.pair (.int .i64) (.pair (.int .i64) (.pair (.int .i64) (.pair (.int .i64) (.pair (.slice (.int .i64)) (.slice (.int .i64))))))) (([] : List (Int × (Int × (Int × (Int × ((List Int) × (List Int)))))))) .exact), (.slice (.pair (.int .i64) (.pair (.int .i64) (.pair (.int .i64) (.pair (.int .i64) (.pair (.slice (.int .i64)) (.slice (.int .i64)))))))), true, true⟩,
 ⟨.ptr 80, 1, 8, .nilp, .unit, true, false⟩,
 ⟨.slice 87, 1, 24, (.list (.pair (.slice (.pair (.int .i64) (.pair (.int .i64) (.pair (.slice (.int .i64)) (.slice (.int .i64)))))) (.pair (.int .i64) (.int .i64))) (([] : List ((List (Int × (Int × ((List Int) × (List Int))))) × (Int × Int)))) .exact), (.slice (.pair (.slice (.pair (.int .i64) (.pair (.int .i64) (.pair (.slice (.int .i64)) (.slice (.int .i64)))))) (.pair (.int .i64) (.int .i64)))), true, true⟩,
 ⟨.strct [(0, 78), (1, 22), (2, 22)], 3, 72, (.agg [(.list (.pair (.slice (.pair (.int .i64) (.pair (.int .i64) (.pair (.slice (.int .i64)) (.slice (.int .i64)))))) (.pair (.int .i64) (.int .i64))) (([] : List ((List (Int × (Int × ((List Int) × (List Int))))) × (Int × Int)))) .exact), (.list (.int .i64) ([] : List Int) .exact), (.list (.int .i64) ([] : List Int) .exact)]), (.pair (.slice (.pair (.slice (.pair (.int .i64) (.pair (.int .i64) (.pair (.slice (.int .i64)) (.slice (.int .i64)))))) (.pair (.int .i64) (.int .i64)))) (.pair (.slice (.int .i64)) (.slice (.int .i64)))), true, true⟩,
 ⟨.strct [(0, 78), (1, 22), (2, 22)], 3, 72, (.agg [(.list (.pair (.slice (.pair (.int .i64) (.pair (.int .i64) (.pair (.slice (.int .i64)) (.slice (.int .i64)))))) (.pair (.int .i64) (.int .i64))) (([] : List ((List (Int × (Int × ((List Int) × (List Int))))) × (Int × Int)))) .exact), (.list (.int .i64) ([] : List Int) .exact), (.list (.int .i64) ([] : List Int) .exact)]), (.pair (.slice (.pair (.slice (.pair (.int .i64) (.pair (.int .i64) (.pair (.slice (.int .i64)) (.slice (.int .i64)))))) (.pair (.int .i64) (.int .i64)))) (.pair (.slice (.int .i64)) (.slice (.int .i64)))), true, true⟩,
 ⟨.strct [(0, 3), (1, 3), (2, 31)], 6, 80, (.agg [(.int .i64 (0 : Int)), (.int .i64 (0 : Int)), (.int .i64 (0 : Int)), (.int .i64 (0 : Int)), (.list (.int .i64) ([] : List Int) .exact), (.list (.int .i64) ([] : List Int) .exact)]), (.pair (.int .i64) (.pair (.int .i64) (.pair (.int .i64) (.pair (.int .i64) (.pair (.slice (.int .i64)) (.slice (.int .i64))))))), true, true⟩,
 ⟨.strct [(0, 3), (1, 3), (2, 31)], 6, 80, (.agg [(.int .i64 (0 : Int)), (.int .i64 (0 : Int)), (.int .i64 (0 : Int)), (.int .i64 (0 : Int)), (.list (.int .i64) ([] : List Int) .exact), (.list (.int .i64) ([] : List Int) .exact)]), (.pair (.int .i64) (.pair (.int .i64) (.pair (.int .i64) (.pair (.int .i64) (.pair (.slice (.int .i64)) (.slice (.int .i64))))))), true, true⟩,
 ⟨.func, 1, 8, .nilf, .unit, true, false⟩,
 ⟨.func, 1, 8, .nilf, .unit, true, false⟩,
 ⟨.slice 66, 1, 24, (.list (.pair (.int .i64) (.pair (.int .i64) (.pair (.slice (.int .i64)) (.slice (.int .i64))))) (([] : List (Int × (Int × ((List Int) × (List Int)))))) .exact), (.slice (.pair (.int .i64) (.pair (.int .i64) (.pair (.slice (.int .i64)) (.slice (.int .i64)))))), true, true⟩,
 ⟨.strct [(0, 85), (1, 3), (2, 3)], 3, 40, (.agg [(.list (.pair (.int .i64) (.pair (.int .i64) (.pair (.slice (.int .i64)) (.slice (.int .i64))))) (([] : List (Int × (Int × ((List Int) × (List Int)))))) .exact), (.int .i64 (0 : Int)), (.int .i64 (0 : Int))]), (.pair (.slice (.pair (.int .i64) (.pair (.int .i64) (.pair (.slice (.int .i64)) (.slice (.int .i64)))))) (.pair (.int .i64) (.int .i64))), true, true⟩,
 ⟨.strct [(0, 85), (1, 3), (2, 3)], 3, 40, (.agg [(.list (.pair (.int .i64) (.pair (.int .i64) (.pair (.slice (.int .i64)) (.slice (.int .i64))))) (([] : List (Int × (Int × ((List Int) × (List Int)))))) .exact), (.int .i64 (0 : Int)), (.int .i64 (0 : Int))]), (.pair (.slice (.pair (.int .i64) (.pair (.int .i64) (.pair (.slice (.int .i64)) (.slice (.int .i64)))))) (.pair (.int .i64) (.int .i64))), true, true⟩,
 ⟨.func, 1, 8, .nilf, .unit, true, false⟩,
 ⟨.map 3 92, 1, 8, .nilm, .unit, true, false⟩,
 ⟨.strct [(0, 89), (1, 3), (2, 3), (3, 22)], 4, 48, (.agg [.nilm, (.int .i64 (0 : Int)), (.int .i64 (0 : Int)), (.list (.int .i64) ([] : List Int) .exact)]), .unit, true, false⟩,
 ⟨.strct [(0, 89), (1, 3), (2, 3), (3, 22)], 4, 48, (.agg [.nilm, (.int .i64 (0 : Int)), (.int .i64 (0 : Int)), (.list (.int .i64) ([] : List Int) .exact)]), .unit, true, false⟩,
 ⟨.ptr 95, 1, 8, .nilp, .unit, true, false⟩,
 ⟨.func, 1, 8, .nilf, .unit, true, false⟩,
 ⟨.strct [(0, 61), (1, 3), (2, 22)], 3, 56, (.agg [(.list (.pair (.int .i64) (.pair (.int .i64) (.pair (.slice (.int .i64)) (.slice (.int .i64))))) (([] : List (Int × (Int × ((List Int) × (List Int)))))) .exact), (.int .i64 (0 : Int)), (.list (.int .i64) ([] : List Int) .exact)]), (.pair (.slice (.pair (.int .i64) (.pair (.int .i64) (.pair (.slice (.int .i64)) (.slice (.int .i64)))))) (.pair (.int .i64) (.slice (.int .i64)))), true, true⟩,
 ⟨.strct [(0, 61), (1, 3), (2, 22)], 3, 56, (.agg [(.list (.pair (.int .i64) (.pair (.int .i64) (.pair (.slice (.int .i64)) (.slice (.int .i64))))) (([] : List (Int × (Int × ((List Int) × (List Int)))))) .exact), (.int .i64 (0 : Int)), (.list (.int .i64) ([] : List Int) .exact)]), (.pair (.slice (.pair (.int .i64) (.pair (.int .i64) (.pair (.slice (.int .i64)) (.slice (.int .i64)))))) (.pair (.int .i64) (.slice (.int .i64)))), true, true⟩,
 ⟨.func, 1, 8, .nilf, .unit, true, false⟩,
 ⟨.func, 1, 8, .nilf, .unit, true, false⟩,
 ⟨.func, 1, 8, .nilf, .unit, true, false⟩,
 ⟨.func, 1, 8, .nilf, .unit, true, false⟩,
 ⟨.other, 0, 0, .undef, .unit, false, false⟩,
 ⟨.func, 1, 8, .nilf, .unit, true, false⟩,
 ⟨.strct [(0, 9), (1, 5)], 2, 24, (.agg [(.str ([] : List UInt8)), (.int .u8 (0 : Int))]), (.pair .str (.int .u8)), true, true⟩,
 ⟨.strct [(0, 9), (1, 5)], 2, 24, (.agg [(.str ([] : List UInt8)), (.int .u8 (0 : Int))]), (.pair .str (.int .u8)), true, true⟩,
 ⟨.arr 64 103, 128, 1536, (V.agg (List.cons (V.str ([] : List UInt8)) (List.cons (V.int IntKind.u8 (0 : Int)) (List.cons (V.str ([] : List UInt8)) (List.cons (V.int IntKind.u8 (0 : Int)) (List.cons (V.str ([] : List UInt8)) (List.cons (V.int IntKind.u8 (0 : Int)) (List.cons (V.str ([] : List UInt8)) (List.cons (V.int IntKind.u8 (0 : Int)) (List.cons (V.str ([] : List UInt8)) (List.cons (V.int IntKind.u8 (0 : Int)) (List.cons (V.str ([] : List UInt8)) (List.cons (V.int IntKind.u8 (0 : Int)) (List.cons (V.str ([] : List UInt8)) (List.cons (V.int IntKind.u8 (0 : Int)) (List.cons (V.str ([] : List UInt8)) (List.cons (V.int IntKind.u8 (0 : Int)) (List.cons (V.str ([] : List UInt8)) (List.cons (V.int IntKind.u8 (0 : Int)) (List.cons (V.str ([] : List UInt8)) (List.cons (V.int IntKind.u8 (0 : Int)) (List.cons (V.str ([] : List UInt8)) (List.cons (V.int IntKind.u8 (0 : Int)) (List.cons (V.str ([] : List UInt8)) (List.cons (V.int IntKind.u8 (0 : Int)) (List.cons (V.str ([] : List UInt8)) (List.cons (V.int IntKind.u8 (0 : Int)) (List.cons (V.str ([] : List UInt8)) (List.cons (V.int IntKind.u8 (0 : Int)) (List.cons (V.str ([] : List UInt8)) (List.cons (V.int IntKind.u8 (0 : Int)) (List.cons (V.str ([] : List UInt8)) (List.cons (V.int IntKind.u8 (0 : Int)) (List.cons (V.str ([] : List UInt8)) (List.cons (V.int IntKind.u8 (0 : Int)) (List.cons (V.str ([] : List UInt8)) (List.cons (V.int IntKind.u8 (0 : Int)) (List.cons (V.str ([] : List UInt8)) (List.cons (V.int IntKind.u8 (0 : Int)) (List.cons (V.str ([] : List UInt8)) (List.cons (V.int IntKind.u8 (0 : Int)) (List.cons (V.str ([] : List UInt8)) (List.cons (V.int IntKind.u8 (0 : Int)) (List.cons (V.str ([] : List UInt8)) (List.cons (V.int IntKind.u8 (0 : Int)) (List.cons (V.str ([] : List UInt8)) (List.cons (V.int IntKind.u8 (0 : Int)) (List.cons (V.str ([] : List UInt8)) (List.cons (V.int IntKind.u8 (0 : Int)) (List.cons (V.str ([] : List UInt8)) (List.cons (V.int IntKind.u8 (0 : Int)) (List.cons (V.str ([] : List UInt8)) (List.cons (V.int IntKind.u8 (0 : Int)) (List.cons (V.str ([] : List UInt8)) (List.cons (V.int IntKind.u8 (0 : Int)) (List.cons (V.str ([] : List UInt8)) (List.cons (V.int IntKind.u8 (0 : Int)) (List.cons (V.str ([] : List UInt8)) (List.cons (V.int IntKind.u8 (0 : Int)) (List.cons (V.str ([] : List UInt8)) (List.cons (V.int IntKind.u8 (0 : Int)) (List.cons (V.str ([] : List UInt8)) (List.cons (V.int IntKind.u8 (0 : Int)) (List.cons (V.str ([] : List UInt8)) (List.cons (V.int IntKind.u8 (0 : Int)) (List.cons (V.str ([] : List UInt8)) (List.cons (V.int IntKind.u8 (0 : Int)) (List.cons (V.str ([] : List UInt8)) (List.cons (V.int IntKind.u8 (0 : Int)) (List.cons (V.str ([] : List UInt8)) (List.cons (V.int IntKind.u8 (0 : Int)) (List.cons (V.str ([] : List UInt8)) (List.cons (V.int IntKind.u8 (0 : Int)) (List.cons (V.str ([] : List UInt8)) (List.cons (V.int IntKind.u8 (0 : Int)) (List.cons (V.str ([] : List UInt8)) (List.cons (V.int IntKind.u8 (0 : Int)) (List.cons (V.str ([] : List UInt8)) (List.cons (V.int IntKind.u8 (0 : Int)) (List.cons (V.str ([] : List UInt8)) (List.cons (V.int IntKind.u8 (0 : Int)) (List.cons (V.str ([] : List UInt8)) (List.cons (V.int IntKind.u8 (0 : Int)) (List.cons (V.str ([] : List UInt8)) (List.cons (V.int IntKind.u8 (0 : Int)) (List.cons (V.str ([] : List UInt8)) (List.cons (V.int IntKind.u8 (0 : Int)) (List.cons (V.str ([] : List UInt8)) (List.cons (V.int IntKind.u8 (0 : Int)) (List.cons (V.str ([] : List UInt8)) (List.cons (V.int IntKind.u8 (0 : Int)) (List.cons (V.str ([] : List UInt8)) (List.cons (V.int IntKind.u8 (0 : Int)) (List.cons (V.str ([] : List UInt8)) (List.cons (V.int IntKind.u8 (0 : Int)) (List.cons (V.str ([] : List UInt8)) (List.cons (V.int IntKind.u8 (0 : Int)) (List.cons (V.str ([] : List UInt8)) (List.cons (V.int IntKind.u8 (0 : Int)) (List.cons (V.str ([] : List UInt8)) (List.cons (V.int IntKind.u8 (0 : Int)) (List.cons (V.str ([] : List UInt8)) (List.cons (V.int IntKind.u8 (0 : Int)) (List.cons (V.str ([] : List UInt8)) (List.cons (V.int IntKind.u8 (0 : Int)) (List.cons (V.str ([] : List UInt8)) (List.cons (V.int IntKind.u8 (0 : Int)) (List.cons (V.str ([] : List UInt8)) (List.cons (V.int IntKind.u8 (0 : Int)) (List.cons (V.str ([] : List UInt8)) (List.cons (V.int IntKind.u8 (0 : Int)) (List.cons (V.str ([] : List UInt8)) (List.cons (V.int IntKind.u8 (0 : Int)) (List.cons (V.str ([] : List UInt8)) (List.cons (V.int IntKind.u8 (0 : Int)) (List.cons (V.str ([] : List UInt8)) (List.cons (V.int IntKind.u8 (0 : Int)) (List.cons (V.str ([] : List UInt8)) (List.cons (V.int IntKind.u8 (0 : Int)) (List.cons (V.str ([] : List UInt8)) (List.cons (V.int IntKind.u8 (0 : Int)) (List.cons (V.str ([] : List UInt8)) (List.cons (V.int IntKind.u8 (0 : Int)) (List.cons (V.str ([] : List UInt8)) (List.cons (V.int IntKind.u8 (0 : Int)) (List.cons (V.str ([] : List UInt8)) (List.cons (V.int IntKind.u8 (0 : Int)) (List.cons (V.str ([] : List UInt8)) (List.cons (V.int IntKind.u8 (0 : Int)) ([] : List V)))))))))))))))))))))))))))))))))))))))))))))))))))))))))))))))))))))))))))))))))))))))))))))))))))))))))))))))))))))))))))))))))), .unit, true, false⟩,
 ⟨.func, 1, 8, .nilf, .unit, true, false⟩,
 ⟨.slice 9, 1, 24, (.list .str (([] : List (List UInt8))) .exact), (.slice .str), true, true⟩,
 ⟨.func, 1, 8, .nilf, .unit, true, false⟩,
 ⟨.other, 0, 0, .undef, .unit, false, false⟩,
 ⟨.func, 1, 8, .nilf, .unit, true, false⟩,
 ⟨.func, 1, 8, .nilf, .unit, true, false⟩,
 ⟨.other, 0, 0, .undef, .unit, false, false⟩,
 ⟨.func, 1, 8, .nilf, .unit, true, false⟩,
 ⟨.func, 1, 8, .nilf, .unit, true, false⟩,
 ⟨.func, 1, 8, .nilf, .unit, true, false⟩,
 ⟨.func, 1, 8, .nilf, .unit, true, false⟩,
 ⟨.func, 1, 8, .nilf, .unit, true, false⟩,
 ⟨.func, 1, 8, .nilf, .unit, true, false⟩,
 ⟨.func, 1, 8, .nilf, .unit, true, false⟩,
 ⟨.func, 1, 8, .nilf, .unit, true, false⟩,
 ⟨.func, 1, 8, .nilf, .unit, true, false⟩,
 ⟨.func, 1, 8, .nilf, .unit, true, false⟩,
 ⟨.func, 1, 8, .nilf, .unit, true, false⟩,
 ⟨.func, 1, 8, .nilf, .unit, true, false⟩,
 ⟨.func, 1, 8, .nilf, .unit, true, false⟩,
 ⟨.func, 1, 8, .nilf, .unit, true, false⟩,
 ⟨.other, 0, 0, .undef, .unit, false, false⟩,
 ⟨.func, 1, 8, .nilf, .unit, true, false⟩,
 ⟨.func, 1, 8, .nilf, .unit, true, false⟩,
 ⟨.other, 0, 0, .undef, .unit, false, false⟩,
 ⟨.func, 1, 8, .nilf, .unit, true, false⟩,
 ⟨.func, 1, 8, .nilf, .unit, true, false⟩,
 ⟨.ptr 3, 1, 8, .nilp, .unit, true, false⟩,
 ⟨.map 3 3, 1, 8, .nilm, .unit, true, false⟩,
 ⟨.func, 1, 8, .nilf, .unit, true, false⟩,
 ⟨.func, 1, 8, .nilf, .unit, true, false⟩,
 ⟨.slice 4, 1, 24, (.list .bool ([] : List Bool) .exact), (.slice .bool), true, true⟩,
 ⟨.func, 1, 8, .nilf, .unit, true, false⟩,
 ⟨.func, 1, 8, .nilf, .unit, true, false⟩,
 ⟨.int .u64, 1, 8, (.int .u64 (0 : Int)), (.int .u64), true, true⟩,
 ⟨.func, 1, 8, .nilf, .unit, true, false⟩,
 ⟨.func, 1, 8, .nilf, .unit, true, false⟩,
 ⟨.slice 132, 1, 24, .nils, .unit, true, false⟩,
 ⟨.func, 1, 8, .nilf, .unit, true, false⟩,
 ⟨.func, 1, 8, .nilf, .unit, true, false⟩,
 ⟨.func, 1, 8, .nilf, .unit, true, false⟩,
 ⟨.func, 1, 8, .nilf, .unit, true, false⟩,
 ⟨.func, 1, 8, .nilf, .unit, true, false⟩,
 ⟨.int .i64, 1, 8, (.int .i64 (0 : Int)), (.int .i64), true, true⟩,
 ⟨.other, 0, 0, .undef, .unit, false, false⟩,
 ⟨.func, 1, 8, .nilf, .unit, true, false⟩,
 ⟨.func, 1, 8, .nilf, .unit, true, false⟩,
 ⟨.func, 1, 8, .nilf, .unit, true, false⟩,
 ⟨.func, 1, 8, .nilf, .unit, true, false⟩,
 ⟨.func, 1, 8, .nilf, .unit, true, false⟩,
 ⟨.int .u32, 1, 4, (.int .u32 (0 : Int)), (.int .u32), true, true⟩,
 ⟨.func, 1, 8, .nilf, .unit, true, false⟩,
 ⟨.int .u64, 1, 8, (.int .u64 (0 : Int)), (.int .u64), true, true⟩,
 ⟨.int .u64, 1, 8, (.int .u64 (0 : Int)), (.int .u64), true, true⟩,
 ⟨.func, 1, 8, .nilf, .unit, true, false⟩,
 ⟨.func, 1, 8, .nilf, .unit, true, false⟩,
 ⟨.func, 1, 8, .nilf, .unit, true, false⟩,
 ⟨.func, 1, 8, .nilf, .unit, true, false⟩,
 ⟨.ptr 158, 1, 8, .nilp, .unit, true, false⟩,
 ⟨.other, 0, 0, .undef, .unit, false, false⟩,
 ⟨.func, 1, 8, .nilf, .unit, true, false⟩,
 ⟨.func, 1, 8, .nilf, .unit, true, false⟩,
 ⟨.strct [(0, 17), (1, 17), (2, 17), (3, 9)], 4, 40, (.agg [.nilp, .nilp, .nilp, (.str ([] : List UInt8))]), .unit, true, false⟩,
 ⟨.strct [(0, 17), (1, 17), (2, 17), (3, 9)], 4, 40, (.agg [.nilp, .nilp, .nilp, (.str ([] : List UInt8))]), .unit, true, false⟩,
 ⟨.arr 0 16, 0, 0, (.agg []), .unit, true, false⟩,
 ⟨.strct [(0, 169)], 0, 0, (.agg []), .unit, true, false⟩,
 ⟨.strct [(0, 169)], 0, 0, (.agg []), .unit, true, false⟩,
 ⟨.int .u8, 1, 1, (.int .u8 (0 : Int)), (.int .u8), true, true⟩,
 ⟨.int .u8, 1, 1, (.int .u8 (0 : Int)), (.int .u8), true, true⟩,
 ⟨.func, 1, 8, .nilf, .unit, true, false⟩,
 ⟨.ptr 5, 1, 8, .nilp, .unit, true, false⟩,
 ⟨.int .i32, 1, 4, (.int .i32 (0 : Int)), (.int .i32), true, true⟩,
 ⟨.int .i32, 1, 4, (.int .i32 (0 : Int)), (.int .i32), true, true⟩,
 ⟨.strct [(0, 12), (1, 12), (2, 155), (3, 172), (4, 5), (5, 5), (6, 173), (7, 174), (8, 175), (9, 176), (10, 177)], 11, 48, (.agg [(.int .u64 (0 : Int)), (.int .u64 (0 : Int)), (.int .u32 (0 : Int)), (.int .u8 (0 : Int)), (.int .u8 (0 : Int)), (.int .u8 (0 : Int)), (.int .u8 (0 : Int)), .nilf, .nilp, (.int .i32 (0 : Int)), (.int .i32 (0 : Int))]), .unit, true, false⟩,
 ⟨.strct [(0, 12), (1, 12), (2, 155), (3, 172), (4, 5), (5, 5), (6, 173), (7, 174), (8, 175), (9, 176), (10, 177)], 11, 48, (.agg [(.int .u64 (0 : Int)), (.int .u64 (0 : Int)), (.int .u32 (0 : Int)), (.int .u8 (0 : Int)), (.int .u8 (0 : Int)), (.int .u8 (0 : Int)), (.int .u8 (0 : Int)), .nilf, .nilp, (.int .i32 (0 : Int)), (.int .i32 (0 : Int))]), .unit, true, false⟩,
 ⟨.other, 0, 0, .undef, .unit, false, false⟩]
theorem tt_ok : TTOK Try.prog tt := ttok_of (by kernel_rfl)
abbrev ccrucibleref18_Thread : Xd := (.pair (.sl (.pure (.pair (.int .i64) (.pair (.int .i64) (.pair (.slice (.int .i64)) (.slice (.int .i64))))))) (.pair (.pure (.int .i64)) (.pure (.int .i64))))
abbrev cthread_one : Xd := (.pair (.sl (.pure (.pair (.int .i64) (.pair (.int .i64) (.pair (.slice (.int .i64)) (.slice (.int .i64))))))) (.pair (.pure (.int .i64)) (.sl (.pure (.int .i64)))))
abbrev ccrucibleref18_Table : Xd := (.pair (.sl ccrucibleref18_Thread) (.pair (.sl (.pure (.int .i64))) (.sl (.pure (.int .i64)))))
abbrev cthread_Table : Xd := (.pair (.mp (.int .i64) (.ref cthread_one)) (.pair (.pure (.int .i64)) (.pair (.pure (.int .i64)) (.sl (.pure (.int .i64))))))
end Go.Proofs.Ytaaedebknacheaa.AB

set_option linter.unusedVariables false
set_option linter.unusedSimpArgs false
namespace Go.Proofs.Ytaaedebknacheaa.AB
open Go

/-! threads: how a table lies on the heap -/

abbrev Fr : Type := Int × (Int × (List Int × List Int))
abbrev cI : Xd := .pure (.int .i64)
abbrev cF : Xd := .pure (.pair (.int .i64) (.pair (.int .i64) (.pair (.slice (.int .i64)) (.slice (.int .i64)))))

structure Ab where
  id : Int
  st : Int
  frames : List Fr
  joins : List Int

structure MT where
  last : Int
  run : Int
  queue : List Int
  rows : List Ab

structure Thr extends Ab where
  h : Nat
  fr : Option SlH
  jn : Option SlH

structure DT where
  hm : Nat
  last : Int
  run : Int
  q : Option SlH
  queue : List Int
  rows : List Thr

def DT.ab (d : DT) : MT := ⟨d.last, d.run, d.queue, d.rows.map (·.toAb)⟩

def Thr.hs (r : Thr) : List Nat := r.h :: (hl r.fr ++ hl r.jn)
def DT.hs (d : DT) : List Nat := d.hm :: (hl d.q ++ d.rows.flatMap Thr.hs)

def ents (l : List Thr) : List (Int × Option Nat) := l.map fun r => (r.id, some r.h)

structure ThrAt (X : XH) (r : Thr) : Prop where
  box : Box X cthread_one r.h (r.fr, (r.st, r.jn))
  fr : SlAt X cF r.fr r.frames
  jn : SlAt X cI r.jn r.joins

structure Rep (X : XH) (t : Nat) (d : DT) : Prop where
  box : Box X cthread_Table t (some d.hm, (d.last, (d.run, d.q)))
  map : X.at d.hm = some (.map (.int .i64) (.ref cthread_one) (ents d.rows))
  q : SlAt X cI d.q d.queue
  rows : ∀ r ∈ d.rows, ThrAt X r
  ids : (d.rows.map (·.id)).Nodup
  sep : (t :: d.hs).Nodup

variable {X X' : XH} {t : Nat} {d : DT}

theorem ThrAt.keep {r : Thr} (h : ThrAt X r) (e : ∀ k ∈ r.hs, X'.at k = X.at k) : ThrAt X' r :=
  ⟨h.box.keep (e _ (List.mem_cons_self ..)), h.fr.keep fun k hk => e k (List.mem_cons_of_mem _ (List.mem_append_left _ hk)),
   h.jn.keep fun k hk => e k (List.mem_cons_of_mem _ (List.mem_append_right _ hk))⟩

theorem ThrAt.lt {r : Thr} (h : ThrAt X r) : ∀ k ∈ r.hs, k < X.n := by
  intro k hk
  rcases List.mem_cons.1 hk with rfl | hk
  · exact h.box.lt
  · rcases List.mem_append.1 hk with hk | hk
    · exact h.fr.lt k hk
    · exact h.jn.lt k hk

theorem Rep.mp (h : Rep X t d) : X.vmp (.int .i64) (.ref cthread_one) (some d.hm) = some (ents d.rows) := mp_at.2 h.map

theorem Rep.lt (h : Rep X t d) : ∀ k ∈ t :: d.hs, k < X.n := by
  intro k hk
  rcases List.mem_cons.1 hk with rfl | hk
  · exact h.box.lt
  · rcases List.mem_cons.1 hk with rfl | hk
    · exact at_lt h.map
    · rcases List.mem_append.1 hk with hk | hk
      · exact h.q.lt k hk
      · obtain ⟨r, hr, hk⟩ := List.mem_flatMap.1 hk
        exact (h.rows r hr).lt k hk

/-- a part put in the place of another -/
theorem nodup_swap {A B S S' : List Nat} {n : Nat} (h : (A ++ S ++ B).Nodup) (hlt : ∀ k ∈ A ++ B, k < n) (hS : S'.Nodup) (ho : ∀ k ∈ S', k ∈ S ∨ n ≤ k) : (A ++ S' ++ B).Nodup := by
  rw [List.append_assoc, List.nodup_append] at h ⊢
  obtain ⟨h1, h2, h3⟩ := h
  rw [List.nodup_append] at h2 ⊢
  obtain ⟨h4, h5, h6⟩ := h2
  refine ⟨h1, ⟨hS, h5, fun a ha b hb e => ?_⟩, fun a ha b hb e => ?_⟩
  · subst e
    rcases ho a ha with q | q
    · exact h6 a q a hb rfl
    · have := hlt a (List.mem_append_right _ hb); omega
  · subst e
    rcases List.mem_append.1 hb with q | q
    · rcases ho a q with q' | q'
      · exact h3 a ha a (List.mem_append_left _ q') rfl
      · have := hlt a (List.mem_append_left _ ha); omega
    · exact h3 a ha a (List.mem_append_right _ q) rfl

theorem hl_nodup (x : Option SlH) : (hl x).Nodup := by cases x <;> simp [hl]

/-- the table and its queue are turned -/
theorem Rep.tab (h : Rep X t d) {last run : Int} {q : Option SlH} {queue : List Int} (mv : Mv X (t :: hl d.q) X' (t :: hl q)) (hq : ∀ k ∈ hl q, k ∈ hl d.q ∨ X.n ≤ k)
    (box : Box X' cthread_Table t (some d.hm, (last, (run, q)))) (sq : SlAt X' cI q queue) :
    Rep X' t ⟨d.hm, last, run, q, queue, d.rows⟩ ∧ Mv X (t :: d.hs) X' (t :: DT.hs ⟨d.hm, last, run, q, queue, d.rows⟩) := by
  have hlt := h.lt
  have hs := h.sep
  have e0 : t :: d.hs = [t, d.hm] ++ hl d.q ++ d.rows.flatMap Thr.hs := by simp [DT.hs]
  have e1 : t :: DT.hs ⟨d.hm, last, run, q, queue, d.rows⟩ = [t, d.hm] ++ hl q ++ d.rows.flatMap Thr.hs := by simp [DT.hs]
  have hs0 := hs
  rw [e0, List.append_assoc, List.nodup_append] at hs0
  obtain ⟨s1, s2, s3⟩ := hs0
  rw [List.nodup_append] at s2
  have hout : ∀ k, k ∈ d.hm :: d.rows.flatMap Thr.hs → k ∉ t :: hl d.q ∧ k < X.n := by
    intro k hk
    rcases List.mem_cons.1 hk with rfl | hk
    · refine ⟨fun e => ?_, at_lt h.map⟩
      rcases List.mem_cons.1 e with e | e
      · rw [e] at s1; simp at s1
      · exact s3 _ (by simp) _ (List.mem_append_left _ e) rfl
    · refine ⟨fun e => ?_, hlt k (by rw [e0]; exact List.mem_append_right _ hk)⟩
      rcases List.mem_cons.1 e with e | e
      · subst e; exact s3 _ (List.mem_cons_self ..) _ (List.mem_append_right _ hk) rfl
      · exact s2.2.2 _ e _ hk rfl
  refine ⟨⟨box, ?_, sq, fun r hr => ?_, h.ids, ?_⟩, ?_⟩
  · have := hout d.hm (List.mem_cons_self ..)
    exact (mv.keep _ this.2 this.1).trans h.map
  · refine (h.rows r hr).keep fun k hk => ?_
    have := hout k (List.mem_cons_of_mem _ (List.mem_flatMap.2 ⟨r, hr, hk⟩))
    exact mv.keep _ this.2 this.1
  · rw [e1]
    rw [e0] at hs
    refine nodup_swap (n := X.n) hs (fun k hk => ?_) (hl_nodup q) hq
    rcases List.mem_append.1 hk with hk | hk
    · exact hlt k (by rw [e0]; exact List.mem_append_left _ (List.mem_append_left _ hk))
    · exact hlt k (by rw [e0]; exact List.mem_append_right _ hk)
  · refine mv.weak (fun k hk => ?_) (fun k hk => ?_)
    · rw [e0]
      rcases List.mem_cons.1 hk with rfl | hk
      · simp
      · exact List.mem_append_left _ (List.mem_append_right _ hk)
    · rw [e1] at hk
      rw [e0]
      rcases List.mem_append.1 hk with hk | hk
      · rcases List.mem_append.1 hk with hk | hk
        · exact .inr (List.mem_append_left _ (List.mem_append_left _ hk))
        · exact .inl (List.mem_cons_of_mem _ hk)
      · exact .inr (List.mem_append_right _ hk)

/-- a thread is turned -/
theorem Rep.row (h : Rep X t d) {l1 l2 : List Thr} {r r' : Thr} (hd : d.rows = l1 ++ r :: l2) (hid : r'.id = r.id) (hh : r'.h = r.h) (mv : Mv X r.hs X' r'.hs) (hn : r'.hs.Nodup) (hr : ThrAt X' r') :
    Rep X' t ⟨d.hm, d.last, d.run, d.q, d.queue, l1 ++ r' :: l2⟩ ∧ Mv X (t :: d.hs) X' (t :: DT.hs ⟨d.hm, d.last, d.run, d.q, d.queue, l1 ++ r' :: l2⟩) := by
  have hlt := h.lt
  have hs := h.sep
  have e0 : t :: d.hs = (t :: d.hm :: (hl d.q ++ l1.flatMap Thr.hs)) ++ r.hs ++ l2.flatMap Thr.hs := by simp [DT.hs, hd]
  have e1 : t :: DT.hs ⟨d.hm, d.last, d.run, d.q, d.queue, l1 ++ r' :: l2⟩ = (t :: d.hm :: (hl d.q ++ l1.flatMap Thr.hs)) ++ r'.hs ++ l2.flatMap Thr.hs := by simp [DT.hs]
  have hs0 := hs
  rw [e0, List.append_assoc, List.nodup_append] at hs0
  obtain ⟨s1, s2, s3⟩ := hs0
  rw [List.nodup_append] at s2
  have hA : ∀ k, k ∈ t :: d.hm :: (hl d.q ++ l1.flatMap Thr.hs) → X'.at k = X.at k := fun k hk =>
    mv.keep k (hlt k (by rw [e0]; exact List.mem_append_left _ (List.mem_append_left _ hk))) fun e => s3 k hk k (List.mem_append_left _ e) rfl
  have hB : ∀ k, k ∈ l2.flatMap Thr.hs → X'.at k = X.at k := fun k hk =>
    mv.keep k (hlt k (by rw [e0]; exact List.mem_append_right _ hk)) fun e => s2.2.2 k e k hk rfl
  refine ⟨⟨h.box.keep (hA _ (by simp)), ?_, h.q.keep fun k hk => hA k (by simp [hk]), fun x hx => ?_, ?_, ?_⟩, ?_⟩
  · refine (hA _ (by simp)).trans (h.map.trans ?_)
    rw [hd]; simp [ents, hid, hh]
  · rcases List.mem_append.1 hx with hx | hx
    · refine (h.rows x (by rw [hd]; simp [hx])).keep fun k hk => hA k ?_
      simp only [List.mem_cons, List.mem_append, List.mem_flatMap]
      exact .inr (.inr (.inr ⟨x, hx, hk⟩))
    · rcases List.mem_cons.1 hx with rfl | hx
      · exact hr
      · exact (h.rows x (by rw [hd]; simp [hx])).keep fun k hk => hB k (List.mem_flatMap.2 ⟨x, hx, hk⟩)
  · have := h.ids
    rw [hd] at this
    simpa [hid] using this
  · rw [e1]
    rw [e0] at hs
    refine nodup_swap (n := X.n) hs (fun k hk => ?_) hn mv.own
    rcases List.mem_append.1 hk with hk | hk
    · exact hlt k (by rw [e0]; exact List.mem_append_left _ (List.mem_append_left _ hk))
    · exact hlt k (by rw [e0]; exact List.mem_append_right _ hk)
  · refine mv.weak (fun k hk => ?_) (fun k hk => ?_)
    · rw [e0]; exact List.mem_append_left _ (List.mem_append_right _ hk)
    · rw [e1] at hk
      rw [e0]
      rcases List.mem_append.1 hk with hk | hk
      · rcases List.mem_append.1 hk with hk | hk
        · exact .inr (List.mem_append_left _ (List.mem_append_left _ hk))
        · exact .inl hk
      · exact .inr (List.mem_append_right _ hk)

theorem keq_int (a b : Int) : Cd.keq (.int .i64) a b = decide (a = b) := rfl

/-- a thread is there -/
theorem rows_split {l : List Thr} {id : Int} (h : ∃ r ∈ l, r.id = id) : ∃ l1 r l2, l = l1 ++ r :: l2 ∧ r.id = id ∧ (∀ x ∈ l1, x.id ≠ id) ∧ mfind (Cd.keq (.int .i64) id) (ents l) = some (some r.h) := by
  induction l with
  | nil => obtain ⟨r, hr, _⟩ := h; cases hr
  | cons a l ih =>
    by_cases e : id = a.id
    · exact ⟨[], a, l, rfl, e.symm, by simp, by simp [ents, mfind, keq_int, e]⟩
    · obtain ⟨r, hr, hid⟩ := h
      have hrl : r ∈ l := by
        rcases List.mem_cons.1 hr with rfl | hr
        · exact absurd hid.symm e
        · exact hr
      obtain ⟨l1, r', l2, h1, h2, h3, h4⟩ := ih ⟨r, hrl, hid⟩
      refine ⟨a :: l1, r', l2, by rw [h1]; rfl, h2, ?_, ?_⟩
      · intro x hx
        rcases List.mem_cons.1 hx with rfl | hx
        · exact fun q => e q.symm
        · exact h3 x hx
      · rw [← h4]; simp [ents, mfind, keq_int, e]

theorem rows_none {l : List Thr} {id : Int} (h : ∀ r ∈ l, r.id ≠ id) : mfind (Cd.keq (.int .i64) id) (ents l) = none := by
  induction l with
  | nil => rfl
  | cons a l ih =>
    have e : ¬ id = a.id := fun e => h a (List.mem_cons_self ..) e.symm
    rw [← ih fun r hr => h r (List.mem_cons_of_mem _ hr)]
    simp [ents, mfind, keq_int, e]

end Go.Proofs.Ytaaedebknacheaa.AB

set_option linter.unusedVariables false
set_option linter.unusedSimpArgs false
namespace Go.Proofs.Ytaaedebknacheaa.AB
open Go

theorem mix : Try.prog.follows .mixedOrders = true := by kernel_rfl

theorem pcOf {X : Cx} (hX : X.tt = tt) (hfn : fnsB Try.prog X.fns) {d : Nat} {f : FuncId} {fn : Func} (hf : Try.prog.funcs[f]? = some fn) (hname : fn.name ≠ "runtime.NumGoroutine") {args : List V} {r : V}
    (h : fnK X.tt (callN Try.prog X d) (X.md f) (X.mk1 f) fn (args.map .v) ⟨[], [], ⟨0, []⟩⟩ (topK fun v => v.norm = r ∧ r.nt = true)) : PC Try.prog f args r := by
  have htt : TTOK Try.prog X.tt := by rw [hX]; exact tt_ok
  exact PC.of htt (callN_sound htt mix (fun f fn => fnsB_spec hfn f fn) d) (callN_det d) mix hf hname h

theorem lawOf {X : Cx} (hX : X.tt = tt) (hfn : fnsB Try.prog X.fns) {d : Nat} {f : FuncId} {fn : Func} (hf : Try.prog.funcs[f]? = some fn) (hname : fn.name ≠ "runtime.NumGoroutine") {args : List V} {r : V}
    (h : fnK X.tt (callN Try.prog X d) (X.md f) (X.mk1 f) fn (args.map .v) ⟨[], [some (.heap XH.none)], ⟨0, []⟩⟩ (topK fun v => v.norm = r ∧ r.nt = true)) : PC Try.prog f args r := by
  have htt : TTOK Try.prog X.tt := by rw [hX]; exact tt_ok
  exact PC.ofX htt (callN_sound htt mix (fun f fn => fnsB_spec hfn f fn) d) (callN_det d) mix hf hname h

theorem xcOf {X : Cx} (hX : X.tt = tt) (hfn : fnsB Try.prog X.fns) {d : Nat} {f : FuncId} {fn : Func} (hf : Try.prog.funcs[f]? = some fn) (hname : fn.name ≠ "runtime.NumGoroutine") {cs : List Xd} {args : List TV} {H : XH}
    {Q : xresT cs → XH → Prop} (h : fnK X.tt (callN Try.prog X d) (X.md f) (X.mk1 f) fn args ⟨[], [some (.heap H)], ⟨0, []⟩⟩ (xfin cs Q)) : XC Try.prog f cs args H Q := by
  have htt : TTOK Try.prog X.tt := by rw [hX]; exact tt_ok
  exact XC.of htt (callN_sound htt mix (fun f fn => fnsB_spec hfn f fn) d) (callN_det d) mix hf hname h

theorem wrap64 {x : Int} (h1 : -9223372036854775808 ≤ x) (h2 : x ≤ 9223372036854775807) : IntKind.wrap .i64 x = x := by
  have e : IntKind.wrap .i64 x = (if 9223372036854775808 ≤ x % 18446744073709551616 then x % 18446744073709551616 - 18446744073709551616 else x % 18446744073709551616) := by
    simp [IntKind.wrap, IntKind.bits, IntKind.signed]
  rw [e]
  split <;> omega

theorem take_succ_eq {α : Type} [DecidableEq α] {a b : List α} {n : Nat} {d : α} (h : a.take n = b.take n) (hn : n < a.length) (hm : n < b.length) (he : a.getD n d = b.getD n d) : a.take (n + 1) = b.take (n + 1) := by
  rw [List.take_succ_eq_append_getElem hn, List.take_succ_eq_append_getElem hm, h]
  simp only [List.getD, List.getElem?_eq_getElem hn, List.getElem?_eq_getElem hm, Option.getD_some] at he
  rw [he]

/-- a list of ours that may be appended to -/
def Tok.fresh (t : Tok) (T : Toks) : Prop :=
  match t with
  | .no => False
  | .exact => True
  | .tk n => n ∈ T.l ∧ n < T.n

def Tok.ne (t u : Tok) : Prop :=
  match t, u with
  | .tk a, .tk b => a ≠ b
  | _, _ => True

theorem Tok.fresh.own {t : Tok} {T : Toks} (h : t.fresh T) : t.own T.l := by
  cases t with
  | no => exact h
  | exact => trivial
  | tk n => exact h.1

theorem Tok.fresh.up {t : Tok} {n m : Nat} {l : List Nat} (h : t.fresh ⟨n, l⟩) (hm : n ≤ m) : t.fresh ⟨m, l⟩ := by
  cases t with
  | no => exact h
  | exact => trivial
  | tk k => exact ⟨h.1, Nat.lt_of_lt_of_le h.2 hm⟩

theorem Tok.fresh_new (n : Nat) (l : List Nat) : (Tok.tk n).fresh ⟨n + 1, n :: l⟩ := ⟨by simp, Nat.lt_succ_self _⟩

theorem Tok.fresh.keep {t u : Tok} {T : Toks} (h : t.fresh T) (hne : u.ne t) : t.fresh ⟨T.n + 1, T.n :: u.drop T.l⟩ := by
  cases t with
  | no => exact h
  | exact => trivial
  | tk n =>
    refine ⟨List.mem_cons_of_mem _ ?_, Nat.lt_succ_of_lt h.2⟩
    cases u with
    | no => exact h.1
    | exact => exact h.1
    | tk m =>
      show n ∈ List.filter _ _
      rw [List.mem_filter]
      exact ⟨h.1, by simpa using fun e : n = m => hne e.symm⟩

theorem Tok.fresh.ne_new {t : Tok} {T : Toks} (h : t.fresh T) : t.ne (.tk T.n) := by
  cases t with
  | no => exact h.elim
  | exact => trivial
  | tk n => exact Nat.ne_of_lt h.2

theorem Tok.fresh.new_ne {t : Tok} {T : Toks} (h : t.fresh T) : (Tok.tk T.n).ne t := by
  cases t with
  | no => exact h.elim
  | exact => trivial
  | tk n => exact Nat.ne_of_gt h.2

/-- the elements of a list of lists may each be appended to -/
def FrT (ts : Nat → Tok) (T : Toks) : Prop := (∀ j, (ts j).fresh T) ∧ ∀ i j, i ≠ j → (ts i).ne (ts j)

theorem FrT.exact (T : Toks) : FrT (fun _ => .exact) T := ⟨fun _ => trivial, fun _ _ _ => trivial⟩

theorem FrT.upd {ts : Nat → Tok} {T : Toks} (h : FrT ts T) (i : Nat) : FrT (fun j => if j = i then .tk T.n else ts j) ⟨T.n + 1, T.n :: (ts i).drop T.l⟩ := by
  refine ⟨fun j => ?_, fun j k hjk => ?_⟩
  · by_cases e : j = i
    · simp only [e, if_true]; exact Tok.fresh_new _ _
    · simp only [e, if_false]; exact (h.1 j).keep (h.2 i j (fun e' => e e'.symm))
  · by_cases e : j = i
    · by_cases e' : k = i
      · exact absurd (e.trans e'.symm) hjk
      · simp only [e, e', if_true, if_false]; exact (h.1 k).new_ne
    · by_cases e' : k = i
      · simp only [e, e', if_true, if_false]; exact (h.1 j).ne_new
      · simp only [e, e', if_false]; exact h.2 j k hjk

end Go.Proofs.Ytaaedebknacheaa.AB

set_option linter.unusedVariables false
set_option linter.unusedSimpArgs false
namespace Go.Proofs.Ytaaedebknacheaa.AB
open Go

/-! threads: what each call does, in plain words -/

def updAb (id : Int) (f : Ab → Ab) (l : List Ab) : List Ab := l.map fun a => if a.id = id then f a else a

def MT.set (m : MT) (id : Int) (s : Int) : MT := { m with rows := updAb id (fun a => { a with st := s }) m.rows }
def MT.ready (m : MT) (id : Int) : MT := { m.set id 1 with queue := m.queue ++ [id] }
def MT.rest (m : MT) (s : Int) : MT := { m.set m.run s with run := 0 }
def MT.next (m : MT) (k : Nat) : MT := { m.set (m.queue.getD k 0) 2 with run := m.queue.getD k 0, queue := m.queue.eraseIdx k }
def MT.start (m : MT) (f : Fr) : MT := ⟨m.last + 1, m.run, m.queue ++ [m.last + 1], m.rows ++ [⟨m.last + 1, 1, [f], []⟩]⟩
def MT.join (m : MT) (other id : Int) : MT := { m with rows := updAb other (fun a => { a with joins := a.joins ++ [id] }) m.rows }
def MT.del (m : MT) (id : Int) : MT := { m with rows := m.rows.filter fun a => decide (a.id ≠ id) }
def MT.get (m : MT) (id : Int) : Option Ab := m.rows.find? fun a => decide (a.id = id)

/-- what stands behind a call -/
def Post (X : XH) (t : Nat) (d : DT) (X' : XH) (m : MT) : Prop := ∃ d', Rep X' t d' ∧ Mv X (t :: d.hs) X' (t :: d'.hs) ∧ d'.ab = m

variable {X X' : XH} {t : Nat} {d : DT}

theorem upd_split {l l1 l2 : List Thr} {r r' : Thr} {id : Int} {f : Ab → Ab} (hn : (l.map (·.id)).Nodup) (hl : l = l1 ++ r :: l2) (hid : r.id = id) (hf : r'.toAb = f r.toAb) :
    (l1 ++ r' :: l2).map (·.toAb) = updAb id f (l.map (·.toAb)) := by
  subst hl
  simp only [List.map_append, List.map_cons, List.nodup_append, List.nodup_cons] at hn
  obtain ⟨h1, ⟨h2, h3⟩, h4⟩ := hn
  have keep : ∀ q : List Thr, (∀ x ∈ q, x.id ≠ id) → (q.map (·.toAb)).map (fun a => if a.id = id then f a else a) = q.map (·.toAb) := by
    intro q hq
    rw [List.map_map]
    exact List.map_congr_left fun x hx => by simp [hq x hx]
  simp only [updAb, List.map_append, List.map_cons]
  rw [keep l1 fun x hx e => h4 x.id (List.mem_map.2 ⟨x, hx, rfl⟩) r.id (List.mem_cons_self ..) (e.trans hid.symm),
    keep l2 fun x hx e => h2 (by rw [hid, ← e]; exact List.mem_map.2 ⟨x, hx, rfl⟩), if_pos hid, hf]

/-- the thread of a number -/
theorem Rep.one (h : Rep X t d) {id : Int} (hid : ∃ a ∈ d.ab.rows, a.id = id) : ∃ l1 r l2, d.rows = l1 ++ r :: l2 ∧ r.id = id ∧ mfind (Cd.keq (.int .i64) id) (ents d.rows) = some (some r.h) ∧ ThrAt X r ∧ r.hs.Nodup := by
  obtain ⟨a, ha, e⟩ := hid
  obtain ⟨r0, hr0, rfl⟩ := List.mem_map.1 ha
  obtain ⟨l1, r, l2, h1, h2, _, h4⟩ := rows_split (l := d.rows) ⟨r0, hr0, e⟩
  refine ⟨l1, r, l2, h1, h2, h4, h.rows r (by rw [h1]; simp), ?_⟩
  have hs := h.sep
  have e0 : t :: d.hs = (t :: d.hm :: (hl d.q ++ l1.flatMap Thr.hs)) ++ (r.hs ++ l2.flatMap Thr.hs) := by simp [DT.hs, h1]
  rw [e0, List.nodup_append, List.nodup_append] at hs
  exact hs.2.1.1

theorem Rep.gone (h : Rep X t d) {id : Int} (hid : ∀ a ∈ d.ab.rows, a.id ≠ id) : mfind (Cd.keq (.int .i64) id) (ents d.rows) = none :=
  rows_none fun r hr => hid r.toAb (List.mem_map.2 ⟨r, hr, rfl⟩)

/-- a thread's state is set -/
theorem Rep.setSt (h : Rep X t d) {id s : Int} {l1 l2 : List Thr} {r : Thr} (hd : d.rows = l1 ++ r :: l2) (hid : r.id = id) (hr : ThrAt X r) (hn : r.hs.Nodup) :
    Rep (X.set r.h (.arr cthread_one [(r.fr, (s, r.jn))])) t ⟨d.hm, d.last, d.run, d.q, d.queue, l1 ++ { r with st := s } :: l2⟩ ∧
      Mv X (t :: d.hs) (X.set r.h (.arr cthread_one [(r.fr, (s, r.jn))])) (t :: DT.hs ⟨d.hm, d.last, d.run, d.q, d.queue, l1 ++ { r with st := s } :: l2⟩) ∧
      DT.ab ⟨d.hm, d.last, d.run, d.q, d.queue, l1 ++ { r with st := s } :: l2⟩ = d.ab.set id s := by
  have hmv : Mv X r.hs (X.set r.h (.arr cthread_one [(r.fr, (s, r.jn))])) r.hs := Mv.set (List.mem_cons_self ..)
  have hne : ∀ k ∈ hl r.fr ++ hl r.jn, k ≠ r.h := fun k hk e => (List.nodup_cons.1 hn).1 (e ▸ hk)
  have hr' : ThrAt (X.set r.h (.arr cthread_one [(r.fr, (s, r.jn))])) { r with st := s } :=
    ⟨hr.box.set, hr.fr.keep fun k hk => at_set_ne (hne k (List.mem_append_left _ hk)), hr.jn.keep fun k hk => at_set_ne (hne k (List.mem_append_right _ hk))⟩
  obtain ⟨h1, h2⟩ := h.row (r' := { r with st := s }) hd rfl rfl hmv hn hr'
  refine ⟨h1, h2, ?_⟩
  simp only [DT.ab, MT.set]
  rw [upd_split h.ids hd hid]
  rfl

/-- ready -/
theorem Rep.ready {id : Int} (h : Rep X t d) {l1 l2 : List Thr} {r : Thr} (hd : d.rows = l1 ++ r :: l2) (hid : r.id = id) (hr : ThrAt X r) (hn : r.hs.Nodup)
    {X1 X2 X3 : XH} {q : Option SlH} (h1 : X1 = X.set r.h (.arr cthread_one [(r.fr, (1, r.jn))])) (h2 : XApp X1 cI (0 : Int) d.queue [id] d.q X2 q)
    (h3 : X3 = X2.setEl cthread_Table t 0 (some d.hm, (d.last, (d.run, q)))) : Post X t d X3 (d.ab.ready id) := by
  subst h1
  obtain ⟨a1, a2, a3⟩ := h.setSt (s := 1) hd hid hr hn
  obtain ⟨b1, b2⟩ := h2.spec a1.q
  have ht : t ∉ hl d.q := fun e => by
    have := a1.sep
    simp only [DT.hs, List.nodup_cons, List.mem_cons, List.mem_append] at this
    exact this.1 (.inr (.inl e))
  have hbox := a1.box.keep (b2.keep t a1.box.lt ht)
  rw [hbox.setEl] at h3
  subst h3
  have hq : t ∉ hl q := fun e => (b2.own t e).elim ht fun e => absurd a1.box.lt (by omega)
  have mv : Mv _ (t :: hl d.q) (X2.set t (.arr cthread_Table [(some d.hm, (d.last, (d.run, q)))])) (t :: hl q) :=
    (b2.weak (fun k hk => List.mem_cons_of_mem _ hk) (T' := t :: hl q) fun k hk => by
      rcases List.mem_cons.1 hk with rfl | hk
      · exact .inr (List.mem_cons_self ..)
      · exact .inl hk).trans (Mv.set (List.mem_cons_self ..))
  obtain ⟨c1, c2⟩ := a1.tab (last := d.last) (run := d.run) (q := q) (queue := d.queue ++ [id]) mv b2.own hbox.set (b1.keep fun k hk => at_set_ne fun e => hq (e ▸ hk))
  refine ⟨_, c1, a2.trans c2, ?_⟩
  simp only [DT.ab, MT.ready] at a3 ⊢
  have := congrArg MT.rows a3
  dsimp only at this
  rw [this]
  rfl

end Go.Proofs.Ytaaedebknacheaa.AB

set_option linter.unusedVariables false
set_option linter.unusedSimpArgs false
set_option maxRecDepth 100000
set_option maxHeartbeats 2000000
namespace Go.Proofs.Ytaaedebknacheaa.AB
open Go
/-! (*crucible/thread.Table).ready -/
noncomputable def X56 : Cx := ⟨tt, [], [], [(56, [(1, 7, .x (.pure (.int .i64)))])], [], []⟩
theorem FN56 : fnsB Try.prog X56.fns := (show True from trivial)
theorem E56 (X : XH) (t0 : Nat) (id1 : Int) {R : Unit → XH → Prop} (h : (∃ (a1 : ((Option Nat) × (Int × (Int × (Option SlH))))), XH.el X cthread_Table t0 0 = some a1 ∧ (∃ (es2 : List (Int × (Option Nat))), XH.vmp X (.int .i64) (.ref cthread_one) a1.1 = some es2 ∧ (∀ (v3 : (Option Nat)), mfind (Cd.keq (.int .i64) id1) es2 = some v3 → (refK v3 (fun (h4 : Nat) => (∃ (a5 : ((Option SlH) × (Int × (Option SlH)))), XH.el X cthread_one h4 0 = some a5 ∧ (∀ (X6 : XH), X6 = (XH.setEl X cthread_one h4 0 ((a5.1, ((1 : Int), a5.2.2)))) → (∃ (a7 : ((Option Nat) × (Int × (Int × (Option SlH))))), XH.el X6 cthread_Table t0 0 = some a7 ∧ (∃ (l8 l9 : List Int), XH.view X6 (.pure (.int .i64)) a7.2.2.2 = some l8 ∧ (srcX X6 (.pure (.int .i64)) (.v (.list (.int .i64) ([id1] : List Int) .exact))) = some l9 ∧ ((slN a7.2.2.2) + (l9).length) * 8 ≤ room ∧ ∀ (X10 : XH) (s11 : Option SlH), XApp X6 (.pure (.int .i64)) (0 : Int) l8 l9 a7.2.2.2 X10 s11 → (∃ (a12 : ((Option Nat) × (Int × (Int × (Option SlH))))), XH.el X10 cthread_Table t0 0 = some a12 ∧ (∀ (X13 : XH), X13 = (XH.setEl X10 cthread_Table t0 0 ((a12.1, (a12.2.1, (a12.2.2.1, s11))))) → R () X13))))))))) ∧ (mfind (Cd.keq (.int .i64) id1) es2 = none → False)))) :
  fnK X56.tt (callN Try.prog X56 0) (X56.md 56) (X56.mk1 56) Try.f56 [(.ref (some t0) cthread_Table 0 []), (.v (.int .i64 id1))] ⟨[], [some (.heap X)], ⟨0, []⟩⟩ (xfin [] R) := Eq.mp (by kernel_rfl) h
end Go.Proofs.Ytaaedebknacheaa.AB

set_option linter.unusedVariables false
set_option linter.unusedSimpArgs false
set_option maxRecDepth 100000
set_option maxHeartbeats 2000000
namespace Go.Proofs.Ytaaedebknacheaa.AB
open Go
/-! (*crucible/thread.Table).rests -/
noncomputable def X58 : Cx := ⟨tt, [], [], [], [], []⟩
theorem FN58 : fnsB Try.prog X58.fns := (show True from trivial)
theorem E58 (X : XH) (t0 : Nat) (state1 : Int) {R : (Int × Int) → XH → Prop} (h : (∃ (a1 : ((Option Nat) × (Int × (Int × (Option SlH))))), XH.el X cthread_Table t0 0 = some a1 ∧ (((a1.2.2.1 == (0 : Int)) = true → R ((0 : Int), (25 : Int)) X) ∧
 ((a1.2.2.1 == (0 : Int)) = false → (∃ (a2 : ((Option Nat) × (Int × (Int × (Option SlH))))), XH.el X cthread_Table t0 0 = some a2 ∧ (∀ (X3 : XH), X3 = (XH.setEl X cthread_Table t0 0 ((a2.1, (a2.2.1, ((0 : Int), a2.2.2.2))))) → (∃ (a4 : ((Option Nat) × (Int × (Int × (Option SlH))))), XH.el X3 cthread_Table t0 0 = some a4 ∧ (∃ (es5 : List (Int × (Option Nat))), XH.vmp X3 (.int .i64) (.ref cthread_one) a4.1 = some es5 ∧ (∀ (v6 : (Option Nat)), mfind (Cd.keq (.int .i64) a1.2.2.1) es5 = some v6 → (refK v6 (fun (h7 : Nat) => (∃ (a8 : ((Option SlH) × (Int × (Option SlH)))), XH.el X3 cthread_one h7 0 = some a8 ∧ (∀ (X9 : XH), X9 = (XH.setEl X3 cthread_one h7 0 ((a8.1, (state1, a8.2.2)))) → R (a1.2.2.1, (0 : Int)) X9))))) ∧ (mfind (Cd.keq (.int .i64) a1.2.2.1) es5 = none → False))))))))) :
  fnK X58.tt (callN Try.prog X58 0) (X58.md 58) (X58.mk1 58) Try.f58 [(.ref (some t0) cthread_Table 0 []), (.v (.int .i64 state1))] ⟨[], [some (.heap X)], ⟨0, []⟩⟩ (xfin [(.pure (.int .i64)), (.pure (.int .i64))] R) := Eq.mp (by kernel_rfl) h
end Go.Proofs.Ytaaedebknacheaa.AB

set_option linter.unusedVariables false
set_option linter.unusedSimpArgs false
set_option maxRecDepth 100000
set_option maxHeartbeats 2000000
namespace Go.Proofs.Ytaaedebknacheaa.AB
open Go
/-! (*crucible/thread.Table).Current -/
noncomputable def X53 : Cx := ⟨tt, [], [], [], [], []⟩
theorem FN53 : fnsB Try.prog X53.fns := (show True from trivial)
theorem E53 (X : XH) (t0 : Nat) {R : (Int) → XH → Prop} (h : (∃ (a1 : ((Option Nat) × (Int × (Int × (Option SlH))))), XH.el X cthread_Table t0 0 = some a1 ∧ R a1.2.2.1 X)) :
  fnK X53.tt (callN Try.prog X53 0) (X53.md 53) (X53.mk1 53) Try.f53 [(.ref (some t0) cthread_Table 0 [])] ⟨[], [some (.heap X)], ⟨0, []⟩⟩ (xfin [(.pure (.int .i64))] R) := Eq.mp (by kernel_rfl) h
end Go.Proofs.Ytaaedebknacheaa.AB

set_option linter.unusedVariables false
set_option linter.unusedSimpArgs false
set_option maxRecDepth 100000
set_option maxHeartbeats 2000000
namespace Go.Proofs.Ytaaedebknacheaa.AB
open Go
/-! crucible/thread.New -/
noncomputable def X15 : Cx := ⟨tt, [], [], [(15, [(1, 0, .x (.mp (.int .i64) (.ref cthread_one))), (1, 1, .x cthread_Table), (1, 2, .x cthread_Table)])], [], []⟩
theorem FN15 : fnsB Try.prog X15.fns := (show True from trivial)
theorem E15 (X : XH) {R : ((Option Nat)) → XH → Prop} (h : (∀ (X1 : XH), X1 = (XH.add X (.map (.int .i64) (.ref cthread_one) [])) → (∀ (X2 : XH), X2 = (XH.add X1 (.arr cthread_Table [((some X.n), ((0 : Int), ((0 : Int), none)))])) → R (some X1.n) X2))) :
  fnK X15.tt (callN Try.prog X15 0) (X15.md 15) (X15.mk1 15) Try.f15 [] ⟨[], [some (.heap X)], ⟨0, []⟩⟩ (xfin [(.ref cthread_Table)] R) := Eq.mp (by kernel_rfl) h
end Go.Proofs.Ytaaedebknacheaa.AB

set_option linter.unusedVariables false
set_option linter.unusedSimpArgs false
namespace Go.Proofs.Ytaaedebknacheaa.AB
open Go

variable {X X' : XH} {t : Nat} {d : DT}

theorem c56 (h : Rep X t d) {id : Int} (hid : ∃ a ∈ d.ab.rows, a.id = id) (hlen : (d.queue.length + 1) * 8 ≤ room) :
    XC Try.prog 56 [] [.ref (some t) cthread_Table 0 [], .v (.int .i64 id)] X fun _ X' => Post X t d X' (d.ab.ready id) := by
  obtain ⟨l1, r, l2, hd, he, hm, hr, hn⟩ := h.one hid
  refine xcOf (X := X56) rfl FN56 (by kernel_rfl) (by decide) (E56 X t id ⟨_, h.box.el, ents d.rows, h.mp, ?_, ?_⟩)
  · intro v hv
    rw [hm] at hv; cases hv
    refine ⟨_, hr.box.el, fun X6 e6 => ?_⟩
    rw [hr.box.setEl] at e6
    obtain ⟨a1, a2, a3⟩ := h.setSt (s := 1) hd he hr hn
    subst e6
    refine ⟨_, a1.box.el, d.queue, [id], a1.q.view, rfl, ?_, fun X10 s11 hx => ?_⟩
    · rw [a1.q.len]; exact hlen
    · have ht : t ∉ hl d.q := fun e => by
        have := a1.sep
        simp only [DT.hs, List.nodup_cons, List.mem_cons, List.mem_append] at this
        exact this.1 (.inr (.inl e))
      have hbox := a1.box.keep ((hx.spec a1.q).2.keep t a1.box.lt ht)
      exact ⟨_, hbox.el, fun X13 e13 => h.ready hd he hr hn rfl hx e13⟩
  · intro e; rw [hm] at e; cases e

theorem c58 (h : Rep X t d) {s : Int} (hid : d.run ≠ 0 → ∃ a ∈ d.ab.rows, a.id = d.run) :
    XC Try.prog 58 [.pure (.int .i64), .pure (.int .i64)] [.ref (some t) cthread_Table 0 [], .v (.int .i64 s)] X fun p X' =>
      (d.run = 0 ∧ p = ((0 : Int), (25 : Int)) ∧ X' = X) ∨ (d.run ≠ 0 ∧ p = (d.run, (0 : Int)) ∧ ∃ d', Rep X' t d' ∧ Mv X (t :: d.hs) X' (t :: d'.hs) ∧ d'.ab = d.ab.rest s ∧ ents d'.rows = ents d.rows) := by
  refine xcOf (X := X58) rfl FN58 (by kernel_rfl) (by decide) (E58 X t s ⟨_, h.box.el, ?_, ?_⟩)
  · intro e
    exact .inl ⟨by simpa using e, rfl, rfl⟩
  · intro e
    have hrun : d.run ≠ 0 := by simpa using e
    refine ⟨_, h.box.el, fun X3 e3 => ?_⟩
    rw [h.box.setEl] at e3
    have hbox0 := h.box.set (b := (some d.hm, (d.last, ((0 : Int), d.q))))
    have hq : t ∉ hl d.q := fun e => by
      have := h.sep
      simp only [DT.hs, List.nodup_cons, List.mem_cons, List.mem_append] at this
      exact this.1 (.inr (.inl e))
    obtain ⟨c1, c2⟩ := h.tab (last := d.last) (run := 0) (q := d.q) (queue := d.queue) (Mv.set (List.mem_cons_self ..)) (fun k hk => .inl hk) hbox0 (h.q.keep fun k hk => at_set_ne fun e => hq (e ▸ hk))
    have c1 := e3 ▸ c1
    have c2 := e3 ▸ c2
    obtain ⟨l1, r, l2, hd, he, hm, hr, hn⟩ := c1.one (id := d.run) (hid hrun)
    refine ⟨_, c1.box.el, ents d.rows, c1.mp, ?_, ?_⟩
    · intro v hv
      have hm' : mfind (Cd.keq (.int .i64) d.run) (ents d.rows) = some (some r.h) := hm
      have hv' : mfind (Cd.keq (.int .i64) d.run) (ents d.rows) = some v := hv
      rw [hm'] at hv'; cases hv'
      refine ⟨_, hr.box.el, fun X9 e9 => ?_⟩
      rw [hr.box.setEl] at e9
      obtain ⟨b1, b2, b3⟩ := c1.setSt (s := s) hd he hr hn
      subst e9
      exact .inr ⟨hrun, rfl, _, b1, c2.trans b2, b3, by have hd : d.rows = _ := hd; rw [hd]; simp [ents]⟩
    · intro e
      have e' : mfind (Cd.keq (.int .i64) d.run) (ents d.rows) = none := e
      have hm' : mfind (Cd.keq (.int .i64) d.run) (ents d.rows) = some (some r.h) := hm
      rw [hm'] at e'; cases e'

theorem c53 (h : Rep X t d) : RC Try.prog 53 [.pure (.int .i64)] [.ref (some t) cthread_Table 0 []] X d.run :=
  xcOf (X := X53) rfl FN53 (by kernel_rfl) (by decide) (E53 X t ⟨_, h.box.el, rfl, rfl⟩)

theorem c15 (X : XH) : XC Try.prog 15 [.ref cthread_Table] [] X fun p X' => ∃ t d, p = some t ∧ X.n ≤ t ∧ Rep X' t d ∧ Mv X [] X' (t :: d.hs) ∧ d.ab = ⟨0, 0, [], []⟩ := by
  refine xcOf (X := X15) rfl FN15 (by kernel_rfl) (by decide) (E15 X fun X1 e1 X2 e2 => ?_)
  subst e1
  subst e2
  refine ⟨X.n + 1, ⟨X.n, 0, 0, none, [], []⟩, rfl, Nat.le_succ _, ⟨at_add_new _ _, ?_, rfl, by simp, by simp, by simp [DT.hs, hl]⟩, ?_, rfl⟩
  · exact (at_add_old (Nat.lt_succ_self _)).trans (at_add_new _ _)
  · exact ((Mv.add X _ []).trans (Mv.add _ _ _)).weak (fun _ h => h) fun k hk => .inl (by simpa [DT.hs, hl, XH.add] using hk)

end Go.Proofs.Ytaaedebknacheaa.AB

set_option linter.unusedVariables false
set_option linter.unusedSimpArgs false
set_option maxRecDepth 100000
set_option maxHeartbeats 2000000
namespace Go.Proofs.Ytaaedebknacheaa.AB
open Go
/-! slices.Clone[[]int,int] -/
noncomputable def X59 : Cx := ⟨tt, [], [], [(59, [(1, 1, .lend)])], [], []⟩
theorem FN59 : fnsB Try.prog X59.fns := (show True from trivial)
theorem E59 (s0 : (List Int)) {R : V → Prop} (h : (∀ (b1 : Bool), (b1 = true → s0 = []) → ((b1 = true → R (.list (.int .i64) ([] : List Int) .no)) ∧
 (b1 = false → (Tok.own .exact ([]) ∧ ((([] : List Int)).length + (s0).length) * 8 ≤ room ∧ R (.list (.int .i64) ((([] : List Int) ++ s0)) .no)))))) :
  fnK X59.tt (callN Try.prog X59 0) (X59.md 59) (X59.mk1 59) Try.f59 [(.v (.list (.int .i64) s0 .no))] ⟨[], [], ⟨0, []⟩⟩ (topK R) := Eq.mp (by kernel_rfl) h
end Go.Proofs.Ytaaedebknacheaa.AB

set_option linter.unusedVariables false
set_option linter.unusedSimpArgs false
set_option maxRecDepth 100000
set_option maxHeartbeats 2000000
namespace Go.Proofs.Ytaaedebknacheaa.AB
open Go
/-! slices.Clone[[]int,int] -/
noncomputable def X59h : Cx := ⟨tt, [], [], [], [], []⟩
theorem FN59h : fnsB Try.prog X59h.fns := (show True from trivial)
theorem E59h (X : XH) (s0 : (Option SlH)) {R : ((List Int)) → XH → Prop} (h : (((Option.isNone s0) = true → R ([] : List Int) X) ∧
 ((Option.isNone s0) = false → (∃ (l1 : List Int), XH.view X (.pure (.int .i64)) s0 = some l1 ∧ Tok.own .exact ([]) ∧ ((([] : List Int)).length + (l1).length) * 8 ≤ room ∧ R ((([] : List Int) ++ l1)) X)))) :
  fnK X59h.tt (callN Try.prog X59h 0) (X59h.md 59) (X59h.mk1 59) Try.f59 [(.sl (.pure (.int .i64)) s0)] ⟨[], [some (.heap X)], ⟨0, []⟩⟩ (xfin [(.pure (.slice (.int .i64)))] R) := Eq.mp (by kernel_rfl) h
end Go.Proofs.Ytaaedebknacheaa.AB

set_option linter.unusedVariables false
set_option linter.unusedSimpArgs false
set_option maxRecDepth 100000
set_option maxHeartbeats 2000000
namespace Go.Proofs.Ytaaedebknacheaa.AB
open Go
/-! (crucible/thread.Frame).own -/
noncomputable def X55 : Cx := ⟨tt, [(59, [.cd (.slice (.int .i64))])], [], [], [], []⟩
theorem FN55 : fnsB Try.prog X55.fns := (show True from trivial)
theorem E55 (f0 : (Int × (Int × ((List Int) × (List Int))))) {R : V → Prop} (h : (∃ p1 : (List Int), PC Try.prog 59 [(.list (.int .i64) f0.2.2.1 .no)] ((.list (.int .i64) p1 .no)) ∧ (∃ p2 : (List Int), PC Try.prog 59 [(.list (.int .i64) f0.2.2.2 .no)] ((.list (.int .i64) p2 .no)) ∧ R (.agg [(.int .i64 f0.1), (.int .i64 f0.2.1), (.list (.int .i64) p1 .no), (.list (.int .i64) p2 .no)])))) :
  fnK X55.tt (callN Try.prog X55 0) (X55.md 55) (X55.mk1 55) Try.f55 [(.v (.agg [(.int .i64 f0.1), (.int .i64 f0.2.1), (.list (.int .i64) f0.2.2.1 .no), (.list (.int .i64) f0.2.2.2 .no)]))] ⟨[], [], ⟨0, []⟩⟩ (topK R) := Eq.mp (by kernel_rfl) h
end Go.Proofs.Ytaaedebknacheaa.AB

set_option linter.unusedVariables false
set_option linter.unusedSimpArgs false
set_option maxRecDepth 100000
set_option maxHeartbeats 2000000
namespace Go.Proofs.Ytaaedebknacheaa.AB
open Go
/-! (*crucible/thread.Table).Queue -/
noncomputable def X20 : Cx := ⟨tt, [], [(59, [(.pure (.slice (.int .i64)))])], [(20, [(1, 4, .rd)])], [], []⟩
theorem FN20 : fnsB Try.prog X20.fns := (show True from trivial)
theorem E20 (X : XH) (t0 : Nat) {R : ((List Int)) → XH → Prop} (h : (∃ (a1 : ((Option Nat) × (Int × (Int × (Option SlH))))), XH.el X cthread_Table t0 0 = some a1 ∧ (∃ (p2 : (List Int)), RC Try.prog 59 [(.pure (.slice (.int .i64)))] [(.sl (.pure (.int .i64)) a1.2.2.2)] X p2 ∧ R p2 X))) :
  fnK X20.tt (callN Try.prog X20 0) (X20.md 20) (X20.mk1 20) Try.f20 [(.ref (some t0) cthread_Table 0 [])] ⟨[], [some (.heap X)], ⟨0, []⟩⟩ (xfin [(.pure (.slice (.int .i64)))] R) := Eq.mp (by kernel_rfl) h
end Go.Proofs.Ytaaedebknacheaa.AB

set_option linter.unusedVariables false
set_option linter.unusedSimpArgs false
set_option maxRecDepth 100000
set_option maxHeartbeats 2000000
namespace Go.Proofs.Ytaaedebknacheaa.AB
open Go
/-! (*crucible/thread.Table).State -/
noncomputable def X21 : Cx := ⟨tt, [], [], [], [], []⟩
theorem FN21 : fnsB Try.prog X21.fns := (show True from trivial)
theorem E21 (X : XH) (t0 : Nat) (id1 : Int) {R : (Int) → XH → Prop} (h : (∃ (a1 : ((Option Nat) × (Int × (Int × (Option SlH))))), XH.el X cthread_Table t0 0 = some a1 ∧ (∃ (es2 : List (Int × (Option Nat))), XH.vmp X (.int .i64) (.ref cthread_one) a1.1 = some es2 ∧ (∀ (v3 : (Option Nat)), mfind (Cd.keq (.int .i64) id1) es2 = some v3 → (((!(Option.isNone v3)) = true → (refK v3 (fun (h4 : Nat) => (∃ (a5 : ((Option SlH) × (Int × (Option SlH)))), XH.el X cthread_one h4 0 = some a5 ∧ R a5.2.1 X)))) ∧
 ((!(Option.isNone v3)) = false → (((decide (id1 ≥ (1 : Int))) = true → (∃ (a6 : ((Option Nat) × (Int × (Int × (Option SlH))))), XH.el X cthread_Table t0 0 = some a6 ∧ (((decide (id1 ≤ a6.2.1)) = true → R (5 : Int) X) ∧
 ((decide (id1 ≤ a6.2.1)) = false → R (0 : Int) X)))) ∧ ((decide (id1 ≥ (1 : Int))) = false → R (0 : Int) X))))) ∧ (mfind (Cd.keq (.int .i64) id1) es2 = none → (((!true) = true → False) ∧
 ((!true) = false → (((decide (id1 ≥ (1 : Int))) = true → (∃ (a7 : ((Option Nat) × (Int × (Int × (Option SlH))))), XH.el X cthread_Table t0 0 = some a7 ∧ (((decide (id1 ≤ a7.2.1)) = true → R (5 : Int) X) ∧
 ((decide (id1 ≤ a7.2.1)) = false → R (0 : Int) X)))) ∧ ((decide (id1 ≥ (1 : Int))) = false → R (0 : Int) X)))))))) :
  fnK X21.tt (callN Try.prog X21 0) (X21.md 21) (X21.mk1 21) Try.f21 [(.ref (some t0) cthread_Table 0 []), (.v (.int .i64 id1))] ⟨[], [some (.heap X)], ⟨0, []⟩⟩ (xfin [(.pure (.int .i64))] R) := Eq.mp (by kernel_rfl) h
end Go.Proofs.Ytaaedebknacheaa.AB

set_option linter.unusedVariables false
set_option linter.unusedSimpArgs false
set_option maxRecDepth 100000
set_option maxHeartbeats 2000000
namespace Go.Proofs.Ytaaedebknacheaa.AB
open Go
/-! (*crucible/thread.Table).top -/
noncomputable def X60 : Cx := ⟨tt, [], [], [], [], []⟩
theorem FN60 : fnsB Try.prog X60.fns := (show True from trivial)
theorem E60 (X : XH) (t0 : Nat) (id1 : Int) {R : ((Option Nat) × Int) → XH → Prop} (h : (∃ (a1 : ((Option Nat) × (Int × (Int × (Option SlH))))), XH.el X cthread_Table t0 0 = some a1 ∧ (∃ (es2 : List (Int × (Option Nat))), XH.vmp X (.int .i64) (.ref cthread_one) a1.1 = some es2 ∧ (∀ (v3 : (Option Nat)), mfind (Cd.keq (.int .i64) id1) es2 = some v3 → (((Option.isNone v3) = true → R (none, (24 : Int)) X) ∧
 ((Option.isNone v3) = false → (refK v3 (fun (h4 : Nat) => (∃ (a5 : ((Option SlH) × (Int × (Option SlH)))), XH.el X cthread_one h4 0 = some a5 ∧ ((((((slN a5.1) : Nat) : Int) == (0 : Int)) = true → R (none, (25 : Int)) X) ∧
 (((((slN a5.1) : Nat) : Int) == (0 : Int)) = false → R (v3, (0 : Int)) X)))))))) ∧ (mfind (Cd.keq (.int .i64) id1) es2 = none → ((true = true → R (none, (24 : Int)) X) ∧
 (true = false → False)))))) :
  fnK X60.tt (callN Try.prog X60 0) (X60.md 60) (X60.mk1 60) Try.f60 [(.ref (some t0) cthread_Table 0 []), (.v (.int .i64 id1))] ⟨[], [some (.heap X)], ⟨0, []⟩⟩ (xfin [(.ref cthread_one), (.pure (.int .i64))] R) := Eq.mp (by kernel_rfl) h
end Go.Proofs.Ytaaedebknacheaa.AB

set_option linter.unusedVariables false
set_option linter.unusedSimpArgs false
set_option maxRecDepth 100000
set_option maxHeartbeats 2000000
namespace Go.Proofs.Ytaaedebknacheaa.AB
open Go
/-! (*crucible/thread.Table).Top -/
noncomputable def X22 : Cx := ⟨tt, [(55, [.cd (.pair (.int .i64) (.pair (.int .i64) (.pair (.slice (.int .i64)) (.slice (.int .i64)))))])], [(60, [(.ref cthread_one), (.pure (.int .i64))])], [(22, [(1, 2, .rd)])], [], []⟩
theorem FN22 : fnsB Try.prog X22.fns := (show True from trivial)
theorem E22 (X : XH) (t0 : Nat) (id1 : Int) {R : ((Int × (Int × ((List Int) × (List Int)))) × Bool) → XH → Prop} (h : (∃ (p1 : (Option Nat) × Int), RC Try.prog 60 [(.ref cthread_one), (.pure (.int .i64))] [(.ref (some t0) cthread_Table 0 []), (.v (.int .i64 id1))] X p1 ∧ (((p1.2 != (0 : Int)) = true → R (((0 : Int), ((0 : Int), (([] : List Int), ([] : List Int)))), false) X) ∧
 ((p1.2 != (0 : Int)) = false → (refK p1.1 (fun (h2 : Nat) => (∃ (a3 : ((Option SlH) × (Int × (Option SlH)))), XH.el X cthread_one h2 0 = some a3 ∧ (refK p1.1 (fun (h4 : Nat) => (∃ (a5 : ((Option SlH) × (Int × (Option SlH)))), XH.el X cthread_one h4 0 = some a5 ∧ (∃ (u6 : SlH), a3.1 = some u6 ∧ 0 ≤ (IntKind.wrap .i64 ((((slN a5.1) : Nat) : Int) - (1 : Int))) ∧ (IntKind.wrap .i64 ((((slN a5.1) : Nat) : Int) - (1 : Int))) < ((u6.len : Nat) : Int) ∧ (∃ (a7 : (Int × (Int × ((List Int) × (List Int))))), XH.el X (.pure (.pair (.int .i64) (.pair (.int .i64) (.pair (.slice (.int .i64)) (.slice (.int .i64)))))) u6.h ((u6.off + ((IntKind.wrap .i64 ((((slN a5.1) : Nat) : Int) - (1 : Int)))).toNat)) = some a7 ∧ (∃ p8 : (Int × (Int × ((List Int) × (List Int)))), PC Try.prog 55 [(.agg [(.int .i64 a7.1), (.int .i64 a7.2.1), (.list (.int .i64) a7.2.2.1 .no), (.list (.int .i64) a7.2.2.2 .no)])] ((.agg [(.int .i64 p8.1), (.int .i64 p8.2.1), (.list (.int .i64) p8.2.2.1 .no), (.list (.int .i64) p8.2.2.2 .no)])) ∧ R ((p8.1, (p8.2.1, (p8.2.2.1, p8.2.2.2))), true) X))))))))))))) :
  fnK X22.tt (callN Try.prog X22 0) (X22.md 22) (X22.mk1 22) Try.f22 [(.ref (some t0) cthread_Table 0 []), (.v (.int .i64 id1))] ⟨[], [some (.heap X)], ⟨0, []⟩⟩ (xfin [(.pure (.pair (.int .i64) (.pair (.int .i64) (.pair (.slice (.int .i64)) (.slice (.int .i64)))))), (.pure .bool)] R) := Eq.mp (by kernel_rfl) h
end Go.Proofs.Ytaaedebknacheaa.AB

set_option linter.unusedVariables false
set_option linter.unusedSimpArgs false
namespace Go.Proofs.Ytaaedebknacheaa.AB
open Go

variable {X X' : XH} {t : Nat} {d : DT}

theorem c59 {l : List Int} (hl : l.length * 8 ≤ room) : PC Try.prog 59 [.list (.int .i64) l .no] (.list (.int .i64) l .no) := by
  refine pcOf (X := X59) rfl FN59 (by kernel_rfl) (by decide) (E59 l fun b hb => ⟨fun e => ?_, fun e => ⟨trivial, by simpa using hl, ?_⟩⟩)
  · rw [hb e]; exact ⟨rfl, rfl⟩
  · exact ⟨rfl, rfl⟩

theorem c59h {x : Option SlH} {l : List Int} (h : SlAt X cI x l) (hl : l.length * 8 ≤ room) : RC Try.prog 59 [.pure (.slice (.int .i64))] [.sl cI x] X l := by
  refine xcOf (X := X59h) rfl FN59h (by kernel_rfl) (by decide) (E59h X x ⟨fun e => ?_, fun e => ⟨l, h.view, trivial, by simpa using hl, ?_⟩⟩)
  · cases x with
    | none => exact ⟨h.symm, rfl⟩
    | some s => cases e
  · exact ⟨rfl, rfl⟩

/-- a frame's lists are small -/
def Small (f : Fr) : Prop := f.2.2.1.length * 8 ≤ room ∧ f.2.2.2.length * 8 ≤ room

theorem c55 {f : Fr} (h : Small f) : PC Try.prog 55 [.agg [.int .i64 f.1, .int .i64 f.2.1, .list (.int .i64) f.2.2.1 .no, .list (.int .i64) f.2.2.2 .no]] (.agg [.int .i64 f.1, .int .i64 f.2.1, .list (.int .i64) f.2.2.1 .no, .list (.int .i64) f.2.2.2 .no]) :=
  pcOf (X := X55) rfl FN55 (by kernel_rfl) (by decide) (E55 f ⟨_, c59 h.1, _, c59 h.2, rfl, rfl⟩)

theorem c20 (h : Rep X t d) (hl : d.queue.length * 8 ≤ room) : RC Try.prog 20 [.pure (.slice (.int .i64))] [.ref (some t) cthread_Table 0 []] X d.queue :=
  xcOf (X := X20) rfl FN20 (by kernel_rfl) (by decide) (E20 X t ⟨_, h.box.el, _, c59h h.q hl, rfl, rfl⟩)

def MT.state (m : MT) (id : Int) : Int :=
  match m.get id with
  | some a => a.st
  | none => if 1 ≤ id ∧ id ≤ m.last then 5 else 0

theorem get_one {id : Int} {l1 l2 : List Thr} {r : Thr} (hn : (d.rows.map (·.id)).Nodup) (hd : d.rows = l1 ++ r :: l2) (he : r.id = id) : d.ab.get id = some r.toAb := by
  rw [hd] at hn
  simp only [List.map_append, List.map_cons, List.nodup_append, List.nodup_cons] at hn
  unfold MT.get DT.ab
  rw [hd]
  simp only [List.map_append, List.map_cons, List.find?_append]
  have : (l1.map (·.toAb)).find? (fun a => decide (a.id = id)) = none := by
    rw [List.find?_eq_none]
    intro x hx
    obtain ⟨y, hy, rfl⟩ := List.mem_map.1 hx
    have := hn.2.2 y.id (List.mem_map.2 ⟨y, hy, rfl⟩) r.id (List.mem_cons_self ..)
    simpa [he] using this
  rw [this]
  simp [he]

theorem get_none {id : Int} (h : ∀ a ∈ d.ab.rows, a.id ≠ id) : d.ab.get id = none := by
  unfold MT.get
  rw [List.find?_eq_none]
  intro x hx
  simpa using h x hx

theorem c21 (h : Rep X t d) (id : Int) : RC Try.prog 21 [.pure (.int .i64)] [.ref (some t) cthread_Table 0 [], .v (.int .i64 id)] X (d.ab.state id) := by
  have gone : d.ab.get id = none → ((decide (id ≥ (1 : Int))) = true → (∃ (a6 : ((Option Nat) × (Int × (Int × (Option SlH))))), XH.el X cthread_Table t 0 = some a6 ∧ (((decide (id ≤ a6.2.1)) = true → (5 : Int) = d.ab.state id ∧ X = X) ∧
      ((decide (id ≤ a6.2.1)) = false → (0 : Int) = d.ab.state id ∧ X = X)))) ∧ ((decide (id ≥ (1 : Int))) = false → (0 : Int) = d.ab.state id ∧ X = X) := by
    intro hg
    refine ⟨fun e => ⟨_, h.box.el, fun e2 => ⟨?_, rfl⟩, fun e2 => ⟨?_, rfl⟩⟩, fun e => ⟨?_, rfl⟩⟩
    · have e1 : 1 ≤ id := by simpa using e
      have e3 : id ≤ d.last := by simpa using e2
      simp [MT.state, hg, show d.ab.last = d.last from rfl, e1, e3]
    · have e3 : ¬ id ≤ d.last := by simpa using e2
      simp [MT.state, hg, show d.ab.last = d.last from rfl, e3]
    · have e1 : ¬ 1 ≤ id := by simpa using e
      simp [MT.state, hg, show d.ab.last = d.last from rfl, e1]
  refine xcOf (X := X21) rfl FN21 (by kernel_rfl) (by decide) (E21 X t id ⟨_, h.box.el, ents d.rows, h.mp, ?_, ?_⟩)
  · intro v hv
    by_cases hid : ∃ a ∈ d.ab.rows, a.id = id
    · obtain ⟨l1, r, l2, hd, he, hm, hr, hn⟩ := h.one hid
      rw [hm] at hv; cases hv
      refine ⟨fun _ => ⟨_, hr.box.el, ?_, rfl⟩, fun e => by cases e⟩
      unfold MT.state
      rw [get_one h.ids hd he]
    · have hid' : ∀ a ∈ d.ab.rows, a.id ≠ id := fun a ha e => hid ⟨a, ha, e⟩
      rw [h.gone hid'] at hv; cases hv
  · intro hv
    by_cases hid : ∃ a ∈ d.ab.rows, a.id = id
    · obtain ⟨l1, r, l2, hd, he, hm, hr, hn⟩ := h.one hid
      rw [hm] at hv; cases hv
    · have hid' : ∀ a ∈ d.ab.rows, a.id ≠ id := fun a ha e => hid ⟨a, ha, e⟩
      exact ⟨fun e => (by cases e), fun _ => gone (get_none hid')⟩

def errTop (m : MT) (id : Int) : Int :=
  match m.get id with
  | none => 24
  | some a => if a.frames = [] then 25 else 0

theorem c60 (h : Rep X t d) (id : Int) : ∃ x : Option Nat, RC Try.prog 60 [.ref cthread_one, .pure (.int .i64)] [.ref (some t) cthread_Table 0 [], .v (.int .i64 id)] X (x, errTop d.ab id) ∧
    (errTop d.ab id = 0 → ∃ l1 r l2, d.rows = l1 ++ r :: l2 ∧ r.id = id ∧ x = some r.h ∧ ThrAt X r ∧ r.hs.Nodup ∧ r.frames ≠ [] ∧ d.ab.get id = some r.toAb) := by
  by_cases hid : ∃ a ∈ d.ab.rows, a.id = id
  · obtain ⟨l1, r, l2, hd, he, hm, hr, hn⟩ := h.one hid
    have hg := get_one h.ids hd he
    by_cases hf : r.frames = []
    · refine ⟨none, ?_, fun e => ?_⟩
      · refine xcOf (X := X60) rfl FN60 (by kernel_rfl) (by decide) (E60 X t id ⟨_, h.box.el, ents d.rows, h.mp, ?_, fun e => by rw [hm] at e; cases e⟩)
        intro v hv
        rw [hm] at hv; cases hv
        refine ⟨fun e => (by cases e), fun _ => ⟨_, hr.box.el, fun _ => ⟨by simp only [errTop, hg, hf, if_true]; rfl, rfl⟩, fun e => ?_⟩⟩
        have := hr.fr.len
        rw [hf] at this
        dsimp only at e
        rw [this] at e
        cases e
      · simp [errTop, hg, hf] at e
    · refine ⟨some r.h, ?_, fun e => ⟨l1, r, l2, hd, he, rfl, hr, hn, hf, hg⟩⟩
      refine xcOf (X := X60) rfl FN60 (by kernel_rfl) (by decide) (E60 X t id ⟨_, h.box.el, ents d.rows, h.mp, ?_, fun e => by rw [hm] at e; cases e⟩)
      intro v hv
      rw [hm] at hv; cases hv
      refine ⟨fun e => (by cases e), fun _ => ⟨_, hr.box.el, fun e => ?_, fun e => ⟨by simp only [errTop, hg, hf, if_false]; rfl, rfl⟩⟩⟩
      have := hr.fr.len
      dsimp only at e
      rw [this] at e
      have : r.frames.length ≠ 0 := fun q => hf (List.length_eq_zero_iff.1 q)
      simp at e
      exact absurd e hf
  · have hid' : ∀ a ∈ d.ab.rows, a.id ≠ id := fun a ha e => hid ⟨a, ha, e⟩
    have hg := get_none hid'
    refine ⟨none, ?_, fun e => ?_⟩
    · refine xcOf (X := X60) rfl FN60 (by kernel_rfl) (by decide) (E60 X t id ⟨_, h.box.el, ents d.rows, h.mp, fun v hv => ?_, fun _ => ⟨fun _ => ⟨by simp only [errTop, hg]; rfl, rfl⟩, fun e => by cases e⟩⟩)
      rw [h.gone hid'] at hv; cases hv
    · simp [errTop, hg] at e

/-- the last frame -/
def MT.top (m : MT) (id : Int) : Fr × Bool :=
  match m.get id with
  | none => ((0, (0, ([], []))), false)
  | some a => match a.frames.getLast? with
    | none => ((0, (0, ([], []))), false)
    | some f => (f, true)

theorem c22 (h : Rep X t d) (id : Int) (hs : ∀ a ∈ d.ab.rows, a.frames.length < 1000 ∧ ∀ f ∈ a.frames, Small f) :
    RC Try.prog 22 [cF, .pure .bool] [.ref (some t) cthread_Table 0 [], .v (.int .i64 id)] X (d.ab.top id) := by
  obtain ⟨x, hc, hx⟩ := c60 h id
  refine xcOf (X := X22) rfl FN22 (by kernel_rfl) (by decide) (E22 X t id ⟨_, hc, fun e => ?_, fun e => ?_⟩)
  · refine ⟨?_, rfl⟩
    have e : errTop d.ab id ≠ 0 := by simpa using e
    unfold MT.top
    unfold errTop at e
    cases hg : d.ab.get id with
    | none => rfl
    | some a =>
      rw [hg] at e
      dsimp only at e ⊢
      by_cases hf : a.frames = []
      · rw [hf]; rfl
      · rw [if_neg hf] at e; exact absurd rfl e
  · have e : errTop d.ab id = 0 := by simpa using e
    obtain ⟨l1, r, l2, hd, he, rfl, hr, hn, hf, hg⟩ := hx e
    have hsm := hs r.toAb (by simp [DT.ab, hd])
    have hlen := hr.fr.len
    have hpos : 0 < r.frames.length := List.length_pos_iff.2 hf
    obtain ⟨u, hu⟩ : ∃ u, r.fr = some u := by
      cases hfr : r.fr with
      | none => rw [hfr] at hlen; simp [slN] at hlen; omega
      | some u => exact ⟨u, rfl⟩
    have hlen' : u.len = r.frames.length := by rw [hu] at hlen; exact hlen
    have hw : IntKind.wrap .i64 ((((slN r.fr) : Nat) : Int) - (1 : Int)) = ((r.frames.length - 1 : Nat) : Int) := by
      rw [hlen, wrap64 (by omega) (by omega)]; omega
    have hfr : SlAt X cF (some u) r.frames := by rw [← hu]; exact hr.fr
    have hel := hfr.el (i := r.frames.length - 1) (by omega)
    refine ⟨_, hr.box.el, _, hr.box.el, u, hu, ?_, ?_, r.frames[r.frames.length - 1], ?_, r.frames[r.frames.length - 1], c55 ?_, ?_, rfl⟩
    · dsimp only; rw [hw]; omega
    · dsimp only; rw [hw, hlen']; omega
    · dsimp only; rw [hw]
      rw [show (((r.frames.length - 1 : Nat) : Int)).toNat = r.frames.length - 1 by omega]
      exact hel
    · exact hsm.2 _ (List.getElem_mem _)
    · unfold MT.top
      rw [hg]
      dsimp only
      rw [List.getLast?_eq_getElem?, List.getElem?_eq_getElem (by omega)]

end Go.Proofs.Ytaaedebknacheaa.AB

set_option linter.unusedVariables false
set_option linter.unusedSimpArgs false
set_option maxRecDepth 100000
set_option maxHeartbeats 2000000
namespace Go.Proofs.Ytaaedebknacheaa.AB
open Go
/-! (*crucible/thread.Table).Start -/
noncomputable def X17 : Cx := ⟨tt, [(55, [.cd (.pair (.int .i64) (.pair (.int .i64) (.pair (.slice (.int .i64)) (.slice (.int .i64)))))])], [(56, [])], [(17, [(4, 10, .x (.pure (.pair (.int .i64) (.pair (.int .i64) (.pair (.slice (.int .i64)) (.slice (.int .i64))))))), (4, 11, .x cthread_one), (4, 12, .x cthread_one), (5, 5, .xc)])], [], []⟩
theorem FN17 : fnsB Try.prog X17.fns := (show True from trivial)
theorem E17 (X : XH) (t0 : Nat) (f1 : (Int × (Int × ((List Int) × (List Int))))) {R : (Int × Int) → XH → Prop} (h : (∃ (a1 : ((Option Nat) × (Int × (Int × (Option SlH))))), XH.el X cthread_Table t0 0 = some a1 ∧ (∃ (es2 : List (Int × (Option Nat))), XH.vmp X (.int .i64) (.ref cthread_one) a1.1 = some es2 ∧ (((decide (((es2).length : Int) ≥ (64 : Int))) = true → R ((0 : Int), (3 : Int)) X) ∧
 ((decide (((es2).length : Int) ≥ (64 : Int))) = false → (∃ (a3 : ((Option Nat) × (Int × (Int × (Option SlH))))), XH.el X cthread_Table t0 0 = some a3 ∧ (∃ (a4 : ((Option Nat) × (Int × (Int × (Option SlH))))), XH.el X cthread_Table t0 0 = some a4 ∧ (∀ (X5 : XH), X5 = (XH.setEl X cthread_Table t0 0 ((a4.1, ((IntKind.wrap .i64 (a3.2.1 + (1 : Int))), a4.2.2)))) → (∃ (a6 : ((Option Nat) × (Int × (Int × (Option SlH))))), XH.el X5 cthread_Table t0 0 = some a6 ∧ (∃ (a7 : ((Option Nat) × (Int × (Int × (Option SlH))))), XH.el X5 cthread_Table t0 0 = some a7 ∧ (∃ p8 : (Int × (Int × ((List Int) × (List Int)))), PC Try.prog 55 [(.agg [(.int .i64 f1.1), (.int .i64 f1.2.1), (.list (.int .i64) f1.2.2.1 .no), (.list (.int .i64) f1.2.2.2 .no)])] ((.agg [(.int .i64 p8.1), (.int .i64 p8.2.1), (.list (.int .i64) p8.2.2.1 .no), (.list (.int .i64) p8.2.2.2 .no)])) ∧ (∀ (X9 : XH), X9 = (XH.add X5 (.arr (.pure (.pair (.int .i64) (.pair (.int .i64) (.pair (.slice (.int .i64)) (.slice (.int .i64)))))) ([(p8.1, (p8.2.1, (p8.2.2.1, p8.2.2.2)))] : List (Int × (Int × ((List Int) × (List Int))))))) → (∀ (X10 : XH), X10 = (XH.add X9 (.arr cthread_one [((some ⟨X5.n, 0, 1, 1⟩), ((0 : Int), none))])) → (∃ (h11 : Nat) (es12 : List (Int × (Option Nat))), a6.1 = some h11 ∧ XH.mp X10 (.int .i64) (.ref cthread_one) h11 = some es12 ∧ (∀ (X13 : XH), X13 = (XH.set X10 h11 (.map (.int .i64) (.ref cthread_one) (mset (Cd.keq (.int .i64) a7.2.1) a7.2.1 (some X9.n) es12))) → (∃ (a14 : ((Option Nat) × (Int × (Int × (Option SlH))))), XH.el X13 cthread_Table t0 0 = some a14 ∧ (XC Try.prog 56 [] [(.ref (some t0) cthread_Table 0 []), (.v (.int .i64 a14.2.1))] X13 (fun (p15 : Unit) (X16 : XH) => (∃ (a17 : ((Option Nat) × (Int × (Int × (Option SlH))))), XH.el X16 cthread_Table t0 0 = some a17 ∧ R (a17.2.1, (0 : Int)) X16))))))))))))))))))) :
  fnK X17.tt (callN Try.prog X17 0) (X17.md 17) (X17.mk1 17) Try.f17 [(.ref (some t0) cthread_Table 0 []), (.v (.agg [(.int .i64 f1.1), (.int .i64 f1.2.1), (.list (.int .i64) f1.2.2.1 .no), (.list (.int .i64) f1.2.2.2 .no)]))] ⟨[], [some (.heap X)], ⟨0, []⟩⟩ (xfin [(.pure (.int .i64)), (.pure (.int .i64))] R) := Eq.mp (by kernel_rfl) h
end Go.Proofs.Ytaaedebknacheaa.AB

set_option linter.unusedVariables false
set_option linter.unusedSimpArgs false
set_option maxRecDepth 100000
set_option maxHeartbeats 2000000
namespace Go.Proofs.Ytaaedebknacheaa.AB
open Go
/-! (*crucible/thread.Table).Yield -/
noncomputable def X19 : Cx := ⟨tt, [], [(56, []), (58, [(.pure (.int .i64)), (.pure (.int .i64))])], [(19, [(1, 1, .xc), (3, 2, .xc)])], [], []⟩
theorem FN19 : fnsB Try.prog X19.fns := (show True from trivial)
theorem E19 (X : XH) (t0 : Nat) {R : (Int) → XH → Prop} (h : (XC Try.prog 58 [(.pure (.int .i64)), (.pure (.int .i64))] [(.ref (some t0) cthread_Table 0 []), (.v (.int .i64 (1 : Int)))] X (fun (p1 : Int × Int) (X2 : XH) => (((p1.2 == (0 : Int)) = true → (XC Try.prog 56 [] [(.ref (some t0) cthread_Table 0 []), (.v (.int .i64 p1.1))] X2 (fun (p3 : Unit) (X4 : XH) => R p1.2 X4))) ∧
 ((p1.2 == (0 : Int)) = false → R p1.2 X2))))) :
  fnK X19.tt (callN Try.prog X19 0) (X19.md 19) (X19.mk1 19) Try.f19 [(.ref (some t0) cthread_Table 0 [])] ⟨[], [some (.heap X)], ⟨0, []⟩⟩ (xfin [(.pure (.int .i64))] R) := Eq.mp (by kernel_rfl) h
end Go.Proofs.Ytaaedebknacheaa.AB

set_option linter.unusedVariables false
set_option linter.unusedSimpArgs false
set_option maxRecDepth 100000
set_option maxHeartbeats 2000000
namespace Go.Proofs.Ytaaedebknacheaa.AB
open Go
/-! (*crucible/thread.Table).Join -/
noncomputable def X47 : Cx := ⟨tt, [], [(58, [(.pure (.int .i64)), (.pure (.int .i64))])], [(47, [(10, 1, .xc), (11, 7, .x (.pure (.int .i64)))])], [], []⟩
theorem FN47 : fnsB Try.prog X47.fns := (show True from trivial)
theorem E47 (X : XH) (t0 : Nat) (other1 : Int) {R : (Bool × Int) → XH → Prop} (h : (∃ (a1 : ((Option Nat) × (Int × (Int × (Option SlH))))), XH.el X cthread_Table t0 0 = some a1 ∧ (((a1.2.2.1 == (0 : Int)) = true → R (false, (25 : Int)) X) ∧
 ((a1.2.2.1 == (0 : Int)) = false → (((decide (other1 < (1 : Int))) = true → R (false, (24 : Int)) X) ∧ ((decide (other1 < (1 : Int))) = false → (∃ (a2 : ((Option Nat) × (Int × (Int × (Option SlH))))), XH.el X cthread_Table t0 0 = some a2 ∧ (((decide (other1 > a2.2.1)) = true → R (false, (24 : Int)) X) ∧
 ((decide (other1 > a2.2.1)) = false → (∃ (a3 : ((Option Nat) × (Int × (Int × (Option SlH))))), XH.el X cthread_Table t0 0 = some a3 ∧ (((other1 == a3.2.2.1) = true → R (false, (25 : Int)) X) ∧
 ((other1 == a3.2.2.1) = false → (∃ (a4 : ((Option Nat) × (Int × (Int × (Option SlH))))), XH.el X cthread_Table t0 0 = some a4 ∧ (∃ (es5 : List (Int × (Option Nat))), XH.vmp X (.int .i64) (.ref cthread_one) a4.1 = some es5 ∧ (∀ (v6 : (Option Nat)), mfind (Cd.keq (.int .i64) other1) es5 = some v6 → (((Option.isNone v6) = true → R (true, (0 : Int)) X) ∧
 ((Option.isNone v6) = false → (XC Try.prog 58 [(.pure (.int .i64)), (.pure (.int .i64))] [(.ref (some t0) cthread_Table 0 []), (.v (.int .i64 (4 : Int)))] X (fun (p7 : Int × Int) (X8 : XH) => (refK v6 (fun (h9 : Nat) => (∃ (a10 : ((Option SlH) × (Int × (Option SlH)))), XH.el X8 cthread_one h9 0 = some a10 ∧ (∃ (l11 l12 : List Int), XH.view X8 (.pure (.int .i64)) a10.2.2 = some l11 ∧ (srcX X8 (.pure (.int .i64)) (.v (.list (.int .i64) ([p7.1] : List Int) .exact))) = some l12 ∧ ((slN a10.2.2) + (l12).length) * 8 ≤ room ∧ ∀ (X13 : XH) (s14 : Option SlH), XApp X8 (.pure (.int .i64)) (0 : Int) l11 l12 a10.2.2 X13 s14 → (refK v6 (fun (h15 : Nat) => (∃ (a16 : ((Option SlH) × (Int × (Option SlH)))), XH.el X13 cthread_one h15 0 = some a16 ∧ (∀ (X17 : XH), X17 = (XH.setEl X13 cthread_one h15 0 ((a16.1, (a16.2.1, s14)))) → R (false, (0 : Int)) X17))))))))))))) ∧ (mfind (Cd.keq (.int .i64) other1) es5 = none → ((true = true → R (true, (0 : Int)) X) ∧
 (true = false → (XC Try.prog 58 [(.pure (.int .i64)), (.pure (.int .i64))] [(.ref (some t0) cthread_Table 0 []), (.v (.int .i64 (4 : Int)))] X (fun (p18 : Int × Int) (X19 : XH) => False))))))))))))))))))) :
  fnK X47.tt (callN Try.prog X47 0) (X47.md 47) (X47.mk1 47) Try.f47 [(.ref (some t0) cthread_Table 0 []), (.v (.int .i64 other1))] ⟨[], [some (.heap X)], ⟨0, []⟩⟩ (xfin [(.pure .bool), (.pure (.int .i64))] R) := Eq.mp (by kernel_rfl) h
end Go.Proofs.Ytaaedebknacheaa.AB

set_option linter.unusedVariables false
set_option linter.unusedSimpArgs false
namespace Go.Proofs.Ytaaedebknacheaa.AB
open Go

variable {X X' : XH} {t : Nat} {d : DT}

theorem msetN {α β : Type} {eq : α → Bool} {k : α} {b : β} : ∀ {l : List (α × β)}, mfind eq l = none → mset eq k b l = l ++ [(k, b)]
  | [], _ => rfl
  | (a, c) :: r, h => by
    unfold mfind at h
    unfold mset
    cases he : eq a with
    | true => rw [he] at h; cases h
    | false => rw [he] at h; simp only [List.cons_append]; rw [msetN h]

theorem Rep.start (h : Rep X t d) {id : Int} {f : Fr} (hid : ∀ a ∈ d.ab.rows, a.id ≠ id) {X1 X2 X3 : XH} (h1 : X1 = X.add (.arr cF [f])) (h2 : X2 = X1.add (.arr cthread_one [(some ⟨X.n, 0, 1, 1⟩, (0, none))]))
    (h3 : X3 = X2.set d.hm (.map (.int .i64) (.ref cthread_one) (ents d.rows ++ [(id, some X1.n)]))) :
    ∃ d', Rep X3 t d' ∧ Mv X (t :: d.hs) X3 (t :: d'.hs) ∧ d'.ab = ⟨d.last, d.run, d.queue, d.ab.rows ++ [⟨id, 0, [f], []⟩]⟩ ∧ d'.queue = d.queue := by
  have hlt := h.lt
  have hs := h.sep
  have n1 : X1.n = X.n + 1 := by rw [h1]; rfl
  have n2 : X2.n = X.n + 2 := by rw [h2]; show X1.n + 1 = _; omega
  have hmlt : d.hm < X.n := at_lt h.map
  have old : ∀ k, k < X.n → k ≠ d.hm → X3.at k = X.at k := by
    intro k hk hne
    rw [h3, at_set_ne hne, h2, at_add_old (by omega), h1, at_add_old hk]
  have hm2 : X2.at d.hm = some (.map (.int .i64) (.ref cthread_one) (ents d.rows)) := by
    rw [h2, at_add_old (by omega), h1, at_add_old hmlt]; exact h.map
  have hthm : t ≠ d.hm := by
    intro e; rw [e] at hs; simp [DT.hs] at hs
  have e0 : t :: d.hs = [t, d.hm] ++ hl d.q ++ d.rows.flatMap Thr.hs := by simp [DT.hs]
  have hout : ∀ k ∈ hl d.q ++ d.rows.flatMap Thr.hs, k ≠ d.hm ∧ k < X.n := by
    intro k hk
    refine ⟨fun e => ?_, hlt k (by rw [e0, List.append_assoc]; exact List.mem_append_right _ hk)⟩
    rw [e0, List.append_assoc, List.nodup_append] at hs
    exact hs.2.2 d.hm (by simp) k hk e.symm
  refine ⟨⟨d.hm, d.last, d.run, d.q, d.queue, d.rows ++ [⟨⟨id, 0, [f], []⟩, X1.n, some ⟨X.n, 0, 1, 1⟩, none⟩]⟩, ⟨?_, ?_, ?_, ?_, ?_, ?_⟩, ?_, by simp [DT.ab], rfl⟩
  · exact h.box.keep (old t h.box.lt hthm)
  · rw [h3]
    refine (at_set_self hm2).trans ?_
    simp [ents]
  · exact h.q.keep fun k hk => by
      have := hout k (List.mem_append_left _ hk)
      exact old k this.2 this.1
  · intro r hr
    rcases List.mem_append.1 hr with hr | hr
    · exact (h.rows r hr).keep fun k hk => by
        have := hout k (List.mem_append_right _ (List.mem_flatMap.2 ⟨r, hr, hk⟩))
        exact old k this.2 this.1
    · simp only [List.mem_singleton] at hr
      subst hr
      refine ⟨?_, ⟨[f], ?_, Nat.le_refl _, Nat.le_refl _, rfl⟩, rfl⟩
      · show X3.at X1.n = _
        rw [h3, at_set_ne (by omega), h2]
        exact at_add_new _ _
      · show X3.at X.n = _
        rw [h3, at_set_ne (by omega), h2, at_add_old (by omega), h1]
        exact at_add_new _ _
  · simp only [List.map_append, List.map_cons, List.map_nil, List.nodup_append]
    refine ⟨h.ids, by simp, ?_⟩
    intro a ha b hb e
    obtain ⟨r, hr, rfl⟩ := List.mem_map.1 ha
    simp only [List.mem_singleton] at hb
    exact hid r.toAb (List.mem_map.2 ⟨r, hr, rfl⟩) (e.trans hb)
  · have e1 : t :: DT.hs ⟨d.hm, d.last, d.run, d.q, d.queue, d.rows ++ [⟨⟨id, 0, [f], []⟩, X1.n, some ⟨X.n, 0, 1, 1⟩, none⟩]⟩ = (t :: d.hs) ++ [X1.n, X.n] := by
      simp [DT.hs, Thr.hs, hl]
    rw [e1, List.nodup_append]
    refine ⟨hs, by simp; omega, ?_⟩
    intro a ha b hb e
    have := hlt a ha
    simp only [List.mem_cons, List.not_mem_nil, or_false] at hb
    omega
  · refine ⟨?_, fun k hk hn => ?_, fun k hk => ?_⟩
    · rw [h3]; show X.n ≤ X2.n; omega
    · exact old k hk fun e => hn (by rw [e]; simp [DT.hs])
    · have e1 : t :: DT.hs ⟨d.hm, d.last, d.run, d.q, d.queue, d.rows ++ [⟨⟨id, 0, [f], []⟩, X1.n, some ⟨X.n, 0, 1, 1⟩, none⟩]⟩ = (t :: d.hs) ++ [X1.n, X.n] := by
        simp [DT.hs, Thr.hs, hl]
      rw [e1] at hk
      rcases List.mem_append.1 hk with hk | hk
      · exact .inl hk
      · refine .inr ?_
        simp only [List.mem_cons, List.not_mem_nil, or_false] at hk
        omega

/-- numbers are no larger than the last -/
def Nums (m : MT) : Prop := 0 ≤ m.last ∧ m.last < 4611686018427387904 ∧ ∀ a ∈ m.rows, a.id ≤ m.last

theorem c17 (h : Rep X t d) {f : Fr} (hf : Small f) (hn : Nums d.ab) (hlen : (d.queue.length + 1) * 8 ≤ room) :
    XC Try.prog 17 [.pure (.int .i64), .pure (.int .i64)] [.ref (some t) cthread_Table 0 [], .v (.agg [.int .i64 f.1, .int .i64 f.2.1, .list (.int .i64) f.2.2.1 .no, .list (.int .i64) f.2.2.2 .no])] X fun p X' =>
      (64 ≤ d.ab.rows.length ∧ p = ((0 : Int), (3 : Int)) ∧ X' = X) ∨ (¬ 64 ≤ d.ab.rows.length ∧ p = (d.last + 1, (0 : Int)) ∧ Post X t d X' (d.ab.start f)) := by
  obtain ⟨hn1, hn2, hn3⟩ := hn
  have hn1 : 0 ≤ d.last := hn1
  have hn2 : d.last < 4611686018427387904 := hn2
  have hrl : (ents d.rows).length = d.ab.rows.length := by simp [ents, DT.ab]
  have hw : IntKind.wrap .i64 (d.last + 1) = d.last + 1 := wrap64 (by omega) (by omega)
  refine xcOf (X := X17) rfl FN17 (by kernel_rfl) (by decide) (E17 X t f ⟨_, h.box.el, ents d.rows, h.mp, fun e => ?_, fun e => ⟨_, h.box.el, _, h.box.el, fun X5 e5 => ?_⟩⟩)
  · have e : (64 : Int) ≤ ((ents d.rows).length : Int) := by simpa using e
    exact .inl ⟨by omega, rfl, rfl⟩
  · have e : ¬ (64 : Int) ≤ ((ents d.rows).length : Int) := by simpa using e
    rw [h.box.setEl] at e5
    have htq : t ∉ hl d.q := fun e => by
      have := h.sep
      simp only [DT.hs, List.nodup_cons, List.mem_cons, List.mem_append] at this
      exact this.1 (.inr (.inl e))
    have b5 : Box X5 cthread_Table t (some d.hm, (d.last + 1, (d.run, d.q))) := by
      have := h.box.set (b := (some d.hm, (d.last + 1, (d.run, d.q))))
      rw [e5]
      dsimp only
      rw [hw]
      exact this
    obtain ⟨a1, a2⟩ := h.tab (last := d.last + 1) (run := d.run) (q := d.q) (queue := d.queue) (by rw [e5]; exact Mv.set (List.mem_cons_self ..)) (fun k hk => .inl hk) b5
      (h.q.keep fun k hk => by rw [e5]; exact at_set_ne fun e => htq (e ▸ hk))
    have hid : ∀ a ∈ d.ab.rows, a.id ≠ d.last + 1 := fun a ha e => by
      have h1 := hn3 a ha
      have h2 : d.ab.last = d.last := rfl
      omega
    refine ⟨_, b5.el, _, b5.el, f, c55 hf, fun X9 e9 X10 e10 => ⟨d.hm, ents d.rows, rfl, ?_, fun X13 e13 => ?_⟩⟩
    · refine mp_at.2 ?_
      have l1 := at_lt a1.map
      have l9 : X9.n = X5.n + 1 := by rw [e9]; rfl
      have l1 : d.hm < X5.n := l1
      rw [e10, at_add_old (by omega), e9, at_add_old l1]
      exact a1.map
    · have hms := msetN (k := d.last + 1) (b := some X9.n) (rows_none (l := d.rows) (id := d.last + 1) fun r hr => hid r.toAb (List.mem_map.2 ⟨r, hr, rfl⟩))
      have e13 : X13 = X10.set d.hm (.map (.int .i64) (.ref cthread_one) (ents d.rows ++ [(d.last + 1, some X9.n)])) := by
        rw [e13, ← hms]
      obtain ⟨d', r1, r2, r3, r4⟩ := a1.start (id := d.last + 1) (f := f) hid e9 e10 e13
      have hab : d'.last = d.last + 1 := congrArg MT.last r3
      have hrows : d'.ab.rows = d.ab.rows ++ [⟨d.last + 1, 0, [f], []⟩] := congrArg MT.rows r3
      have hc := c56 r1 (id := d.last + 1) ⟨⟨d.last + 1, 0, [f], []⟩, by rw [hrows]; simp, rfl⟩ (by rw [r4]; exact hlen)
      refine ⟨_, r1.box.el, ?_⟩
      show XC Try.prog 56 [] [_, .v (.int .i64 d'.last)] X13 _
      rw [hab]
      refine hc.mono ?_
      rintro _ X16 ⟨d16, s1, s2, s3⟩
      have hl16 : d16.last = d.last + 1 := by
        have : d16.ab.last = (d'.ab.ready (d.last + 1)).last := congrArg MT.last s3
        exact this.trans hab
      refine ⟨_, s1.box.el, .inr ⟨by omega, ?_, d16, s1, (a2.trans r2).trans s2, ?_⟩⟩
      · show (d16.last, (0 : Int)) = _
        rw [hl16]
      · rw [s3, r3]
        simp only [MT.ready, MT.start, MT.set, updAb, List.map_append, List.map_cons, List.map_nil, if_true]
        have : (d.ab.rows.map fun a => if a.id = d.last + 1 then { a with st := 1 } else a) = d.ab.rows := by
          refine (List.map_congr_left fun a ha => ?_).trans (List.map_id _)
          rw [if_neg (hid a ha)]; rfl
        exact (congrArg (fun l => (⟨d.last + 1, d.run, d.queue ++ [d.last + 1], l ++ [⟨d.last + 1, 1, [f], []⟩]⟩ : MT)) this)

theorem c19 (h : Rep X t d) (hid : d.run ≠ 0 → ∃ a ∈ d.ab.rows, a.id = d.run) (hlen : (d.queue.length + 1) * 8 ≤ room) :
    XC Try.prog 19 [.pure (.int .i64)] [.ref (some t) cthread_Table 0 []] X fun p X' =>
      (d.run = 0 ∧ p = (25 : Int) ∧ X' = X) ∨ (d.run ≠ 0 ∧ p = (0 : Int) ∧ Post X t d X' ((d.ab.rest 1).ready d.run)) := by
  refine xcOf (X := X19) rfl FN19 (by kernel_rfl) (by decide) (E19 X t ((c58 h hid).mono ?_))
  rintro p X2 (⟨h1, rfl, rfl⟩ | ⟨h1, rfl, d2, h2, h3, h4, _⟩)
  · exact ⟨fun e => (by cases e), fun _ => .inl ⟨h1, rfl, rfl⟩⟩
  · refine ⟨fun _ => ?_, fun e => by cases e⟩
    obtain ⟨a, ha, he⟩ := hid h1
    have hq : d2.queue = d.queue := congrArg MT.queue h4
    refine (c56 h2 (id := d.run) ?_ (by rw [hq]; exact hlen)).mono ?_
    · rw [h4]
      refine ⟨if a.id = d.ab.run then { a with st := 1 } else a, List.mem_map.2 ⟨a, ha, rfl⟩, ?_⟩
      split <;> exact he
    · rintro _ X4 ⟨d4, s1, s2, s3⟩
      exact .inr ⟨h1, rfl, d4, s1, h3.trans s2, by rw [s3, h4]⟩

end Go.Proofs.Ytaaedebknacheaa.AB

set_option linter.unusedVariables false
set_option linter.unusedSimpArgs false
set_option maxRecDepth 100000
set_option maxHeartbeats 2000000
namespace Go.Proofs.Ytaaedebknacheaa.AB
open Go
/-! slices.Delete[[]int,int] -/
noncomputable def X57 : Cx := ⟨tt, [], [], [(57, [(0, 0, .x (.sl (.pure (.int .i64)))), (5, 6, .x (.pure (.int .i64)))])], [], []⟩
theorem FN57 : fnsB Try.prog X57.fns := (show True from trivial)
theorem E57 (X : XH) (s0 : (Option SlH)) (i1 : Int) (j2 : Int) {R : ((Option SlH)) → XH → Prop} (h : (0 ≤ (((slN s0) : Nat) : Int) ∧ (((slN s0) : Nat) : Int) ≤ (((slC s0) : Nat) : Int) ∧ (0 ≤ i1 ∧ i1 ≤ j2 ∧ j2 ≤ ((((((slN s0) : Nat) : Int)).toNat : Nat) : Int) ∧ (((i1 == j2) = true → R s0 X) ∧
 ((i1 == j2) = false → (0 ≤ i1 ∧ i1 ≤ (((slC s0) : Nat) : Int) ∧ (0 ≤ j2 ∧ j2 ≤ (((slN s0) : Nat) : Int) ∧ (∃ (l1 l2 : List Int), XH.view X (.pure (.int .i64)) (slCut s0 0 ((i1).toNat) (slC s0)) = some l1 ∧ (srcX X (.pure (.int .i64)) (.sl (.pure (.int .i64)) (slCut s0 ((j2).toNat) (slN s0) (slC s0)))) = some l2 ∧ ((slN ((slCut s0 0 ((i1).toNat) (slC s0)))) + (l2).length) * 8 ≤ room ∧ ∀ (X3 : XH) (s4 : Option SlH), XApp X (.pure (.int .i64)) (0 : Int) l1 l2 (slCut s0 0 ((i1).toNat) (slC s0)) X3 s4 → (0 ≤ (((slN s4) : Nat) : Int) ∧ (((slN s4) : Nat) : Int) ≤ (((slN s0) : Nat) : Int) ∧ (((slN s0) : Nat) : Int) ≤ (((slC s4) : Nat) : Int) ∧ (∃ (d5 : List Int), XH.view X3 (.pure (.int .i64)) (slCut s4 (((((slN s4) : Nat) : Int)).toNat) (((((slN s0) : Nat) : Int)).toNat) (slC s4)) = some d5 ∧ (∀ (X6 : XH), X6 = (XH.over X3 (.pure (.int .i64)) (slCut s4 (((((slN s4) : Nat) : Int)).toNat) (((((slN s0) : Nat) : Int)).toNat) (slC s4)) 0 (List.replicate (slN ((slCut s4 (((((slN s4) : Nat) : Int)).toNat) (((((slN s0) : Nat) : Int)).toNat) (slC s4)))) (0 : Int))) → R s4 X6))))))))))) :
  fnK X57.tt (callN Try.prog X57 0) (X57.md 57) (X57.mk1 57) Try.f57 [(.sl (.pure (.int .i64)) s0), (.v (.int .i64 i1)), (.v (.int .i64 j2))] ⟨[], [some (.heap X)], ⟨0, []⟩⟩ (xfin [(.sl (.pure (.int .i64)))] R) := Eq.mp (by kernel_rfl) h
end Go.Proofs.Ytaaedebknacheaa.AB

set_option linter.unusedVariables false
set_option linter.unusedSimpArgs false
namespace Go.Proofs.Ytaaedebknacheaa.AB
open Go

variable {X X' : XH} {c : Xd} {l : List c.T}

theorem SlAt.cut {s : SlH} (h : SlAt X c (some s) l) {p q m : Nat} (h1 : p ≤ q) (h2 : q ≤ m) (h3 : m ≤ s.cap) (h4 : q ≤ s.len) : SlAt X c (slCut (some s) p q m) ((l.take q).drop p) := by
  obtain ⟨a, ha, hb, hc, hl⟩ := h
  refine ⟨a, ha, ?_, ?_, ?_⟩
  · dsimp only; omega
  · dsimp only; omega
  · dsimp only
    refine List.ext_getElem? fun i => ?_
    rw [List.getElem?_drop, List.getElem?_take, List.getElem?_take, List.getElem?_drop, hl, List.getElem?_take, List.getElem?_drop]
    by_cases e : p + i < q
    · rw [if_pos e, if_pos (by omega), if_pos (by omega)]; congr 1; omega
    · rw [if_neg e, if_neg (by omega)]

/-- what stands behind the end is turned -/
theorem SlAt.behind {s : SlH} (h : SlAt X c (some s) l) {k : Nat} {l' : List c.T} (hk : s.len ≤ k) (hl' : k + l'.length ≤ s.cap) {a : List c.T} (ha : X.at s.h = some (.arr c a)) :
    SlAt (X.set s.h (.arr c (AB.over a (s.off + k) l'))) c (some s) l := by
  obtain ⟨a', ha', hb, hc, hl⟩ := h
  rw [ha] at ha'
  cases ha'
  refine ⟨_, at_set_self ha, ?_, hc, ?_⟩
  · rw [over_length (by omega)]; exact hb
  · rw [hl]
    refine List.ext_getElem? fun i => ?_
    rw [List.getElem?_take, List.getElem?_take]
    by_cases e : i < s.len
    · rw [if_pos e, if_pos e, List.getElem?_drop, List.getElem?_drop, over_get (by omega), if_neg (by omega)]
    · rw [if_neg e, if_neg e]

theorem c57 {x : Option SlH} {l : List Int} (h : SlAt X cI x l) {i j : Int} (h0 : 0 ≤ i) (h1 : i ≤ j) (h2 : j ≤ (l.length : Int)) (hr : l.length * 8 ≤ room) :
    XC Try.prog 57 [.sl cI] [.sl cI x, .v (.int .i64 i), .v (.int .i64 j)] X fun p X' => SlAt X' cI p (l.take i.toNat ++ l.drop j.toNat) ∧ Mv X (hl x) X' (hl p) := by
  have hlen := h.len
  have hle := h.le
  refine xcOf (X := X57) rfl FN57 (by kernel_rfl) (by decide) (E57 X x i j ⟨by omega, by omega, h0, h1, by omega, fun e => ?_, fun e => ⟨h0, by omega, by omega, by omega, ?_⟩⟩)
  · have e : i = j := by simpa using e
    subst e
    rw [List.take_append_drop]
    exact ⟨h, .refl _ _⟩
  · have e : i ≠ j := by simpa using e
    obtain ⟨s, rfl⟩ : ∃ s, x = some s := by
      cases x with
      | none => simp only [SlAt] at h; subst h; simp at h2; omega
      | some s => exact ⟨s, rfl⟩
    simp only [slN, slC] at hlen hle ⊢
    have hc1 := h.cut (p := 0) (q := i.toNat) (m := s.cap) (by omega) (by omega) (Nat.le_refl _) (by omega)
    have hc2 := h.cut (p := j.toNat) (q := s.len) (m := s.cap) (by omega) (by omega) (Nat.le_refl _) (Nat.le_refl _)
    rw [List.take_of_length_le (by omega)] at hc2
    rw [List.drop_zero] at hc1
    refine ⟨l.take i.toNat, l.drop j.toNat, hc1.view, ?_, ?_, fun X3 s4 hx => ?_⟩
    · exact hc2.view
    · show (i.toNat - 0 + (l.drop j.toNat).length) * 8 ≤ room
      rw [List.length_drop]; omega
    · obtain ⟨b1, b2⟩ := hx.spec hc1
      have hl3 : ∃ a, X3.at s.h = some (.arr cI a) ∧ s4 = some ⟨s.h, s.off, i.toNat + (l.length - j.toNat), s.cap⟩ := by
        have hx' : XApp X cI (0 : Int) (l.take i.toNat) (l.drop j.toNat) (some ⟨s.h, s.off + 0, i.toNat - 0, s.cap - 0⟩) X3 s4 := hx
        cases hx' with
        | room s' hs =>
          obtain ⟨a, ha, _⟩ := b1
          exact ⟨a, ha, by simp [List.length_drop]⟩
        | grow _ k hk =>
          change s.cap - 0 < i.toNat - 0 + (l.drop j.toNat).length at hk
          rw [List.length_drop] at hk
          omega
      obtain ⟨a3, ha3, rfl⟩ := hl3
      refine ⟨by simp only [slN]; omega, by simp only [slN]; omega, by simp only [slC]; omega, _, by simp only [slCut, XH.view, arr_at.2 ha3]; rfl, fun X6 e6 => ?_⟩
      simp only [slCut, slN, slC] at e6
      have e6 := e6.trans (XH.over_eq ha3 _ _)
      subst e6
      have := b1.behind (k := i.toNat + (l.length - j.toNat)) (l' := List.replicate (s.len - (i.toNat + (l.length - j.toNat))) (0 : Int)) (Nat.le_refl _) (by simp only [List.length_replicate]; omega) ha3
      refine ⟨?_, ?_⟩
      · simp only [Int.toNat_natCast, Nat.add_zero, slN] at this ⊢
        exact this
      · exact (b2.weak (T := hl (some s)) (T' := hl (some s)) (fun k hk => hk) fun k hk => .inr hk).trans (Mv.set (by simp [hl]))

end Go.Proofs.Ytaaedebknacheaa.AB

set_option linter.unusedVariables false
set_option linter.unusedSimpArgs false
set_option maxRecDepth 100000
set_option maxHeartbeats 2000000
namespace Go.Proofs.Ytaaedebknacheaa.AB
open Go
/-! (*crucible/thread.Table).Next -/
noncomputable def X18 : Cx := ⟨tt, [], [(57, [(.sl (.pure (.int .i64)))])], [(18, [(7, 8, .xc)])], [], []⟩
theorem FN18 : fnsB Try.prog X18.fns := (show True from trivial)
theorem E18 (X : XH) (t0 : Nat) (pick1 : Int) {R : (Int × Bool) → XH → Prop} (h : (∃ (a1 : ((Option Nat) × (Int × (Int × (Option SlH))))), XH.el X cthread_Table t0 0 = some a1 ∧ (((decide (a1.2.2.1 > (0 : Int))) = true → R ((0 : Int), false) X) ∧ ((decide (a1.2.2.1 > (0 : Int))) = false → (∃ (a2 : ((Option Nat) × (Int × (Int × (Option SlH))))), XH.el X cthread_Table t0 0 = some a2 ∧ ((((((slN a2.2.2.2) : Nat) : Int) == (0 : Int)) = true → R ((0 : Int), false) X) ∧
 (((((slN a2.2.2.2) : Nat) : Int) == (0 : Int)) = false → (((decide (pick1 < (0 : Int))) = true → (∃ (a3 : ((Option Nat) × (Int × (Int × (Option SlH))))), XH.el X cthread_Table t0 0 = some a3 ∧ ((((slN a3.2.2.2) : Nat) : Int) ≠ 0 ∧ (∃ (a4 : ((Option Nat) × (Int × (Int × (Option SlH))))), XH.el X cthread_Table t0 0 = some a4 ∧ (∃ (u5 : SlH), a4.2.2.2 = some u5 ∧ 0 ≤ (Int.tmod (IntKind.wrap .i64 ((BitVec.ofInt (IntKind.bits .i64) (-1) ^^^ BitVec.ofInt (IntKind.bits .i64) pick1).toNat : Int)) (((slN a3.2.2.2) : Nat) : Int)) ∧ (Int.tmod (IntKind.wrap .i64 ((BitVec.ofInt (IntKind.bits .i64) (-1) ^^^ BitVec.ofInt (IntKind.bits .i64) pick1).toNat : Int)) (((slN a3.2.2.2) : Nat) : Int)) < ((u5.len : Nat) : Int) ∧ (∃ (a6 : Int), XH.el X (.pure (.int .i64)) u5.h ((u5.off + ((Int.tmod (IntKind.wrap .i64 ((BitVec.ofInt (IntKind.bits .i64) (-1) ^^^ BitVec.ofInt (IntKind.bits .i64) pick1).toNat : Int)) (((slN a3.2.2.2) : Nat) : Int))).toNat)) = some a6 ∧ (∃ (a7 : ((Option Nat) × (Int × (Int × (Option SlH))))), XH.el X cthread_Table t0 0 = some a7 ∧ (∀ (X8 : XH), X8 = (XH.setEl X cthread_Table t0 0 ((a7.1, (a7.2.1, (a6, a7.2.2.2))))) → (∃ (a9 : ((Option Nat) × (Int × (Int × (Option SlH))))), XH.el X8 cthread_Table t0 0 = some a9 ∧ (XC Try.prog 57 [(.sl (.pure (.int .i64)))] [(.sl (.pure (.int .i64)) a9.2.2.2), (.v (.int .i64 ((Int.tmod (IntKind.wrap .i64 ((BitVec.ofInt (IntKind.bits .i64) (-1) ^^^ BitVec.ofInt (IntKind.bits .i64) pick1).toNat : Int)) (((slN a3.2.2.2) : Nat) : Int))))), (.v (.int .i64 ((IntKind.wrap .i64 ((Int.tmod (IntKind.wrap .i64 ((BitVec.ofInt (IntKind.bits .i64) (-1) ^^^ BitVec.ofInt (IntKind.bits .i64) pick1).toNat : Int)) (((slN a3.2.2.2) : Nat) : Int)) + (1 : Int))))))] X8 (fun (p10 : (Option SlH)) (X11 : XH) => (∃ (a12 : ((Option Nat) × (Int × (Int × (Option SlH))))), XH.el X11 cthread_Table t0 0 = some a12 ∧ (∀ (X13 : XH), X13 = (XH.setEl X11 cthread_Table t0 0 ((a12.1, (a12.2.1, (a12.2.2.1, p10))))) → (∃ (a14 : ((Option Nat) × (Int × (Int × (Option SlH))))), XH.el X13 cthread_Table t0 0 = some a14 ∧ (∃ (a15 : ((Option Nat) × (Int × (Int × (Option SlH))))), XH.el X13 cthread_Table t0 0 = some a15 ∧ (∃ (es16 : List (Int × (Option Nat))), XH.vmp X13 (.int .i64) (.ref cthread_one) a14.1 = some es16 ∧ (∀ (v17 : (Option Nat)), mfind (Cd.keq (.int .i64) a15.2.2.1) es16 = some v17 → (refK v17 (fun (h18 : Nat) => (∃ (a19 : ((Option SlH) × (Int × (Option SlH)))), XH.el X13 cthread_one h18 0 = some a19 ∧ (∀ (X20 : XH), X20 = (XH.setEl X13 cthread_one h18 0 ((a19.1, ((2 : Int), a19.2.2)))) → (∃ (a21 : ((Option Nat) × (Int × (Int × (Option SlH))))), XH.el X20 cthread_Table t0 0 = some a21 ∧ R (a21.2.2.1, true) X20)))))) ∧ (mfind (Cd.keq (.int .i64) a15.2.2.1) es16 = none → False))))))))))))))))) ∧
 ((decide (pick1 < (0 : Int))) = false → (∃ (a22 : ((Option Nat) × (Int × (Int × (Option SlH))))), XH.el X cthread_Table t0 0 = some a22 ∧ ((((slN a22.2.2.2) : Nat) : Int) ≠ 0 ∧ (∃ (a23 : ((Option Nat) × (Int × (Int × (Option SlH))))), XH.el X cthread_Table t0 0 = some a23 ∧ (∃ (u24 : SlH), a23.2.2.2 = some u24 ∧ 0 ≤ (Int.tmod pick1 (((slN a22.2.2.2) : Nat) : Int)) ∧ (Int.tmod pick1 (((slN a22.2.2.2) : Nat) : Int)) < ((u24.len : Nat) : Int) ∧ (∃ (a25 : Int), XH.el X (.pure (.int .i64)) u24.h ((u24.off + ((Int.tmod pick1 (((slN a22.2.2.2) : Nat) : Int))).toNat)) = some a25 ∧ (∃ (a26 : ((Option Nat) × (Int × (Int × (Option SlH))))), XH.el X cthread_Table t0 0 = some a26 ∧ (∀ (X27 : XH), X27 = (XH.setEl X cthread_Table t0 0 ((a26.1, (a26.2.1, (a25, a26.2.2.2))))) → (∃ (a28 : ((Option Nat) × (Int × (Int × (Option SlH))))), XH.el X27 cthread_Table t0 0 = some a28 ∧ (XC Try.prog 57 [(.sl (.pure (.int .i64)))] [(.sl (.pure (.int .i64)) a28.2.2.2), (.v (.int .i64 ((Int.tmod pick1 (((slN a22.2.2.2) : Nat) : Int))))), (.v (.int .i64 ((IntKind.wrap .i64 ((Int.tmod pick1 (((slN a22.2.2.2) : Nat) : Int)) + (1 : Int))))))] X27 (fun (p29 : (Option SlH)) (X30 : XH) => (∃ (a31 : ((Option Nat) × (Int × (Int × (Option SlH))))), XH.el X30 cthread_Table t0 0 = some a31 ∧ (∀ (X32 : XH), X32 = (XH.setEl X30 cthread_Table t0 0 ((a31.1, (a31.2.1, (a31.2.2.1, p29))))) → (∃ (a33 : ((Option Nat) × (Int × (Int × (Option SlH))))), XH.el X32 cthread_Table t0 0 = some a33 ∧ (∃ (a34 : ((Option Nat) × (Int × (Int × (Option SlH))))), XH.el X32 cthread_Table t0 0 = some a34 ∧ (∃ (es35 : List (Int × (Option Nat))), XH.vmp X32 (.int .i64) (.ref cthread_one) a33.1 = some es35 ∧ (∀ (v36 : (Option Nat)), mfind (Cd.keq (.int .i64) a34.2.2.1) es35 = some v36 → (refK v36 (fun (h37 : Nat) => (∃ (a38 : ((Option SlH) × (Int × (Option SlH)))), XH.el X32 cthread_one h37 0 = some a38 ∧ (∀ (X39 : XH), X39 = (XH.setEl X32 cthread_one h37 0 ((a38.1, ((2 : Int), a38.2.2)))) → (∃ (a40 : ((Option Nat) × (Int × (Int × (Option SlH))))), XH.el X39 cthread_Table t0 0 = some a40 ∧ R (a40.2.2.1, true) X39)))))) ∧ (mfind (Cd.keq (.int .i64) a34.2.2.1) es35 = none → False))))))))))))))))))))))))) :
  fnK X18.tt (callN Try.prog X18 0) (X18.md 18) (X18.mk1 18) Try.f18 [(.ref (some t0) cthread_Table 0 []), (.v (.int .i64 pick1))] ⟨[], [some (.heap X)], ⟨0, []⟩⟩ (xfin [(.pure (.int .i64)), (.pure .bool)] R) := Eq.mp (by kernel_rfl) h
end Go.Proofs.Ytaaedebknacheaa.AB

set_option linter.unusedVariables false
set_option linter.unusedSimpArgs false
set_option maxRecDepth 100000
set_option maxHeartbeats 2000000
namespace Go.Proofs.Ytaaedebknacheaa.AB
open Go
/-! crucible/cruciblelaw18.pick -/
noncomputable def X16 : Cx := ⟨tt, [], [], [], [], []⟩
theorem FN16 : fnsB Try.prog X16.fns := (show True from trivial)
theorem E16 (c0 : Int) (n1 : Int) {R : V → Prop} (h : (((decide (c0 < (0 : Int))) = true → (n1 ≠ 0 ∧ R (.int .i64 ((Int.tmod (IntKind.wrap .i64 (0 - (IntKind.wrap .i64 (c0 + (1 : Int))))) n1))))) ∧
 ((decide (c0 < (0 : Int))) = false → (n1 ≠ 0 ∧ R (.int .i64 (Int.tmod c0 n1)))))) :
  fnK X16.tt (callN Try.prog X16 0) (X16.md 16) (X16.mk1 16) Try.f16 [(.v (.int .i64 c0)), (.v (.int .i64 n1))] ⟨[], [], ⟨0, []⟩⟩ (topK R) := Eq.mp (by kernel_rfl) h
end Go.Proofs.Ytaaedebknacheaa.AB

set_option linter.unusedVariables false
set_option linter.unusedSimpArgs false
set_option maxRecDepth 100000
namespace Go.Proofs.Ytaaedebknacheaa.AB
open Go

variable {X X' : XH} {t : Nat} {d : DT}

def pickN (c n : Int) : Int := if c < 0 then (-(c + 1)) % n else c % n

theorem pickN_range (c : Int) {n : Int} (h : 0 < n) : 0 ≤ pickN c n ∧ pickN c n < n := by
  unfold pickN
  split <;> exact ⟨Int.emod_nonneg _ (by omega), Int.emod_lt_of_pos _ h⟩

theorem c16 {c n : Int} (h1 : -9223372036854775808 ≤ c) (h2 : c ≤ 9223372036854775807) (h3 : 0 < n) : PC Try.prog 16 [.int .i64 c, .int .i64 n] (.int .i64 (pickN c n)) := by
  refine pcOf (X := X16) rfl FN16 (by kernel_rfl) (by decide) (E16 c n ⟨fun e => ⟨by omega, ?_⟩, fun e => ⟨by omega, ?_⟩⟩)
  · have e : c < 0 := by simpa using e
    rw [wrap64 (x := c + 1) (by omega) (by omega), wrap64 (x := 0 - (c + 1)) (by omega) (by omega)]
    refine ⟨?_, rfl⟩
    rw [Int.tmod_eq_emod_of_nonneg (by omega), pickN, if_pos e]
    simp
    rfl
  · have e : ¬ c < 0 := by simpa using e
    refine ⟨?_, rfl⟩
    rw [Int.tmod_eq_emod_of_nonneg (by omega), pickN, if_neg e]
    rfl

theorem bnot64 {c : Int} (h1 : -9223372036854775808 ≤ c) (h2 : c < 0) :
    IntKind.wrap .i64 ((BitVec.ofInt (IntKind.bits .i64) (-1) ^^^ BitVec.ofInt (IntKind.bits .i64) c).toNat : Int) = -(c + 1) := by
  have e : (BitVec.ofInt 64 (-1) ^^^ BitVec.ofInt 64 c) = ~~~ (BitVec.ofInt 64 c) := by
    have : BitVec.ofInt 64 (-1) = BitVec.allOnes 64 := by decide
    rw [this, BitVec.allOnes_xor]
  show IntKind.wrap .i64 ((BitVec.ofInt 64 (-1) ^^^ BitVec.ofInt 64 c).toNat : Int) = _
  rw [e, BitVec.toNat_not, BitVec.toNat_ofInt]
  rw [wrap64] <;> omega

theorem next_tail (h : Rep X t d) {i : Int} {k : Nat} (hi : i = (k : Int)) (hk : k < d.queue.length) (hids : ∀ id ∈ d.queue, ∃ a ∈ d.ab.rows, a.id = id) (hlen : d.queue.length * 8 ≤ room)
    {R : Int × Bool → XH → Prop} (hR : ∀ X', Post X t d X' (d.ab.next k) → R (d.queue.getD k 0, true) X') :
    (∃ (a23 : ((Option Nat) × (Int × (Int × (Option SlH))))), XH.el X cthread_Table t 0 = some a23 ∧ (∃ (u24 : SlH), a23.2.2.2 = some u24 ∧ 0 ≤ i ∧ i < ((u24.len : Nat) : Int) ∧ (∃ (a25 : Int), XH.el X (.pure (.int .i64)) u24.h ((u24.off + (i).toNat)) = some a25 ∧ (∃ (a26 : ((Option Nat) × (Int × (Int × (Option SlH))))), XH.el X cthread_Table t 0 = some a26 ∧ (∀ (X27 : XH), X27 = (XH.setEl X cthread_Table t 0 ((a26.1, (a26.2.1, (a25, a26.2.2.2))))) → (∃ (a28 : ((Option Nat) × (Int × (Int × (Option SlH))))), XH.el X27 cthread_Table t 0 = some a28 ∧ (XC Try.prog 57 [(.sl (.pure (.int .i64)))] [(.sl (.pure (.int .i64)) a28.2.2.2), (.v (.int .i64 (i))), (.v (.int .i64 ((IntKind.wrap .i64 (i + (1 : Int))))))] X27 (fun (p29 : (Option SlH)) (X30 : XH) => (∃ (a31 : ((Option Nat) × (Int × (Int × (Option SlH))))), XH.el X30 cthread_Table t 0 = some a31 ∧ (∀ (X32 : XH), X32 = (XH.setEl X30 cthread_Table t 0 ((a31.1, (a31.2.1, (a31.2.2.1, p29))))) → (∃ (a33 : ((Option Nat) × (Int × (Int × (Option SlH))))), XH.el X32 cthread_Table t 0 = some a33 ∧ (∃ (a34 : ((Option Nat) × (Int × (Int × (Option SlH))))), XH.el X32 cthread_Table t 0 = some a34 ∧ (∃ (es35 : List (Int × (Option Nat))), XH.vmp X32 (.int .i64) (.ref cthread_one) a33.1 = some es35 ∧ (∀ (v36 : (Option Nat)), mfind (Cd.keq (.int .i64) a34.2.2.1) es35 = some v36 → (refK v36 (fun (h37 : Nat) => (∃ (a38 : ((Option SlH) × (Int × (Option SlH)))), XH.el X32 cthread_one h37 0 = some a38 ∧ (∀ (X39 : XH), X39 = (XH.setEl X32 cthread_one h37 0 ((a38.1, ((2 : Int), a38.2.2)))) → (∃ (a40 : ((Option Nat) × (Int × (Int × (Option SlH))))), XH.el X39 cthread_Table t 0 = some a40 ∧ R (a40.2.2.1, true) X39)))))) ∧ (mfind (Cd.keq (.int .i64) a34.2.2.1) es35 = none → False)))))))))))))) := by
  subst hi
  have hq0 := h.q.len
  obtain ⟨u, hu⟩ : ∃ u, d.q = some u := by
    cases hq : d.q with
    | none => rw [hq] at hq0; simp [slN] at hq0; omega
    | some u => exact ⟨u, rfl⟩
  have hul : u.len = d.queue.length := by rw [hu] at hq0; exact hq0
  have hsl : SlAt X cI (some u) d.queue := by rw [← hu]; exact h.q
  have hel := hsl.el hk
  have htq : t ∉ hl d.q := fun e => by
    have := h.sep
    simp only [DT.hs, List.nodup_cons, List.mem_cons, List.mem_append] at this
    exact this.1 (.inr (.inl e))
  have hget : d.queue.getD k 0 = d.queue[k] := by simp [List.getD, List.getElem?_eq_getElem hk]
  refine ⟨_, h.box.el, u, hu, by omega, by omega, d.queue[k], ?_, _, h.box.el, fun X27 e27 => ?_⟩
  · rw [Int.toNat_natCast]; exact hel
  rw [h.box.setEl] at e27
  have b27 : Box X27 cthread_Table t (some d.hm, (d.last, (d.queue[k], d.q))) := by rw [e27]; exact h.box.set
  have q27 : SlAt X27 cI d.q d.queue := h.q.keep fun j hj => by rw [e27]; exact at_set_ne fun e => htq (e ▸ hj)
  have m27 : Mv X (t :: hl d.q) X27 (t :: hl d.q) := by rw [e27]; exact Mv.set (List.mem_cons_self ..)
  have hdel := c57 q27 (i := (k : Int)) (j := IntKind.wrap .i64 ((k : Int) + 1)) (by omega) (by rw [wrap64 (by unfold room at hlen; omega) (by unfold room at hlen; omega)]; omega)
    (by rw [wrap64 (by unfold room at hlen; omega) (by unfold room at hlen; omega)]; omega) hlen
  refine ⟨_, b27.el, hdel.mono ?_⟩
  rintro q X30 ⟨s30, m30⟩
  have htq30 : t ∉ hl q := fun e => (m30.own t e).elim htq fun e => absurd b27.lt (by omega)
  have b30 := b27.keep (m30.keep t b27.lt htq)
  refine ⟨_, b30.el, fun X32 e32 => ?_⟩
  rw [b30.setEl] at e32
  have b32 : Box X32 cthread_Table t (some d.hm, (d.last, (d.queue[k], q))) := by rw [e32]; exact b30.set
  rw [wrap64 (by unfold room at hlen; omega) (by unfold room at hlen; omega), Int.toNat_natCast, show ((k : Int) + 1).toNat = k + 1 by omega, ← List.eraseIdx_eq_take_drop_succ] at s30
  have q32 : SlAt X32 cI q (d.queue.eraseIdx k) := s30.keep fun j hj => by rw [e32]; exact at_set_ne fun e => htq30 (e ▸ hj)
  have m32 : Mv X (t :: hl d.q) X32 (t :: hl q) := by
    rw [e32]
    exact m27.trans ((m30.weak (fun j hj => List.mem_cons_of_mem _ hj) (T' := t :: hl q) fun j hj => by
      rcases List.mem_cons.1 hj with rfl | hj
      · exact .inr (List.mem_cons_self ..)
      · exact .inl hj).trans (Mv.set (List.mem_cons_self ..)))
  have hown : ∀ j ∈ hl q, j ∈ hl d.q ∨ X.n ≤ j := fun j hj => (m30.own j hj).imp id fun e => Nat.le_trans m27.n e
  obtain ⟨a1, a2⟩ := h.tab (last := d.last) (run := d.queue[k]) (q := q) (queue := d.queue.eraseIdx k) m32 hown b32 q32
  obtain ⟨l1, r, l2, hd, he, hm, hr, hn⟩ := a1.one (id := d.queue[k]) (hids _ (List.getElem_mem _))
  have hm : mfind (Cd.keq (.int .i64) d.queue[k]) (ents d.rows) = some (some r.h) := hm
  refine ⟨_, b32.el, _, b32.el, ents d.rows, a1.mp, ?_, ?_⟩
  · intro v hv
    have hv : mfind (Cd.keq (.int .i64) d.queue[k]) (ents d.rows) = some v := hv
    rw [hm] at hv; cases hv
    refine ⟨_, hr.box.el, fun X39 e39 => ?_⟩
    rw [hr.box.setEl] at e39
    obtain ⟨b1, b2, b3⟩ := a1.setSt (s := 2) hd he hr hn
    subst e39
    refine ⟨_, b1.box.el, ?_⟩
    show R (d.queue[k], true) _
    rw [← hget]
    refine hR _ ⟨_, b1, a2.trans b2, ?_⟩
    rw [b3]
    simp only [MT.next, MT.set, DT.ab, hget]
  · intro e
    have e : mfind (Cd.keq (.int .i64) d.queue[k]) (ents d.rows) = none := e
    rw [hm] at e; cases e

/-- what Next answers -/
def NextQ (X : XH) (t : Nat) (d : DT) (k : Nat) (p : Int × Bool) (X' : XH) : Prop :=
  ((0 < d.run ∨ d.queue = []) ∧ p = ((0 : Int), false) ∧ X' = X) ∨ (¬ 0 < d.run ∧ d.queue ≠ [] ∧ p = (d.queue.getD k 0, true) ∧ Post X t d X' (d.ab.next k))

theorem c18 (h : Rep X t d) {pick : Int} (h1 : -9223372036854775808 ≤ pick) (h2 : pick ≤ 9223372036854775807) (hids : ∀ id ∈ d.queue, ∃ a ∈ d.ab.rows, a.id = id) (hlen : d.queue.length * 8 ≤ room) :
    XC Try.prog 18 [.pure (.int .i64), .pure .bool] [.ref (some t) cthread_Table 0 [], .v (.int .i64 pick)] X fun p X' => NextQ X t d (pickN pick d.queue.length).toNat p X' := by
  refine xcOf (X := X18) rfl FN18 (by kernel_rfl) (by decide) (E18 X t pick ⟨_, h.box.el, fun e => ?_, fun e => ⟨_, h.box.el, fun e2 => ?_, fun e2 => ?_⟩⟩)
  · have e : 0 < d.run := by simpa using e
    exact .inl ⟨.inl e, rfl, rfl⟩
  · have e2 : slN d.q = 0 := by simpa using e2
    rw [h.q.len] at e2
    exact .inl ⟨.inr (List.length_eq_zero_iff.1 e2), rfl, rfl⟩
  · have e : ¬ 0 < d.run := by simpa using e
    have e2 : slN d.q ≠ 0 := by simpa using e2
    rw [h.q.len] at e2
    have hne : d.queue ≠ [] := fun q => e2 (by rw [q]; rfl)
    have hr := pickN_range pick (n := (d.queue.length : Int)) (by omega)
    have hk : (pickN pick d.queue.length).toNat < d.queue.length := by omega
    have hR : ∀ X', Post X t d X' (d.ab.next (pickN pick d.queue.length).toNat) → NextQ X t d (pickN pick d.queue.length).toNat (d.queue.getD (pickN pick d.queue.length).toNat 0, true) X' :=
      fun X' hp => .inr ⟨e, hne, rfl, hp⟩
    have hsl : (((slN d.q : Nat) : Int)) ≠ 0 := by rw [h.q.len]; omega
    refine ⟨fun e3 => ⟨_, h.box.el, hsl, ?_⟩, fun e3 => ⟨_, h.box.el, hsl, ?_⟩⟩
    · have e3 : pick < 0 := by simpa using e3
      refine next_tail (R := NextQ X t d (pickN pick d.queue.length).toNat) h ?_ hk hids hlen hR
      rw [bnot64 h1 e3]
      show Int.tmod (-(pick + 1)) ((slN d.q : Nat) : Int) = _
      rw [h.q.len, Int.tmod_eq_emod_of_nonneg (by omega), Int.toNat_of_nonneg hr.1, pickN, if_pos e3]
    · have e3 : ¬ pick < 0 := by simpa using e3
      refine next_tail (R := NextQ X t d (pickN pick d.queue.length).toNat) h ?_ hk hids hlen hR
      show Int.tmod pick ((slN d.q : Nat) : Int) = _
      rw [h.q.len, Int.tmod_eq_emod_of_nonneg (by omega), Int.toNat_of_nonneg hr.1, pickN, if_neg e3]

end Go.Proofs.Ytaaedebknacheaa.AB

set_option linter.unusedVariables false
set_option linter.unusedSimpArgs false
set_option maxRecDepth 100000
set_option maxHeartbeats 2000000
namespace Go.Proofs.Ytaaedebknacheaa.AB
open Go
/-! (*crucible/thread.Table).End -/
noncomputable def X48 : Cx := ⟨tt, [], [(56, []), (58, [(.pure (.int .i64)), (.pure (.int .i64))])], [(48, [(0, 0, .x (.sl (.pure (.int .i64)))), (1, 1, .xc), (3, 1, .x (.sl (.pure (.int .i64)))), (9, 2, .xc)])], [(48, [(0, mkM 42 0 [0, 6, 31, 32, 33], 0)])], []⟩
theorem FN48 : fnsB Try.prog X48.fns := (show True from trivial)
def M48_0 : List Bool × Nat := (mkM 42 0 [0, 6, 31, 32, 33], 1)
def S48_0 (t0 : Nat) (l6 : Option SlH) (t31 : Option SlH) (t32 : Int) (t33 : Int) (hq0 : XH) (T : Toks) : St :=
  mkS 42 [(0, (.ref (some t0) cthread_Table 0 [])), (6, (.sl (.pure (.int .i64)) l6)), (31, (.sl (.pure (.int .i64)) t31)), (32, (.v (.int .i64 t32))), (33, (.v (.int .i64 t33)))] [(some (.heap hq0))] T
noncomputable def B48_0 : (Exit → St → Prop) → St → Prop := (awp X48.tt (callN Try.prog X48 0) (X48.md 48) 1 (X48.mk1 48) 0 (codeAt [1, 1, 1, 1, 1, 0, 1, 0, 0] (bd Try.f48)))
noncomputable def K48_0 (R : ((Option SlH) × Int) → XH → Prop) : Exit → St → Prop := seqK ((awp X48.tt (callN Try.prog X48 0) (X48.md 48) 1 (X48.mk1 48) 0 (codeAt [1, 1, 1, 1, 1, 1] (bd Try.f48))) (retK tt Try.f48.results.toList fun x s' => xfin [(.sl (.pure (.int .i64))), (.pure (.int .i64))] R x ⟨[], s'.hp, s'.T⟩)) (retK tt Try.f48.results.toList fun x s' => xfin [(.sl (.pure (.int .i64))), (.pure (.int .i64))] R x ⟨[], s'.hp, s'.T⟩)
noncomputable def Q48_0 (R : ((Option SlH) × Int) → XH → Prop) : Exit → St → Prop := (blockK 0 (K48_0 R))
theorem E48 (X : XH) (t0 : Nat) {R : ((Option SlH) × Int) → XH → Prop} (h : (XC Try.prog 58 [(.pure (.int .i64)), (.pure (.int .i64))] [(.ref (some t0) cthread_Table 0 []), (.v (.int .i64 (5 : Int)))] X (fun (p1 : Int × Int) (X2 : XH) => (((p1.2 != (0 : Int)) = true → R (none, p1.2) X2) ∧
 ((p1.2 != (0 : Int)) = false → (∃ (a3 : ((Option Nat) × (Int × (Int × (Option SlH))))), XH.el X2 cthread_Table t0 0 = some a3 ∧ (∃ (es4 : List (Int × (Option Nat))), XH.vmp X2 (.int .i64) (.ref cthread_one) a3.1 = some es4 ∧ (∀ (v5 : (Option Nat)), mfind (Cd.keq (.int .i64) p1.1) es4 = some v5 → (refK v5 (fun (h6 : Nat) => (∃ (a7 : ((Option SlH) × (Int × (Option SlH)))), XH.el X2 cthread_one h6 0 = some a7 ∧ (∃ (a8 : ((Option Nat) × (Int × (Int × (Option SlH))))), XH.el X2 cthread_Table t0 0 = some a8 ∧ (∃ (h9 : Nat) (es10 : List (Int × (Option Nat))), a8.1 = some h9 ∧ XH.mp X2 (.int .i64) (.ref cthread_one) h9 = some es10 ∧ (∀ (X11 : XH), X11 = (XH.set X2 h9 (.map (.int .i64) (.ref cthread_one) (mdel (Cd.keq (.int .i64) p1.1) es10))) → (Loops B48_0 M48_0 (Q48_0 R)
  (S48_0 t0 a7.2.2 a7.2.2 ((((slN a7.2.2) : Nat) : Int)) (0 : Int) X11 ⟨0, []⟩))))))))) ∧ (mfind (Cd.keq (.int .i64) p1.1) es4 = none → False)))))))) :
  fnK X48.tt (callN Try.prog X48 0) (X48.md 48) (X48.mk1 48) Try.f48 [(.ref (some t0) cthread_Table 0 [])] ⟨[], [some (.heap X)], ⟨0, []⟩⟩ (xfin [(.sl (.pure (.int .i64))), (.pure (.int .i64))] R) := Eq.mp (by kernel_rfl) h
theorem L48_0 (t0 : Nat) (l6 : Option SlH) (t31 : Option SlH) (t32 : Int) (t33 : Int) (hq0 : XH) (T : Toks) {R : ((Option SlH) × Int) → XH → Prop} {k0 : St → Prop}
 (h : (((decide (t33 < t32)) = true → (∃ (u12 : SlH), t31 = some u12 ∧ 0 ≤ t33 ∧ t33 < ((u12.len : Nat) : Int) ∧ (∃ (a13 : Int), XH.el hq0 (.pure (.int .i64)) u12.h ((u12.off + (t33).toNat)) = some a13 ∧ (XC Try.prog 56 [] [(.ref (some t0) cthread_Table 0 []), (.v (.int .i64 a13))] hq0 (fun (p14 : Unit) (X15 : XH) => k0 (S48_0 t0 l6 t31 t32 ((IntKind.wrap .i64 (t33 + (1 : Int)))) X15 T)))))) ∧
 ((decide (t33 < t32)) = false → R (l6, (0 : Int)) hq0))) :
  B48_0 (loopQ M48_0 k0 (Q48_0 R)) (S48_0 t0 l6 t31 t32 t33 hq0 T) := Eq.mp (by kernel_rfl) h
end Go.Proofs.Ytaaedebknacheaa.AB

set_option linter.unusedVariables false
set_option linter.unusedSimpArgs false
set_option maxRecDepth 100000
set_option maxHeartbeats 2000000
namespace Go.Proofs.Ytaaedebknacheaa.AB
open Go
/-! crucible/cruciblelaw18.sameInts -/
noncomputable def X49 : Cx := ⟨tt, [], [], [], [(49, [(0, mkM 26 0 [0, 1, 5], 0)])], []⟩
theorem FN49 : fnsB Try.prog X49.fns := (show True from trivial)
def M49_0 : List Bool × Nat := (mkM 26 0 [0, 1, 5], 0)
def S49_0 (a0 : List Int) (b1 : List Int) (i5 : Int) (T : Toks) : St :=
  mkS 26 [(0, (.v (.list (.int .i64) a0 .no))), (1, (.v (.list (.int .i64) b1 .no))), (5, (.v (.int .i64 i5)))] [] T
noncomputable def B49_0 : (Exit → St → Prop) → St → Prop := (awp X49.tt (callN Try.prog X49 0) (X49.md 49) 0 (X49.mk1 49) 0 (codeAt [1, 1, 0, 1, 0, 0] (bd Try.f49)))
noncomputable def K49_0 (R : V → Prop) : Exit → St → Prop := seqK ((awp X49.tt (callN Try.prog X49 0) (X49.md 49) 0 (X49.mk1 49) 0 (codeAt [1, 1, 1] (bd Try.f49))) (retK tt Try.f49.results.toList fun x s' => topK R x ⟨[], s'.hp, s'.T⟩)) (retK tt Try.f49.results.toList fun x s' => topK R x ⟨[], s'.hp, s'.T⟩)
noncomputable def Q49_0 (R : V → Prop) : Exit → St → Prop := (blockK 0 (K49_0 R))
theorem E49 (a0 : (List Int)) (b1 : (List Int)) {R : V → Prop} (h : (((((a0).length : Int) != ((b1).length : Int)) = true → R (.bool false)) ∧
 ((((a0).length : Int) != ((b1).length : Int)) = false → (Loops B49_0 M49_0 (Q49_0 R)
  (S49_0 a0 b1 (0 : Int) ⟨0, []⟩))))) :
  fnK X49.tt (callN Try.prog X49 0) (X49.md 49) (X49.mk1 49) Try.f49 [(.v (.list (.int .i64) a0 .no)), (.v (.list (.int .i64) b1 .no))] ⟨[], [], ⟨0, []⟩⟩ (topK R) := Eq.mp (by kernel_rfl) h
theorem L49_0 (a0 : List Int) (b1 : List Int) (i5 : Int) (T : Toks) {R : V → Prop} {k0 : St → Prop}
 (h : (((decide (i5 < ((a0).length : Int))) = true → (0 ≤ i5 ∧ i5 < ((a0).length : Int) ∧ (0 ≤ i5 ∧ i5 < ((b1).length : Int) ∧ ((((a0.getD (i5).toNat 0) != (b1.getD (i5).toNat 0)) = true → R (.bool false)) ∧
 (((a0.getD (i5).toNat 0) != (b1.getD (i5).toNat 0)) = false → k0 (S49_0 a0 b1 ((IntKind.wrap .i64 (i5 + (1 : Int)))) T)))))) ∧
 ((decide (i5 < ((a0).length : Int))) = false → R (.bool true)))) :
  B49_0 (loopQ M49_0 k0 (Q49_0 R)) (S49_0 a0 b1 i5 T) := Eq.mp (by kernel_rfl) h
end Go.Proofs.Ytaaedebknacheaa.AB

set_option linter.unusedVariables false
set_option linter.unusedSimpArgs false
set_option maxRecDepth 100000
set_option maxHeartbeats 2000000
namespace Go.Proofs.Ytaaedebknacheaa.AB
open Go
/-! crucible/cruciblelaw18.sameInts -/
noncomputable def X49h : Cx := ⟨tt, [], [], [], [(49, [(0, mkM 26 0 [0, 1, 5], 0)])], []⟩
theorem FN49h : fnsB Try.prog X49h.fns := (show True from trivial)
def M49h_0 : List Bool × Nat := (mkM 26 0 [0, 1, 5], 1)
def S49h_0 (a0 : Option SlH) (b1 : List Int) (i5 : Int) (hq0 : XH) (T : Toks) : St :=
  mkS 26 [(0, (.sl (.pure (.int .i64)) a0)), (1, (.v (.list (.int .i64) b1 .no))), (5, (.v (.int .i64 i5)))] [(some (.heap hq0))] T
noncomputable def B49h_0 : (Exit → St → Prop) → St → Prop := (awp X49h.tt (callN Try.prog X49h 0) (X49h.md 49) 1 (X49h.mk1 49) 0 (codeAt [1, 1, 0, 1, 0, 0] (bd Try.f49)))
noncomputable def K49h_0 (R : (Bool) → XH → Prop) : Exit → St → Prop := seqK ((awp X49h.tt (callN Try.prog X49h 0) (X49h.md 49) 1 (X49h.mk1 49) 0 (codeAt [1, 1, 1] (bd Try.f49))) (retK tt Try.f49.results.toList fun x s' => xfin [(.pure .bool)] R x ⟨[], s'.hp, s'.T⟩)) (retK tt Try.f49.results.toList fun x s' => xfin [(.pure .bool)] R x ⟨[], s'.hp, s'.T⟩)
noncomputable def Q49h_0 (R : (Bool) → XH → Prop) : Exit → St → Prop := (blockK 0 (K49h_0 R))
theorem E49h (X : XH) (a0 : (Option SlH)) (b1 : (List Int)) {R : (Bool) → XH → Prop} (h : ((((((slN a0) : Nat) : Int) != ((b1).length : Int)) = true → R false X) ∧
 (((((slN a0) : Nat) : Int) != ((b1).length : Int)) = false → (Loops B49h_0 M49h_0 (Q49h_0 R)
  (S49h_0 a0 b1 (0 : Int) X ⟨0, []⟩))))) :
  fnK X49h.tt (callN Try.prog X49h 0) (X49h.md 49) (X49h.mk1 49) Try.f49 [(.sl (.pure (.int .i64)) a0), (.v (.list (.int .i64) b1 .no))] ⟨[], [some (.heap X)], ⟨0, []⟩⟩ (xfin [(.pure .bool)] R) := Eq.mp (by kernel_rfl) h
theorem L49h_0 (a0 : Option SlH) (b1 : List Int) (i5 : Int) (hq0 : XH) (T : Toks) {R : (Bool) → XH → Prop} {k0 : St → Prop}
 (h : (((decide (i5 < (((slN a0) : Nat) : Int))) = true → (∃ (u1 : SlH), a0 = some u1 ∧ 0 ≤ i5 ∧ i5 < ((u1.len : Nat) : Int) ∧ (∃ (a2 : Int), XH.el hq0 (.pure (.int .i64)) u1.h ((u1.off + (i5).toNat)) = some a2 ∧ (0 ≤ i5 ∧ i5 < ((b1).length : Int) ∧ (((a2 != (b1.getD (i5).toNat 0)) = true → R false hq0) ∧
 ((a2 != (b1.getD (i5).toNat 0)) = false → k0 (S49h_0 a0 b1 ((IntKind.wrap .i64 (i5 + (1 : Int)))) hq0 T))))))) ∧
 ((decide (i5 < (((slN a0) : Nat) : Int))) = false → R true hq0))) :
  B49h_0 (loopQ M49h_0 k0 (Q49h_0 R)) (S49h_0 a0 b1 i5 hq0 T) := Eq.mp (by kernel_rfl) h
end Go.Proofs.Ytaaedebknacheaa.AB

set_option linter.unusedVariables false
set_option linter.unusedSimpArgs false
namespace Go.Proofs.Ytaaedebknacheaa.AB
open Go

variable {X X' : XH} {t : Nat} {d : DT}

theorem Post.refl (h : Rep X t d) : Post X t d X d.ab := ⟨d, h, .refl _ _, rfl⟩

def MT.nextR (m : MT) (pick : Int) : (Int × Bool) × MT :=
  if 0 < m.run ∨ m.queue = [] then ((0, false), m) else ((m.queue.getD (pickN pick m.queue.length).toNat 0, true), m.next (pickN pick m.queue.length).toNat)
def MT.startR (m : MT) (f : Fr) : (Int × Int) × MT := if 64 ≤ m.rows.length then ((0, 3), m) else ((m.last + 1, 0), m.start f)
def MT.yieldR (m : MT) : Int × MT := if m.run = 0 then (25, m) else (0, (m.rest 1).ready m.run)
def MT.joinR (m : MT) (other : Int) : (Bool × Int) × MT :=
  if m.run = 0 then ((false, 25), m) else if other < 1 ∨ m.last < other then ((false, 24), m) else if other = m.run then ((false, 25), m) else
    match m.get other with
    | none => ((true, 0), m)
    | some _ => ((false, 0), (m.rest 4).join other m.run)
def MT.endR (m : MT) : (List Int × Int) × MT :=
  if m.run = 0 then (([], 25), m) else
    match m.get m.run with
    | none => (([], 0), m)
    | some a => ((a.joins, 0), a.joins.foldl MT.ready ((m.rest 5).del m.run))

/-- a number that is a thread's -/
def MT.has (m : MT) (id : Int) : Prop := ∃ a ∈ m.rows, a.id = id

instance (m : MT) (id : Int) : Decidable (m.has id) := List.decidableBEx _ _

theorem has_updAb {l : List Ab} {id0 id : Int} {f : Ab → Ab} (hf : ∀ a, (f a).id = a.id) : (∃ a ∈ updAb id0 f l, a.id = id) ↔ ∃ a ∈ l, a.id = id := by
  simp only [updAb, List.mem_map]
  constructor
  · rintro ⟨_, ⟨a, ha, rfl⟩, he⟩
    refine ⟨a, ha, ?_⟩
    split at he
    · rw [hf] at he; exact he
    · exact he
  · rintro ⟨a, ha, he⟩
    refine ⟨_, ⟨a, ha, rfl⟩, ?_⟩
    split
    · rw [hf]; exact he
    · exact he

theorem x18 (h : Rep X t d) {pick : Int} (h1 : -9223372036854775808 ≤ pick) (h2 : pick ≤ 9223372036854775807) (hids : ∀ id ∈ d.ab.queue, d.ab.has id) (hlen : d.ab.queue.length * 8 ≤ room) :
    XC Try.prog 18 [.pure (.int .i64), .pure .bool] [.ref (some t) cthread_Table 0 [], .v (.int .i64 pick)] X fun p X' => p = (d.ab.nextR pick).1 ∧ Post X t d X' (d.ab.nextR pick).2 := by
  refine (c18 h h1 h2 hids hlen).mono ?_
  rintro p X' (⟨h3, rfl, rfl⟩ | ⟨h3, h4, rfl, h5⟩)
  · have : d.ab.nextR pick = ((0, false), d.ab) := by unfold MT.nextR; rw [if_pos (show 0 < d.ab.run ∨ d.ab.queue = [] from h3)]
    rw [this]; exact ⟨rfl, .refl h⟩
  · have : d.ab.nextR pick = ((d.queue.getD (pickN pick d.queue.length).toNat 0, true), d.ab.next (pickN pick d.queue.length).toNat) := by
      unfold MT.nextR; rw [if_neg (fun e : 0 < d.ab.run ∨ d.ab.queue = [] => e.elim h3 h4)]; rfl
    rw [this]; exact ⟨rfl, h5⟩

theorem x17 (h : Rep X t d) {f : Fr} (hf : Small f) (hn : Nums d.ab) (hlen : (d.ab.queue.length + 1) * 8 ≤ room) :
    XC Try.prog 17 [.pure (.int .i64), .pure (.int .i64)] [.ref (some t) cthread_Table 0 [], .v (.agg [.int .i64 f.1, .int .i64 f.2.1, .list (.int .i64) f.2.2.1 .no, .list (.int .i64) f.2.2.2 .no])] X fun p X' =>
      p = (d.ab.startR f).1 ∧ Post X t d X' (d.ab.startR f).2 := by
  refine (c17 h hf hn hlen).mono ?_
  rintro p X' (⟨h3, rfl, rfl⟩ | ⟨h3, rfl, h5⟩)
  · unfold MT.startR; rw [if_pos h3]; exact ⟨rfl, .refl h⟩
  · unfold MT.startR; rw [if_neg h3]; exact ⟨rfl, h5⟩

theorem x19 (h : Rep X t d) (hid : d.ab.run ≠ 0 → d.ab.has d.ab.run) (hlen : (d.ab.queue.length + 1) * 8 ≤ room) :
    XC Try.prog 19 [.pure (.int .i64)] [.ref (some t) cthread_Table 0 []] X fun p X' => p = d.ab.yieldR.1 ∧ Post X t d X' d.ab.yieldR.2 := by
  refine (c19 h hid hlen).mono ?_
  rintro p X' (⟨h3, rfl, rfl⟩ | ⟨h3, rfl, h5⟩)
  · have h3 : d.ab.run = 0 := h3
    unfold MT.yieldR; rw [if_pos h3]; exact ⟨rfl, .refl h⟩
  · have h3 : ¬ d.ab.run = 0 := h3
    unfold MT.yieldR; rw [if_neg h3]; exact ⟨rfl, h5⟩

theorem x47 (h : Rep X t d) {other : Int} (hid : d.ab.run ≠ 0 → d.ab.has d.ab.run) (hlen : ∀ a ∈ d.ab.rows, (a.joins.length + 1) * 8 ≤ room) :
    XC Try.prog 47 [.pure .bool, .pure (.int .i64)] [.ref (some t) cthread_Table 0 [], .v (.int .i64 other)] X fun p X' => p = (d.ab.joinR other).1 ∧ Post X t d X' (d.ab.joinR other).2 := by
  have same : ∀ {p : Bool × Int}, d.ab.joinR other = (p, d.ab) → p = (d.ab.joinR other).1 ∧ Post X t d X (d.ab.joinR other).2 := by
    intro p e; rw [e]; exact ⟨rfl, .refl h⟩
  have r0 : d.ab.run = d.run := rfl
  have l0 : d.ab.last = d.last := rfl
  refine xcOf (X := X47) rfl FN47 (by kernel_rfl) (by decide) (E47 X t other ⟨_, h.box.el, fun e => same ?_, fun e => ⟨fun e1 => same ?_, fun e1 => ⟨_, h.box.el, fun e2 => same ?_, fun e2 => ⟨_, h.box.el, fun e3 => same ?_, fun e3 => ⟨_, h.box.el, ents d.rows, h.mp, ?_, ?_⟩⟩⟩⟩⟩)
  · have e : d.run = 0 := by simpa using e
    unfold MT.joinR; rw [if_pos (r0.trans e)]
  · have e : d.run ≠ 0 := by simpa using e
    have e1 : other < 1 := by simpa using e1
    unfold MT.joinR; rw [if_neg (by rw [r0]; exact e), if_pos (.inl e1)]
  · have e : d.run ≠ 0 := by simpa using e
    have e2 : d.last < other := by simpa using e2
    unfold MT.joinR; rw [if_neg (by rw [r0]; exact e), if_pos (.inr (by rw [l0]; exact e2))]
  · have e : d.run ≠ 0 := by simpa using e
    have e1 : ¬ other < 1 := by simpa using e1
    have e2 : ¬ d.last < other := by simpa using e2
    have e3 : other = d.run := by simpa using e3
    unfold MT.joinR; rw [if_neg (by rw [r0]; exact e), if_neg (by rw [l0]; exact fun q => q.elim e1 e2), if_pos (by rw [r0]; exact e3)]
  · have e : d.run ≠ 0 := by simpa using e
    have e1 : ¬ other < 1 := by simpa using e1
    have e2 : ¬ d.last < other := by simpa using e2
    have e3 : other ≠ d.run := by simpa using e3
    intro v hv
    by_cases hid2 : ∃ a ∈ d.ab.rows, a.id = other
    · obtain ⟨l1, r, l2, hd, he, hm, hr, hn⟩ := h.one hid2
      rw [hm] at hv; cases hv
      have hg := get_one h.ids hd he
      have hres : d.ab.joinR other = ((false, 0), (d.ab.rest 4).join other d.ab.run) := by
        unfold MT.joinR
        rw [if_neg (by rw [r0]; exact e), if_neg (by rw [l0]; exact fun q => q.elim e1 e2), if_neg (by rw [r0]; exact e3), hg]
      refine ⟨fun e => (by cases e), fun _ => (c58 h (s := 4) hid).mono ?_⟩
      rintro p X8 (⟨h1, _, _⟩ | ⟨h1, rfl, d8, s1, s2, s3, s4⟩)
      · exact absurd h1 e
      -- the one that is joined, again
      have hid8 : ∃ a ∈ d8.ab.rows, a.id = other := by
        rw [s3]; exact (has_updAb (l := d.ab.rows) (f := fun a => { a with st := 4 }) (fun _ => rfl)).2 hid2
      obtain ⟨m1, q, m2, gd, ge, gm, gr, gn⟩ := s1.one hid8
      have hqh : q.h = r.h := by
        rw [s4, hm] at gm
        exact (Option.some.inj (Option.some.inj gm)).symm
      have bq := gr.box
      have bj := gr.jn
      rw [← hqh]
      have hw : (q.joins.length + 1) * 8 ≤ room := by
        have hq' : q.toAb ∈ d8.ab.rows := by simp [DT.ab, gd]
        rw [s3] at hq'
        obtain ⟨a, ha, hae⟩ := List.mem_map.1 hq'
        have := hlen a ha
        split at hae <;> rw [← hae] <;> exact this
      refine ⟨_, bq.el, q.joins, [d.run], bj.view, rfl, ?_, fun X13 s14 hx => ?_⟩
      · dsimp only; rw [bj.len]; exact hw
      · obtain ⟨b1, b2⟩ := hx.spec bj
        have hnq : q.h ∉ hl q.jn := fun e => (List.nodup_cons.1 gn).1 (List.mem_append_right _ e)
        have hns : q.h ∉ hl s14 := fun e => (b2.own _ e).elim hnq fun e => absurd bq.lt (by omega)
        have bq13 := bq.keep (b2.keep _ bq.lt hnq)
        refine ⟨_, bq13.el, fun X17 e17 => ?_⟩
        rw [bq13.setEl] at e17
        have hfr : ∀ k ∈ hl q.fr, k ∉ hl q.jn ∧ k ≠ q.h := fun k hk => by
          have := List.nodup_cons.1 gn
          refine ⟨fun e => ?_, fun e => this.1 (List.mem_append_left _ (e ▸ hk))⟩
          exact (List.nodup_append.1 this.2).2.2 k hk k e rfl
        have mv : Mv X8 q.hs X17 (Thr.hs { q with joins := q.joins ++ [d.run], jn := s14 }) := by
          rw [e17]
          refine (b2.weak (T := q.hs) (T' := q.h :: (hl q.fr ++ hl s14)) (fun k hk => List.mem_cons_of_mem _ (List.mem_append_right _ hk)) fun k hk => ?_).trans (Mv.set (List.mem_cons_self ..))
          rcases List.mem_cons.1 hk with rfl | hk
          · exact .inr (List.mem_cons_self ..)
          · rcases List.mem_append.1 hk with hk | hk
            · exact .inr (List.mem_cons_of_mem _ (List.mem_append_left _ hk))
            · exact .inl hk
        have hn' : (Thr.hs { q with joins := q.joins ++ [d.run], jn := s14 }).Nodup := by
          have g1 := List.nodup_cons.1 gn
          have g2 := List.nodup_append.1 g1.2
          refine List.nodup_cons.2 ⟨fun e => ?_, List.nodup_append.2 ⟨hl_nodup _, hl_nodup _, fun a ha b hb e => ?_⟩⟩
          · rcases List.mem_append.1 e with e | e
            · exact g1.1 (List.mem_append_left _ e)
            · exact hns e
          · subst e
            rcases b2.own a hb with e | e
            · exact g2.2.2 a ha a e rfl
            · exact absurd (gr.fr.lt a ha) (by omega)
        have hr' : ThrAt X17 { q with joins := q.joins ++ [d.run], jn := s14 } := by
          refine ⟨?_, gr.fr.keep fun k hk => ?_, b1.keep fun k hk => ?_⟩
          · rw [e17]; exact bq13.set
          · have := hfr k hk
            rw [e17, at_set_ne this.2, b2.keep k (gr.fr.lt k hk) this.1]
          · rw [e17]; exact at_set_ne fun e => hns (e ▸ hk)
        obtain ⟨z1, z2⟩ := s1.row (r' := { q with joins := q.joins ++ [d.run], jn := s14 }) gd rfl rfl mv hn' hr'
        rw [hres]
        refine ⟨rfl, _, z1, s2.trans z2, ?_⟩
        have hu := upd_split (r' := { q with joins := q.joins ++ [d.run], jn := s14 }) (f := fun a => { a with joins := a.joins ++ [d.run] }) s1.ids gd ge rfl
        simp only [DT.ab, MT.join]
        have s3r : d8.rows.map (·.toAb) = (d.ab.rest 4).rows := congrArg MT.rows s3
        have s3l : d8.last = d.last := congrArg MT.last s3
        have s3q : d8.queue = d.queue := congrArg MT.queue s3
        have s3u : d8.run = 0 := congrArg MT.run s3
        rw [hu, s3r, s3l, s3q, s3u]
        rfl
    · rw [h.gone fun a ha e => hid2 ⟨a, ha, e⟩] at hv; cases hv
  · have e : d.run ≠ 0 := by simpa using e
    have e1 : ¬ other < 1 := by simpa using e1
    have e2 : ¬ d.last < other := by simpa using e2
    have e3 : other ≠ d.run := by simpa using e3
    intro hv
    refine ⟨fun _ => same ?_, fun e => (by cases e)⟩
    have hg : d.ab.get other = none := by
      refine get_none fun a ha he => ?_
      obtain ⟨l1, r, l2, hd, he, hm, hr, hn⟩ := h.one ⟨a, ha, he⟩
      rw [hm] at hv; cases hv
    unfold MT.joinR
    rw [if_neg (by rw [r0]; exact e), if_neg (by rw [l0]; exact fun q => q.elim e1 e2), if_neg (by rw [r0]; exact e3), hg]

end Go.Proofs.Ytaaedebknacheaa.AB

set_option linter.unusedVariables false
set_option linter.unusedSimpArgs false
namespace Go.Proofs.Ytaaedebknacheaa.AB
open Go

variable {X X' : XH} {t : Nat} {d : DT}

theorem mdel_split {l1 l2 : List Thr} {r : Thr} {id : Int} (hid : r.id = id) (h : ∀ x ∈ l1, x.id ≠ id) : mdel (Cd.keq (.int .i64) id) (ents (l1 ++ r :: l2)) = ents (l1 ++ l2) := by
  induction l1 with
  | nil => simp [ents, mdel, keq_int, hid]
  | cons a l1 ih =>
    have e : ¬ id = a.id := fun e => h a (List.mem_cons_self ..) e.symm
    have := ih fun x hx => h x (List.mem_cons_of_mem _ hx)
    simp only [ents, List.cons_append, List.map_cons, mdel, keq_int, e, decide_false] at this ⊢
    rw [this]

theorem Rep.del (h : Rep X t d) {id : Int} {l1 l2 : List Thr} {r : Thr} (hd : d.rows = l1 ++ r :: l2) (hid : r.id = id)
    (h1 : X' = X.set d.hm (.map (.int .i64) (.ref cthread_one) (mdel (Cd.keq (.int .i64) id) (ents d.rows)))) :
    Rep X' t ⟨d.hm, d.last, d.run, d.q, d.queue, l1 ++ l2⟩ ∧ Mv X (t :: d.hs) X' (t :: DT.hs ⟨d.hm, d.last, d.run, d.q, d.queue, l1 ++ l2⟩) ∧
      DT.ab ⟨d.hm, d.last, d.run, d.q, d.queue, l1 ++ l2⟩ = d.ab.del id ∧ (∀ k ∈ r.hs, k ∉ t :: DT.hs ⟨d.hm, d.last, d.run, d.q, d.queue, l1 ++ l2⟩) ∧ ∀ k ∈ r.hs, X'.at k = X.at k := by
  have hids := h.ids
  rw [hd] at hids
  simp only [List.map_append, List.map_cons, List.nodup_append, List.nodup_cons] at hids
  obtain ⟨i1, ⟨i2, i3⟩, i4⟩ := hids
  have n1 : ∀ x ∈ l1, x.id ≠ id := fun x hx e => i4 x.id (List.mem_map.2 ⟨x, hx, rfl⟩) r.id (List.mem_cons_self ..) (e.trans hid.symm)
  have n2 : ∀ x ∈ l2, x.id ≠ id := fun x hx e => i2 (by rw [hid, ← e]; exact List.mem_map.2 ⟨x, hx, rfl⟩)
  rw [hd, mdel_split hid n1] at h1
  have hs := h.sep
  have e0 : t :: d.hs = (t :: d.hm :: (hl d.q ++ l1.flatMap Thr.hs)) ++ r.hs ++ l2.flatMap Thr.hs := by simp [DT.hs, hd]
  have e1 : t :: DT.hs ⟨d.hm, d.last, d.run, d.q, d.queue, l1 ++ l2⟩ = (t :: d.hm :: (hl d.q ++ l1.flatMap Thr.hs)) ++ [] ++ l2.flatMap Thr.hs := by simp [DT.hs]
  have hlt := h.lt
  have hs0 := hs
  rw [e0, List.append_assoc, List.nodup_append] at hs0
  obtain ⟨s1, s2, s3⟩ := hs0
  rw [List.nodup_append] at s2
  have hmr : ∀ k, k ∈ hl d.q ++ (l1 ++ r :: l2).flatMap Thr.hs → k ≠ d.hm := by
    intro k hk e
    have hs' := hs
    simp only [DT.hs, hd, List.nodup_cons] at hs'
    exact hs'.2.1 (e ▸ hk)
  have htm : t ≠ d.hm := fun e => by
    have hs' := hs
    simp only [DT.hs, List.nodup_cons] at hs'
    exact hs'.1 (by rw [e]; exact List.mem_cons_self ..)
  have old : ∀ k, k ≠ d.hm → X'.at k = X.at k := fun k hk => by rw [h1]; exact at_set_ne hk
  have hrow : ∀ x ∈ l1 ++ r :: l2, ∀ k ∈ x.hs, X'.at k = X.at k := fun x hx k hk => old k (hmr k (List.mem_append_right _ (List.mem_flatMap.2 ⟨x, hx, hk⟩)))
  have sep' : (t :: DT.hs ⟨d.hm, d.last, d.run, d.q, d.queue, l1 ++ l2⟩).Nodup := by
    rw [e1]
    rw [e0] at hs
    refine nodup_swap (n := X.n) hs (fun k hk => ?_) List.nodup_nil (by simp)
    rcases List.mem_append.1 hk with hk | hk
    · exact hlt k (by rw [e0]; exact List.mem_append_left _ (List.mem_append_left _ hk))
    · exact hlt k (by rw [e0]; exact List.mem_append_right _ hk)
  refine ⟨⟨h.box.keep (old t htm), ?_, h.q.keep fun k hk => old k (hmr k (List.mem_append_left _ hk)), fun x hx => ?_, ?_, sep'⟩, ?_, ?_, ?_, hrow r (by simp)⟩
  · rw [h1]; exact at_set_self h.map
  · have : x ∈ l1 ++ r :: l2 := by
      rcases List.mem_append.1 hx with hx | hx
      · exact List.mem_append_left _ hx
      · exact List.mem_append_right _ (List.mem_cons_of_mem _ hx)
    exact (h.rows x (by rw [hd]; exact this)).keep (hrow x this)
  · simp only [List.map_append, List.nodup_append]
    exact ⟨i1, i3, fun a ha b hb => i4 a ha b (List.mem_cons_of_mem _ hb)⟩
  · refine (Mv.set (h := d.hm) (S := t :: d.hs) (by simp [DT.hs]) |>.weak (fun _ h => h) (T' := t :: DT.hs ⟨d.hm, d.last, d.run, d.q, d.queue, l1 ++ l2⟩) fun k hk => .inl ?_) |> (fun m => by rw [h1]; exact m)
    rw [e0]
    rw [e1] at hk
    rcases List.mem_append.1 hk with hk | hk
    · rw [List.append_nil] at hk
      exact List.mem_append_left _ (List.mem_append_left _ hk)
    · exact List.mem_append_right _ hk
  · simp only [DT.ab, MT.del, hd, List.map_append, List.map_cons, List.filter_append]
    have k1 : ∀ q : List Thr, (∀ x ∈ q, x.id ≠ id) → (q.map (·.toAb)).filter (fun a => decide (a.id ≠ id)) = q.map (·.toAb) := fun q hq => by
      rw [List.filter_eq_self]
      intro a ha
      obtain ⟨x, hx, rfl⟩ := List.mem_map.1 ha
      simpa using hq x hx
    rw [k1 l1 n1, List.filter_cons_of_neg (by simp [hid]), k1 l2 n2]
  · intro k hk e
    rw [e1, List.append_nil] at e
    rcases List.mem_append.1 e with e | e
    · exact s3 k e k (List.mem_append_left _ hk) rfl
    · exact s2.2.2 k hk k e rfl

theorem has_ready {m : MT} {id j : Int} : (m.ready id).has j ↔ m.has j := has_updAb (f := fun a => { a with st := 1 }) fun _ => rfl

theorem has_fold {m : MT} {j : Int} : ∀ l : List Int, (l.foldl MT.ready m).has j ↔ m.has j := by
  intro l
  induction l generalizing m with
  | nil => exact Iff.rfl
  | cons a l ih => exact ih.trans has_ready

theorem len_fold {m : MT} : ∀ l : List Int, (l.foldl MT.ready m).queue.length = m.queue.length + l.length := by
  intro l
  induction l generalizing m with
  | nil => rfl
  | cons a l ih => simp only [List.foldl_cons, ih, MT.ready, List.length_append, List.length_cons, List.length_nil]; omega

theorem x48 (h : Rep X t d) (hid : d.ab.run ≠ 0 → d.ab.has d.ab.run) (hj : ∀ a, d.ab.get d.ab.run = some a → a.joins.length < 1000000 ∧ ∀ j ∈ a.joins, ((d.ab.rest 5).del d.ab.run).has j) (hlen : d.ab.queue.length < 1000000) :
    XC Try.prog 48 [.sl cI, .pure (.int .i64)] [.ref (some t) cthread_Table 0 []] X fun p X' => ∃ l, SlAt X' cI p.1 l ∧ (l, p.2) = d.ab.endR.1 ∧ Post X t d X' d.ab.endR.2 := by
  refine xcOf (X := X48) rfl FN48 (by kernel_rfl) (by decide) (E48 X t ((c58 h hid).mono ?_))
  rintro p X2 (⟨h1, rfl, rfl⟩ | ⟨h1, rfl, d2, s1, s2, s3, s4⟩)
  · refine ⟨fun _ => ⟨[], rfl, ?_, ?_⟩, fun e => (by cases e)⟩
    · have h1 : d.ab.run = 0 := h1
      unfold MT.endR; rw [if_pos h1]; rfl
    · have h1 : d.ab.run = 0 := h1
      unfold MT.endR; rw [if_pos h1]; exact .refl h
  · refine ⟨fun e => (by cases e), fun _ => ?_⟩
    have hr0 : d.ab.run ≠ 0 := h1
    have hid2 : ∃ a ∈ d2.ab.rows, a.id = d.run := by
      rw [s3]; exact (has_updAb (l := d.ab.rows) (f := fun a => { a with st := 5 }) (fun _ => rfl)).2 (hid hr0)
    obtain ⟨l1, r, l2, gd, ge, gm, gr, gn⟩ := s1.one hid2
    refine ⟨_, s1.box.el, ents d2.rows, s1.mp, ?_, fun e => by rw [gm] at e; cases e⟩
    intro v hv
    rw [gm] at hv; cases hv
    refine ⟨_, gr.box.el, _, s1.box.el, d2.hm, ents d2.rows, rfl, mp_at.2 s1.map, fun X11 e11 => ?_⟩
    obtain ⟨b1, b2, b3, b4, b5⟩ := s1.del gd ge e11
    -- the one that ends
    obtain ⟨a, hga⟩ : ∃ a, d.ab.get d.run = some a := by
      obtain ⟨m1, r0, m2, gd0, ge0, _, _, _⟩ := h.one (hid hr0)
      exact ⟨_, get_one h.ids gd0 ge0⟩
    have hja : a.joins = r.joins := by
      obtain ⟨m1, r0, m2, gd0, ge0, gm0, gr0, gn0⟩ := h.one (hid hr0)
      have e1 := get_one h.ids gd0 ge0
      have ge0' : r0.id = d.run := ge0
      have hga' : d.ab.get d.ab.run = some a := hga
      rw [e1] at hga'; cases hga'
      have e2 := get_one s1.ids gd ge
      have e3 : d2.ab.get d.run = (d.ab.rest 5).get d.run := by rw [s3]
      have u1 := upd_split (r' := { r0 with st := 5 }) (f := fun a => { a with st := 5 }) h.ids gd0 ge0 rfl
      have e4 : (d.ab.rest 5).get d.run = some ({ r0 with st := 5 } : Thr).toAb := by
        show List.find? _ (updAb d.ab.run _ (d.rows.map (·.toAb))) = _
        rw [← u1]
        exact get_one (d := ⟨d.hm, d.last, d.run, d.q, d.queue, m1 ++ { r0 with st := 5 } :: m2⟩) (by
          have := h.ids
          rw [gd0] at this
          simpa using this) rfl ge0
      rw [e3, e4] at e2
      have e5 : r0.joins = r.joins := congrArg (fun q : Option Ab => (q.getD ⟨0, 0, [], []⟩).joins) e2
      exact e5
    have hja2 := hj a hga
    rw [hja] at hja2
    have hend : d.ab.endR = ((r.joins, 0), r.joins.foldl MT.ready ((d.ab.rest 5).del d.ab.run)) := by
      unfold MT.endR
      rw [if_neg hr0, show d.ab.get d.ab.run = some a from hga]
      simp only [hja]
    have hjl := gr.jn.len
    have habd : DT.ab ⟨d2.hm, d2.last, d2.run, d2.q, d2.queue, l1 ++ l2⟩ = (d.ab.rest 5).del d.ab.run := by rw [b3, s3]; rfl
    refine Loops.intro (fun a : Nat × XH × DT × Toks => S48_0 t r.jn r.jn (((slN r.jn : Nat) : Int)) (a.1 : Int) a.2.1 a.2.2.2)
      (fun a => a.1 ≤ r.joins.length ∧ Rep a.2.1 t a.2.2.1 ∧ Mv X (t :: d.hs) a.2.1 (t :: a.2.2.1.hs) ∧ a.2.2.1.ab = (r.joins.take a.1).foldl MT.ready ((d.ab.rest 5).del d.ab.run) ∧
        SlAt a.2.1 cI r.jn r.joins ∧ ∀ k ∈ hl r.jn, k ∉ t :: a.2.2.1.hs) (fun a => r.joins.length - a.1) (0, X11, ⟨d2.hm, d2.last, d2.run, d2.q, d2.queue, l1 ++ l2⟩, ⟨0, []⟩) rfl
      ⟨Nat.zero_le _, b1, s2.trans b2, habd, gr.jn.keep fun k hk => b5 k (List.mem_cons_of_mem _ (List.mem_append_right _ hk)), fun k hk => b4 k (List.mem_cons_of_mem _ (List.mem_append_right _ hk))⟩ ?_
    rintro ⟨i, Xi, di, T⟩ ⟨j1, j2, j3, j4, j5, j6⟩
    simp only at j1 j2 j3 j4 j5 j6
    refine L48_0 t r.jn r.jn _ (i : Int) Xi T ⟨fun e => ?_, fun e => ?_⟩
    · have hi : i < r.joins.length := by
        have : (i : Int) < ((slN r.jn : Nat) : Int) := by simpa using e
        rw [hjl] at this; omega
      obtain ⟨u, hu⟩ : ∃ u, r.jn = some u := by
        cases hq : r.jn with
        | none => rw [hq] at hjl; simp [slN] at hjl; omega
        | some u => exact ⟨u, rfl⟩
      have hul : u.len = r.joins.length := by rw [hu] at hjl; exact hjl
      have hsl : SlAt Xi cI (some u) r.joins := by rw [← hu]; exact j5
      refine ⟨u, hu, by omega, by omega, r.joins[i], ?_, ?_⟩
      · rw [Int.toNat_natCast]; exact hsl.el hi
      have hh : di.ab.has r.joins[i] := by
        rw [j4]; exact (has_fold _).2 (hja2.2 _ (List.getElem_mem _))
      have hql : di.queue.length = d.queue.length + i := by
        have : di.ab.queue.length = ((r.joins.take i).foldl MT.ready ((d.ab.rest 5).del d.ab.run)).queue.length := by rw [j4]
        rw [len_fold] at this
        rw [List.length_take, Nat.min_eq_left j1] at this
        exact this
      have hlen' : d.queue.length < 1000000 := hlen
      refine (c56 j2 hh (by rw [hql]; unfold room; omega)).mono ?_
      rintro _ X15 ⟨d15, z1, z2, z3⟩
      rw [wrap64 (by omega) (by omega)]
      refine Again.mk (i + 1, X15, d15, T) rfl ⟨by simp only; omega, z1, j3.trans z2, ?_, ?_, ?_⟩ (by simp only; omega)
      · simp only
        rw [z3, j4, List.take_succ_eq_append_getElem hi, List.foldl_append]
        rfl
      · exact j5.keep fun k hk => z2.keep k (j5.lt k hk) (j6 k hk)
      · intro k hk e
        rcases z2.own k e with e | e
        · exact j6 k hk e
        · exact absurd (j5.lt k hk) (by omega)
    · have hi : i = r.joins.length := by
        have : ¬ (i : Int) < ((slN r.jn : Nat) : Int) := by simpa using e
        rw [hjl] at this; omega
      subst hi
      rw [List.take_length] at j4
      refine ⟨r.joins, j5, ?_, ?_⟩
      · rw [hend]; rfl
      · rw [hend]; exact ⟨di, j2, j3, j4⟩

end Go.Proofs.Ytaaedebknacheaa.AB

set_option linter.unusedVariables false
set_option linter.unusedSimpArgs false
set_option maxRecDepth 100000
set_option maxHeartbeats 2000000
namespace Go.Proofs.Ytaaedebknacheaa.AB
open Go
/-! crucible/cruciblelaw18.shown -/
noncomputable def X14 : Cx := ⟨tt, [(49, [.cd .bool])], [(15, [(.ref cthread_Table)]), (17, [(.pure (.int .i64)), (.pure (.int .i64))]), (18, [(.pure (.int .i64)), (.pure .bool)]), (19, [(.pure (.int .i64))]), (20, [(.pure (.slice (.int .i64)))]), (47, [(.pure .bool), (.pure (.int .i64))]), (48, [(.sl (.pure (.int .i64))), (.pure (.int .i64))]), (49, [(.pure .bool)]), (53, [(.pure (.int .i64))])], [(14, [(1, 0, .xc), (4, 2, .xc), (5, 2, .xc), (6, 2, .xc), (7, 1, .xc), (8, 1, .rd), (9, 28, .rd), (11, 1, .xc), (12, 1, .xc), (13, 1, .xc), (14, 1, .xc), (15, 1, .xc), (16, 2, .rd), (17, 1, .rd), (18, 1, .xc), (19, 1, .xc), (20, 1, .xc), (21, 1, .xc)])], [], []⟩
theorem FN14 : fnsB Try.prog X14.fns := (show True from trivial)
theorem E14 {R : V → Prop} (h : (XC Try.prog 15 [(.ref cthread_Table)] [] XH.none (fun (p1 : (Option Nat)) (X2 : XH) => (((Option.isNone p1) = true → R (.bool false)) ∧
 ((Option.isNone p1) = false → (XC Try.prog 17 [(.pure (.int .i64)), (.pure (.int .i64))] [(.ref p1 cthread_Table 0 []), (.v (.agg [(.int .i64 (0 : Int)), (.int .i64 (0 : Int)), (.list (.int .i64) ([] : List Int) .no), (.list (.int .i64) ([] : List Int) .no)]))] X2 (fun (p3 : Int × Int) (X4 : XH) => (XC Try.prog 17 [(.pure (.int .i64)), (.pure (.int .i64))] [(.ref p1 cthread_Table 0 []), (.v (.agg [(.int .i64 (0 : Int)), (.int .i64 (0 : Int)), (.list (.int .i64) ([] : List Int) .no), (.list (.int .i64) ([] : List Int) .no)]))] X4 (fun (p5 : Int × Int) (X6 : XH) => (XC Try.prog 17 [(.pure (.int .i64)), (.pure (.int .i64))] [(.ref p1 cthread_Table 0 []), (.v (.agg [(.int .i64 (0 : Int)), (.int .i64 (0 : Int)), (.list (.int .i64) ([] : List Int) .no), (.list (.int .i64) ([] : List Int) .no)]))] X6 (fun (p7 : Int × Int) (X8 : XH) => (XC Try.prog 18 [(.pure (.int .i64)), (.pure .bool)] [(.ref p1 cthread_Table 0 []), (.v (.int .i64 (1 : Int)))] X8 (fun (p9 : Int × Bool) (X10 : XH) => (∃ (p11 : (List Int)), RC Try.prog 20 [(.pure (.slice (.int .i64)))] [(.ref p1 cthread_Table 0 [])] X10 p11 ∧ (∃ p12 : Bool, PC Try.prog 49 [(.list (.int .i64) p11 .no), (.list (.int .i64) (([(1 : Int), (3 : Int)] : List Int)) .no)] (.bool p12) ∧ (((p3.1 != (1 : Int)) = true → R (.bool false)) ∧ ((p3.1 != (1 : Int)) = false → (((p5.1 != (2 : Int)) = true → R (.bool false)) ∧ ((p5.1 != (2 : Int)) = false → (((p7.1 != (3 : Int)) = true → R (.bool false)) ∧ ((p7.1 != (3 : Int)) = false → (((p7.2 != (0 : Int)) = true → R (.bool false)) ∧ ((p7.2 != (0 : Int)) = false → (((p9.1 != (2 : Int)) = true → R (.bool false)) ∧ ((p9.1 != (2 : Int)) = false → (((!p9.2) = true → R (.bool false)) ∧ ((!p9.2) = false → (((!p12) = true → R (.bool false)) ∧ ((!p12) = false → (∃ (p13 : Int), RC Try.prog 53 [(.pure (.int .i64))] [(.ref p1 cthread_Table 0 [])] X10 p13 ∧ (((p13 != (2 : Int)) = true → R (.bool false)) ∧
 ((p13 != (2 : Int)) = false → (XC Try.prog 19 [(.pure (.int .i64))] [(.ref p1 cthread_Table 0 [])] X10 (fun (p14 : Int) (X15 : XH) => (XC Try.prog 18 [(.pure (.int .i64)), (.pure .bool)] [(.ref p1 cthread_Table 0 []), (.v (.int .i64 (0 : Int)))] X15 (fun (p16 : Int × Bool) (X17 : XH) => (XC Try.prog 47 [(.pure .bool), (.pure (.int .i64))] [(.ref p1 cthread_Table 0 []), (.v (.int .i64 (2 : Int)))] X17 (fun (p18 : Bool × Int) (X19 : XH) => (XC Try.prog 18 [(.pure (.int .i64)), (.pure .bool)] [(.ref p1 cthread_Table 0 []), (.v (.int .i64 (1 : Int)))] X19 (fun (p20 : Int × Bool) (X21 : XH) => (XC Try.prog 48 [(.sl (.pure (.int .i64))), (.pure (.int .i64))] [(.ref p1 cthread_Table 0 [])] X21 (fun (p22 : (Option SlH) × Int) (X23 : XH) => (∃ (p24 : Bool), RC Try.prog 49 [(.pure .bool)] [(.sl (.pure (.int .i64)) p22.1), (.v (.list (.int .i64) (([(1 : Int)] : List Int)) .no))] X23 p24 ∧ (∃ (p25 : (List Int)), RC Try.prog 20 [(.pure (.slice (.int .i64)))] [(.ref p1 cthread_Table 0 [])] X23 p25 ∧ (∃ p26 : Bool, PC Try.prog 49 [(.list (.int .i64) p25 .no), (.list (.int .i64) (([(3 : Int), (1 : Int)] : List Int)) .no)] (.bool p26) ∧ (XC Try.prog 47 [(.pure .bool), (.pure (.int .i64))] [(.ref p1 cthread_Table 0 []), (.v (.int .i64 (9 : Int)))] X23 (fun (p27 : Bool × Int) (X28 : XH) => (XC Try.prog 18 [(.pure (.int .i64)), (.pure .bool)] [(.ref p1 cthread_Table 0 []), (.v (.int .i64 (0 : Int)))] X28 (fun (p29 : Int × Bool) (X30 : XH) => (XC Try.prog 47 [(.pure .bool), (.pure (.int .i64))] [(.ref p1 cthread_Table 0 []), (.v (.int .i64 (9 : Int)))] X30 (fun (p31 : Bool × Int) (X32 : XH) => (XC Try.prog 47 [(.pure .bool), (.pure (.int .i64))] [(.ref p1 cthread_Table 0 []), (.v (.int .i64 (3 : Int)))] X32 (fun (p33 : Bool × Int) (X34 : XH) => (((p14 == (0 : Int)) = true → (((p16.1 == (1 : Int)) = true → (((!p18.1) = true → (((p18.2 == (0 : Int)) = true → (((p20.1 == (2 : Int)) = true → (((p22.2 == (0 : Int)) = true → ((p24 = true → ((p26 = true → (((p27.2 == (25 : Int)) = true → (((p29.1 == (3 : Int)) = true → (((p31.2 == (24 : Int)) = true → R (.bool ((p33.2 == (25 : Int))))) ∧ ((p31.2 == (24 : Int)) = false → R (.bool false)))) ∧ ((p29.1 == (3 : Int)) = false → R (.bool false)))) ∧ ((p27.2 == (25 : Int)) = false → R (.bool false)))) ∧ (p26 = false → R (.bool false)))) ∧ (p24 = false → R (.bool false)))) ∧ ((p22.2 == (0 : Int)) = false → R (.bool false)))) ∧ ((p20.1 == (2 : Int)) = false → R (.bool false)))) ∧ ((p18.2 == (0 : Int)) = false → R (.bool false)))) ∧ ((!p18.1) = false → R (.bool false)))) ∧ ((p16.1 == (1 : Int)) = false → R (.bool false)))) ∧ ((p14 == (0 : Int)) = false → R (.bool false)))))))))))))))))))))))))))))))))))))))))))))))))))))))) :
  fnK X14.tt (callN Try.prog X14 0) (X14.md 14) (X14.mk1 14) Try.f14 [] ⟨[], [some (.heap XH.none)], ⟨0, []⟩⟩ (topK R) := Eq.mp (by kernel_rfl) h
end Go.Proofs.Ytaaedebknacheaa.AB

set_option linter.unusedVariables false
set_option linter.unusedSimpArgs false
namespace Go.Proofs.Ytaaedebknacheaa.AB
open Go

variable {X X' : XH} {t : Nat} {m m' : MT}

/-- a table lies there -/
def RepM (X : XH) (t : Nat) (m : MT) : Prop := ∃ d, Rep X t d ∧ d.ab = m

theorem Post.toM {d : DT} {m : MT} (h : Post X t d X' m) : RepM X' t m := by
  obtain ⟨d', h1, _, h2⟩ := h; exact ⟨d', h1, h2⟩

abbrev I64 (x : Int) : Prop := -9223372036854775808 ≤ x ∧ x ≤ 9223372036854775807

theorem y15 (X : XH) : XC Try.prog 15 [.ref cthread_Table] [] X fun p X' => ∃ t, p = some t ∧ RepM X' t ⟨0, 0, [], []⟩ :=
  (c15 X).mono fun _ _ ⟨t, d, e1, _, h, _, e2⟩ => ⟨t, e1, d, h, e2⟩

theorem y17 (h : RepM X t m) {f : Fr} {r : Int × Int} (hf : Small f) (hn : Nums m) (hlen : m.queue.length < 1000000) (e : m.startR f = (r, m')) :
    XC Try.prog 17 [.pure (.int .i64), .pure (.int .i64)] [.ref (some t) cthread_Table 0 [], .v (.agg [.int .i64 f.1, .int .i64 f.2.1, .list (.int .i64) f.2.2.1 .no, .list (.int .i64) f.2.2.2 .no])] X fun p X' => p = r ∧ RepM X' t m' := by
  obtain ⟨d, h, rfl⟩ := h
  have := x17 h hf hn (by unfold room; omega)
  rw [e] at this
  exact this.mono fun _ _ ⟨e, h⟩ => ⟨e, Post.toM h⟩

theorem y18 (h : RepM X t m) {pick : Int} {r : Int × Bool} (hp : I64 pick) (hids : ∀ id ∈ m.queue, m.has id) (hlen : m.queue.length < 1000000) (e : m.nextR pick = (r, m')) :
    XC Try.prog 18 [.pure (.int .i64), .pure .bool] [.ref (some t) cthread_Table 0 [], .v (.int .i64 pick)] X fun p X' => p = r ∧ RepM X' t m' := by
  obtain ⟨d, h, rfl⟩ := h
  have := x18 h hp.1 hp.2 hids (by unfold room; omega)
  rw [e] at this
  exact this.mono fun _ _ ⟨e, h⟩ => ⟨e, Post.toM h⟩

theorem y19 (h : RepM X t m) {r : Int} (hid : m.run ≠ 0 → m.has m.run) (hlen : m.queue.length < 1000000) (e : m.yieldR = (r, m')) :
    XC Try.prog 19 [.pure (.int .i64)] [.ref (some t) cthread_Table 0 []] X fun p X' => p = r ∧ RepM X' t m' := by
  obtain ⟨d, h, rfl⟩ := h
  have := x19 h hid (by unfold room; omega)
  rw [e] at this
  exact this.mono fun _ _ ⟨e, h⟩ => ⟨e, Post.toM h⟩

theorem y47 (h : RepM X t m) {other : Int} {r : Bool × Int} (hid : m.run ≠ 0 → m.has m.run) (hlen : ∀ a ∈ m.rows, a.joins.length < 1000000) (e : m.joinR other = (r, m')) :
    XC Try.prog 47 [.pure .bool, .pure (.int .i64)] [.ref (some t) cthread_Table 0 [], .v (.int .i64 other)] X fun p X' => p = r ∧ RepM X' t m' := by
  obtain ⟨d, h, rfl⟩ := h
  have := x47 h (other := other) hid fun a ha => by have := hlen a ha; unfold room; omega
  rw [e] at this
  exact this.mono fun _ _ ⟨e, h⟩ => ⟨e, Post.toM h⟩

theorem y48 (h : RepM X t m) {l : List Int} {r : Int} (hid : m.run ≠ 0 → m.has m.run) (hj : ∀ a, m.get m.run = some a → a.joins.length < 1000000 ∧ ∀ j ∈ a.joins, ((m.rest 5).del m.run).has j) (hlen : m.queue.length < 1000000) (e : m.endR = ((l, r), m')) :
    XC Try.prog 48 [.sl cI, .pure (.int .i64)] [.ref (some t) cthread_Table 0 []] X fun p X' => SlAt X' cI p.1 l ∧ p.2 = r ∧ RepM X' t m' := by
  obtain ⟨d, h, rfl⟩ := h
  have := x48 h hid hj hlen
  rw [e] at this
  refine this.mono ?_
  rintro p X' ⟨l', h1, h2, h3⟩
  obtain ⟨rfl, rfl⟩ := Prod.mk.inj h2
  exact ⟨h1, rfl, Post.toM h3⟩

theorem y20 (h : RepM X t m) (hlen : m.queue.length < 1000000) : RC Try.prog 20 [.pure (.slice (.int .i64))] [.ref (some t) cthread_Table 0 []] X m.queue := by
  obtain ⟨d, h, rfl⟩ := h
  exact c20 h (by have : d.queue.length < 1000000 := hlen; unfold room; omega)

theorem y53 (h : RepM X t m) : RC Try.prog 53 [.pure (.int .i64)] [.ref (some t) cthread_Table 0 []] X m.run := by
  obtain ⟨d, h, rfl⟩ := h
  exact c53 h

theorem y21 (h : RepM X t m) (id : Int) : RC Try.prog 21 [.pure (.int .i64)] [.ref (some t) cthread_Table 0 [], .v (.int .i64 id)] X (m.state id) := by
  obtain ⟨d, h, rfl⟩ := h
  exact c21 h id

theorem y22 (h : RepM X t m) (id : Int) (hs : ∀ a ∈ m.rows, a.frames.length < 1000 ∧ ∀ f ∈ a.frames, Small f) : RC Try.prog 22 [cF, .pure .bool] [.ref (some t) cthread_Table 0 [], .v (.int .i64 id)] X (m.top id) := by
  obtain ⟨d, h, rfl⟩ := h
  exact c22 h id hs

theorem take_full {α : Type} {a b : List α} {n : Nat} (h : a.take n = b.take n) (ha : a.length ≤ n) (hb : b.length ≤ n) : a = b := by
  rwa [List.take_of_length_le ha, List.take_of_length_le hb] at h

theorem retB {b c : Bool} (h : b = c) : (V.bool b).norm = .bool c ∧ (V.bool c).nt = true := by
  subst h; exact ⟨rfl, rfl⟩

theorem p49 (a b : List Int) (ha : a.length < 9223372036854775807) : PC Try.prog 49 [.list (.int .i64) a .no, .list (.int .i64) b .no] (.bool (decide (a = b))) := by
  refine pcOf (X := X49) (d := 0) rfl trivial (by kernel_rfl) (by decide) (E49 a b ⟨fun h => retB ?_, fun h => ?_⟩)
  · have h : (a.length : Int) ≠ b.length := by simpa using h
    exact (decide_eq_false fun e => h (by rw [e])).symm
  · have hl : (a.length : Int) = b.length := by simpa using h
    refine Loops.intro (fun n : Nat => S49_0 a b n ⟨0, []⟩) (fun n => n ≤ a.length ∧ a.take n = b.take n) (fun n => a.length - n) 0 rfl ⟨Nat.zero_le _, by simp⟩ ?_
    rintro n ⟨hn, he⟩
    refine L49_0 a b n ⟨0, []⟩ ⟨fun h => ?_, fun h => ?_⟩
    · have hlt : n < a.length := by simpa using h
      refine ⟨by omega, by omega, by omega, by omega, fun h => retB ?_, fun h => ?_⟩
      · have h : a.getD n 0 ≠ b.getD n 0 := by simpa using h
        exact (decide_eq_false fun e => h (by rw [e])).symm
      · have h : a.getD n 0 = b.getD n 0 := by simpa using h
        rw [wrap64 (by omega) (by omega)]
        exact Again.mk (n + 1) rfl ⟨by omega, take_succ_eq he hlt (by omega) h⟩ (by omega)
    · have : ¬ ((n : Int) < a.length) := by simpa using h
      exact retB (decide_eq_true (take_full he (by omega) (by omega))).symm

theorem c49h {x : Option SlH} {a : List Int} (b : List Int) (hx : SlAt X cI x a) (ha : a.length < 9223372036854775807) : RC Try.prog 49 [.pure .bool] [.sl cI x, .v (.list (.int .i64) b .no)] X (decide (a = b)) := by
  have hlen := hx.len
  refine xcOf (X := X49h) (d := 0) rfl trivial (by kernel_rfl) (by decide) (E49h X x b ⟨fun h => ⟨?_, rfl⟩, fun h => ?_⟩)
  · rw [hlen] at h
    have h : (a.length : Int) ≠ b.length := by simpa using h
    exact (decide_eq_false fun e => h (by rw [e])).symm
  · rw [hlen] at h
    have hl : (a.length : Int) = b.length := by simpa using h
    refine Loops.intro (fun n : Nat => S49h_0 x b n X ⟨0, []⟩) (fun n => n ≤ a.length ∧ a.take n = b.take n) (fun n => a.length - n) 0 rfl ⟨Nat.zero_le _, by simp⟩ ?_
    rintro n ⟨hn, he⟩
    refine L49h_0 x b n X ⟨0, []⟩ ⟨fun h => ?_, fun h => ?_⟩
    · rw [hlen] at h
      have hlt : n < a.length := by simpa using h
      obtain ⟨u, rfl⟩ : ∃ u, x = some u := by
        cases x with
        | none => simp [slN] at hlen; omega
        | some u => exact ⟨u, rfl⟩
      have hul : u.len = a.length := hlen
      refine ⟨u, rfl, by omega, by omega, a[n], ?_, by omega, by omega, fun h => ⟨?_, rfl⟩, fun h => ?_⟩
      · rw [Int.toNat_natCast]; exact hx.el hlt
      · have h : a[n] ≠ b.getD n 0 := by simpa using h
        refine (decide_eq_false fun e => h ?_).symm
        subst e; simp [List.getD, List.getElem?_eq_getElem hlt]
      · have h : a[n] = b.getD n 0 := by simpa using h
        rw [wrap64 (by omega) (by omega)]
        refine Again.mk (n + 1) rfl ⟨by omega, take_succ_eq (d := 0) he hlt (by omega) ?_⟩ (by omega)
        rw [← h]; simp [List.getD, List.getElem?_eq_getElem hlt]
    · rw [hlen] at h
      have : ¬ ((n : Int) < a.length) := by simpa using h
      exact ⟨(decide_eq_true (take_full he (by omega) (by omega))).symm, rfl⟩

abbrev F0 : Fr := (0, (0, ([], [])))

theorem sF0 : Small F0 := ⟨by decide, by decide⟩

instance (m : MT) : Decidable (Nums m) := inferInstanceAs (Decidable (_ ∧ _ ∧ _))

theorem p14 : PC Try.prog 14 [] (.bool true) := by
  have end2 : ∀ a, MT.get ⟨3, 2, [3], [⟨1, 4, [F0], []⟩, ⟨2, 2, [F0], [1]⟩, ⟨3, 1, [F0], []⟩]⟩ 2 = some a → a.joins.length < 1000000 ∧
      ∀ j ∈ a.joins, (MT.del (MT.rest ⟨3, 2, [3], [⟨1, 4, [F0], []⟩, ⟨2, 2, [F0], [1]⟩, ⟨3, 1, [F0], []⟩]⟩ 5) 2).has j := by
    intro a ha
    have : a = ⟨2, 2, [F0], [1]⟩ := (Option.some.inj ha).symm
    subst this
    exact ⟨by decide, by decide⟩
  refine lawOf (X := X14) rfl FN14 (by kernel_rfl) (by decide) (E14 ((y15 _).mono ?_))
  rintro _ X2 ⟨t, rfl, h0⟩
  refine ⟨fun e => (by cases e), fun _ => ?_⟩
  refine (y17 h0 (f := F0) sF0 (by decide) (by decide) (m' := ⟨1, 0, [1], [⟨1, 1, [F0], []⟩]⟩) (r := (1, 0)) rfl).mono ?_
  rintro _ X4 ⟨rfl, h1⟩
  refine (y17 h1 (f := F0) sF0 (by decide) (by decide) (m' := ⟨2, 0, [1, 2], [⟨1, 1, [F0], []⟩, ⟨2, 1, [F0], []⟩]⟩) (r := (2, 0)) rfl).mono ?_
  rintro _ X6 ⟨rfl, h2⟩
  refine (y17 h2 (f := F0) sF0 (by decide) (by decide) (m' := ⟨3, 0, [1, 2, 3], [⟨1, 1, [F0], []⟩, ⟨2, 1, [F0], []⟩, ⟨3, 1, [F0], []⟩]⟩) (r := (3, 0)) rfl).mono ?_
  rintro _ X8 ⟨rfl, h3⟩
  refine (y18 h3 (pick := 1) (by decide) (by decide) (by decide) (m' := ⟨3, 2, [1, 3], [⟨1, 1, [F0], []⟩, ⟨2, 2, [F0], []⟩, ⟨3, 1, [F0], []⟩]⟩) (r := (2, true)) rfl).mono ?_
  rintro _ X10 ⟨rfl, h4⟩
  refine ⟨_, y20 h4 (by decide), _, p49 _ _ (by decide), ?_⟩
  iterate 7 refine ⟨fun e => absurd e (by decide), fun _ => ?_⟩
  refine ⟨_, y53 h4, ?_⟩
  refine ⟨fun e => absurd e (by decide), fun _ => ?_⟩
  refine (y19 h4 (by decide) (by decide) (m' := ⟨3, 0, [1, 3, 2], [⟨1, 1, [F0], []⟩, ⟨2, 1, [F0], []⟩, ⟨3, 1, [F0], []⟩]⟩) (r := 0) rfl).mono ?_
  rintro _ X15 ⟨rfl, h5⟩
  refine (y18 h5 (pick := 0) (by decide) (by decide) (by decide) (m' := ⟨3, 1, [3, 2], [⟨1, 2, [F0], []⟩, ⟨2, 1, [F0], []⟩, ⟨3, 1, [F0], []⟩]⟩) (r := (1, true)) rfl).mono ?_
  rintro _ X17 ⟨rfl, h6⟩
  refine (y47 h6 (other := 2) (by decide) (by decide) (m' := ⟨3, 0, [3, 2], [⟨1, 4, [F0], []⟩, ⟨2, 1, [F0], [1]⟩, ⟨3, 1, [F0], []⟩]⟩) (r := (false, 0)) rfl).mono ?_
  rintro _ X19 ⟨rfl, h7⟩
  refine (y18 h7 (pick := 1) (by decide) (by decide) (by decide) (m' := ⟨3, 2, [3], [⟨1, 4, [F0], []⟩, ⟨2, 2, [F0], [1]⟩, ⟨3, 1, [F0], []⟩]⟩) (r := (2, true)) rfl).mono ?_
  rintro _ X21 ⟨rfl, h8⟩
  refine (y48 h8 (by decide) end2 (by decide) (m' := ⟨3, 0, [3, 1], [⟨1, 1, [F0], []⟩, ⟨3, 1, [F0], []⟩]⟩) (l := [1]) (r := 0) rfl).mono ?_
  rintro ⟨k, l⟩ X23 ⟨hk, rfl, h9⟩
  refine ⟨_, c49h [1] hk (by decide), _, y20 h9 (by decide), _, p49 _ _ (by decide), ?_⟩
  refine (y47 h9 (other := 9) (by decide) (by decide) (m' := ⟨3, 0, [3, 1], [⟨1, 1, [F0], []⟩, ⟨3, 1, [F0], []⟩]⟩) (r := (false, 25)) rfl).mono ?_
  rintro _ X28 ⟨rfl, h10⟩
  refine (y18 h10 (pick := 0) (by decide) (by decide) (by decide) (m' := ⟨3, 3, [1], [⟨1, 1, [F0], []⟩, ⟨3, 2, [F0], []⟩]⟩) (r := (3, true)) rfl).mono ?_
  rintro _ X30 ⟨rfl, h11⟩
  refine (y47 h11 (other := 9) (by decide) (by decide) (m' := ⟨3, 3, [1], [⟨1, 1, [F0], []⟩, ⟨3, 2, [F0], []⟩]⟩) (r := (false, 24)) rfl).mono ?_
  rintro _ X32 ⟨rfl, h12⟩
  refine (y47 h12 (other := 3) (by decide) (by decide) (m' := ⟨3, 3, [1], [⟨1, 1, [F0], []⟩, ⟨3, 2, [F0], []⟩]⟩) (r := (false, 25)) rfl).mono ?_
  rintro _ X34 ⟨rfl, h13⟩
  iterate 11 refine ⟨fun _ => ?_, fun e => absurd (show true = false from e) (by decide)⟩
  exact ⟨rfl, rfl⟩

end Go.Proofs.Ytaaedebknacheaa.AB

set_option linter.unusedVariables false
set_option linter.unusedSimpArgs false
namespace Go.Proofs.Ytaaedebknacheaa.AB
open Go

variable {X X' : XH} {t : Nat} {d : DT}

def leN : Int → Int → Bool := fun x y => decide (x ≤ y)

/-- what the reader says of each entry: nothing -/
def noR : Value → Option (DataW Unit × List MemPlace) := fun _ => some (.nil, [])

theorem rg_int {a : Int} {x : MapEntry} (hx : x.key = .int .i64 a) (ha : I64 a) : WideElems.rd Try.prog 3 noR x = some (.int .i64 a, .nil) := by
  unfold WideElems.rd
  rw [hx, Go.Maps.keyOf_int_mk Try.underlying3 (by
    have h1 := ha.1
    have h2 := ha.2
    simp [Lit.wf, IntKind.min, IntKind.max, IntKind.bits, IntKind.signed]
    omega)]
  rfl

theorem c50 (h : Rep X t d) (hi64 : ∀ a ∈ d.ab.rows, I64 a.id) (hsz : d.ab.rows.length < 1000000) :
    RC Try.prog 50 [.pure (.slice (.int .i64))] [.ref (some t) cthread_Table 0 []] X ((d.ab.rows.map (·.id)).mergeSort leN) := by
  intro Mine G w vs hi hl hr
  obtain ⟨u, rfl⟩ : ∃ u, vs = #[u] := by
    have : vs.size = 1 := hl.symm
    exact ⟨vs[0], by
      apply Array.ext
      · simpa using this
      · intro i h1 h2
        have : i = 0 := by simp at h2; omega
        subst this; rfl⟩
  have hu := hr 0 (.ref (some t) cthread_Table 0 []) u rfl rfl
  refine ⟨⟨Try.f50, by kernel_rfl, by decide, rfl⟩, ?_⟩
  cases hu with
  | ref _ _ _ _ b ct hl0 hp =>
  -- the table
  obtain ⟨b', h1, h2, h3, cur, el, h4, h5, h6⟩ := hi.xarr rfl h.box.arr
  rw [hl0] at h1; cases h1
  obtain ⟨u0, q1, q2, q3⟩ := h6 0 _ rfl 0 (.mp (.int .i64) (.ref cthread_one) (some d.hm)) rfl
  cases q2 with
  | mp _ _ _ r sz ct' hlm =>
  obtain ⟨r', sz', ct'', g1, g2, g3, ents', ck, g4, g5, g6, g7⟩ := hi.xmp rfl (mp_at.2 h.map)
  rw [hlm] at g1; cases g1
  have hlen : ents'.size = d.ab.rows.length := by
    rw [← g5]; simp [ents, DT.ab]
  have hkey : ∀ (i : Nat) x, ents'[i]? = some x → ∃ a, d.ab.rows[i]? = some a ∧ x.key = .int .i64 a.id := by
    intro i x hx
    have hlt := (Array.getElem?_eq_some_iff.1 hx).1
    have hi2 : i < (ents d.rows).length := by rw [g5]; exact hlt
    have hi3 : i < d.rows.length := by simpa [ents] using hi2
    have he : (ents d.rows)[i]? = some (d.rows[i].id, some d.rows[i].h) := by
      simp [ents, List.getElem?_map, List.getElem?_eq_getElem hi3]
    have := (g6 i _ x he hx).1
    refine ⟨d.rows[i].toAb, by simp [DT.ab, List.getElem?_map, List.getElem?_eq_getElem hi3], ?_⟩
    have hk : VR G (.int .i64 d.rows[i].id) x.key := this
    generalize x.key = y at hk
    cases hk; rfl
  have hrd : ∀ (i : Nat) x, ents'[i]? = some x → ∃ a, d.ab.rows[i]? = some a ∧ WideElems.rd Try.prog 3 noR x = some (.int .i64 a.id, .nil) := by
    intro i x hx
    obtain ⟨a, ha, hk⟩ := hkey i x hx
    exact ⟨a, ha, rg_int hk (hi64 a (List.mem_of_getElem? ha))⟩
  have fit : WideElems.Fit Try.prog 3 noR ents' ck := by
    refine ⟨?_, g7, fun x hx => ?_⟩
    · rw [hlen]; unfold maxLen; omega
    · obtain ⟨i, hi'⟩ := List.getElem?_of_mem hx
      obtain ⟨a, _, ha⟩ := hrd i x (by simpa using hi')
      exact ⟨_, ha⟩
  have hown := World.ownsMap_of_fit (w := w) (R := noR) g4 fit (fun _ _ _ e => e)
  have hpm := WideShapes.sorted_perm (ents'.toList.map (WideElems.rg Try.prog 3 noR))
  have hkeys : intKeys (.map (ents'.toList.map (WideElems.rg Try.prog 3 noR))) = d.ab.rows.map (·.id) := by
    show (ents'.toList.map (WideElems.rg Try.prog 3 noR)).map (fun p => Go.intOf p.1) = _
    refine List.ext_getElem? fun i => ?_
    rw [List.map_map, List.getElem?_map, List.getElem?_map]
    cases hx : ents'.toList[i]? with
    | none =>
      have : d.ab.rows[i]? = none := by
        rw [List.getElem?_eq_none_iff] at hx ⊢
        rw [← hlen]; simpa using hx
      rw [this]; rfl
    | some x =>
      obtain ⟨a, ha, hk⟩ := hrd i x (by simpa using hx)
      rw [ha]
      simp only [Option.map_some, Function.comp, WideElems.rg, hk, Option.getD_some]
      rfl
  have hsize : Go.Maps.size (DataW.map ((ents'.toList.map (WideElems.rg Try.prog 3 noR)).foldr DataW.insert [])) = d.ab.rows.length := by
    show ((ents'.toList.map (WideElems.rg Try.prog 3 noR)).foldr DataW.insert []).length = _
    rw [hpm.length_eq]; simp [hlen]
  have hcell : w.cell? ⟨b, 0, none⟩ = some (.map (some r)) := by
    unfold World.cell?
    simp only [h4]
    simpa using q1
  have hcall := live_calls b r ents'.size _ noR w hcell hown (by rw [hsize]; unfold maxLen; omega) (by rw [hsize]; omega)
  refine hcall.mono ?_
  rintro e w' ⟨v, ss, rfl, hs, hrow, hbel⟩
  have hssp : ss.Perm (d.ab.rows.map (·.id)) := by
    refine hs.trans ?_
    rw [← hkeys]
    unfold intKeys
    exact hpm.map _
  have hms : ss.mergeSort (fun x y => decide (x ≤ y)) = (d.ab.rows.map (·.id)).mergeSort leN := mergeSort_of_perm_i hssp
  have hlen2 : ss.length = ((d.ab.rows.map (·.id)).mergeSort leN).length := by
    rw [← hms]; simp
  rw [hms, hlen2] at hrow
  obtain ⟨G', k1, k2, k3, k4, k5⟩ := hi.rowInt hbel hrow
  exact ⟨v, _, X, G', rfl, ⟨rfl, rfl⟩, k1, k2, k3, k4, k5⟩

end Go.Proofs.Ytaaedebknacheaa.AB

set_option linter.unusedVariables false
set_option linter.unusedSimpArgs false
set_option maxRecDepth 100000
set_option maxHeartbeats 2000000
namespace Go.Proofs.Ytaaedebknacheaa.AB
open Go
/-! crucible/cruciblelaw18.ThreadTurns -/
noncomputable def X3 : Cx := ⟨tt, [(14, [.cd .bool]), (16, [.cd (.int .i64)])], [(15, [(.ref cthread_Table)]), (17, [(.pure (.int .i64)), (.pure (.int .i64))]), (18, [(.pure (.int .i64)), (.pure .bool)]), (19, [(.pure (.int .i64))]), (20, [(.pure (.slice (.int .i64)))]), (21, [(.pure (.int .i64))]), (22, [(.pure (.pair (.int .i64) (.pair (.int .i64) (.pair (.slice (.int .i64)) (.slice (.int .i64)))))), (.pure .bool)])], [(3, [(4, 0, .xc), (11, 3, .xc), (17, 1, .xc), (18, 12, .xc), (23, 1, .rd), (26, 5, .xc), (27, 19, .rd), (27, 24, .rd), (29, 2, .rd), (30, 11, .xc), (32, 1, .rd)])], [(3, [(0, mkM 166 0 [1, 5, 6, 7, 8], 0), (2, mkM 166 0 [1, 5, 6, 7, 11], 0), (4, mkM 166 0 [1, 5, 6, 7, 14], 0)])], []⟩
theorem FN3 : fnsB Try.prog X3.fns := (show True from trivial)
def M3_0 : List Bool × Nat := (mkM 166 0 [1, 5, 6, 7, 8], 1)
def S3_0 (picks1 : List Int) (head5 : Bool) (t6 : Option Nat) (n7 : Int) (i8 : Int) (hq0 : XH) (T : Toks) : St :=
  mkS 166 [(1, (.v (.list (.int .i64) picks1 .no))), (5, (.v (.bool head5))), (6, (.ref t6 cthread_Table 0 [])), (7, (.v (.int .i64 n7))), (8, (.v (.int .i64 i8)))] [(some (.heap hq0))] T
noncomputable def B3_0 : (Exit → St → Prop) → St → Prop := (awp X3.tt (callN Try.prog X3 0) (X3.md 3) 1 (X3.mk1 3) 0 (codeAt [1, 1, 1, 1, 1, 1, 0, 1, 0, 0] (bd Try.f3)))
def M3_2 : List Bool × Nat := (mkM 166 0 [1, 5, 6, 7, 11], 1)
def S3_2 (picks1 : List Int) (head5 : Bool) (t6 : Option Nat) (n7 : Int) (i11 : Int) (hq0 : XH) (T : Toks) : St :=
  mkS 166 [(1, (.v (.list (.int .i64) picks1 .no))), (5, (.v (.bool head5))), (6, (.ref t6 cthread_Table 0 [])), (7, (.v (.int .i64 n7))), (11, (.v (.int .i64 i11)))] [(some (.heap hq0))] T
noncomputable def B3_2 : (Exit → St → Prop) → St → Prop := (awp X3.tt (callN Try.prog X3 0) (X3.md 3) 1 (X3.mk1 3) 2 (codeAt [1, 1, 1, 1, 1, 1, 1, 0, 1, 0, 0] (bd Try.f3)))
def M3_4 : List Bool × Nat := (mkM 166 0 [1, 5, 6, 7, 14], 1)
def S3_4 (picks1 : List Int) (head5 : Bool) (t6 : Option Nat) (n7 : Int) (i14 : Int) (hq0 : XH) (T : Toks) : St :=
  mkS 166 [(1, (.v (.list (.int .i64) picks1 .no))), (5, (.v (.bool head5))), (6, (.ref t6 cthread_Table 0 [])), (7, (.v (.int .i64 n7))), (14, (.v (.int .i64 i14)))] [(some (.heap hq0))] T
noncomputable def B3_4 : (Exit → St → Prop) → St → Prop := (awp X3.tt (callN Try.prog X3 0) (X3.md 3) 1 (X3.mk1 3) 4 (codeAt [1, 1, 1, 1, 1, 1, 1, 1, 0, 1, 0, 0] (bd Try.f3)))
noncomputable def K3_0 (R : V → Prop) : Exit → St → Prop := seqK ((awp X3.tt (callN Try.prog X3 0) (X3.md 3) 1 (X3.mk1 3) 0 (codeAt [1, 1, 1, 1, 1, 1, 1] (bd Try.f3))) (retK tt Try.f3.results.toList fun x s' => topK R x ⟨[], s'.hp, s'.T⟩)) (retK tt Try.f3.results.toList fun x s' => topK R x ⟨[], s'.hp, s'.T⟩)
noncomputable def Q3_0 (R : V → Prop) : Exit → St → Prop := (blockK 0 (K3_0 R))
noncomputable def K3_1 (R : V → Prop) : Exit → St → Prop := seqK ((awp X3.tt (callN Try.prog X3 0) (X3.md 3) 1 (X3.mk1 3) 0 (codeAt [1, 1, 1, 1, 1, 1, 1, 1] (bd Try.f3))) (retK tt Try.f3.results.toList fun x s' => topK R x ⟨[], s'.hp, s'.T⟩)) (retK tt Try.f3.results.toList fun x s' => topK R x ⟨[], s'.hp, s'.T⟩)
noncomputable def Q3_2 (R : V → Prop) : Exit → St → Prop := (blockK 2 (K3_1 R))
noncomputable def K3_2 (R : V → Prop) : Exit → St → Prop := seqK ((awp X3.tt (callN Try.prog X3 0) (X3.md 3) 1 (X3.mk1 3) 0 (codeAt [1, 1, 1, 1, 1, 1, 1, 1, 1] (bd Try.f3))) (retK tt Try.f3.results.toList fun x s' => topK R x ⟨[], s'.hp, s'.T⟩)) (retK tt Try.f3.results.toList fun x s' => topK R x ⟨[], s'.hp, s'.T⟩)
noncomputable def Q3_4 (R : V → Prop) : Exit → St → Prop := (blockK 4 (K3_2 R))
theorem E3 (many0 : Int) (picks1 : (List Int)) {R : V → Prop} (h : (∃ p1 : Bool, PC Try.prog 14 [] (.bool p1) ∧ (((!p1) = true → R (.bool false)) ∧
 ((!p1) = false → (XC Try.prog 15 [(.ref cthread_Table)] [] XH.none (fun (p2 : (Option Nat)) (X3 : XH) => (((Option.isNone p2) = true → R (.bool false)) ∧
 ((Option.isNone p2) = false → (∃ p4 : Int, PC Try.prog 16 [(.int .i64 many0), (.int .i64 (64 : Int))] (.int .i64 p4) ∧ (Loops B3_0 M3_0 (Q3_0 R)
  (S3_0 picks1 p1 p2 ((IntKind.wrap .i64 ((1 : Int) + p4))) (0 : Int) X3 ⟨0, []⟩))))))))))) :
  fnK X3.tt (callN Try.prog X3 0) (X3.md 3) (X3.mk1 3) Try.f3 [(.v (.int .i64 many0)), (.v (.list (.int .i64) picks1 .no))] ⟨[], [some (.heap XH.none)], ⟨0, []⟩⟩ (topK R) := Eq.mp (by kernel_rfl) h
theorem L3_0 (picks1 : List Int) (head5 : Bool) (t6 : Option Nat) (n7 : Int) (i8 : Int) (hq0 : XH) (T : Toks) {R : V → Prop} {k0 : St → Prop}
 (h : (((decide (i8 < n7)) = true → (XC Try.prog 17 [(.pure (.int .i64)), (.pure (.int .i64))] [(.ref t6 cthread_Table 0 []), (.v (.agg [(.int .i64 i8), (.int .i64 (0 : Int)), (.list (.int .i64) ([] : List Int) .no), (.list (.int .i64) ([] : List Int) .no)]))] hq0 (fun (p5 : Int × Int) (X6 : XH) => (((p5.1 != (IntKind.wrap .i64 (i8 + (1 : Int)))) = true → R (.bool false)) ∧ ((p5.1 != (IntKind.wrap .i64 (i8 + (1 : Int)))) = false → (((p5.2 != (0 : Int)) = true → R (.bool false)) ∧
 ((p5.2 != (0 : Int)) = false → k0 (S3_0 picks1 head5 t6 n7 ((IntKind.wrap .i64 (i8 + (1 : Int)))) X6 T)))))))) ∧
 ((decide (i8 < n7)) = false → (Loops B3_2 M3_2 (Q3_2 R)
  (S3_2 picks1 head5 t6 n7 (0 : Int) hq0 T))))) :
  B3_0 (loopQ M3_0 k0 (Q3_0 R)) (S3_0 picks1 head5 t6 n7 i8 hq0 T) := Eq.mp (by kernel_rfl) h
theorem L3_2 (picks1 : List Int) (head5 : Bool) (t6 : Option Nat) (n7 : Int) (i11 : Int) (hq0 : XH) (T : Toks) {R : V → Prop} {k2 : St → Prop}
 (h : (((decide (i11 < (IntKind.wrap .i64 ((2 : Int) * n7)))) = true → (XC Try.prog 18 [(.pure (.int .i64)), (.pure .bool)] [(.ref t6 cthread_Table 0 []), (.v (.int .i64 (0 : Int)))] hq0 (fun (p7 : Int × Bool) (X8 : XH) => (((!p7.2) = true → R (.bool false)) ∧ ((!p7.2) = false → (n7 ≠ 0 ∧ (((p7.1 != (IntKind.wrap .i64 ((Int.tmod i11 n7) + (1 : Int)))) = true → R (.bool false)) ∧ ((p7.1 != (IntKind.wrap .i64 ((Int.tmod i11 n7) + (1 : Int)))) = false → (XC Try.prog 19 [(.pure (.int .i64))] [(.ref t6 cthread_Table 0 [])] X8 (fun (p9 : Int) (X10 : XH) => (((p9 != (0 : Int)) = true → R (.bool false)) ∧
 ((p9 != (0 : Int)) = false → k2 (S3_2 picks1 head5 t6 n7 ((IntKind.wrap .i64 (i11 + (1 : Int)))) X10 T))))))))))))) ∧
 ((decide (i11 < (IntKind.wrap .i64 ((2 : Int) * n7)))) = false → (Loops B3_4 M3_4 (Q3_4 R)
  (S3_4 picks1 head5 t6 n7 (0 : Int) hq0 T))))) :
  B3_2 (loopQ M3_2 k2 (Q3_2 R)) (S3_2 picks1 head5 t6 n7 i11 hq0 T) := Eq.mp (by kernel_rfl) h
theorem L3_4 (picks1 : List Int) (head5 : Bool) (t6 : Option Nat) (n7 : Int) (i14 : Int) (hq0 : XH) (T : Toks) {R : V → Prop} {k4 : St → Prop}
 (h : (((decide (i14 < ((picks1).length : Int))) = true → (((decide (i14 < (200 : Int))) = true → (∃ (p11 : (List Int)), RC Try.prog 20 [(.pure (.slice (.int .i64)))] [(.ref t6 cthread_Table 0 [])] hq0 p11 ∧ (((((p11).length : Int) == (0 : Int)) = true → R (.bool false)) ∧
 ((((p11).length : Int) == (0 : Int)) = false → (0 ≤ i14 ∧ i14 < ((picks1).length : Int) ∧ (XC Try.prog 18 [(.pure (.int .i64)), (.pure .bool)] [(.ref t6 cthread_Table 0 []), (.v (.int .i64 ((picks1.getD (i14).toNat 0))))] hq0 (fun (p12 : Int × Bool) (X13 : XH) => (((!p12.2) = true → R (.bool false)) ∧ ((!p12.2) = false → (0 ≤ i14 ∧ i14 < ((picks1).length : Int) ∧ (∃ p14 : Int, PC Try.prog 16 [(.int .i64 ((picks1.getD (i14).toNat 0))), (.int .i64 (((p11).length : Int)))] (.int .i64 p14) ∧ (0 ≤ p14 ∧ p14 < ((p11).length : Int) ∧ (((p12.1 != (p11.getD (p14).toNat 0)) = true → R (.bool false)) ∧ ((p12.1 != (p11.getD (p14).toNat 0)) = false → (∃ (p15 : Int), RC Try.prog 21 [(.pure (.int .i64))] [(.ref t6 cthread_Table 0 []), (.v (.int .i64 p12.1))] X13 p15 ∧ (((p15 != (2 : Int)) = true → R (.bool false)) ∧ ((p15 != (2 : Int)) = false → (∃ (p16 : (List Int)), RC Try.prog 20 [(.pure (.slice (.int .i64)))] [(.ref t6 cthread_Table 0 [])] X13 p16 ∧ (((((p16).length : Int) != (IntKind.wrap .i64 (((p11).length : Int) - (1 : Int)))) = true → R (.bool false)) ∧
 ((((p16).length : Int) != (IntKind.wrap .i64 (((p11).length : Int) - (1 : Int)))) = false → (∃ (p17 : (Int × (Int × ((List Int) × (List Int)))) × Bool), RC Try.prog 22 [(.pure (.pair (.int .i64) (.pair (.int .i64) (.pair (.slice (.int .i64)) (.slice (.int .i64)))))), (.pure .bool)] [(.ref t6 cthread_Table 0 []), (.v (.int .i64 p12.1))] X13 p17 ∧ (((!p17.2) = true → R (.bool false)) ∧ ((!p17.2) = false → (((p17.1.1 != (IntKind.wrap .i64 (p12.1 - (1 : Int)))) = true → R (.bool false)) ∧ ((p17.1.1 != (IntKind.wrap .i64 (p12.1 - (1 : Int)))) = false → (XC Try.prog 19 [(.pure (.int .i64))] [(.ref t6 cthread_Table 0 [])] X13 (fun (p18 : Int) (X19 : XH) => (((p18 != (0 : Int)) = true → R (.bool false)) ∧
 ((p18 != (0 : Int)) = false → (∃ (p20 : (List Int)), RC Try.prog 20 [(.pure (.slice (.int .i64)))] [(.ref t6 cthread_Table 0 [])] X19 p20 ∧ (((((p20).length : Int) != n7) = true → R (.bool false)) ∧ ((((p20).length : Int) != n7) = false → (0 ≤ (IntKind.wrap .i64 (n7 - (1 : Int))) ∧ (IntKind.wrap .i64 (n7 - (1 : Int))) < ((p20).length : Int) ∧ ((((p20.getD ((IntKind.wrap .i64 (n7 - (1 : Int)))).toNat 0) != p12.1) = true → R (.bool false)) ∧
 (((p20.getD ((IntKind.wrap .i64 (n7 - (1 : Int)))).toNat 0) != p12.1) = false → k4 (S3_4 picks1 head5 t6 n7 ((IntKind.wrap .i64 (i14 + (1 : Int)))) X19 T)))))))))))))))))))))))))))))))))))) ∧
 ((decide (i14 < (200 : Int))) = false → R (.bool head5)))) ∧ ((decide (i14 < ((picks1).length : Int))) = false → R (.bool head5)))) :
  B3_4 (loopQ M3_4 k4 (Q3_4 R)) (S3_4 picks1 head5 t6 n7 i14 hq0 T) := Eq.mp (by kernel_rfl) h
end Go.Proofs.Ytaaedebknacheaa.AB

set_option linter.unusedVariables false
set_option linter.unusedSimpArgs false
namespace Go.Proofs.Ytaaedebknacheaa.AB
open Go

variable {X X' : XH} {t : Nat}

/-- n threads, as they begin -/
def rowsN (n : Nat) : List Ab := (List.range n).map fun j : Nat => ⟨(j : Int) + 1, 1, [((j : Int), (0, ([], [])))], []⟩
def numsN (n : Nat) : List Int := (List.range n).map fun j : Nat => (j : Int) + 1
def rot (n i : Nat) : List Int := (List.range n).map fun k : Nat => (((i + k) % n : Nat) : Int) + 1

theorem rowsN_len (n : Nat) : (rowsN n).length = n := by simp [rowsN]
theorem rot_len (n i : Nat) : (rot n i).length = n := by simp [rot]

theorem rowsN_has {n : Nat} {id : Int} : (∃ a ∈ rowsN n, a.id = id) ↔ 1 ≤ id ∧ id ≤ n := by
  simp only [rowsN, List.mem_map, List.mem_range]
  constructor
  · rintro ⟨_, ⟨j, hj, rfl⟩, rfl⟩
    dsimp only; omega
  · rintro ⟨h1, h2⟩
    exact ⟨_, ⟨(id - 1).toNat, by omega, rfl⟩, by dsimp only; omega⟩

theorem upd_upd {id : Int} {l : List Ab} {f g : Ab → Ab} (hg : ∀ a, (g a).id = a.id) : updAb id f (updAb id g l) = updAb id (fun a => f (g a)) l := by
  unfold updAb
  rw [List.map_map]
  refine List.map_congr_left fun a _ => ?_
  simp only [Function.comp]
  by_cases e : a.id = id
  · simp [e, hg]
  · simp [e]

theorem upd_same {id : Int} {l : List Ab} {f : Ab → Ab} (h : ∀ a ∈ l, f a = a) : updAb id f l = l := by
  unfold updAb
  refine (List.map_congr_left fun a ha => ?_).trans (List.map_id l)
  split
  · exact h a ha
  · rfl

/-- runs, and gives way -/
theorem turn {n : Nat} {q : List Int} {k : Nat} (hk : k < q.length) (hn : ∀ x ∈ q, 1 ≤ x ∧ x ≤ (n : Int)) :
    (MT.next ⟨n, 0, q, rowsN n⟩ k).yieldR = (0, ⟨n, 0, q.eraseIdx k ++ [q.getD k 0], rowsN n⟩) := by
  have h1 := hn (q.getD k 0) (by simp [List.getD, List.getElem?_eq_getElem hk])
  unfold MT.yieldR
  rw [if_neg (show ¬ (MT.next ⟨n, 0, q, rowsN n⟩ k).run = 0 from fun e => by
    have e : q.getD k 0 = 0 := e
    omega)]
  simp only [MT.next, MT.rest, MT.ready, MT.set]
  rw [upd_upd (g := fun a => { a with st := 1 }) (fun _ => rfl), upd_upd (g := fun a => { a with st := 2 }) (fun _ => rfl), upd_same]
  intro a ha
  simp only [rowsN, List.mem_map] at ha
  obtain ⟨j, _, rfl⟩ := ha
  rfl

theorem rot_mem {n i : Nat} (hn : 0 < n) : ∀ x ∈ rot n i, 1 ≤ x ∧ x ≤ (n : Int) := by
  intro x hx
  simp only [rot, List.mem_map, List.mem_range] at hx
  obtain ⟨k, hk, rfl⟩ := hx
  have := Nat.mod_lt (i + k) hn
  omega

theorem rot_zero (n : Nat) : rot n 0 = numsN n := by
  unfold rot numsN
  refine List.map_congr_left fun k hk => ?_
  rw [Nat.zero_add, Nat.mod_eq_of_lt (List.mem_range.1 hk)]

theorem rot_get {n i : Nat} (hn : 0 < n) : (rot n i).getD 0 0 = ((i % n : Nat) : Int) + 1 := by
  unfold rot
  simp [List.getD, List.getElem?_map, List.getElem?_range hn]

theorem rot_succ {n i : Nat} (hn : 0 < n) : (rot n i).eraseIdx 0 ++ [(rot n i).getD 0 0] = rot n (i + 1) := by
  refine List.ext_getElem? fun k => ?_
  rw [rot_get hn]
  obtain ⟨m, rfl⟩ : ∃ m, n = m + 1 := ⟨n - 1, by omega⟩
  have e1 : (rot (m + 1) i).eraseIdx 0 = (List.range m).map fun k : Nat => (((i + (k + 1)) % (m + 1) : Nat) : Int) + 1 := by
    unfold rot
    rw [List.range_succ_eq_map]
    simp only [List.map_cons, List.eraseIdx_cons_zero, List.map_map]
    rfl
  rw [e1]
  by_cases hk : k < m
  · rw [List.getElem?_append_left (by simpa using hk)]
    simp only [rot, List.getElem?_map, List.getElem?_range hk, List.getElem?_range (show k < m + 1 by omega), Option.map_some]
    rw [show i + (k + 1) = i + 1 + k by omega]
  · rw [List.getElem?_append_right (by simpa using hk)]
    simp only [List.length_map, List.length_range, rot, List.getElem?_map]
    by_cases hk2 : k = m
    · subst hk2
      simp only [Nat.sub_self, List.getElem?_cons_zero, List.getElem?_range (show k < k + 1 by omega), Option.map_some]
      congr 3
      rw [show i + 1 + k = i + (k + 1) by omega, Nat.add_mod_right]
    · rw [List.getElem?_eq_none (by simp; omega), List.getElem?_eq_none (by simp; omega)]
      rfl

theorem get_rowsN {n : Nat} {q : List Int} {run l : Int} {k : Nat} {rows : List Ab} {f : Ab → Ab} {id : Int} (hid : 1 ≤ id ∧ id ≤ (n : Int)) (hf : ∀ a, (f a).id = a.id) :
    MT.get ⟨l, run, q, updAb id f (rowsN n)⟩ id = some (f ⟨id, 1, [(id - 1, (0, ([], [])))], []⟩) := by
  unfold MT.get updAb rowsN
  simp only [List.map_map]
  obtain ⟨j, rfl⟩ : ∃ j : Nat, id = (j : Int) + 1 := ⟨(id - 1).toNat, by omega⟩
  have hj : j < n := by omega
  have hp : ∀ i, i < n → (((fun a : Ab => if a.id = (j : Int) + 1 then f a else a) ∘ fun j : Nat => (⟨(j : Int) + 1, 1, [((j : Int), (0, ([], [])))], []⟩ : Ab)) i).id = (i : Int) + 1 := by
    intro i hi
    simp only [Function.comp]
    split <;> simp [hf]
  have : ∀ m, m ≤ n → j < m → List.find? (fun a => decide (a.id = (j : Int) + 1)) ((List.range m).map ((fun a : Ab => if a.id = (j : Int) + 1 then f a else a) ∘ fun j : Nat => (⟨(j : Int) + 1, 1, [((j : Int), (0, ([], [])))], []⟩ : Ab))) =
      some (f ⟨(j : Int) + 1, 1, [((j : Int), (0, ([], [])))], []⟩) := by
    intro m
    induction m with
    | zero => intro _ h; omega
    | succ m ih =>
      intro hm hjm
      rw [List.range_succ, List.map_append, List.find?_append]
      by_cases e : j = m
      · subst e
        have : List.find? (fun a => decide (a.id = (j : Int) + 1)) ((List.range j).map ((fun a : Ab => if a.id = (j : Int) + 1 then f a else a) ∘ fun j : Nat => (⟨(j : Int) + 1, 1, [((j : Int), (0, ([], [])))], []⟩ : Ab))) = none := by
          rw [List.find?_eq_none]
          intro a ha
          obtain ⟨i, hi, rfl⟩ := List.mem_map.1 ha
          have hi := List.mem_range.1 hi
          rw [hp i (by omega)]
          simp; omega
        rw [this]
        simp [hf]
      · rw [ih (by omega) (by omega)]; rfl
  rw [this n (Nat.le_refl _) hj]
  have e : ((j : Int) + 1) - 1 = j := by omega
  rw [e]

theorem p3 {many : Int} {picks : List Int} (hm : I64 many) (hp : ∀ x ∈ picks, I64 x) : PC Try.prog 3 [.int .i64 many, .list (.int .i64) picks .no] (.bool true) := by
  have hr := pickN_range many (n := 64) (by omega)
  refine lawOf (X := X3) rfl FN3 (by kernel_rfl) (by decide) (E3 many picks ⟨true, p14, fun e => (by cases e), fun _ => (y15 _).mono ?_⟩)
  rintro _ X3 ⟨t, rfl, h0⟩
  refine ⟨fun e => (by cases e), fun _ => ⟨_, c16 hm.1 hm.2 (by omega), ?_⟩⟩
  obtain ⟨n, hn⟩ : ∃ n : Nat, (n : Int) = 1 + pickN many 64 := ⟨(1 + pickN many 64).toNat, by omega⟩
  rw [wrap64 (x := 1 + pickN many 64) (by omega) (by omega), ← hn]
  have n0 : 0 < n := by omega
  have n1 : n ≤ 64 := by omega
  refine Loops.intro (fun a : Nat × XH × Toks => S3_0 picks true (some t) n (a.1 : Int) a.2.1 a.2.2) (fun a => a.1 ≤ n ∧ RepM a.2.1 t ⟨a.1, 0, numsN a.1, rowsN a.1⟩) (fun a => n - a.1) (0, X3, ⟨0, []⟩) rfl ⟨Nat.zero_le _, h0⟩ ?_
  rintro ⟨i, Xi, T⟩ ⟨j1, j2⟩
  simp only at j1 j2
  refine L3_0 picks true (some t) n (i : Int) Xi T ⟨fun e => ?_, fun e => ?_⟩
  · have hi : i < n := by simpa using e
    have hst : MT.startR ⟨i, 0, numsN i, rowsN i⟩ ((i : Int), (0, ([], []))) = (((i : Int) + 1, 0), ⟨((i + 1 : Nat) : Int), 0, numsN (i + 1), rowsN (i + 1)⟩) := by
      unfold MT.startR
      rw [if_neg (by rw [rowsN_len]; omega)]
      simp only [MT.start, numsN, rowsN, List.range_succ, List.map_append, List.map_cons, List.map_nil]
      rfl
    refine (y17 j2 (f := ((i : Int), (0, ([], [])))) ⟨Nat.zero_le _, Nat.zero_le _⟩ ⟨?_, ?_, ?_⟩ ?_ hst).mono ?_
    · show (0 : Int) ≤ (i : Int); omega
    · show (i : Int) < _; omega
    · intro a ha
      exact (rowsN_has.1 ⟨a, ha, rfl⟩).2
    · simp [numsN]; omega
    · rintro _ X6 ⟨rfl, h6⟩
      rw [wrap64 (x := (i : Int) + 1) (by omega) (by omega)]
      refine ⟨fun e => ?_, fun _ => ⟨fun e => (by cases e), fun _ => ?_⟩⟩
      · simp at e
      · exact Again.mk (i + 1, X6, T) rfl ⟨hi, h6⟩ (by simp only; omega)
  · have hi : i = n := by
      have : ¬ (i : Int) < (n : Int) := by simpa using e
      omega
    subst hi
    rw [← rot_zero] at j2
    refine Loops.intro (fun a : Nat × XH × Toks => S3_2 picks true (some t) i (a.1 : Int) a.2.1 a.2.2) (fun a => a.1 ≤ 2 * i ∧ RepM a.2.1 t ⟨i, 0, rot i a.1, rowsN i⟩) (fun a => 2 * i - a.1) (0, Xi, T) rfl ⟨Nat.zero_le _, j2⟩ ?_
    rintro ⟨k, Xk, T2⟩ ⟨k1, k2⟩
    simp only at k1 k2
    refine L3_2 picks true (some t) i (k : Int) Xk T2 ⟨fun e => ?_, fun e => ?_⟩
    · rw [wrap64 (x := 2 * (i : Int)) (by omega) (by omega)] at e
      have hk : k < 2 * i := by
        have : (k : Int) < 2 * (i : Int) := by simpa using e
        omega
      have hpk : pickN 0 ((rot i k).length : Int) = 0 := by unfold pickN; simp
      have hnx : MT.nextR ⟨i, 0, rot i k, rowsN i⟩ 0 = (((rot i k).getD 0 0, true), MT.next ⟨i, 0, rot i k, rowsN i⟩ 0) := by
        unfold MT.nextR
        rw [if_neg (by
          rintro (e | e)
          · exact absurd (show (0 : Int) < 0 from e) (by decide)
          · have := rot_len i k
            have e : rot i k = [] := e
            rw [e] at this; simp at this; omega)]
        simp only [hpk]
        rfl
      refine (y18 k2 (pick := 0) (by decide) (fun id hid => rowsN_has.2 (rot_mem n0 id hid)) (by show (rot i k).length < _; rw [rot_len]; omega) hnx).mono ?_
      rintro _ X8 ⟨rfl, h8⟩
      have hw : IntKind.wrap .i64 (Int.tmod (k : Int) (i : Int) + 1) = ((k % i : Nat) : Int) + 1 := by
        have := Nat.mod_lt k n0
        rw [Int.tmod_eq_emod_of_nonneg (by omega), show ((k : Int) % (i : Int)) = ((k % i : Nat) : Int) from (Int.natCast_emod k i).symm, wrap64 (by omega) (by omega)]
      have hg := rot_get (i := k) n0
      refine ⟨fun e => (by cases e), fun _ => ⟨by omega, fun e => ?_, fun _ => ?_⟩⟩
      · rw [hw] at e
        simp only [hg] at e
        simp at e
      · refine (y19 h8 (fun _ => ?_) ?_ (turn (by rw [rot_len]; exact n0) (rot_mem n0))).mono ?_
        · show ∃ a ∈ updAb _ _ (rowsN i), a.id = _
          refine (has_updAb (f := fun a => { a with st := 2 }) (fun _ => rfl)).2 (rowsN_has.2 (rot_mem (i := k) n0 _ ?_))
          show (rot i k).getD 0 0 ∈ _
          simp [List.getD, List.getElem?_eq_getElem (show 0 < (rot i k).length by rw [rot_len]; exact n0)]
        · show ((rot i k).eraseIdx 0).length < _
          have := List.length_eraseIdx_le (rot i k) 0
          rw [rot_len] at this; omega
        · rintro _ X10 ⟨rfl, h10⟩
          refine ⟨fun e => (by cases e), fun _ => ?_⟩
          rw [rot_succ n0] at h10
          rw [wrap64 (x := (k : Int) + 1) (by omega) (by omega)]
          exact Again.mk (k + 1, X10, T2) rfl ⟨hk, h10⟩ (by simp only; omega)
    · refine Loops.intro (fun a : Nat × XH × Toks => S3_4 picks true (some t) i (a.1 : Int) a.2.1 a.2.2) (fun a => a.1 ≤ picks.length ∧ ∃ q, q.length = i ∧ (∀ x ∈ q, 1 ≤ x ∧ x ≤ (i : Int)) ∧ RepM a.2.1 t ⟨i, 0, q, rowsN i⟩)
        (fun a => picks.length - a.1) (0, Xk, T2) rfl ⟨Nat.zero_le _, _, rot_len _ _, rot_mem n0, k2⟩ ?_
      rintro ⟨v, Xv, T3⟩ ⟨v1, q, v2, v3, v4⟩
      simp only at v1 v4
      refine L3_4 picks true (some t) i (v : Int) Xv T3 ⟨fun e => ⟨fun e2 => ?_, fun _ => retB rfl⟩, fun _ => retB rfl⟩
      have hv : v < picks.length := by simpa using e
      have hv2 : v < 200 := by
        have : (v : Int) < 200 := by simpa using e2
        omega
      have hql : q.length < 1000000 := by omega
      refine ⟨q, y20 v4 hql, fun e => ?_, fun _ => ⟨by omega, by omega, ?_⟩⟩
      · have : (q.length : Int) = 0 := by simpa using e
        omega
      have hgp : picks.getD v 0 = picks[v] := by simp [List.getD, List.getElem?_eq_getElem hv]
      have hpi := hp _ (List.getElem_mem hv)
      rw [Int.toNat_natCast, hgp]
      have hr2 := pickN_range picks[v] (n := (q.length : Int)) (by omega)
      have hkl : (pickN picks[v] q.length).toNat < q.length := by omega
      have hnx : MT.nextR ⟨i, 0, q, rowsN i⟩ picks[v] = ((q.getD (pickN picks[v] q.length).toNat 0, true), MT.next ⟨i, 0, q, rowsN i⟩ (pickN picks[v] q.length).toNat) := by
        unfold MT.nextR
        rw [if_neg (by
          rintro (e | e)
          · exact absurd (show (0 : Int) < 0 from e) (by decide)
          · have e : q = [] := e
            rw [e] at v2; simp at v2; omega)]
      generalize hkk : (pickN picks[v] q.length).toNat = kk at hkl hnx
      have hid := v3 (q.getD kk 0) (by simp [List.getD, List.getElem?_eq_getElem hkl])
      refine (y18 v4 hpi (fun id hid => rowsN_has.2 (v3 id hid)) hql hnx).mono ?_
      rintro _ X13 ⟨rfl, h13⟩
      have hget := get_rowsN (n := i) (q := q.eraseIdx kk) (run := q.getD kk 0) (l := i) (k := 0) (rows := []) (f := fun a => { a with st := 2 }) hid fun _ => rfl
      have hel : (q.eraseIdx kk).length = i - 1 := by rw [List.length_eraseIdx_of_lt hkl]; omega
      have hstate : MT.state (MT.next ⟨i, 0, q, rowsN i⟩ kk) (q.getD kk 0) = 2 := by
        unfold MT.state
        show (match MT.get ⟨i, q.getD kk 0, q.eraseIdx kk, updAb (q.getD kk 0) (fun a => { a with st := 2 }) (rowsN i)⟩ (q.getD kk 0) with
          | some a => a.st
          | none => _) = 2
        rw [hget]
      have htop : MT.top (MT.next ⟨i, 0, q, rowsN i⟩ kk) (q.getD kk 0) = ((q.getD kk 0 - 1, (0, ([], []))), true) := by
        unfold MT.top
        show (match MT.get ⟨i, q.getD kk 0, q.eraseIdx kk, updAb (q.getD kk 0) (fun a => { a with st := 2 }) (rowsN i)⟩ (q.getD kk 0) with
          | none => _
          | some a => match a.frames.getLast? with
            | none => _
            | some f => (f, true)) = _
        rw [hget]
        rfl
      refine ⟨fun e => (by cases e), fun _ => ⟨by omega, by omega, _, c16 hpi.1 hpi.2 (by omega), hr2.1, hr2.2, fun e => ?_, fun _ => ?_⟩⟩
      · rw [hkk] at e
        simp at e
      refine ⟨_, y21 h13 _, fun e => ?_, fun _ => ⟨_, y20 h13 (by show (q.eraseIdx kk).length < _; omega), fun e => ?_, fun _ => ⟨_, y22 h13 _ ?_, fun e => ?_, fun _ => ⟨fun e => ?_, fun _ => ?_⟩⟩⟩⟩
      · rw [hstate] at e; cases e
      · rw [wrap64 (by omega) (by omega)] at e
        have : ((MT.next ⟨i, 0, q, rowsN i⟩ kk).queue.length : Int) = (q.length : Int) - 1 := by
          show ((q.eraseIdx kk).length : Int) = _
          rw [hel]; omega
        rw [this] at e
        simp at e
      · intro a ha
        have ha : a ∈ updAb (q.getD kk 0) (fun a => { a with st := 2 }) (rowsN i) := ha
        simp only [updAb, rowsN, List.map_map, List.mem_map] at ha
        obtain ⟨j, _, rfl⟩ := ha
        simp only [Function.comp]
        split <;> exact ⟨show 1 < 1000 by decide, fun f hf => by simp only [List.mem_singleton] at hf; subst hf; exact ⟨Nat.zero_le _, Nat.zero_le _⟩⟩
      · rw [htop] at e; cases e
      · rw [htop] at e
        rw [wrap64 (x := q.getD kk 0 - 1) (by omega) (by omega)] at e
        simp at e
      · refine (y19 h13 (fun _ => ?_) ?_ (turn hkl v3)).mono ?_
        · show ∃ a ∈ updAb _ _ (rowsN i), a.id = _
          exact (has_updAb (f := fun a => { a with st := 2 }) (fun _ => rfl)).2 (rowsN_has.2 hid)
        · show (q.eraseIdx kk).length < _
          omega
        · rintro _ X19 ⟨rfl, h19⟩
          have hnl : (q.eraseIdx kk ++ [q.getD kk 0]).length = i := by rw [List.length_append, hel]; simp; omega
          refine ⟨fun e => (by cases e), fun _ => ⟨_, y20 h19 (by show (q.eraseIdx kk ++ [q.getD kk 0]).length < _; rw [hnl]; omega), fun e => ?_, fun _ => ?_⟩⟩
          · have e : ((q.eraseIdx kk ++ [q.getD kk 0]).length : Int) ≠ (i : Int) := by simpa using e
            rw [hnl] at e; exact absurd rfl e
          · have hw : IntKind.wrap .i64 ((i : Int) - 1) = ((i - 1 : Nat) : Int) := by rw [wrap64 (by omega) (by omega)]; omega
            rw [hw]
            refine ⟨by omega, ?_, fun e => ?_, fun _ => ?_⟩
            · show ((i - 1 : Nat) : Int) < ((q.eraseIdx kk ++ [q.getD kk 0]).length : Int)
              rw [hnl]; omega
            · rw [Int.toNat_natCast] at e
              have e : (q.eraseIdx kk ++ [q.getD kk 0]).getD (i - 1) 0 ≠ q.getD kk 0 := by simpa using e
              refine absurd ?_ e
              simp only [List.getD]
              rw [List.getElem?_append_right (by omega), hel]
              simp
            · rw [wrap64 (x := (v : Int) + 1) (by omega) (by omega)]
              refine Again.mk (v + 1, X19, T3) rfl ⟨hv, _, hnl, ?_, h19⟩ (by simp only; omega)
              intro x hx
              rcases List.mem_append.1 hx with hx | hx
              · exact v3 x (List.mem_of_mem_eraseIdx hx)
              · simp only [List.mem_singleton] at hx
                subst hx; exact hid

theorem law_ThreadTurns (many : Int) (picks : List Int) (f0 : Cd.wf (.int .i64) many) (f1 : Cd.wf (.slice (.int .i64)) picks) : PC Try.prog 3 [Cd.enc (.int .i64) many, Cd.enc (.slice (.int .i64)) picks] (.bool true) :=
  p3 ⟨f0.1, f0.2⟩ fun x hx => ⟨(f1.2 x hx).1, (f1.2 x hx).2⟩

end Go.Proofs.Ytaaedebknacheaa.AB

set_option linter.unusedVariables false
set_option linter.unusedSimpArgs false
set_option maxRecDepth 100000
set_option maxHeartbeats 2000000
namespace Go.Proofs.Ytaaedebknacheaa.AB
open Go
/-! crucible/cruciblelaw18.ThreadJoins -/
noncomputable def X12 : Cx := ⟨tt, [(14, [.cd .bool]), (16, [.cd (.int .i64)]), (49, [.cd .bool])], [(15, [(.ref cthread_Table)]), (17, [(.pure (.int .i64)), (.pure (.int .i64))]), (18, [(.pure (.int .i64)), (.pure .bool)]), (20, [(.pure (.slice (.int .i64)))]), (21, [(.pure (.int .i64))]), (47, [(.pure .bool), (.pure (.int .i64))]), (48, [(.sl (.pure (.int .i64))), (.pure (.int .i64))]), (49, [(.pure .bool)]), (50, [(.pure (.slice (.int .i64)))])], [(12, [(4, 0, .xc), (11, 2, .xc), (17, 1, .rd), (25, 2, .xc), (28, 1, .xc), (29, 8, .rd), (32, 1, .rd), (35, 1, .xc), (36, 1, .xc), (37, 2, .rd), (38, 1, .rd), (39, 20, .rd), (39, 25, .rd)])], [(12, [(0, mkM 176 0 [1, 5, 6, 7, 8], 0), (2, mkM 176 0 [1, 5, 6, 7, 9, 10], 0), (4, mkM 176 0 [1, 5, 6, 7, 9, 10, 11, 12, 13, 14], 0)])], []⟩
theorem FN12 : fnsB Try.prog X12.fns := (show True from trivial)
def M12_0 : List Bool × Nat := (mkM 176 0 [1, 5, 6, 7, 8], 1)
def S12_0 (picks1 : List Int) (head5 : Bool) (t6 : Option Nat) (n7 : Int) (i8 : Int) (hq0 : XH) (T : Toks) : St :=
  mkS 176 [(1, (.v (.list (.int .i64) picks1 .no))), (5, (.v (.bool head5))), (6, (.ref t6 cthread_Table 0 [])), (7, (.v (.int .i64 n7))), (8, (.v (.int .i64 i8)))] [(some (.heap hq0))] T
noncomputable def B12_0 : (Exit → St → Prop) → St → Prop := (awp X12.tt (callN Try.prog X12 0) (X12.md 12) 1 (X12.mk1 12) 0 (codeAt [1, 1, 1, 1, 1, 1, 0, 1, 0, 0] (bd Try.f12)))
def M12_2 : List Bool × Nat := (mkM 176 0 [1, 5, 6, 7, 9, 10], 1)
def S12_2 (picks1 : List Int) (head5 : Bool) (t6 : Option Nat) (n7 : Int) (order9 : List Int) (order9k : Tok) (i10 : Int) (hq0 : XH) (T : Toks) : St :=
  mkS 176 [(1, (.v (.list (.int .i64) picks1 .no))), (5, (.v (.bool head5))), (6, (.ref t6 cthread_Table 0 [])), (7, (.v (.int .i64 n7))), (9, (.v (.list (.int .i64) order9 order9k))), (10, (.v (.int .i64 i10)))] [(some (.heap hq0))] T
noncomputable def B12_2 : (Exit → St → Prop) → St → Prop := (awp X12.tt (callN Try.prog X12 0) (X12.md 12) 1 (X12.mk1 12) 2 (codeAt [1, 1, 1, 1, 1, 1, 1, 1, 0, 1, 0, 0] (bd Try.f12)))
def M12_4 : List Bool × Nat := (mkM 176 0 [1, 5, 6, 7, 9, 10, 11, 12, 13, 14], 1)
def S12_4 (picks1 : List Int) (head5 : Bool) (t6 : Option Nat) (n7 : Int) (order9 : List Int) (order9k : Tok) (i10 : Int) (k11 : Int) (q12 : List Int) (at13 : Int) (j14 : Int) (hq0 : XH) (T : Toks) : St :=
  mkS 176 [(1, (.v (.list (.int .i64) picks1 .no))), (5, (.v (.bool head5))), (6, (.ref t6 cthread_Table 0 [])), (7, (.v (.int .i64 n7))), (9, (.v (.list (.int .i64) order9 order9k))), (10, (.v (.int .i64 i10))), (11, (.v (.int .i64 k11))), (12, (.v (.list (.int .i64) q12 .no))), (13, (.v (.int .i64 at13))), (14, (.v (.int .i64 j14)))] [(some (.heap hq0))] T
noncomputable def B12_4 : (Exit → St → Prop) → St → Prop := (awp X12.tt (callN Try.prog X12 0) (X12.md 12) 1 (X12.mk1 12) 4 (codeAt [1, 1, 1, 1, 1, 1, 1, 1, 0, 1, 0, 0, 1, 0, 0, 1, 1, 1, 0, 1, 0, 0] (bd Try.f12)))
noncomputable def K12_0 (R : V → Prop) : Exit → St → Prop := seqK ((awp X12.tt (callN Try.prog X12 0) (X12.md 12) 1 (X12.mk1 12) 0 (codeAt [1, 1, 1, 1, 1, 1, 1] (bd Try.f12))) (retK tt Try.f12.results.toList fun x s' => topK R x ⟨[], s'.hp, s'.T⟩)) (retK tt Try.f12.results.toList fun x s' => topK R x ⟨[], s'.hp, s'.T⟩)
noncomputable def Q12_0 (R : V → Prop) : Exit → St → Prop := (blockK 0 (K12_0 R))
noncomputable def K12_1 (R : V → Prop) : Exit → St → Prop := seqK ((awp X12.tt (callN Try.prog X12 0) (X12.md 12) 1 (X12.mk1 12) 0 (codeAt [1, 1, 1, 1, 1, 1, 1, 1, 1] (bd Try.f12))) (retK tt Try.f12.results.toList fun x s' => topK R x ⟨[], s'.hp, s'.T⟩)) (retK tt Try.f12.results.toList fun x s' => topK R x ⟨[], s'.hp, s'.T⟩)
noncomputable def Q12_2 (R : V → Prop) : Exit → St → Prop := (blockK 2 (K12_1 R))
noncomputable def K12_2 (R : V → Prop) (k2 : St → Prop) : Exit → St → Prop := seqK ((awp X12.tt (callN Try.prog X12 0) (X12.md 12) 1 (X12.mk1 12) 2 (codeAt [1, 1, 1, 1, 1, 1, 1, 1, 0, 1, 0, 0, 1, 1] (bd Try.f12))) (loopQ M12_2 k2 (blockK 2 (K12_1 R)))) (loopQ M12_2 k2 (blockK 2 (K12_1 R)))
noncomputable def K12_3 (R : V → Prop) (k2 : St → Prop) : Exit → St → Prop := seqK ((awp X12.tt (callN Try.prog X12 0) (X12.md 12) 1 (X12.mk1 12) 3 (codeAt [1, 1, 1, 1, 1, 1, 1, 1, 0, 1, 0, 0, 1, 0, 0, 1, 1, 1, 1] (bd Try.f12))) (blockK 3 (K12_2 R k2))) (blockK 3 (K12_2 R k2))
noncomputable def Q12_4 (R : V → Prop) (k2 : St → Prop) : Exit → St → Prop := (blockK 4 (K12_3 R k2))
theorem E12 (many0 : Int) (picks1 : (List Int)) {R : V → Prop} (h : (∃ p1 : Bool, PC Try.prog 14 [] (.bool p1) ∧ (((!p1) = true → R (.bool false)) ∧
 ((!p1) = false → (XC Try.prog 15 [(.ref cthread_Table)] [] XH.none (fun (p2 : (Option Nat)) (X3 : XH) => (((Option.isNone p2) = true → R (.bool false)) ∧
 ((Option.isNone p2) = false → (∃ p4 : Int, PC Try.prog 16 [(.int .i64 many0), (.int .i64 (40 : Int))] (.int .i64 p4) ∧ (Loops B12_0 M12_0 (Q12_0 R)
  (S12_0 picks1 p1 p2 ((IntKind.wrap .i64 ((2 : Int) + p4))) (0 : Int) X3 ⟨0, []⟩))))))))))) :
  fnK X12.tt (callN Try.prog X12 0) (X12.md 12) (X12.mk1 12) Try.f12 [(.v (.int .i64 many0)), (.v (.list (.int .i64) picks1 .no))] ⟨[], [some (.heap XH.none)], ⟨0, []⟩⟩ (topK R) := Eq.mp (by kernel_rfl) h
theorem L12_0 (picks1 : List Int) (head5 : Bool) (t6 : Option Nat) (n7 : Int) (i8 : Int) (hq0 : XH) (T : Toks) {R : V → Prop} {k0 : St → Prop}
 (h : (((decide (i8 < n7)) = true → (XC Try.prog 17 [(.pure (.int .i64)), (.pure (.int .i64))] [(.ref t6 cthread_Table 0 []), (.v (.agg [(.int .i64 (0 : Int)), (.int .i64 (0 : Int)), (.list (.int .i64) ([] : List Int) .no), (.list (.int .i64) ([] : List Int) .no)]))] hq0 (fun (p5 : Int × Int) (X6 : XH) => k0 (S12_0 picks1 head5 t6 n7 ((IntKind.wrap .i64 (i8 + (1 : Int)))) X6 T)))) ∧
 ((decide (i8 < n7)) = false → (Loops B12_2 M12_2 (Q12_2 R)
  (S12_2 picks1 head5 t6 n7 ([] : List Int) .exact (0 : Int) hq0 T))))) :
  B12_0 (loopQ M12_0 k0 (Q12_0 R)) (S12_0 picks1 head5 t6 n7 i8 hq0 T) := Eq.mp (by kernel_rfl) h
theorem L12_2 (picks1 : List Int) (head5 : Bool) (t6 : Option Nat) (n7 : Int) (order9 : List Int) (order9k : Tok) (i10 : Int) (hq0 : XH) (T : Toks) {R : V → Prop} {k2 : St → Prop}
 (h : (((decide (i10 < ((picks1).length : Int))) = true → (((decide (i10 < (IntKind.wrap .i64 (n7 - (1 : Int))))) = true → (0 ≤ i10 ∧ i10 < ((picks1).length : Int) ∧ (∃ p7 : Int, PC Try.prog 16 [(.int .i64 ((picks1.getD (i10).toNat 0))), (.int .i64 ((IntKind.wrap .i64 (n7 - (1 : Int)))))] (.int .i64 p7) ∧ (∃ (p8 : (List Int)), RC Try.prog 20 [(.pure (.slice (.int .i64)))] [(.ref t6 cthread_Table 0 [])] hq0 p8 ∧ (Loops B12_4 M12_4 (Q12_4 R k2)
  (S12_4 picks1 head5 t6 n7 order9 order9k i10 p7 p8 (-1 : Int) (0 : Int) hq0 T)))))) ∧
 ((decide (i10 < (IntKind.wrap .i64 (n7 - (1 : Int))))) = false → (∃ (p9 : (List Int)), RC Try.prog 20 [(.pure (.slice (.int .i64)))] [(.ref t6 cthread_Table 0 [])] hq0 p9 ∧ (((((p9).length : Int) != (IntKind.wrap .i64 (n7 - ((order9).length : Int)))) = true → R (.bool false)) ∧
 ((((p9).length : Int) != (IntKind.wrap .i64 (n7 - ((order9).length : Int)))) = false → (XC Try.prog 18 [(.pure (.int .i64)), (.pure .bool)] [(.ref t6 cthread_Table 0 []), (.v (.int .i64 (0 : Int)))] hq0 (fun (p10 : Int × Bool) (X11 : XH) => (XC Try.prog 48 [(.sl (.pure (.int .i64))), (.pure (.int .i64))] [(.ref t6 cthread_Table 0 [])] X11 (fun (p12 : (Option SlH) × Int) (X13 : XH) => (∃ (p14 : Bool), RC Try.prog 49 [(.pure .bool)] [(.sl (.pure (.int .i64)) p12.1), (.v (.list (.int .i64) order9 .no))] X13 p14 ∧ (∃ (p15 : (List Int)), RC Try.prog 20 [(.pure (.slice (.int .i64)))] [(.ref t6 cthread_Table 0 [])] X13 p15 ∧ (0 ≤ (1 : Int) ∧ (1 : Int) ≤ ((p9).length : Int) ∧ (Tok.own .exact T.l ∧ ((([] : List Int)).length + (((p9.take ((p9).length)).drop ((1 : Int)).toNat)).length) * 8 ≤ room ∧ (Tok.own (.tk T.n) (T.n :: T.l) ∧ (((([] : List Int) ++ ((p9.take ((p9).length)).drop ((1 : Int)).toNat))).length + (order9).length) * 8 ≤ room ∧ (∃ p16 : Bool, PC Try.prog 49 [(.list (.int .i64) p15 .no), (.list (.int .i64) (((([] : List Int) ++ ((p9.take ((p9).length)).drop ((1 : Int)).toNat)) ++ order9)) .no)] (.bool p16) ∧ (∀ (m17 : Nat), ((T.n + 1) + 1) ≤ m17 → ((head5 = true → ((p10.2 = true → (((p10.1 == (1 : Int)) = true → (((p12.2 == (0 : Int)) = true → ((p14 = true → ((p16 = true → (∃ (p18 : Int), RC Try.prog 21 [(.pure (.int .i64))] [(.ref t6 cthread_Table 0 []), (.v (.int .i64 (1 : Int)))] X13 p18 ∧ (((p18 == (5 : Int)) = true → (∃ (p19 : (List Int)), RC Try.prog 50 [(.pure (.slice (.int .i64)))] [(.ref t6 cthread_Table 0 [])] X13 p19 ∧ R (.bool ((((p19).length : Int) == (IntKind.wrap .i64 (n7 - (1 : Int)))))))) ∧ ((p18 == (5 : Int)) = false → R (.bool false))))) ∧ (p16 = false → R (.bool false)))) ∧ (p14 = false → R (.bool false)))) ∧ ((p12.2 == (0 : Int)) = false → R (.bool false)))) ∧ ((p10.1 == (1 : Int)) = false → R (.bool false)))) ∧ (p10.2 = false → R (.bool false)))) ∧ (head5 = false → R (.bool false)))))))))))))))))))) ∧ ((decide (i10 < ((picks1).length : Int))) = false → (∃ (p20 : (List Int)), RC Try.prog 20 [(.pure (.slice (.int .i64)))] [(.ref t6 cthread_Table 0 [])] hq0 p20 ∧ (((((p20).length : Int) != (IntKind.wrap .i64 (n7 - ((order9).length : Int)))) = true → R (.bool false)) ∧
 ((((p20).length : Int) != (IntKind.wrap .i64 (n7 - ((order9).length : Int)))) = false → (XC Try.prog 18 [(.pure (.int .i64)), (.pure .bool)] [(.ref t6 cthread_Table 0 []), (.v (.int .i64 (0 : Int)))] hq0 (fun (p21 : Int × Bool) (X22 : XH) => (XC Try.prog 48 [(.sl (.pure (.int .i64))), (.pure (.int .i64))] [(.ref t6 cthread_Table 0 [])] X22 (fun (p23 : (Option SlH) × Int) (X24 : XH) => (∃ (p25 : Bool), RC Try.prog 49 [(.pure .bool)] [(.sl (.pure (.int .i64)) p23.1), (.v (.list (.int .i64) order9 .no))] X24 p25 ∧ (∃ (p26 : (List Int)), RC Try.prog 20 [(.pure (.slice (.int .i64)))] [(.ref t6 cthread_Table 0 [])] X24 p26 ∧ (0 ≤ (1 : Int) ∧ (1 : Int) ≤ ((p20).length : Int) ∧ (Tok.own .exact T.l ∧ ((([] : List Int)).length + (((p20.take ((p20).length)).drop ((1 : Int)).toNat)).length) * 8 ≤ room ∧ (Tok.own (.tk T.n) (T.n :: T.l) ∧ (((([] : List Int) ++ ((p20.take ((p20).length)).drop ((1 : Int)).toNat))).length + (order9).length) * 8 ≤ room ∧ (∃ p27 : Bool, PC Try.prog 49 [(.list (.int .i64) p26 .no), (.list (.int .i64) (((([] : List Int) ++ ((p20.take ((p20).length)).drop ((1 : Int)).toNat)) ++ order9)) .no)] (.bool p27) ∧ (∀ (m28 : Nat), ((T.n + 1) + 1) ≤ m28 → ((head5 = true → ((p21.2 = true → (((p21.1 == (1 : Int)) = true → (((p23.2 == (0 : Int)) = true → ((p25 = true → ((p27 = true → (∃ (p29 : Int), RC Try.prog 21 [(.pure (.int .i64))] [(.ref t6 cthread_Table 0 []), (.v (.int .i64 (1 : Int)))] X24 p29 ∧ (((p29 == (5 : Int)) = true → (∃ (p30 : (List Int)), RC Try.prog 50 [(.pure (.slice (.int .i64)))] [(.ref t6 cthread_Table 0 [])] X24 p30 ∧ R (.bool ((((p30).length : Int) == (IntKind.wrap .i64 (n7 - (1 : Int)))))))) ∧ ((p29 == (5 : Int)) = false → R (.bool false))))) ∧ (p27 = false → R (.bool false)))) ∧ (p25 = false → R (.bool false)))) ∧ ((p23.2 == (0 : Int)) = false → R (.bool false)))) ∧ ((p21.1 == (1 : Int)) = false → R (.bool false)))) ∧ (p21.2 = false → R (.bool false)))) ∧ (head5 = false → R (.bool false)))))))))))))))))))) :
  B12_2 (loopQ M12_2 k2 (Q12_2 R)) (S12_2 picks1 head5 t6 n7 order9 order9k i10 hq0 T) := Eq.mp (by kernel_rfl) h
theorem L12_4 (picks1 : List Int) (head5 : Bool) (t6 : Option Nat) (n7 : Int) (order9 : List Int) (order9k : Tok) (i10 : Int) (k11 : Int) (q12 : List Int) (at13 : Int) (j14 : Int) (hq0 : XH) (T : Toks) {R : V → Prop} {k2 : St → Prop} {k4 : St → Prop}
 (h : (((decide (j14 < ((q12).length : Int))) = true → (0 ≤ j14 ∧ j14 < ((q12).length : Int) ∧ ((((q12.getD (j14).toNat 0) == (IntKind.wrap .i64 (k11 + (2 : Int)))) = true → k4 (S12_4 picks1 head5 t6 n7 order9 order9k i10 k11 q12 j14 ((IntKind.wrap .i64 (j14 + (1 : Int)))) hq0 T)) ∧
 (((q12.getD (j14).toNat 0) == (IntKind.wrap .i64 (k11 + (2 : Int)))) = false → k4 (S12_4 picks1 head5 t6 n7 order9 order9k i10 k11 q12 at13 ((IntKind.wrap .i64 (j14 + (1 : Int)))) hq0 T))))) ∧
 ((decide (j14 < ((q12).length : Int))) = false → (((decide (at13 < (0 : Int))) = true → k2 (S12_2 picks1 head5 t6 n7 order9 order9k ((IntKind.wrap .i64 (i10 + (1 : Int)))) hq0 T)) ∧
 ((decide (at13 < (0 : Int))) = false → (XC Try.prog 18 [(.pure (.int .i64)), (.pure .bool)] [(.ref t6 cthread_Table 0 []), (.v (.int .i64 at13))] hq0 (fun (p31 : Int × Bool) (X32 : XH) => (((!p31.2) = true → R (.bool false)) ∧ ((!p31.2) = false → (((p31.1 != (IntKind.wrap .i64 (k11 + (2 : Int)))) = true → R (.bool false)) ∧
 ((p31.1 != (IntKind.wrap .i64 (k11 + (2 : Int)))) = false → (XC Try.prog 47 [(.pure .bool), (.pure (.int .i64))] [(.ref t6 cthread_Table 0 []), (.v (.int .i64 (1 : Int)))] X32 (fun (p33 : Bool × Int) (X34 : XH) => ((p33.1 = true → R (.bool false)) ∧ (p33.1 = false → (((p33.2 != (0 : Int)) = true → R (.bool false)) ∧ ((p33.2 != (0 : Int)) = false → (∃ (p35 : Int), RC Try.prog 21 [(.pure (.int .i64))] [(.ref t6 cthread_Table 0 []), (.v (.int .i64 p31.1))] X34 p35 ∧ (((p35 != (4 : Int)) = true → R (.bool false)) ∧
 ((p35 != (4 : Int)) = false → (Tok.own order9k T.l ∧ ((order9).length + (([p31.1] : List Int)).length) * 8 ≤ room ∧ k2 (S12_2 picks1 head5 t6 n7 ((order9 ++ ([p31.1] : List Int))) (.tk T.n) ((IntKind.wrap .i64 (i10 + (1 : Int)))) X34 ⟨(T.n + 1), (T.n :: Tok.drop order9k T.l)⟩)))))))))))))))))))))) :
  B12_4 (loopQ M12_4 k4 (Q12_4 R k2)) (S12_4 picks1 head5 t6 n7 order9 order9k i10 k11 q12 at13 j14 hq0 T) := Eq.mp (by kernel_rfl) h
end Go.Proofs.Ytaaedebknacheaa.AB

set_option linter.unusedVariables false
set_option linter.unusedSimpArgs false
set_option maxRecDepth 100000
namespace Go.Proofs.Ytaaedebknacheaa.AB
open Go

variable {X X' : XH} {t : Nat} {m m' : MT}

theorem y50 (h : RepM X t m) (hi : ∀ a ∈ m.rows, I64 a.id) (hs : m.rows.length < 1000000) :
    RC Try.prog 50 [.pure (.slice (.int .i64))] [.ref (some t) cthread_Table 0 []] X ((m.rows.map (·.id)).mergeSort leN) := by
  obtain ⟨d, h, rfl⟩ := h
  exact c50 h hi hs

theorem find_range {n : Nat} {g : Nat → Ab} (hg : ∀ j, (g j).id = (j : Int) + 1) {id : Int} (h1 : 1 ≤ id) (h2 : id ≤ n) :
    List.find? (fun a => decide (a.id = id)) ((List.range n).map g) = some (g (id - 1).toNat) := by
  obtain ⟨j, rfl⟩ : ∃ j : Nat, id = (j : Int) + 1 := ⟨(id - 1).toNat, by omega⟩
  have hj : j < n := by omega
  have e : ((j : Int) + 1 - 1).toNat = j := by omega
  rw [e]
  clear e h1 h2
  induction n with
  | zero => omega
  | succ n ih =>
    rw [List.range_succ, List.map_append, List.find?_append]
    by_cases q : j = n
    · subst q
      have : List.find? (fun a => decide (a.id = (j : Int) + 1)) ((List.range j).map g) = none := by
        rw [List.find?_eq_none]
        intro a ha
        obtain ⟨i, hi, rfl⟩ := List.mem_map.1 ha
        have hi := List.mem_range.1 hi
        rw [hg]
        simp; omega
      rw [this]
      simp [hg]
    · rw [ih (by omega)]; rfl

theorem upd_range {n : Nat} {g : Nat → Ab} (hg : ∀ j, (g j).id = (j : Int) + 1) (f : Ab → Ab) (id : Int) :
    updAb id f ((List.range n).map g) = (List.range n).map fun j : Nat => if (j : Int) + 1 = id then f (g j) else g j := by
  unfold updAb
  rw [List.map_map]
  refine List.map_congr_left fun j _ => ?_
  simp only [Function.comp, hg]

def rowJ (order : List Int) (j : Nat) : Ab := ⟨(j : Int) + 1, if (j : Int) + 1 ∈ order then 4 else 1, [F0], if j = 0 then order else []⟩
def rowsJ (n : Nat) (order : List Int) : List Ab := (List.range n).map (rowJ order)
def quJ (n : Nat) (order : List Int) : List Int := (numsN n).filter fun x => decide (x ∉ order)
def mJ (n : Nat) (order : List Int) : MT := ⟨n, 0, quJ n order, rowsJ n order⟩

structure Good (n : Nat) (order : List Int) : Prop where
  mem : ∀ x ∈ order, 2 ≤ x ∧ x ≤ (n : Int)
  len : (quJ n order).length + order.length = n

theorem nums_len (n : Nat) : (numsN n).length = n := by simp [numsN]

theorem nums_mem {n : Nat} {x : Int} : x ∈ numsN n ↔ 1 ≤ x ∧ x ≤ n := by
  simp only [numsN, List.mem_map, List.mem_range]
  constructor
  · rintro ⟨j, hj, rfl⟩; omega
  · rintro ⟨h1, h2⟩; exact ⟨(x - 1).toNat, by omega, by omega⟩

theorem nums_nodup (n : Nat) : (numsN n).Nodup := by
  unfold numsN
  induction n with
  | zero => exact List.nodup_nil
  | succ n ih =>
    rw [List.range_succ, List.map_append, List.nodup_append]
    refine ⟨ih, by simp, ?_⟩
    intro a ha b hb e
    simp only [List.mem_map, List.mem_range, List.map_cons, List.map_nil, List.mem_singleton] at ha hb
    obtain ⟨j, hj, rfl⟩ := ha
    subst hb; omega

theorem qu_mem {n : Nat} {order : List Int} {x : Int} : x ∈ quJ n order ↔ (1 ≤ x ∧ x ≤ n) ∧ x ∉ order := by
  simp only [quJ, List.mem_filter, nums_mem, decide_eq_true_eq]

theorem qu_nil (n : Nat) : quJ n [] = numsN n := by
  unfold quJ
  rw [List.filter_eq_self]
  intro a _; simp

theorem good_nil (n : Nat) : Good n [] := ⟨by simp, by rw [qu_nil, nums_len]; rfl⟩

theorem filter_erase {l : List Int} (h : l.Nodup) {k : Nat} (hk : k < l.length) : l.filter (fun x => decide (x ≠ l[k])) = l.eraseIdx k := by
  induction l generalizing k with
  | nil => simp at hk
  | cons a l ih =>
    have h := List.nodup_cons.1 h
    cases k with
    | zero =>
      rw [List.filter_cons_of_neg (by simp)]
      rw [List.eraseIdx_cons_zero, List.filter_eq_self]
      intro x hx
      simp only [List.getElem_cons_zero, ne_eq, decide_eq_true_eq]
      exact fun e => h.1 (e ▸ hx)
    | succ k =>
      have hk : k < l.length := by simpa using hk
      have : a ≠ l[k] := fun e => h.1 (e ▸ List.getElem_mem hk)
      rw [List.filter_cons_of_pos (by simpa using this), List.eraseIdx_cons_succ]
      congr 1
      exact ih h.2 hk

theorem qu_erase {n : Nat} {order : List Int} {k : Nat} (hk : k < (quJ n order).length) : quJ n (order ++ [(quJ n order)[k]]) = (quJ n order).eraseIdx k := by
  have hn : (quJ n order).Nodup := (nums_nodup n).filter _
  rw [← filter_erase hn hk]
  generalize (quJ n order)[k] = y
  unfold quJ
  rw [List.filter_filter]
  refine List.filter_congr fun x _ => ?_
  by_cases h1 : x ∈ order <;> by_cases h2 : x = y <;> simp [h1, h2]

theorem qu_head {n : Nat} {order : List Int} (hn : 0 < n) (h : Good n order) : ∃ q, quJ n order = 1 :: q := by
  obtain ⟨n, rfl⟩ : ∃ k, n = k + 1 := ⟨n - 1, by omega⟩
  unfold quJ numsN
  rw [List.range_succ_eq_map, List.map_cons]
  rw [List.filter_cons_of_pos]
  · exact ⟨_, rfl⟩
  · simp only [decide_eq_true_eq]
    intro e
    have := (h.mem _ e).1
    omega

theorem rowJ_id (order : List Int) (j : Nat) : (rowJ order j).id = (j : Int) + 1 := rfl

theorem rowsJ_has {n : Nat} {order : List Int} {id : Int} (h : 1 ≤ id ∧ id ≤ n) : ∃ a ∈ rowsJ n order, a.id = id := by
  refine ⟨rowJ order (id - 1).toNat, ?_, by rw [rowJ_id]; omega⟩
  exact List.mem_map.2 ⟨_, List.mem_range.2 (by omega), rfl⟩

theorem rowsJ_nil (n : Nat) : rowsJ n [] = (List.range n).map fun j : Nat => ⟨(j : Int) + 1, 1, [F0], []⟩ := by
  refine List.map_congr_left fun j _ => ?_
  simp [rowJ]

theorem startJ {i : Nat} (hi : i < 64) : MT.startR (mJ i []) F0 = (((i : Int) + 1, 0), mJ (i + 1) []) := by
  unfold MT.startR
  rw [if_neg (by simp [mJ, rowsJ]; omega)]
  simp only [MT.start, mJ, qu_nil, rowsJ_nil, numsN, List.range_succ, List.map_append, List.map_cons, List.map_nil]
  rfl

/-- one goes to wait for the first -/
theorem joinJ {n : Nat} {order : List Int} {k : Nat} {id : Int} (h : Good n order) (hk : k < (quJ n order).length) (hid : (quJ n order)[k] = id) (h2 : 2 ≤ id) :
    (MT.next (mJ n order) k).joinR 1 = ((false, 0), mJ n (order ++ [id])) := by
  have hq := qu_mem.1 (hid ▸ List.getElem_mem hk)
  have hg : (mJ n order).queue.getD k 0 = id := by
    show (quJ n order).getD k 0 = id
    simp [List.getD, List.getElem?_eq_getElem hk, hid]
  have en : MT.next (mJ n order) k = ⟨n, id, (quJ n order).eraseIdx k, (List.range n).map fun j : Nat => if (j : Int) + 1 = id then { rowJ order j with st := 2 } else rowJ order j⟩ := by
    unfold MT.next
    rw [hg]
    simp only [MT.set, mJ]
    rw [show rowsJ n order = (List.range n).map (rowJ order) from rfl, upd_range (rowJ_id order)]
  rw [en]
  unfold MT.joinR
  rw [if_neg (by simp only; omega), if_neg (by simp only; omega), if_neg (by simp only; omega)]
  have hg1 : ∀ j : Nat, (if (j : Int) + 1 = id then { rowJ order j with st := 2 } else rowJ order j).id = (j : Int) + 1 := by
    intro j; split <;> rfl
  have hget : MT.get ⟨n, id, (quJ n order).eraseIdx k, (List.range n).map fun j : Nat => if (j : Int) + 1 = id then { rowJ order j with st := 2 } else rowJ order j⟩ 1 = some (if ((1 - 1 : Int).toNat : Int) + 1 = id then { rowJ order (1 - 1 : Int).toNat with st := 2 } else rowJ order (1 - 1 : Int).toNat) :=
    find_range hg1 (by omega) (by omega)
  rw [hget]
  simp only [MT.rest, MT.join, MT.set]
  rw [upd_range hg1]
  have hg2 : ∀ j : Nat, (if (j : Int) + 1 = id then { (if (j : Int) + 1 = id then { rowJ order j with st := 2 } else rowJ order j) with st := 4 } else (if (j : Int) + 1 = id then { rowJ order j with st := 2 } else rowJ order j)).id = (j : Int) + 1 := by
    intro j; by_cases e : (j : Int) + 1 = id <;> simp [e, rowJ]
  rw [upd_range hg2, ← hid, ← qu_erase hk, hid]
  refine congrArg (fun r => ((false, (0 : Int)), (⟨(n : Int), 0, quJ n (order ++ [id]), r⟩ : MT))) ?_
  refine List.map_congr_left fun j hj => ?_
  by_cases e : (j : Int) + 1 = id
  · have e1 : ¬ ((j : Int) + 1 = 1) := by omega
    have e2 : ¬ j = 0 := by omega
    simp [rowJ, e, e1, e2]
    intro e3; omega
  · by_cases e1 : j = 0
    · subst e1
      have e3 : ¬ (1 : Int) = id := by omega
      simp [rowJ, e3]
    · have e3 : ¬ ((j : Int) + 1 = 1) := by omega
      have e4 : ¬ ((j : Int) = 0) := by omega
      simp [rowJ, e, e1, e3, e4]

theorem queue_fold {m : MT} : ∀ l : List Int, (l.foldl MT.ready m).queue = m.queue ++ l := by
  intro l
  induction l generalizing m with
  | nil => simp
  | cons a l ih => simp only [List.foldl_cons, ih, MT.ready, List.append_assoc, List.cons_append, List.nil_append]

theorem ids_upd {id : Int} {l : List Ab} {f : Ab → Ab} (hf : ∀ a, (f a).id = a.id) : (updAb id f l).map (·.id) = l.map (·.id) := by
  unfold updAb
  rw [List.map_map]
  refine List.map_congr_left fun a _ => ?_
  simp only [Function.comp]
  split
  · exact hf a
  · rfl

theorem rows_fold {m : MT} : ∀ l : List Int, (l.foldl MT.ready m).rows.map (·.id) = m.rows.map (·.id) := by
  intro l
  induction l generalizing m with
  | nil => rfl
  | cons a l ih =>
    simp only [List.foldl_cons, ih]
    exact ids_upd (f := fun a => { a with st := 1 }) fun _ => rfl

theorem last_fold {m : MT} : ∀ l : List Int, (l.foldl MT.ready m).last = m.last := by
  intro l
  induction l generalizing m with
  | nil => rfl
  | cons a l ih => simp only [List.foldl_cons, ih]; rfl

theorem tailJ {n : Nat} {order : List Int} (n0 : 2 ≤ n) (n1 : n ≤ 41) (h : RepM X t (mJ n order)) (hg : Good n order) (T : Toks) {R : V → Prop} (hR : R (.bool true)) :
  (∃ (p20 : (List Int)), RC Try.prog 20 [(.pure (.slice (.int .i64)))] [(.ref (some t) cthread_Table 0 [])] X p20 ∧ (((((p20).length : Int) != (IntKind.wrap .i64 ((n : Int) - ((order).length : Int)))) = true → R (.bool false)) ∧
 ((((p20).length : Int) != (IntKind.wrap .i64 ((n : Int) - ((order).length : Int)))) = false → (XC Try.prog 18 [(.pure (.int .i64)), (.pure .bool)] [(.ref (some t) cthread_Table 0 []), (.v (.int .i64 (0 : Int)))] X (fun (p21 : Int × Bool) (X22 : XH) => (XC Try.prog 48 [(.sl (.pure (.int .i64))), (.pure (.int .i64))] [(.ref (some t) cthread_Table 0 [])] X22 (fun (p23 : (Option SlH) × Int) (X24 : XH) => (∃ (p25 : Bool), RC Try.prog 49 [(.pure .bool)] [(.sl (.pure (.int .i64)) p23.1), (.v (.list (.int .i64) order .no))] X24 p25 ∧ (∃ (p26 : (List Int)), RC Try.prog 20 [(.pure (.slice (.int .i64)))] [(.ref (some t) cthread_Table 0 [])] X24 p26 ∧ (0 ≤ (1 : Int) ∧ (1 : Int) ≤ ((p20).length : Int) ∧ (Tok.own .exact T.l ∧ ((([] : List Int)).length + (((p20.take ((p20).length)).drop ((1 : Int)).toNat)).length) * 8 ≤ room ∧ (Tok.own (.tk T.n) (T.n :: T.l) ∧ (((([] : List Int) ++ ((p20.take ((p20).length)).drop ((1 : Int)).toNat))).length + (order).length) * 8 ≤ room ∧ (∃ p27 : Bool, PC Try.prog 49 [(.list (.int .i64) p26 .no), (.list (.int .i64) (((([] : List Int) ++ ((p20.take ((p20).length)).drop ((1 : Int)).toNat)) ++ order)) .no)] (.bool p27) ∧ (∀ (m28 : Nat), ((T.n + 1) + 1) ≤ m28 → ((true = true → ((p21.2 = true → (((p21.1 == (1 : Int)) = true → (((p23.2 == (0 : Int)) = true → ((p25 = true → ((p27 = true → (∃ (p29 : Int), RC Try.prog 21 [(.pure (.int .i64))] [(.ref (some t) cthread_Table 0 []), (.v (.int .i64 (1 : Int)))] X24 p29 ∧ (((p29 == (5 : Int)) = true → (∃ (p30 : (List Int)), RC Try.prog 50 [(.pure (.slice (.int .i64)))] [(.ref (some t) cthread_Table 0 [])] X24 p30 ∧ R (.bool ((((p30).length : Int) == (IntKind.wrap .i64 ((n : Int) - (1 : Int)))))))) ∧ ((p29 == (5 : Int)) = false → R (.bool false))))) ∧ (p27 = false → R (.bool false)))) ∧ (p25 = false → R (.bool false)))) ∧ ((p23.2 == (0 : Int)) = false → R (.bool false)))) ∧ ((p21.1 == (1 : Int)) = false → R (.bool false)))) ∧ (p21.2 = false → R (.bool false)))) ∧ (true = false → R (.bool false))))))))))))))))) := by
  obtain ⟨q, hq⟩ := qu_head (by omega) hg
  have hql : q.length + 1 + order.length = n := by
    have := hg.len; rw [hq] at this; simpa using this
  have hlen := hg.len
  refine ⟨_, y20 h (by show (quJ n order).length < _; omega), fun e => ?_, fun _ => ?_⟩
  · have e : ((quJ n order).length : Int) ≠ IntKind.wrap .i64 ((n : Int) - (order.length : Int)) := by
      have e : (((quJ n order).length : Int) != IntKind.wrap .i64 ((n : Int) - (order.length : Int))) = true := e
      simpa using e
    rw [wrap64 (by omega) (by omega)] at e
    exact absurd (by omega) e
  have hnx : MT.nextR (mJ n order) 0 = ((1, true), ⟨n, 1, q, updAb 1 (fun a => { a with st := 2 }) (rowsJ n order)⟩) := by
    unfold MT.nextR
    rw [if_neg (by
      rintro (e | e)
      · exact absurd (show (0 : Int) < 0 from e) (by decide)
      · have e : quJ n order = [] := e
        rw [hq] at e; cases e)]
    have hpk : pickN 0 ((quJ n order).length : Int) = 0 := by unfold pickN; simp
    simp only [mJ, MT.next, MT.set, hpk, hq]
    rfl
  refine (y18 h (pick := 0) (by decide) (fun id hid => rowsJ_has (qu_mem.1 hid).1) (by show (quJ n order).length < _; omega) hnx).mono ?_
  rintro _ X1 ⟨rfl, h1⟩
  have hget : MT.get ⟨n, 1, q, updAb 1 (fun a => { a with st := 2 }) (rowsJ n order)⟩ 1 = some ⟨1, 2, [F0], order⟩ := by
    rw [rowsJ, upd_range (rowJ_id order)]
    refine (find_range (fun j => ?_) (by omega) (by omega)).trans ?_
    · split <;> rfl
    · simp [rowJ]
  have hrows : ((MT.rest ⟨n, 1, q, updAb 1 (fun a => { a with st := 2 }) (rowsJ n order)⟩ 5).del 1).rows.map (·.id) = (numsN n).filter fun x => decide (x ≠ 1) := by
    simp only [MT.del, MT.rest, MT.set]
    have hfm : ∀ l : List Ab, (l.filter fun a => decide (a.id ≠ 1)).map (·.id) = (l.map (·.id)).filter fun x => decide (x ≠ 1) := fun l => by rw [List.filter_map]; rfl
    rw [hfm]
    rw [ids_upd (f := fun a => { a with st := 5 }) (fun _ => rfl), ids_upd (f := fun a => { a with st := 2 }) (fun _ => rfl)]
    simp only [rowsJ, numsN, List.map_map]
    rfl
  have hend : MT.endR ⟨n, 1, q, updAb 1 (fun a => { a with st := 2 }) (rowsJ n order)⟩ = ((order, 0), order.foldl MT.ready ((MT.rest ⟨n, 1, q, updAb 1 (fun a => { a with st := 2 }) (rowsJ n order)⟩ 5).del 1)) := by
    unfold MT.endR
    rw [if_neg (fun e : (1 : Int) = 0 => absurd e (by decide)), hget]
  have hrest : ∀ id : Int, 2 ≤ id ∧ id ≤ n → MT.has ((MT.rest ⟨n, 1, q, updAb 1 (fun a => { a with st := 2 }) (rowsJ n order)⟩ 5).del 1) id := by
    intro id hid
    have : id ∈ ((MT.rest ⟨n, 1, q, updAb 1 (fun a => { a with st := 2 }) (rowsJ n order)⟩ 5).del 1).rows.map (·.id) := by
      rw [hrows, List.mem_filter]
      exact ⟨nums_mem.2 ⟨by omega, hid.2⟩, by simp; omega⟩
    obtain ⟨a, ha, e⟩ := List.mem_map.1 this
    exact ⟨a, ha, e⟩
  refine (y48 h1 (fun _ => ⟨_, List.mem_of_find?_eq_some hget, rfl⟩) (fun a ha => ?_) (by show q.length < _; omega) hend).mono ?_
  · have ha : MT.get ⟨n, 1, q, updAb 1 (fun a => { a with st := 2 }) (rowsJ n order)⟩ 1 = some a := ha
    rw [hget] at ha; cases ha
    exact ⟨by show order.length < _; omega, fun j hj => hrest j (hg.mem j hj)⟩
  rintro ⟨l, e⟩ X2 ⟨hl, rfl, h2⟩
  have hq2 : (order.foldl MT.ready ((MT.rest ⟨n, 1, q, updAb 1 (fun a => { a with st := 2 }) (rowsJ n order)⟩ 5).del 1)).queue = q ++ order := by
    rw [queue_fold]; rfl
  have hsame : ([] : List Int) ++ (((quJ n order).take (quJ n order).length).drop (1 : Int).toNat) = q := by
    rw [List.take_length, hq]; rfl
  refine ⟨_, c49h order hl (by omega), _, y20 h2 (by rw [hq2, List.length_append]; omega), by omega, by show (1 : Int) ≤ ((quJ n order).length : Int); omega, trivial, ?_, by simp [Tok.own], ?_, _, p49 _ _ (by rw [hq2, List.length_append]; omega), fun _ _ => ?_⟩
  · show (([] : List Int).length + (((quJ n order).take (quJ n order).length).drop (1 : Int).toNat).length) * 8 ≤ room
    rw [List.take_length, hq]
    show (0 + q.length) * 8 ≤ room
    unfold room; omega
  · show ((([] : List Int) ++ (((quJ n order).take (quJ n order).length).drop (1 : Int).toNat)).length + order.length) * 8 ≤ room
    rw [hsame]; unfold room; omega
  show _ ∧ _
  have hst : MT.state (order.foldl MT.ready ((MT.rest ⟨n, 1, q, updAb 1 (fun a => { a with st := 2 }) (rowsJ n order)⟩ 5).del 1)) 1 = 5 := by
    unfold MT.state
    have : MT.get (order.foldl MT.ready ((MT.rest ⟨n, 1, q, updAb 1 (fun a => { a with st := 2 }) (rowsJ n order)⟩ 5).del 1)) 1 = none := by
      refine List.find?_eq_none.2 fun a ha e => ?_
      have e : a.id = 1 := by simpa using e
      have : a.id ∈ (numsN n).filter fun x => decide (x ≠ 1) := by
        rw [← hrows, ← rows_fold order]
        exact List.mem_map.2 ⟨a, ha, rfl⟩
      rw [e, List.mem_filter] at this
      simp at this
    rw [this, last_fold]
    exact if_pos ⟨by omega, by show (1 : Int) ≤ n; omega⟩
  have hcount : ((numsN n).filter fun x => decide (x ≠ 1)).length = n - 1 := by
    have h0 : 0 < (numsN n).length := by rw [nums_len]; omega
    have h1 : (numsN n)[0] = 1 := by simp [numsN]
    have := filter_erase (nums_nodup n) h0
    rw [h1] at this
    rw [this, List.length_eraseIdx, if_pos h0, nums_len]
  refine ⟨fun _ => ⟨fun _ => ⟨fun _ => ⟨fun _ => ⟨fun _ => ⟨fun _ => ?_, fun e => ?_⟩, fun e => ?_⟩, fun e => absurd e (by simp)⟩, fun e => absurd e (by simp)⟩, fun e => absurd e (by simp)⟩, fun e => absurd e (by simp)⟩
  · refine ⟨_, y21 h2 1, fun _ => ⟨_, y50 h2 (fun a ha => ?_) ?_, ?_⟩, fun e => absurd e ?_⟩
    · have : a.id ∈ (numsN n).filter fun x => decide (x ≠ 1) := by
        rw [← hrows, ← rows_fold order]
        exact List.mem_map.2 ⟨a, ha, rfl⟩
      have := nums_mem.1 (List.mem_filter.1 this).1
      exact ⟨by omega, by omega⟩
    · rw [← List.length_map (f := (·.id)), rows_fold, hrows, hcount]; omega
    · rw [List.length_mergeSort, rows_fold, hrows, hcount, wrap64 (by omega) (by omega)]
      rw [show (((n - 1 : Nat) : Int) == (n : Int) - 1) = true from by simp; omega]
      exact hR
    · rw [hst]; decide
  · have hsame' : ([] : List Int) ++ (((mJ n order).queue.take (mJ n order).queue.length).drop (1 : Int).toNat) = q := hsame
    exact absurd (of_decide_eq_false e) (fun g => g (by rw [hq2, hsame']))
  · simp at e

theorem get_at {l : List Int} {v : Nat} (h : v < l.length) : l.getD v 0 = l[v] := by simp [List.getD, List.getElem?_eq_getElem h]

theorem p12 {many : Int} {picks : List Int} (hm : I64 many) (hp : ∀ x ∈ picks, I64 x) (hpl : picks.length ≤ 9223372036854775807) : PC Try.prog 12 [.int .i64 many, .list (.int .i64) picks .no] (.bool true) := by
  have hr := pickN_range many (n := 40) (by omega)
  refine lawOf (X := X12) rfl FN12 (by kernel_rfl) (by decide) (E12 many picks ⟨true, p14, fun e => (by cases e), fun _ => (y15 _).mono ?_⟩)
  rintro _ X3 ⟨t, rfl, h0⟩
  refine ⟨fun e => (by cases e), fun _ => ⟨_, c16 hm.1 hm.2 (by omega), ?_⟩⟩
  obtain ⟨n, hn⟩ : ∃ n : Nat, (n : Int) = 2 + pickN many 40 := ⟨(2 + pickN many 40).toNat, by omega⟩
  rw [wrap64 (x := 2 + pickN many 40) (by omega) (by omega), ← hn]
  have n0 : 2 ≤ n := by omega
  have n1 : n ≤ 41 := by omega
  refine Loops.intro (fun a : Nat × XH => S12_0 picks true (some t) n (a.1 : Int) a.2 ⟨0, []⟩) (fun a => a.1 ≤ n ∧ RepM a.2 t (mJ a.1 [])) (fun a => n - a.1) (0, X3) rfl ⟨Nat.zero_le _, h0⟩ ?_
  rintro ⟨i, Xi⟩ ⟨j1, j2⟩
  simp only at j1 j2
  refine L12_0 picks true (some t) n (i : Int) Xi ⟨0, []⟩ ⟨fun e => ?_, fun e => ?_⟩
  · have hi : i < n := by simpa using e
    refine (y17 j2 (f := F0) sF0 ⟨?_, ?_, ?_⟩ ?_ (startJ (by omega))).mono ?_
    · show (0 : Int) ≤ (i : Int); omega
    · show (i : Int) < _; omega
    · intro a ha
      obtain ⟨j, hj, rfl⟩ := List.mem_map.1 ha
      have := List.mem_range.1 hj
      show (j : Int) + 1 ≤ (i : Int); omega
    · show (quJ i []).length < _; rw [qu_nil, nums_len]; omega
    · rintro _ X6 ⟨rfl, h6⟩
      rw [wrap64 (x := (i : Int) + 1) (by omega) (by omega)]
      exact Again.mk (i + 1, X6) rfl ⟨hi, h6⟩ (by simp only; omega)
  · have hi : i = n := by
      have : ¬ (i : Int) < (n : Int) := by simpa using e
      omega
    subst hi
    refine Loops.intro (fun a : Nat × List Int × Tok × XH × Toks => S12_2 picks true (some t) i a.2.1 a.2.2.1 (a.1 : Int) a.2.2.2.1 a.2.2.2.2)
      (fun a => a.1 ≤ picks.length ∧ Good i a.2.1 ∧ a.2.2.1.fresh a.2.2.2.2 ∧ RepM a.2.2.2.1 t (mJ i a.2.1)) (fun a => picks.length - a.1) (0, [], .exact, Xi, ⟨0, []⟩) rfl
      ⟨Nat.zero_le _, good_nil _, trivial, j2⟩ ?_
    rintro ⟨v, order, tok, Xv, T⟩ ⟨v1, v2, v3, v4⟩
    simp only at v1 v2 v3 v4
    have hol := v2.len
    have hw1 : IntKind.wrap .i64 ((i : Int) - 1) = ((i - 1 : Nat) : Int) := by rw [wrap64 (by omega) (by omega)]; omega
    refine L12_2 picks true (some t) i order tok (v : Int) Xv T ⟨fun e => ⟨fun e2 => ?_, fun e2 => tailJ (R := fun v => v.norm = V.bool true ∧ (V.bool true).nt = true) n0 n1 v4 v2 T ⟨rfl, rfl⟩⟩, fun e => tailJ (R := fun v => v.norm = V.bool true ∧ (V.bool true).nt = true) n0 n1 v4 v2 T ⟨rfl, rfl⟩⟩
    have hv : v < picks.length := by simpa using e
    rw [hw1]
    have hpk : I64 (picks.getD (v : Int).toNat 0) := by
      rw [Int.toNat_natCast, get_at hv]; exact hp _ (List.getElem_mem hv)
    have hr2 := pickN_range (picks.getD (v : Int).toNat 0) (n := ((i - 1 : Nat) : Int)) (by omega)
    refine ⟨by omega, by omega, _, c16 hpk.1 hpk.2 (by omega), _, y20 v4 (by show (quJ i order).length < _; omega), ?_⟩
    generalize pickN (picks.getD (v : Int).toNat 0) ((i - 1 : Nat) : Int) = k at hr2 ⊢
    have hk2 : IntKind.wrap .i64 (k + 2) = k + 2 := wrap64 (by omega) (by omega)
    show Loops B12_4 M12_4 _ (S12_4 picks true (some t) i order tok v k (quJ i order) (-1) 0 Xv T)
    refine Loops.intro (fun a : Nat × Int => S12_4 picks true (some t) i order tok v k (quJ i order) a.2 (a.1 : Int) Xv T)
      (fun a => a.1 ≤ (quJ i order).length ∧ (a.2 = -1 ∨ ∃ j : Nat, a.2 = j ∧ ∃ hj : j < (quJ i order).length, (quJ i order)[j] = k + 2)) (fun a => (quJ i order).length - a.1) (0, -1) rfl ⟨Nat.zero_le _, .inl rfl⟩ ?_
    rintro ⟨j, at_⟩ ⟨w1, w2⟩
    simp only at w1 w2
    refine L12_4 picks true (some t) i order tok v k (quJ i order) at_ (j : Int) Xv T ⟨fun e => ?_, fun e => ⟨fun e3 => ?_, fun e3 => ?_⟩⟩
    · have hj : j < (quJ i order).length := by simpa using e
      rw [hk2, Int.toNat_natCast, get_at hj, wrap64 (x := (j : Int) + 1) (by omega) (by omega)]
      refine ⟨by omega, by omega, fun e4 => ?_, fun e4 => ?_⟩
      · have e4 : (quJ i order)[j] = k + 2 := by simpa using e4
        exact Again.mk (j + 1, (j : Int)) rfl ⟨hj, .inr ⟨j, rfl, hj, e4⟩⟩ (by simp only; omega)
      · exact Again.mk (j + 1, at_) rfl ⟨hj, w2⟩ (by simp only; omega)
    · rw [wrap64 (x := (v : Int) + 1) (by omega) (by omega)]
      exact Again.mk (v + 1, order, tok, Xv, T) rfl ⟨hv, v2, v3, v4⟩ (by simp only; omega)
    · have e3 : ¬ at_ < 0 := by simpa using e3
      rcases w2 with w2 | ⟨x, rfl, hx, hxk⟩
      · omega
      have hq := qu_mem.1 (hxk ▸ List.getElem_mem hx)
      have hg0 : (quJ i order).getD x 0 = k + 2 := by rw [get_at hx, hxk]
      have hnx : MT.nextR (mJ i order) (x : Int) = ((k + 2, true), MT.next (mJ i order) x) := by
        unfold MT.nextR
        rw [if_neg (by
          rintro (e | e)
          · exact absurd (show (0 : Int) < 0 from e) (by decide)
          · have e : quJ i order = [] := e
            rw [e] at hx; simp at hx)]
        have hpk : (pickN (x : Int) ((mJ i order).queue.length : Int)).toNat = x := by
          have hx : x < (mJ i order).queue.length := hx
          unfold pickN
          rw [if_neg (by omega), Int.emod_eq_of_lt (by omega) (by omega)]; omega
        rw [hpk]
        show (((quJ i order).getD x 0, true), _) = _
        rw [hg0]
      refine (y18 v4 (pick := (x : Int)) ⟨by omega, by omega⟩ (fun id hid => rowsJ_has (qu_mem.1 hid).1) (by show (quJ i order).length < _; omega) hnx).mono ?_
      rintro _ X5 ⟨rfl, h5⟩
      refine ⟨fun e => (by cases e), fun _ => ⟨fun e => ?_, fun _ => ?_⟩⟩
      · rw [hk2] at e; simp at e
      refine (y47 h5 (other := 1) (fun _ => ?_) (fun a ha => ?_) (joinJ v2 hx hxk (by omega))).mono ?_
      · show ∃ a ∈ updAb _ _ (rowsJ i order), a.id = _
        refine (has_updAb (f := fun a => { a with st := 2 }) (fun _ => rfl)).2 (rowsJ_has ?_)
        show 1 ≤ (quJ i order).getD x 0 ∧ (quJ i order).getD x 0 ≤ i
        rw [hg0]; exact hq.1
      · have ha : a ∈ updAb ((quJ i order).getD x 0) (fun a => { a with st := 2 }) (rowsJ i order) := ha
        obtain ⟨b, hb, rfl⟩ := List.mem_map.1 ha
        obtain ⟨y, hy, rfl⟩ := List.mem_map.1 hb
        have : (rowJ order y).joins.length ≤ order.length := by
          unfold rowJ
          dsimp only
          split
          · exact Nat.le_refl _
          · exact Nat.zero_le _
        split
        · show (rowJ order y).joins.length < _; omega
        · omega
      rintro _ X7 ⟨rfl, h7⟩
      refine ⟨fun e => (by cases e), fun _ => ⟨fun e => absurd e (by simp), fun _ => ⟨_, y21 h7 (k + 2), fun e => ?_, fun _ => ⟨v3.own, ?_, ?_⟩⟩⟩⟩
      · have : MT.state (mJ i (order ++ [k + 2])) (k + 2) = 4 := by
          unfold MT.state
          have : MT.get (mJ i (order ++ [k + 2])) (k + 2) = some (rowJ (order ++ [k + 2]) (k + 2 - 1).toNat) := find_range (rowJ_id _) (by omega) (by omega)
          rw [this]
          have e1 : (((k + 2 - 1).toNat : Nat) : Int) + 1 = k + 2 := by omega
          simp only [rowJ]
          rw [e1]; simp
        rw [this] at e; simp at e
      · show (order.length + 1) * 8 ≤ room
        unfold room; omega
      · rw [wrap64 (x := (v : Int) + 1) (by omega) (by omega)]
        refine Again.mk (v + 1, order ++ [k + 2], .tk T.n, X7, _) rfl ⟨hv, ⟨fun y hy => ?_, ?_⟩, Tok.fresh_new _ _, h7⟩ (by simp only; omega)
        · rcases List.mem_append.1 hy with hy | hy
          · exact v2.mem y hy
          · simp only [List.mem_singleton] at hy
            subst hy; omega
        · have := qu_erase hx
          rw [hxk] at this
          rw [this, List.length_eraseIdx, if_pos hx, List.length_append]
          simp only [List.length_cons, List.length_nil]; omega

theorem law_ThreadJoins (many : Int) (picks : List Int) (f0 : Cd.wf (.int .i64) many) (f1 : Cd.wf (.slice (.int .i64)) picks) : PC Try.prog 12 [Cd.enc (.int .i64) many, Cd.enc (.slice (.int .i64)) picks] (.bool true) :=
  p12 ⟨f0.1, f0.2⟩ (fun x hx => ⟨(f1.2 x hx).1, (f1.2 x hx).2⟩) f1.1

end Go.Proofs.Ytaaedebknacheaa.AB

