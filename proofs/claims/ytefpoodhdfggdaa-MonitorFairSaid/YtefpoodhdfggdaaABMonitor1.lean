/- Parts of the proof: what functions of the program compute, on plain values. -/
import Derived.Shelf.SlIterI.Nil
import Derived.Shelf.SortM.Plain
import Derived.Shelf.SortM.SortNone
import Derived.Ground.GgzProg
import Derived.Ground.SlgmProg
import Derived.Test.YtefpoodhdfggdaaProg
import Derived.Test.YtefpoodhdfggdaaABx4
import Derived.KernelRfl
import Derived.Maps.OwnSet
namespace Go.Proofs.Ytefpoodhdfggdaa.AB
open Go Go.Proofs Go.RowKit Go.Maps Go.Sort Go.Shelf

def keysL_ren : Ren :=
  {
  f := fun x =>
    match x with
    | 7 => 74
    | 10 => 89
    | n => n,
  t := fun x =>
    match x with
    | 23 => 89
    | 26 => 3
    | 3 => 92
    | 28 => 85
    | 0 => 0
    | 27 => 84
    | 33 => 48
    | 4 => 4
    | n => n,
  g := fun x =>
    x }

set_option maxRecDepth 100000 in
theorem keysL : SlLaysZI.n7 Try.prog keysL_ren :=
  { mixed := by kernel_rfl, f7 := Exists.intro "maps.Keys[map[int]*crucible/monitor.lock,int,*crucible/monitor.lock]" ⟨of_decide_eq_true (by kernel_rfl), Eq.trans Try.func74 (congrArg some (by kernel_rfl))⟩, f10 := Exists.intro "maps.Keys[map[int]*crucible/monitor.lock,int,*crucible/monitor.lock]$1" ⟨of_decide_eq_true (by kernel_rfl), Eq.trans Try.func89 (congrArg some (by kernel_rfl))⟩, t0 := Try.underlying0, a0 := Try.isAgg0, z0 := Try.sizeOf0, v0 := Try.zeroValue0, t4 := Try.underlying4, a4 := Try.isAgg4, z4 := Try.sizeOf4, v4 := Try.zeroValue4, t23 := Try.underlying89, a23 := Try.isAgg89, z23 := Try.sizeOf89, v23 := Try.zeroValue89, t26 := Try.underlying3, a26 := Try.isAgg3, z26 := Try.sizeOf3, v26 := Try.zeroValue3, t27 := Try.underlying84, a27 := Try.isAgg84, z27 := Try.sizeOf84, v27 := Try.zeroValue84, t28 := Try.underlying85, a28 := Try.isAgg85, z28 := Try.sizeOf85, v28 := Try.zeroValue85, t33 := Try.underlying48, a33 := Try.isAgg48, z33 := Try.sizeOf48, v33 := Try.zeroValue48 }

def sortedL_ren : Ren :=
  {
  f := fun x =>
    match x with
    | 6 => 50
    | 8 => 80
    | 9 => 81
    | 11 => 95
    | 13 => 75
    | 12 => 96
    | 23 => 90
    | 24 => 91
    | 14 => 106
    | 15 => 107
    | 16 => 108
    | 17 => 109
    | 18 => 110
    | 19 => 111
    | 20 => 112
    | 21 => 113
    | 22 => 114
    | 25 => 121
    | 26 => 116
    | 27 => 117
    | 28 => 122
    | 29 => 123
    | 30 => 124
    | 31 => 126
    | n => n,
  t := fun x =>
    match x with
    | 26 => 3
    | 28 => 85
    | 24 => 22
    | 0 => 0
    | 3 => 3
    | 37 => 108
    | 48 => 119
    | 50 => 121
    | 4 => 4
    | 40 => 129
    | 39 => 128
    | 45 => 34
    | 5 => 5
    | 9 => 9
    | 51 => 140
    | 55 => 144
    | 57 => 149
    | 58 => 32
    | 33 => 48
    | n => n,
  g := fun x =>
    x }

set_option maxRecDepth 100000 in
theorem sortedL : SlLaysZI.n6 Try.prog sortedL_ren :=
  { mixed := by kernel_rfl, f6 := Exists.intro "slices.Sorted[int]" ⟨of_decide_eq_true (by kernel_rfl), Eq.trans Try.func50 (congrArg some (by kernel_rfl))⟩, f8 := Exists.intro "slices.Collect[int]" ⟨of_decide_eq_true (by kernel_rfl), Eq.trans Try.func80 (congrArg some (by kernel_rfl))⟩, f11 := Exists.intro "slices.AppendSeq[[]int,int]" ⟨of_decide_eq_true (by kernel_rfl), Eq.trans Try.func95 (congrArg some (by kernel_rfl))⟩, t0 := Try.underlying0, a0 := Try.isAgg0, z0 := Try.sizeOf0, v0 := Try.zeroValue0, t24 := Try.underlying22, a24 := Try.isAgg22, z24 := Try.sizeOf22, v24 := Try.zeroValue22, t26 := Try.underlying3, a26 := Try.isAgg3, z26 := Try.sizeOf3, v26 := Try.zeroValue3, t28 := Try.underlying85, a28 := Try.isAgg85, z28 := Try.sizeOf85, v28 := Try.zeroValue85, i26 := Eq.refl (some (some (Value.int IntKind.i64 0), 1, 8)) }

def sortL_ren : Ren :=
  {
  f := fun x =>
    match x with
    | 5 => 81
    | 8 => 75
    | 7 => 96
    | 19 => 90
    | 20 => 91
    | 10 => 106
    | 11 => 107
    | 12 => 108
    | 13 => 109
    | 14 => 110
    | 15 => 111
    | 16 => 112
    | 17 => 113
    | 18 => 114
    | 30 => 121
    | 31 => 116
    | 32 => 117
    | 33 => 122
    | 34 => 123
    | 35 => 124
    | 40 => 126
    | n => n,
  t := fun x =>
    match x with
    | 23 => 22
    | 25 => 3
    | 3 => 3
    | 32 => 108
    | 22 => 22
    | 0 => 0
    | 44 => 119
    | 46 => 121
    | 4 => 4
    | 36 => 129
    | 35 => 128
    | 41 => 34
    | 5 => 5
    | 9 => 9
    | 53 => 140
    | 57 => 144
    | 63 => 149
    | 64 => 32
    | n => n,
  g := fun x =>
    x }

set_option maxRecDepth 100000 in
theorem sortL : SlLaysM.n5 Try.prog sortL_ren :=
  { mixed := by kernel_rfl, f5 := Exists.intro "slices.Sort[[]int,int]" ⟨of_decide_eq_true (by kernel_rfl), Eq.trans Try.func81 (congrArg some (by kernel_rfl))⟩, f7 := Exists.intro "slices.pdqsortOrdered[int]" ⟨of_decide_eq_true (by kernel_rfl), Eq.trans Try.func96 (congrArg some (by kernel_rfl))⟩, f8 := Eq.trans Try.func75 (congrArg some (by kernel_rfl)), f10 := Exists.intro "slices.insertionSortOrdered[int]" ⟨of_decide_eq_true (by kernel_rfl), Eq.trans Try.func106 (congrArg some (by kernel_rfl))⟩, f11 := Exists.intro "slices.heapSortOrdered[int]" ⟨of_decide_eq_true (by kernel_rfl), Eq.trans Try.func107 (congrArg some (by kernel_rfl))⟩, f12 := Exists.intro "slices.breakPatternsOrdered[int]" ⟨of_decide_eq_true (by kernel_rfl), Eq.trans Try.func108 (congrArg some (by kernel_rfl))⟩, f13 := Exists.intro "slices.choosePivotOrdered[int]" ⟨of_decide_eq_true (by kernel_rfl), Eq.trans Try.func109 (congrArg some (by kernel_rfl))⟩, f14 := Exists.intro "slices.reverseRangeOrdered[int]" ⟨of_decide_eq_true (by kernel_rfl), Eq.trans Try.func110 (congrArg some (by kernel_rfl))⟩, f15 := Exists.intro "slices.partialInsertionSortOrdered[int]" ⟨of_decide_eq_true (by kernel_rfl), Eq.trans Try.func111 (congrArg some (by kernel_rfl))⟩, f16 := Exists.intro "cmp.Less[int]" ⟨of_decide_eq_true (by kernel_rfl), Eq.trans Try.func112 (congrArg some (by kernel_rfl))⟩, f17 := Exists.intro "slices.partitionEqualOrdered[int]" ⟨of_decide_eq_true (by kernel_rfl), Eq.trans Try.func113 (congrArg some (by kernel_rfl))⟩, f18 := Exists.intro "slices.partitionOrdered[int]" ⟨of_decide_eq_true (by kernel_rfl), Eq.trans Try.func114 (congrArg some (by kernel_rfl))⟩, f19 := Eq.trans Try.func90 (congrArg some (by kernel_rfl)), f20 := Eq.trans Try.func91 (congrArg some (by kernel_rfl)), f30 := Exists.intro "slices.siftDownOrdered[int]" ⟨of_decide_eq_true (by kernel_rfl), Eq.trans Try.func121 (congrArg some (by kernel_rfl))⟩, f31 := Eq.trans Try.func116 (congrArg some (by kernel_rfl)), f32 := Eq.trans Try.func117 (congrArg some (by kernel_rfl)), f33 := Exists.intro "slices.medianAdjacentOrdered[int]" ⟨of_decide_eq_true (by kernel_rfl), Eq.trans Try.func122 (congrArg some (by kernel_rfl))⟩, f34 := Exists.intro "slices.medianOrdered[int]" ⟨of_decide_eq_true (by kernel_rfl), Eq.trans Try.func123 (congrArg some (by kernel_rfl))⟩, f35 := Exists.intro "cmp.isNaN[int]" ⟨of_decide_eq_true (by kernel_rfl), Eq.trans Try.func124 (congrArg some (by kernel_rfl))⟩, f40 := Exists.intro "slices.order2Ordered[int]" ⟨of_decide_eq_true (by kernel_rfl), Eq.trans Try.func126 (congrArg some (by kernel_rfl))⟩, t0 := Try.underlying0, a0 := Try.isAgg0, z0 := Try.sizeOf0, v0 := Try.zeroValue0, t3 := Try.underlying3, a3 := Try.isAgg3, z3 := Try.sizeOf3, v3 := Try.zeroValue3, t4 := Try.underlying4, a4 := Try.isAgg4, z4 := Try.sizeOf4, v4 := Try.zeroValue4, t5 := Try.underlying5, a5 := Try.isAgg5, z5 := Try.sizeOf5, v5 := Try.zeroValue5, t9 := Try.underlying9, a9 := Try.isAgg9, z9 := Try.sizeOf9, v9 := Try.zeroValue9, t22 := Try.underlying22, a22 := Try.isAgg22, z22 := Try.sizeOf22, v22 := Try.zeroValue22, t23 := Try.underlying22, a23 := Try.isAgg22, z23 := Try.sizeOf22, v23 := Try.zeroValue22, t25 := Try.underlying3, a25 := Try.isAgg3, z25 := Try.sizeOf3, v25 := Try.zeroValue3, t32 := Try.underlying108, a32 := Try.isAgg108, z32 := Try.sizeOf108, v32 := Try.zeroValue108, t35 := Try.underlying128, a35 := Try.isAgg128, z35 := Try.sizeOf128, v35 := Try.zeroValue128, t36 := Try.underlying129, a36 := Try.isAgg129, z36 := Try.sizeOf129, v36 := Try.zeroValue129, t41 := Try.underlying34, a41 := Try.isAgg34, z41 := Try.sizeOf34, v41 := Try.zeroValue34, t44 := Try.underlying119, a44 := Try.isAgg119, z44 := Try.sizeOf119, v44 := Try.zeroValue119, t46 := Try.underlying121, a46 := Try.isAgg121, z46 := Try.sizeOf121, v46 := Try.zeroValue121, t53 := Try.underlying140, a53 := Try.isAgg140, z53 := Try.sizeOf140, v53 := Try.zeroValue140, t57 := Try.underlying144, a57 := Try.isAgg144, z57 := Try.sizeOf144, v57 := Try.zeroValue144, t63 := Try.underlying149, a63 := Try.isAgg149, z63 := Try.sizeOf149, v63 := Try.zeroValue149, t64 := Try.underlying32, a64 := Try.isAgg32, z64 := Try.sizeOf32, v64 := Try.zeroValue32 }


theorem sortsL (m : Nat) : AnyZI.SortsIn Try.prog sortedL_ren Fence.wide m :=
  ⟨fun blk off cap ss W hH hblk hsz => callsIn_wide.2 (AnyM.slices_Sort_int sortL blk off cap ss W hH hblk hsz),
   fun p cap W => callsIn_wide.2 (AnyM.slices_Sort_int_none sortL p cap W)⟩

set_option maxHeartbeats 1000000 in
theorem held_calls {H : Type} (a b nn : Nat) (D0 : DataW H) (R : Value → Option (DataW H × List MemPlace)) (w : World) (hc : w.cell? ⟨a, 0, none⟩ = some (.map (some b))) (hown : w.ownsMap Try.prog 3 R b nn D0) (hmax : Maps.size D0 ≤ maxLen)
    (hbytes : Maps.size D0 * 8 ≤ 140737488355328) :
    Calls Try.prog 42 #[.pointer (some ⟨a, 0, none⟩)] w fun e w' => ∃ (v : Value) (ss : List Int), e = .returned v ∧ ss.Perm (intKeys D0) ∧
      w'.ownsRow w.heap.size 3 1 v ss.length ((ss.mergeSort (fun x y => decide (x ≤ y))).map encZ) ∧ Below w.heap.size w w' := by
  refine (callsIn_wide (n := 6)).1 ?_
  have hbl := hown.lt
  have hseq : SeqGives Fence.wide 2 Try.prog 89 #[.pointer (some ⟨w.heap.size, 0, none⟩)] encZ (fun ss => ss.Perm (intKeys D0)) (Maps.size D0) (w.alloc (.cells #[.map (some b)] 89)) :=
    AnyZI.keys_gives (ρ := keysL_ren) { keysL with } Fence.wide _ trivial rfl (by omega) w.heap.size b nn D0 _ (by simp) (by simp) (by
      obtain ⟨es, clock, hb, Ft, hs, hD⟩ := hown
      exact ⟨es, clock, (Below.heap_alloc _ _ b hbl).trans hb, Ft, hs, hD⟩)
  have cK : ∀ mb W, CallsIn Fence.wide 5 Try.prog 74 #[.map mb] W fun e w' => e = .returned (.func (.func 89) #[] #[.pointer (some ⟨W.heap.size, 0, none⟩)]) ∧ w' = W.alloc (.cells #[.map mb] 89) := fun mb W => AnyZI.keys_in keysL Fence.wide 5 trivial rfl mb W
  have cS := AnyZI.sorted_in sortedL Fence.wide 5 trivial trivial trivial trivial rfl (by omega) (sortsL _) (enters_of Try.func81 (by kernel_rfl) rfl) 89 #[.pointer (some ⟨w.heap.size, 0, none⟩)] trivial (enters_of Try.func89 (by kernel_rfl) rfl) _ _ hmax hbytes _ hseq
  change CallsIn _ _ Try.prog 50 _ _ _ at cS
  have hfK : Fence.wide.fn 74 := trivial
  have hfS : Fence.wide.fn 50 := trivial
  refine callsIn_of_wp Try.func42 rfl trivial ?_ rfl
  simp only [Try.ntmps42, List.size_toArray, List.length_cons, List.length_nil, Nat.reduceAdd, Nat.reduceSub, Array.replicate_succ, Array.replicate_zero, List.push_toArray, List.append_toArray, List.nil_append, List.cons_append]
  gi_wp2_with (first
    | (gi_at_call 74; refine (cK _ _).mono ?_; rintro e w' ⟨rfl, rfl⟩)
    | (gi_at_call 50; refine cS.mono ?_; rintro e w' ⟨v, ss, rfl, hS, hrow, hnil, hb⟩))
  go_ret
  exact ⟨v, ss, rfl, hS, ownsRow_base_a hrow (by simp), ((Below.refl _ w).alloc (Nat.le_refl _) _).trans (hb.mono (by simp))⟩

end Go.Proofs.Ytefpoodhdfggdaa.AB

set_option linter.unusedVariables false
set_option linter.unusedSimpArgs false
set_option maxRecDepth 100000
set_option maxHeartbeats 2000000
namespace Go.Proofs.Ytefpoodhdfggdaa.AB
open Go
def tt : TT := [
 ⟨.other, 0, 0, .undef, .unit, false, false⟩,
 ⟨.func, 1, 8, .nilf, .unit, true, false⟩,
 ⟨.int .i64, 1, 8, (.int .i64 (0 : Int)), (.int .i64), true, true⟩,
 ⟨.int .i64, 1, 8, (.int .i64 (0 : Int)), (.int .i64), true, true⟩,
 ⟨.bool, 1, 1, .ff, .bool, true, true⟩,
 ⟨.int .u8, 1, 1, (.int .u8 (0 : Int)), (.int .u8), true, true⟩,
 ⟨.int .u8, 1, 1, (.int .u8 (0 : Int)), (.int .u8), true, true⟩,
 ⟨.strct [(0, 2), (1, 3), (2, 4), (3, 6)], 4, 24, (.agg [(.int .i64 (0 : Int)), (.int .i64 (0 : Int)), .ff, (.int .u8 (0 : Int))]), (.pair (.int .i64) (.pair (.int .i64) (.pair .bool (.int .u8)))), true, true⟩,
 ⟨.strct [(0, 2), (1, 3), (2, 4), (3, 6)], 4, 24, (.agg [(.int .i64 (0 : Int)), (.int .i64 (0 : Int)), .ff, (.int .u8 (0 : Int))]), (.pair (.int .i64) (.pair (.int .i64) (.pair .bool (.int .u8)))), true, true⟩,
 ⟨.str, 1, 16, (.str ([] : List UInt8)), .str, true, true⟩,
 ⟨.str, 1, 16, (.str ([] : List UInt8)), .str, true, true⟩,
 ⟨.str, 1, 16, (.str ([] : List UInt8)), .str, true, true⟩,
 ⟨.int .u64, 1, 8, (.int .u64 (0 : Int)), (.int .u64), true, true⟩,
 ⟨.strct [(0, 9), (1, 12)], 2, 24, (.agg [(.str ([] : List UInt8)), (.int .u64 (0 : Int))]), (.pair .str (.int .u64)), true, true⟩,
 ⟨.strct [(0, 9), (1, 12)], 2, 24, (.agg [(.str ([] : List UInt8)), (.int .u64 (0 : Int))]), (.pair .str (.int .u64)), true, true⟩,
 ⟨.ptr 154, 1, 8, .nilp, .unit, true, false⟩,
 ⟨.ptr 157, 1, 8, .nilp, .unit, true, false⟩,
 ⟨.ptr 166, 1, 8, .nilp, .unit, true, false⟩,
 ⟨.strct [(0, 17)], 1, 8, (.agg [.nilp]), .unit, true, false⟩,
 ⟨.strct [(0, 17)], 1, 8, (.agg [.nilp]), .unit, true, false⟩,
 ⟨.iface, 1, 16, .nili, .unit, true, false⟩,
 ⟨.int .i32, 1, 4, (.int .i32 (0 : Int)), (.int .i32), true, true⟩,
 ⟨.slice 3, 1, 24, (.list (.int .i64) ([] : List Int) .exact), (.slice (.int .i64)), true, true⟩,
 ⟨.func, 1, 8, .nilf, .unit, true, false⟩,
 ⟨.func, 1, 8, .nilf, .unit, true, false⟩,
 ⟨.ptr 76, 1, 8, .nilp, .unit, true, false⟩,
 ⟨.int .i64, 1, 8, (.int .i64 (0 : Int)), (.int .i64), true, true⟩,
 ⟨.other, 0, 0, .undef, .unit, false, false⟩,
 ⟨.func, 1, 8, .nilf, .unit, true, false⟩,
 ⟨.other, 0, 0, .undef, .unit, false, false⟩,
 ⟨.func, 1, 8, .nilf, .unit, true, false⟩,
 ⟨.func, 1, 8, .nilf, .unit, true, false⟩,
 ⟨.other, 0, 0, .undef, .unit, false, false⟩,
 ⟨.func, 1, 8, .nilf, .unit, true, false⟩,
 ⟨.other, 0, 0, .undef, .unit, false, false⟩,
 ⟨.func, 1, 8, .nilf, .unit, true, false⟩,
 ⟨.func, 1, 8, .nilf, .unit, true, false⟩,
 ⟨.func, 1, 8, .nilf, .unit, true, false⟩,
 ⟨.slice 40, 1, 24, (.list (.pair (.int .i64) (.pair (.int .i64) (.pair (.int .i64) (.pair (.int .i64) .bool)))) (([] : List (Int × (Int × (Int × (Int × Bool)))))) .exact), (.slice (.pair (.int .i64) (.pair (.int .i64) (.pair (.int .i64) (.pair (.int .i64) .bool))))), true, true⟩,
 ⟨.strct [(0, 3), (1, 3), (2, 3), (3, 3), (4, 4)], 5, 40, (.agg [(.int .i64 (0 : Int)), (.int .i64 (0 : Int)), (.int .i64 (0 : Int)), (.int .i64 (0 : Int)), .ff]), (.pair (.int .i64) (.pair (.int .i64) (.pair (.int .i64) (.pair (.int .i64) .bool)))), true, true⟩,
 ⟨.strct [(0, 3), (1, 3), (2, 3), (3, 3), (4, 4)], 5, 40, (.agg [(.int .i64 (0 : Int)), (.int .i64 (0 : Int)), (.int .i64 (0 : Int)), (.int .i64 (0 : Int)), .ff]), (.pair (.int .i64) (.pair (.int .i64) (.pair (.int .i64) (.pair (.int .i64) .bool)))), true, true⟩,
 ⟨.func, 1, 8, .nilf, .unit, true, false⟩,
 ⟨.func, 1, 8, .nilf, .unit, true, false⟩,
 ⟨.ptr 88, 1, 8, .nilp, .unit, true, false⟩,
 ⟨.func, 1, 8, .nilf, .unit, true, false⟩,
 ⟨.func, 1, 8, .nilf, .unit, true, false⟩,
 ⟨.func, 1, 8, .nilf, .unit, true, false⟩,
 ⟨.slice 50, 1, 24, (.list (.pair (.int .i64) (.slice (.int .i64))) (([] : List (Int × (List Int)))) .exact), (.slice (.pair (.int .i64) (.slice (.int .i64)))), true, true⟩,
 ⟨.func, 1, 8, .nilf, .unit, true, false⟩,
 ⟨.strct [(0, 3), (1, 22)], 2, 32, (.agg [(.int .i64 (0 : Int)), (.list (.int .i64) ([] : List Int) .exact)]), (.pair (.int .i64) (.slice (.int .i64))), true, true⟩,
 ⟨.strct [(0, 3), (1, 22)], 2, 32, (.agg [(.int .i64 (0 : Int)), (.list (.int .i64) ([] : List Int) .exact)]), (.pair (.int .i64) (.slice (.int .i64))), true, true⟩,
 ⟨.func, 1, 8, .nilf, .unit, true, false⟩,
 ⟨.func, 1, 8, .nilf, .unit, true, false⟩,
 ⟨.func, 1, 8, .nilf, .unit, true, false⟩,
 ⟨.slice 62, 1, 24, (.list (.pair (.int .i64) (.pair (.int .i64) (.int .i64))) (([] : List (Int × (Int × Int)))) .exact), (.slice (.pair (.int .i64) (.pair (.int .i64) (.int .i64)))), true, true⟩,
 ⟨.ptr 91, 1, 8, .nilp, .unit, true, false⟩,
 ⟨.func, 1, 8, .nilf, .unit, true, false⟩,
 ⟨.ptr 60, 1, 8, .nilp, .unit, true, false⟩,
 ⟨.slice 101, 1, 24, (.list (.pair (.int .i64) (.pair (.int .i64) (.pair (.int .i64) (.pair (.int .i64) (.slice (.int .i64)))))) (([] : List (Int × (Int × (Int × (Int × (List Int))))))) .exact), (.slice (.pair (.int .i64) (.pair (.int .i64) (.pair (.int .i64) (.pair (.int .i64) (.slice (.int .i64))))))), true, true⟩,
 ⟨.strct [(0, 58), (1, 3)], 2, 32, (.agg [(.list (.pair (.int .i64) (.pair (.int .i64) (.pair (.int .i64) (.pair (.int .i64) (.slice (.int .i64)))))) (([] : List (Int × (Int × (Int × (Int × (List Int))))))) .exact), (.int .i64 (0 : Int))]), (.pair (.slice (.pair (.int .i64) (.pair (.int .i64) (.pair (.int .i64) (.pair (.int .i64) (.slice (.int .i64))))))) (.int .i64)), true, true⟩,
 ⟨.strct [(0, 58), (1, 3)], 2, 32, (.agg [(.list (.pair (.int .i64) (.pair (.int .i64) (.pair (.int .i64) (.pair (.int .i64) (.slice (.int .i64)))))) (([] : List (Int × (Int × (Int × (Int × (List Int))))))) .exact), (.int .i64 (0 : Int))]), (.pair (.slice (.pair (.int .i64) (.pair (.int .i64) (.pair (.int .i64) (.pair (.int .i64) (.slice (.int .i64))))))) (.int .i64)), true, true⟩,
 ⟨.strct [(0, 3), (1, 3), (2, 3)], 3, 24, (.agg [(.int .i64 (0 : Int)), (.int .i64 (0 : Int)), (.int .i64 (0 : Int))]), (.pair (.int .i64) (.pair (.int .i64) (.int .i64))), true, true⟩,
 ⟨.strct [(0, 3), (1, 3), (2, 3)], 3, 24, (.agg [(.int .i64 (0 : Int)), (.int .i64 (0 : Int)), (.int .i64 (0 : Int))]), (.pair (.int .i64) (.pair (.int .i64) (.int .i64))), true, true⟩,
 ⟨.other, 0, 0, .undef, .unit, false, false⟩,
 ⟨.func, 1, 8, .nilf, .unit, true, false⟩,
 ⟨.func, 1, 8, .nilf, .unit, true, false⟩,
 ⟨.func, 1, 8, .nilf, .unit, true, false⟩,
 ⟨.func, 1, 8, .nilf, .unit, true, false⟩,
 ⟨.func, 1, 8, .nilf, .unit, true, false⟩,
 ⟨.func, 1, 8, .nilf, .unit, true, false⟩,
 ⟨.func, 1, 8, .nilf, .unit, true, false⟩,
 ⟨.func, 1, 8, .nilf, .unit, true, false⟩,
 ⟨.map 3 3, 1, 8, .nilm, .unit, true, false⟩,
 ⟨.slice 79, 1, 24, (.list (.pair (.int .i64) (.int .i64)) (([] : List (Int × Int))) .exact), (.slice (.pair (.int .i64) (.int .i64))), true, true⟩,
 ⟨.arr 22 73, 22, 528, (V.agg (List.cons (.list (.pair (.int .i64) (.int .i64)) (([] : List (Int × Int))) .exact) (List.cons (.list (.pair (.int .i64) (.int .i64)) (([] : List (Int × Int))) .exact) (List.cons (.list (.pair (.int .i64) (.int .i64)) (([] : List (Int × Int))) .exact) (List.cons (.list (.pair (.int .i64) (.int .i64)) (([] : List (Int × Int))) .exact) (List.cons (.list (.pair (.int .i64) (.int .i64)) (([] : List (Int × Int))) .exact) (List.cons (.list (.pair (.int .i64) (.int .i64)) (([] : List (Int × Int))) .exact) (List.cons (.list (.pair (.int .i64) (.int .i64)) (([] : List (Int × Int))) .exact) (List.cons (.list (.pair (.int .i64) (.int .i64)) (([] : List (Int × Int))) .exact) (List.cons (.list (.pair (.int .i64) (.int .i64)) (([] : List (Int × Int))) .exact) (List.cons (.list (.pair (.int .i64) (.int .i64)) (([] : List (Int × Int))) .exact) (List.cons (.list (.pair (.int .i64) (.int .i64)) (([] : List (Int × Int))) .exact) (List.cons (.list (.pair (.int .i64) (.int .i64)) (([] : List (Int × Int))) .exact) (List.cons (.list (.pair (.int .i64) (.int .i64)) (([] : List (Int × Int))) .exact) (List.cons (.list (.pair (.int .i64) (.int .i64)) (([] : List (Int × Int))) .exact) (List.cons (.list (.pair (.int .i64) (.int .i64)) (([] : List (Int × Int))) .exact) (List.cons (.list (.pair (.int .i64) (.int .i64)) (([] : List (Int × Int))) .exact) (List.cons (.list (.pair (.int .i64) (.int .i64)) (([] : List (Int × Int))) .exact) (List.cons (.list (.pair (.int .i64) (.int .i64)) (([] : List (Int × Int))) .exact) (List.cons (.list (.pair (.int .i64) (.int .i64)) (([] : List (Int × Int))) .exact) (List.cons (.list (.pair (.int .i64) (.int .i64)) (([] : List (Int × Int))) .exact) (List.cons (.list (.pair (.int .i64) (.int .i64)) (([] : List (Int × Int))) .exact) (List.cons (.list (.pair (.int .i64) (.int .i64)) (([] : List (Int × Int))) .exact) ([] : List V)))))))))))))))))))))))), .unit, true, false⟩,
 ⟨.strct [(0, 22), (1, 74), (23, 72), (24, 72), (25, 3)], 26, 576, (V.agg (List.cons (.list (.int .i64) ([] : List Int) .exact) (List.cons (.list (.pair (.int .i64) (.int .i64)) (([] : List (Int × Int))) .exact) (List.cons (.list (.pair (.int .i64) (.int .i64)) (([] : List (Int × Int))) .exact) (List.cons (.list (.pair (.int .i64) (.int .i64)) (([] : List (Int × Int))) .exact) (List.cons (.list (.pair (.int .i64) (.int .i64)) (([] : List (Int × Int))) .exact) (List.cons (.list (.pair (.int .i64) (.int .i64)) (([] : List (Int × Int))) .exact) (List.cons (.list (.pair (.int .i64) (.int .i64)) (([] : List (Int × Int))) .exact) (List.cons (.list (.pair (.int .i64) (.int .i64)) (([] : List (Int × Int))) .exact) (List.cons (.list (.pair (.int .i64) (.int .i64)) (([] : List (Int × Int))) .exact) (List.cons (.list (.pair (.int .i64) (.int .i64)) (([] : List (Int × Int))) .exact) (List.cons (.list (.pair (.int .i64) (.int .i64)) (([] : List (Int × Int))) .exact) (List.cons (.list (.pair (.int .i64) (.int .i64)) (([] : List (Int × Int))) .exact) (List.cons (.list (.pair (.int .i64) (.int .i64)) (([] : List (Int × Int))) .exact) (List.cons (.list (.pair (.int .i64) (.int .i64)) (([] : List (Int × Int))) .exact) (List.cons (.list (.pair (.int .i64) (.int .i64)) (([] : List (Int × Int))) .exact) (List.cons (.list (.pair (.int .i64) (.int .i64)) (([] : List (Int × Int))) .exact) (List.cons (.list (.pair (.int .i64) (.int .i64)) (([] : List (Int × Int))) .exact) (List.cons (.list (.pair (.int .i64) (.int .i64)) (([] : List (Int × Int))) .exact) (List.cons (.list (.pair (.int .i64) (.int .i64)) (([] : List (Int × Int))) .exact) (List.cons (.list (.pair (.int .i64) (.int .i64)) (([] : List (Int × Int))) .exact) (List.cons (.list (.pair (.int .i64) (.int .i64)) (([] : List (Int × Int))) .exact) (List.cons (.list (.pair (.int .i64) (.int .i64)) (([] : List (Int × Int))) .exact) (List.cons (.list (.pair (.int .i64) (.int .i64)) (([] : List (Int × Int))) .exact) (List.cons .nilm (List.cons .nilm (List.cons (V.int IntKind.i64 (0 : Int)) ([] : List V)))))))))))))))))))))))))))), .unit, true, false⟩,
 ⟨.strct [(0, 22), (1, 74), (23, 72), (24, 72), (25, 3)], 26, 576, (V.agg (List.cons (.list (.int .i64) ([] : List Int) .exact) (List.cons (.list (.pair (.int .i64) (.int .i64)) (([] : List (Int × Int))) .exact) (List.cons (.list (.pair (.int .i64) (.int .i64)) (([] : List (Int × Int))) .exact) (List.cons (.list (.pair (.int .i64) (.int .i64)) (([] : List (Int × Int))) .exact) (List.cons (.list (.pair (.int .i64) (.int .i64)) (([] : List (Int × Int))) .exact) (List.cons (.list (.pair (.int .i64) (.int .i64)) (([] : List (Int × Int))) .exact) (List.cons (.list (.pair (.int .i64) (.int .i64)) (([] : List (Int × Int))) .exact) (List.cons (.list (.pair (.int .i64) (.int .i64)) (([] : List (Int × Int))) .exact) (List.cons (.list (.pair (.int .i64) (.int .i64)) (([] : List (Int × Int))) .exact) (List.cons (.list (.pair (.int .i64) (.int .i64)) (([] : List (Int × Int))) .exact) (List.cons (.list (.pair (.int .i64) (.int .i64)) (([] : List (Int × Int))) .exact) (List.cons (.list (.pair (.int .i64) (.int .i64)) (([] : List (Int × Int))) .exact) (List.cons (.list (.pair (.int .i64) (.int .i64)) (([] : List (Int × Int))) .exact) (List.cons (.list (.pair (.int .i64) (.int .i64)) (([] : List (Int × Int))) .exact) (List.cons (.list (.pair (.int .i64) (.int .i64)) (([] : List (Int × Int))) .exact) (List.cons (.list (.pair (.int .i64) (.int .i64)) (([] : List (Int × Int))) .exact) (List.cons (.list (.pair (.int .i64) (.int .i64)) (([] : List (Int × Int))) .exact) (List.cons (.list (.pair (.int .i64) (.int .i64)) (([] : List (Int × Int))) .exact) (List.cons (.list (.pair (.int .i64) (.int .i64)) (([] : List (Int × Int))) .exact) (List.cons (.list (.pair (.int .i64) (.int .i64)) (([] : List (Int × Int))) .exact) (List.cons (.list (.pair (.int .i64) (.int .i64)) (([] : List (Int × Int))) .exact) (List.cons (.list (.pair (.int .i64) (.int .i64)) (([] : List (Int × Int))) .exact) (List.cons (.list (.pair (.int .i64) (.int .i64)) (([] : List (Int × Int))) .exact) (List.cons .nilm (List.cons .nilm (List.cons (V.int IntKind.i64 (0 : Int)) ([] : List V)))))))))))))))))))))))))))), .unit, true, false⟩,
 ⟨.func, 1, 8, .nilf, .unit, true, false⟩,
 ⟨.strct [(0, 3), (1, 3)], 2, 16, (.agg [(.int .i64 (0 : Int)), (.int .i64 (0 : Int))]), (.pair (.int .i64) (.int .i64)), true, true⟩,
 ⟨.strct [(0, 3), (1, 3)], 2, 16, (.agg [(.int .i64 (0 : Int)), (.int .i64 (0 : Int))]), (.pair (.int .i64) (.int .i64)), true, true⟩,
 ⟨.func, 1, 8, .nilf, .unit, true, false⟩,
 ⟨.other, 0, 0, .undef, .unit, false, false⟩,
 ⟨.func, 1, 8, .nilf, .unit, true, false⟩,
 ⟨.func, 1, 8, .nilf, .unit, true, false⟩,
 ⟨.func, 1, 8, .nilf, .unit, true, false⟩,
 ⟨.func, 1, 8, .nilf, .unit, true, false⟩,
 ⟨.func, 1, 8, .nilf, .unit, true, false⟩,
 ⟨.strct [(0, 22)], 1, 24, (.agg [(.list (.int .i64) ([] : List Int) .exact)]), (.pair (.slice (.int .i64)) .unit), true, true⟩,
 ⟨.strct [(0, 22)], 1, 24, (.agg [(.list (.int .i64) ([] : List Int) .exact)]), (.pair (.slice (.int .i64)) .unit), true, true⟩,
 ⟨.map 3 92, 1, 8, .nilm, .unit, true, false⟩,
 ⟨.strct [(0, 89), (1, 72), (2, 3)], 3, 24, (.agg [.nilm, .nilm, (.int .i64 (0 : Int))]), .unit, true, false⟩,
 ⟨.strct [(0, 89), (1, 72), (2, 3)], 3, 24, (.agg [.nilm, .nilm, (.int .i64 (0 : Int))]), .unit, true, false⟩,
 ⟨.ptr 96, 1, 8, .nilp, .unit, true, false⟩,
 ⟨.strct [(0, 22)], 1, 24, (.agg [(.list (.int .i64) ([] : List Int) .exact)]), (.pair (.slice (.int .i64)) .unit), true, true⟩,
 ⟨.strct [(0, 22)], 1, 24, (.agg [(.list (.int .i64) ([] : List Int) .exact)]), (.pair (.slice (.int .i64)) .unit), true, true⟩,
 ⟨.strct [(0, 3), (1, 3), (2, 3), (3, 94)], 4, 48, (.agg [(.int .i64 (0 : Int)), (.int .i64 (0 : Int)), (.int .i64 (0 : Int)), (.list (.int .i64) ([] : List Int) .exact)]), (.pair (.int .i64) (.pair (.int .i64) (.pair (.int .i64) (.pair (.slice (.int .i64)) .unit)))), true, true⟩,
 ⟨.strct [(0, 3), (1, 3), (2, 3), (3, 94)], 4, 48, (.agg [(.int .i64 (0 : Int)), (.int .i64 (0 : Int)), (.int .i64 (0 : Int)), (.list (.int .i64) ([] : List Int) .exact)]), (.pair (.int .i64) (.pair (.int .i64) (.pair (.int .i64) (.pair (.slice (.int .i64)) .unit)))), true, true⟩,
 ⟨.func, 1, 8, .nilf, .unit, true, false⟩,
 ⟨.func, 1, 8, .nilf, .unit, true, false⟩,
 ⟨.func, 1, 8, .nilf, .unit, true, false⟩,
 ⟨.strct [(0, 3), (1, 3), (2, 3), (3, 3), (4, 22)], 5, 56, (.agg [(.int .i64 (0 : Int)), (.int .i64 (0 : Int)), (.int .i64 (0 : Int)), (.int .i64 (0 : Int)), (.list (.int .i64) ([] : List Int) .exact)]), (.pair (.int .i64) (.pair (.int .i64) (.pair (.int .i64) (.pair (.int .i64) (.slice (.int .i64)))))), true, true⟩,
 ⟨.strct [(0, 3), (1, 3), (2, 3), (3, 3), (4, 22)], 5, 56, (.agg [(.int .i64 (0 : Int)), (.int .i64 (0 : Int)), (.int .i64 (0 : Int)), (.int .i64 (0 : Int)), (.list (.int .i64) ([] : List Int) .exact)]), (.pair (.int .i64) (.pair (.int .i64) (.pair (.int .i64) (.pair (.int .i64) (.slice (.int .i64)))))), true, true⟩,
 ⟨.func, 1, 8, .nilf, .unit, true, false⟩,
 ⟨.func, 1, 8, .nilf, .unit, true, false⟩,
 ⟨.func, 1, 8, .nilf, .unit, true, false⟩,
 ⟨.func, 1, 8, .nilf, .unit, true, false⟩,
 ⟨.ptr 73, 1, 8, .nilp, .unit, true, false⟩,
 ⟨.func, 1, 8, .nilf, .unit, true, false⟩,
 ⟨.int .u64, 1, 8, (.int .u64 (0 : Int)), (.int .u64), true, true⟩,
 ⟨.func, 1, 8, .nilf, .unit, true, false⟩,
 ⟨.func, 1, 8, .nilf, .unit, true, false⟩,
 ⟨.func, 1, 8, .nilf, .unit, true, false⟩,
 ⟨.func, 1, 8, .nilf, .unit, true, false⟩,
 ⟨.func, 1, 8, .nilf, .unit, true, false⟩,
 ⟨.ptr 94, 1, 8, .nilp, .unit, true, false⟩,
 ⟨.func, 1, 8, .nilf, .unit, true, false⟩,
 ⟨.func, 1, 8, .nilf, .unit, true, false⟩,
 ⟨.func, 1, 8, .nilf, .unit, true, false⟩,
 ⟨.func, 1, 8, .nilf, .unit, true, false⟩,
 ⟨.int .u32, 1, 4, (.int .u32 (0 : Int)), (.int .u32), true, true⟩,
 ⟨.func, 1, 8, .nilf, .unit, true, false⟩,
 ⟨.int .u64, 1, 8, (.int .u64 (0 : Int)), (.int .u64), true, true⟩,
 ⟨.func, 1, 8, .nilf, .unit, true, false⟩,
 ⟨.func, 1, 8, .nilf, .unit, true, false⟩,
 ⟨.func, 1, 8, .nilf, .unit, true, false⟩,
 ⟨.func, 1, 8, .nilf, .unit, true, false⟩,
 ⟨.func, 1, 8, .nilf, .unit, true, false⟩,
 ⟨.func, 1, 8, .nilf, .unit, true, false⟩,
 ⟨.int .i64, 1, 8, (.int .i64 (0 : Int)), (.int .i64), true, true⟩,
 ⟨.other, 0, 0, .undef, .unit, false, false⟩,
 ⟨.func, 1, 8, .nilf, .unit, true, false⟩,
 ⟨.func, 1, 8, .nilf, .unit, true, false⟩,
 ⟨.func, 1, 8, .nilf, .unit, true, false⟩,
 ⟨.func, 1, 8, .nilf, .unit, true, false⟩,
 ⟨.func, 1, 8, .nilf, .unit, true, false⟩,
 ⟨.func, 1, 8, .nilf, .unit, true, false⟩,
 ⟨.func, 1, 8, .nilf, .unit, true, false⟩,
 ⟨.func, 1, 8, .nilf, .unit, true, false⟩,
 ⟨.func, 1, 8, .nilf, .unit, true, false⟩,
 ⟨.func, 1, 8, .nilf, .unit, true, false⟩,
 ⟨.int .u64, 1, 8, (.int .u64 (0 : Int)), (.int .u64), true, true⟩,
 ⟨.func, 1, 8, .nilf, .unit, true, false⟩,
 ⟨.func, 1, 8, .nilf, .unit, true, false⟩,
 ⟨.func, 1, 8, .nilf, .unit, true, false⟩,
 ⟨.ptr 3, 1, 8, .nilp, .unit, true, false⟩,
 ⟨.func, 1, 8, .nilf, .unit, true, false⟩,
 ⟨.func, 1, 8, .nilf, .unit, true, false⟩,
 ⟨.func, 1, 8, .nilf, .unit, true, false⟩,
 ⟨.func, 1, 8, .nilf, .unit, true, false⟩,
 ⟨.ptr 140, 1, 8, .nilp, .unit, true, false⟩,
 ⟨.func, 1, 8, .nilf, .unit, true, false⟩,
 ⟨.func, 1, 8, .nilf, .unit, true, false⟩,
 ⟨.func, 1, 8, .nilf, .unit, true, false⟩,
 ⟨.strct [(0, 17), (1, 17), (2, 17), (3, 9)], 4, 40, (.agg [.nilp, .nilp, .nilp, (.str ([] : List UInt8))]), .unit, true, false⟩,
 ⟨.strct [(0, 17), (1, 17), (2, 17), (3, 9)], 4, 40, (.agg [.nilp, .nilp, .nilp, (.str ([] : List UInt8))]), .unit, true, false⟩,
 ⟨.arr 0 16, 0, 0, (.agg []), .unit, true, false⟩,
 ⟨.strct [(0, 155)], 0, 0, (.agg []), .unit, true, false⟩,
 ⟨.strct [(0, 155)], 0, 0, (.agg []), .unit, true, false⟩,
 ⟨.func, 1, 8, .nilf, .unit, true, false⟩,
 ⟨.int .u8, 1, 1, (.int .u8 (0 : Int)), (.int .u8), true, true⟩,
 ⟨.int .u8, 1, 1, (.int .u8 (0 : Int)), (.int .u8), true, true⟩,
 ⟨.func, 1, 8, .nilf, .unit, true, false⟩,
 ⟨.ptr 5, 1, 8, .nilp, .unit, true, false⟩,
 ⟨.int .i32, 1, 4, (.int .i32 (0 : Int)), (.int .i32), true, true⟩,
 ⟨.int .i32, 1, 4, (.int .i32 (0 : Int)), (.int .i32), true, true⟩,
 ⟨.strct [(0, 12), (1, 12), (2, 119), (3, 159), (4, 5), (5, 5), (6, 160), (7, 161), (8, 162), (9, 163), (10, 164)], 11, 48, (.agg [(.int .u64 (0 : Int)), (.int .u64 (0 : Int)), (.int .u32 (0 : Int)), (.int .u8 (0 : Int)), (.int .u8 (0 : Int)), (.int .u8 (0 : Int)), (.int .u8 (0 : Int)), .nilf, .nilp, (.int .i32 (0 : Int)), (.int .i32 (0 : Int))]), .unit, true, false⟩,
 ⟨.strct [(0, 12), (1, 12), (2, 119), (3, 159), (4, 5), (5, 5), (6, 160), (7, 161), (8, 162), (9, 163), (10, 164)], 11, 48, (.agg [(.int .u64 (0 : Int)), (.int .u64 (0 : Int)), (.int .u32 (0 : Int)), (.int .u8 (0 : Int)), (.int .u8 (0 : Int)), (.int .u8 (0 : Int)), (.int .u8 (0 : Int)), .nilf, .nilp, (.int .i32 (0 : Int)), (.int .i32 (0 : Int))]), .unit, true, false⟩,
 ⟨.other, 0, 0, .undef, .unit, false, false⟩]
theorem tt_ok : TTOK Try.prog tt := ttok_of (by kernel_rfl)
abbrev cmonitor_queue_int_ : Xd := (.pair (.sl (.pure (.int .i64))) (.pure .unit))
abbrev cmonitor_lock : Xd := (.pair (.pure (.int .i64)) (.pair (.pure (.int .i64)) (.pair (.pure (.int .i64)) cmonitor_queue_int_)))
abbrev cmonitor_Table : Xd := (.pair (.mp (.int .i64) (.ref cmonitor_lock)) (.pair (.mp (.int .i64) (.pure (.int .i64))) (.pure (.int .i64))))
end Go.Proofs.Ytefpoodhdfggdaa.AB

set_option linter.unusedVariables false
set_option linter.unusedSimpArgs false
namespace Go.Proofs.Ytefpoodhdfggdaa.AB
open Go

theorem mix : Try.prog.follows .mixedOrders = true := by kernel_rfl

theorem pcOf {X : Cx} (hX : X.tt = tt) (hfn : fnsB Try.prog X.fns) {d : Nat} {f : FuncId} {fn : Func} (hf : Try.prog.funcs[f]? = some fn) (hname : fn.name ≠ "runtime.NumGoroutine") {args : List V} {r : V}
    (h : fnK X.tt (callN Try.prog X d) (X.md f) (X.mk1 f) fn (args.map .v) ⟨[], [], ⟨0, []⟩⟩ (topK fun v => v.norm = r ∧ r.nt = true)) : PC Try.prog f args r := by
  have htt : TTOK Try.prog X.tt := by rw [hX]; exact tt_ok
  exact PC.of htt (callN_sound htt mix (fun f fn => fnsB_spec hfn f fn) d) (callN_det d) mix hf hname h

theorem lawOf {X : Cx} (hX : X.tt = tt) (hfn : fnsB Try.prog X.fns) {d : Nat} {f : FuncId} {fn : Func} (hf : Try.prog.funcs[f]? = some fn) (hname : fn.name ≠ "runtime.NumGoroutine") {args : List V} {r : V}
    (h : fnK X.tt (callN Try.prog X d) (X.md f) (X.mk1 f) fn (args.map .v) ⟨[], [some (.heap XH.none)], ⟨0, []⟩⟩ (topK fun v => v.norm = r ∧ r.nt = true)) : PC Try.prog f args r := by
  have htt : TTOK Try.prog X.tt := by rw [hX]; exact tt_ok
  exact PC.ofX htt (callN_sound htt mix (fun f fn => fnsB_spec hfn f fn) d) (callN_det d) mix hf hname h

theorem xcOf {X : Cx} (hX : X.tt = tt) (hfn : fnsB Try.prog X.fns) {d : Nat} {f : FuncId} {fn : Func} (hf : Try.prog.funcs[f]? = some fn) (hname : fn.name ≠ "runtime.NumGoroutine") {cs : List Xd} {args : List TV} {H : XH}
    {Q : xresT cs → XH → Prop} (h : fnK X.tt (callN Try.prog X d) (X.md f) (X.mk1 f) fn args ⟨[], [some (.heap H)], ⟨0, []⟩⟩ (xfin cs Q)) : XC Try.prog f cs args H Q := by
  have htt : TTOK Try.prog X.tt := by rw [hX]; exact tt_ok
  exact XC.of htt (callN_sound htt mix (fun f fn => fnsB_spec hfn f fn) d) (callN_det d) mix hf hname h

theorem wrap64 {x : Int} (h1 : -9223372036854775808 ≤ x) (h2 : x ≤ 9223372036854775807) : IntKind.wrap .i64 x = x := by
  have e : IntKind.wrap .i64 x = (if 9223372036854775808 ≤ x % 18446744073709551616 then x % 18446744073709551616 - 18446744073709551616 else x % 18446744073709551616) := by
    simp [IntKind.wrap, IntKind.bits, IntKind.signed]
  rw [e]
  split <;> omega

theorem take_succ_eq {α : Type} [DecidableEq α] {a b : List α} {n : Nat} {d : α} (h : a.take n = b.take n) (hn : n < a.length) (hm : n < b.length) (he : a.getD n d = b.getD n d) : a.take (n + 1) = b.take (n + 1) := by
  rw [List.take_succ_eq_append_getElem hn, List.take_succ_eq_append_getElem hm, h]
  simp only [List.getD, List.getElem?_eq_getElem hn, List.getElem?_eq_getElem hm, Option.getD_some] at he
  rw [he]

/-- a list of ours that may be appended to -/
def Tok.fresh (t : Tok) (T : Toks) : Prop :=
  match t with
  | .no => False
  | .exact => True
  | .tk n => n ∈ T.l ∧ n < T.n

def Tok.ne (t u : Tok) : Prop :=
  match t, u with
  | .tk a, .tk b => a ≠ b
  | _, _ => True

theorem Tok.fresh.own {t : Tok} {T : Toks} (h : t.fresh T) : t.own T.l := by
  cases t with
  | no => exact h
  | exact => trivial
  | tk n => exact h.1

theorem Tok.fresh.up {t : Tok} {n m : Nat} {l : List Nat} (h : t.fresh ⟨n, l⟩) (hm : n ≤ m) : t.fresh ⟨m, l⟩ := by
  cases t with
  | no => exact h
  | exact => trivial
  | tk k => exact ⟨h.1, Nat.lt_of_lt_of_le h.2 hm⟩

theorem Tok.fresh_new (n : Nat) (l : List Nat) : (Tok.tk n).fresh ⟨n + 1, n :: l⟩ := ⟨by simp, Nat.lt_succ_self _⟩

theorem Tok.fresh.keep {t u : Tok} {T : Toks} (h : t.fresh T) (hne : u.ne t) : t.fresh ⟨T.n + 1, T.n :: u.drop T.l⟩ := by
  cases t with
  | no => exact h
  | exact => trivial
  | tk n =>
    refine ⟨List.mem_cons_of_mem _ ?_, Nat.lt_succ_of_lt h.2⟩
    cases u with
    | no => exact h.1
    | exact => exact h.1
    | tk m =>
      show n ∈ List.filter _ _
      rw [List.mem_filter]
      exact ⟨h.1, by simpa using fun e : n = m => hne e.symm⟩

theorem Tok.fresh.ne_new {t : Tok} {T : Toks} (h : t.fresh T) : t.ne (.tk T.n) := by
  cases t with
  | no => exact h.elim
  | exact => trivial
  | tk n => exact Nat.ne_of_lt h.2

theorem Tok.fresh.new_ne {t : Tok} {T : Toks} (h : t.fresh T) : (Tok.tk T.n).ne t := by
  cases t with
  | no => exact h.elim
  | exact => trivial
  | tk n => exact Nat.ne_of_gt h.2

/-- the elements of a list of lists may each be appended to -/
def FrT (ts : Nat → Tok) (T : Toks) : Prop := (∀ j, (ts j).fresh T) ∧ ∀ i j, i ≠ j → (ts i).ne (ts j)

theorem FrT.exact (T : Toks) : FrT (fun _ => .exact) T := ⟨fun _ => trivial, fun _ _ _ => trivial⟩

theorem FrT.upd {ts : Nat → Tok} {T : Toks} (h : FrT ts T) (i : Nat) : FrT (fun j => if j = i then .tk T.n else ts j) ⟨T.n + 1, T.n :: (ts i).drop T.l⟩ := by
  refine ⟨fun j => ?_, fun j k hjk => ?_⟩
  · by_cases e : j = i
    · simp only [e, if_true]; exact Tok.fresh_new _ _
    · simp only [e, if_false]; exact (h.1 j).keep (h.2 i j (fun e' => e e'.symm))
  · by_cases e : j = i
    · by_cases e' : k = i
      · exact absurd (e.trans e'.symm) hjk
      · simp only [e, e', if_true, if_false]; exact (h.1 k).new_ne
    · by_cases e' : k = i
      · simp only [e, e', if_true, if_false]; exact (h.1 j).ne_new
      · simp only [e, e', if_false]; exact h.2 j k hjk

end Go.Proofs.Ytefpoodhdfggdaa.AB

set_option linter.unusedVariables false
set_option linter.unusedSimpArgs false
namespace Go.Proofs.Ytefpoodhdfggdaa.AB
open Go

section
variable {P : Program} {tt : TT} {Mine : Mn} {G : Gh} {hp : Hp} {T : Toks} {w w' : World} {X : XH}

/-- a block that a call has left behind is one of the heap -/
theorem Inv.xnew (h : Inv Mine G hp T w) (h0 : hp[0]? = some (some (.heap X))) {w1 : World} {b0 : Nat} (hb0 : w.heap.size ≤ b0) (hb1 : b0 < w1.heap.size) (hw1 : ∀ k, k < w.heap.size → w1.heap[k]? = w.heap[k]?) (hst : Stp Mine w w1) (o : XO) (sz ct : Nat)
    (ho : XR Mine (G.setLoc 0 X.n (some b0, sz, ct)) w1 X.n o) :
    Inv Mine (G.setLoc 0 X.n (some b0, sz, ct)) (hp.set 0 (some (.heap (X.add o)))) T w1 ∧ Fz G (G.setLoc 0 X.n (some b0, sz, ct)) ∧
      Lc hp.length G (G.setLoc 0 X.n (some b0, sz, ct)) ∧ Stp Mine w w1 := by
  obtain ⟨-, h1, h2, h3⟩ := h.xor h0
  have h0l : 0 < hp.length := (List.getElem?_eq_some_iff.1 h0).1
  have hnone : G.loc 0 X.n = none := (h1 X.n (Nat.le_refl _)).2
  have hf : Fz G (G.setLoc 0 X.n (some b0, sz, ct)) := ⟨fun _ _ _ y => y, fun _ _ y => y, fun _ _ y => y, fun _ _ _ _ _ y => y⟩
  have hl : Lc hp.length G (G.setLoc 0 X.n (some b0, sz, ct)) := by
    intro j hj g y hy
    simp only [Gh.setLoc]
    rw [if_neg (fun e => by obtain ⟨rfl, rfl⟩ := e; rw [hnone] at hy; cases hy)]; exact hy
  have hlo : ∀ j g, j ≠ 0 → (G.setLoc 0 X.n (some b0, sz, ct)).loc j g = G.loc j g := by
    intro j g hj; simp only [Gh.setLoc]; rw [if_neg (fun e => hj e.1)]
  have hlg : ∀ g, g ≠ X.n → (G.setLoc 0 X.n (some b0, sz, ct)).loc 0 g = G.loc 0 g := by
    intro g hg; simp only [Gh.setLoc]; rw [if_neg (fun e => hg e.2)]
  have hln : (G.setLoc 0 X.n (some b0, sz, ct)).loc 0 X.n = some (some b0, sz, ct) := by simp [Gh.setLoc]
  have hnew : ∀ j p, (hp.set 0 (some (.heap (X.add o))))[j]? = some (some p) → (j ≠ 0 ∧ hp[j]? = some (some p)) ∨ (j = 0 ∧ p = .heap (X.add o)) := by
    intro j p hj
    rw [List.getElem?_set] at hj
    split at hj
    · rename_i e
      first
        | (rw [if_pos (by omega)] at hj; cases hj; exact .inr ⟨e.symm, rfl⟩)
        | (cases hj; exact .inr ⟨e.symm, rfl⟩)
    · rename_i e
      exact .inl ⟨fun e' => e e'.symm, hj⟩
  have hoth : ∀ j p b, j ≠ 0 → Owns (G.setLoc 0 X.n (some b0, sz, ct)) j p b → Owns G j p b := by
    rintro j p b hj ⟨g, s, c, k1, k2⟩
    exact ⟨g, s, c, k1, by rw [hlo _ _ hj] at k2; exact k2⟩
  have hown : ∀ b, Owns (G.setLoc 0 X.n (some b0, sz, ct)) 0 (.heap (X.add o)) b → b = b0 ∨ Owns G 0 (.heap X) b := by
    rintro b ⟨g, s, c, k1, k2⟩
    by_cases e : g = X.n
    · subst e; rw [hln] at k2; cases k2; exact .inl rfl
    · rw [hlg g e] at k2
      refine .inr ⟨g, s, c, ?_, k2⟩
      simpa [O.has, XH.add, e] using k1
  have hXb : ∀ k p, X.f k = some p → k ≠ X.n := by
    intro k p hk e; subst e; rw [(h1 X.n (Nat.le_refl _)).1] at hk; cases hk
  refine ⟨⟨?_, ?_, ?_, ?_, ?_, ?_, h.tinj, ?_, ?_, h.tfin, ?_, h.old⟩, hf, hl, ?_⟩
  · intro b o' v hc
    rw [cell_of_heap (w := w) (by exact hw1 _ (h.cell_lt hc))]
    exact h.cells b o' v hc
  · intro r es hr
    rw [hw1 _ (h.mp_lt hr)]
    exact h.mps r es hr
  · intro j p hj
    rcases hnew j p hj with ⟨k1, k2⟩ | ⟨rfl, rfl⟩
    · exact (h.objs j p k2).keep h.lb hf hl (fun b hb => ⟨hw1 _ ((h.objs j p k2).blk hb).2.2, id⟩) (fun _ _ g _ => hlo j g k1)
    · refine ⟨rfl, fun k hk => ⟨?_, ?_⟩, fun k p hk => ?_, fun k k' b s c s' c' hne n1 n2 l1 l2 => ?_⟩
      · simp only [XH.add] at hk ⊢
        rw [if_neg (by omega)]; exact (h1 k (by omega)).1
      · simp only [XH.add] at hk
        rw [hlg k (by omega)]; exact (h1 k (by omega)).2
      · simp only [XH.add] at hk
        split at hk
        · rename_i e; subst e; cases hk; exact ho
        · exact (h2 k p hk).keep h.lb hf hl fun b s c hb => ⟨hw1 _ ((h2 k p hk).blk hb).2.2, id⟩
      · have small : ∀ k b s c, k ≠ X.n → (X.add o).f k ≠ none → (G.setLoc 0 X.n (some b0, sz, ct)).loc 0 k = some (some b, s, c) → b < w.heap.size := by
          intro k b s c e n1 l1
          rw [hlg k e] at l1
          simp only [XH.add, if_neg e] at n1
          cases hk : X.f k with
          | none => exact absurd hk n1
          | some p => exact ((h2 k p hk).blk l1).2.2
        by_cases e : k = X.n
        · have e' : k' ≠ X.n := fun q => hne (e.trans q.symm)
          subst e
          have := small k' b s' c' e' n2 l2
          rw [hln] at l1; cases l1; omega
        · by_cases e' : k' = X.n
          · subst e'
            have := small k b s c e n1 l1
            rw [hln] at l2; cases l2; omega
          · rw [hlg k e] at l1; rw [hlg k' e'] at l2
            simp only [XH.add, if_neg e] at n1
            simp only [XH.add, if_neg e'] at n2
            exact h3 k k' b s c s' c' hne n1 n2 l1 l2
  · intro i j oi oj b hij hi hj li lj
    have main : ∀ j p, j ≠ 0 → hp[j]? = some (some p) → ∀ b, Owns G j p b → Owns (G.setLoc 0 X.n (some b0, sz, ct)) 0 (.heap (X.add o)) b → False := by
      intro j p hj hjp b l1 l2
      rcases hown b l2 with e | l2
      · have := ((h.objs j p hjp).blk l1).2.2; omega
      · exact h.inj j 0 p _ b hj hjp h0 l1 l2
    rcases hnew i oi hi with ⟨k1, k2⟩ | ⟨e1, e2⟩
    · rcases hnew j oj hj with ⟨q1, q2⟩ | ⟨e3, e4⟩
      · exact h.inj i j oi oj b hij k2 q2 (hoth _ _ _ k1 li) (hoth _ _ _ q1 lj)
      · subst e3 e4; exact main i oi k1 k2 b (hoth _ _ _ k1 li) lj
    · subst e1 e2
      rcases hnew j oj hj with ⟨q1, q2⟩ | ⟨e3, e4⟩
      · exact main j oj q1 q2 b (hoth _ _ _ q1 lj) li
      · exact hij e3.symm
  · intro t ht
    obtain ⟨bo, e, c, k1, k2⟩ := h.toks t ht
    refine ⟨bo, e, c, k1, fun b hb => ?_⟩
    obtain ⟨q1, ⟨cur, el, q2, q3⟩, q4⟩ := k2 b hb
    exact ⟨q1, ⟨cur, el, by rw [hw1 _ (heap_lt q2)]; exact q2, q3⟩, q4⟩
  · intro t ht i p b e c k1 hi' hl'
    rcases hnew i p hi' with ⟨q1, q2⟩ | ⟨e1, e2⟩
    · exact h.tobj t ht i p b e c k1 q2 (hoth _ _ _ q1 hl')
    · subst e1 e2
      rcases hown b hl' with e' | hl'
      · obtain ⟨bo, e3, c3, q1, q2⟩ := h.toks t ht
        rw [show (G.setLoc _ _ _).tok t = G.tok t from rfl] at k1
        rw [k1] at q1; cases q1
        obtain ⟨_, ⟨cur, el, q3, _⟩, _⟩ := q2 b rfl
        have := heap_lt q3
        omega
      · exact h.tobj t ht 0 _ b e c k1 h0 hl'
  · intro i g hig
    simp only [List.length_set] at hig
    rw [hlo i g (by omega)]; exact h.lb i g hig
  · intro i p g hi' hg
    rcases hnew i p hi' with ⟨q1, q2⟩ | ⟨e1, e2⟩
    · rw [hlo i g q1]; exact h.gens i p g q2 hg
    · subst e1 e2
      simp only [O.gen, XH.add] at hg
      rw [hlg g (by omega)]; exact (h1 g (by omega)).2
  · intro b hb
    exact h.mine b (by omega)
  · exact hst


end
end Go.Proofs.Ytefpoodhdfggdaa.AB

set_option linter.unusedVariables false
set_option linter.unusedSimpArgs false
namespace Go.Proofs.Ytefpoodhdfggdaa.AB
open Go

/-! a table of monitors: how it lies, and what it says -/

abbrev cT : Xd := cmonitor_Table
abbrev cL : Xd := cmonitor_lock
abbrev cN : Xd := .pure (.int .i64)
abbrev eqN (k : Int) : Int → Bool := Cd.keq (.int .i64) k

theorem eqN_iff {a b : Int} : eqN a b = true ↔ a = b := by
  show Cd.keq (.int .i64) a b = true ↔ _
  simp [Cd.keq]

/-- a monitor: owner, times, since, who waits -/
abbrev PL := Int × Int × Int × List Int

structure PD where
  es : List (Int × PL)
  ws : List (Int × Int)
  turn : Int

structure MD where
  hH : Nat
  hW : Nat
  p : PD
  h : Int → Nat
  sl : Int → Option SlH

def MD.tv (d : MD) : cT.T := (some d.hH, some d.hW, d.p.turn)
def lvOf (s : Option SlH) (l : PL) : cL.T := (l.1, l.2.1, l.2.2.1, s, ())
def MD.hes (d : MD) : List (Int × Option Nat) := d.p.es.map fun e => (e.1, some (d.h e.1))

def MD.hs (d : MD) (t : Nat) : List Nat := t :: d.hH :: d.hW :: d.p.es.flatMap fun e => d.h e.1 :: hl (d.sl e.1)

structure MRep (X : XH) (t : Nat) (d : MD) : Prop where
  box : Box X cT t d.tv
  mh : X.at d.hH = some (.map (.int .i64) (.ref cL) d.hes)
  mw : X.at d.hW = some (.map (.int .i64) cN d.p.ws)
  lk : ∀ e ∈ d.p.es, Box X cL (d.h e.1) (lvOf (d.sl e.1) e.2) ∧ SlAt X cN (d.sl e.1) e.2.2.2.2
  nd : (d.p.es.map (·.1)).Nodup
  n1 : t ≠ d.hH ∧ t ≠ d.hW ∧ d.hH ≠ d.hW
  n2 : ∀ e ∈ d.p.es, d.h e.1 ≠ t ∧ d.h e.1 ≠ d.hH ∧ d.h e.1 ≠ d.hW
  n3 : ∀ e ∈ d.p.es, ∀ k ∈ hl (d.sl e.1), k ≠ t ∧ k ≠ d.hH ∧ k ≠ d.hW ∧ ∀ e' ∈ d.p.es, k ≠ d.h e'.1
  n4 : ∀ e ∈ d.p.es, ∀ e' ∈ d.p.es, e.1 ≠ e'.1 → d.h e.1 ≠ d.h e'.1 ∧ ∀ k ∈ hl (d.sl e.1), k ∉ hl (d.sl e'.1)

variable {X X' : XH} {t : Nat} {d : MD}

theorem mem_mhs {k : Nat} : k ∈ d.hs t ↔ k = t ∨ k = d.hH ∨ k = d.hW ∨ ∃ e ∈ d.p.es, k = d.h e.1 ∨ k ∈ hl (d.sl e.1) := by
  simp [MD.hs, List.mem_flatMap]

theorem MRep.lt (h : MRep X t d) : ∀ k ∈ d.hs t, k < X.n := by
  intro k hk
  rcases mem_mhs.1 hk with rfl | rfl | rfl | ⟨e, he, rfl | hk⟩
  · exact h.box.lt
  · exact at_lt h.mh
  · exact at_lt h.mw
  · exact (h.lk e he).1.lt
  · exact (h.lk e he).2.lt k hk

theorem MRep.keep (h : MRep X t d) (e : ∀ k ∈ d.hs t, X'.at k = X.at k) : MRep X' t d :=
  ⟨h.box.keep (e _ (mem_mhs.2 (.inl rfl))), (e _ (mem_mhs.2 (.inr (.inl rfl)))).trans h.mh, (e _ (mem_mhs.2 (.inr (.inr (.inl rfl))))).trans h.mw,
    fun x hx => ⟨(h.lk x hx).1.keep (e _ (mem_mhs.2 (.inr (.inr (.inr ⟨x, hx, .inl rfl⟩))))), (h.lk x hx).2.keep fun j hj => e _ (mem_mhs.2 (.inr (.inr (.inr ⟨x, hx, .inr hj⟩))))⟩, h.nd, h.n1, h.n2, h.n3, h.n4⟩

theorem MRep.mv {S S' : List Nat} (h : MRep X t d) (m : Mv X S X' S') (hd : ∀ k ∈ d.hs t, k ∉ S) : MRep X' t d := h.keep fun k hk => m.keep k (h.lt k hk) (hd k hk)

theorem mfind_mem {α : Type} : ∀ {es : List (Int × α)} {o : Int} {a : α}, mfind (eqN o) es = some a → (o, a) ∈ es
  | (k, b) :: r, o, a, h => by
    unfold mfind at h
    cases hk : eqN o k with
    | true =>
      rw [hk] at h
      have := eqN_iff.1 hk
      subst this
      simp only [Option.some.injEq] at h
      subst h
      exact List.mem_cons_self ..
    | false =>
      rw [hk] at h
      exact List.mem_cons_of_mem _ (mfind_mem h)

theorem mfind_none {α : Type} : ∀ {es : List (Int × α)} {o : Int}, mfind (eqN o) es = none → ∀ e ∈ es, e.1 ≠ o
  | (k, b) :: r, o, h, e, he => by
    unfold mfind at h
    cases hk : eqN o k with
    | true => rw [hk] at h; cases h
    | false =>
      rw [hk] at h
      rcases List.mem_cons.1 he with rfl | he
      · rintro rfl
        rw [eqN_iff.2 rfl] at hk; cases hk
      · exact mfind_none h e he

theorem mfind_of {α : Type} : ∀ {es : List (Int × α)} {o : Int} {a : α}, (es.map (·.1)).Nodup → (o, a) ∈ es → mfind (eqN o) es = some a
  | (k, b) :: r, o, a, hn, h => by
    rw [List.map_cons, List.nodup_cons] at hn
    unfold mfind
    rcases List.mem_cons.1 h with h1 | h1
    · cases h1
      rw [eqN_iff.2 rfl]
    · have : eqN o k = false := by
        cases hk : eqN o k with
        | false => rfl
        | true => exact absurd (List.mem_map.2 ⟨_, h1, (eqN_iff.1 hk)⟩) hn.1
      rw [this]
      exact mfind_of hn.2 h1

theorem mfind_map {α β : Type} (f : Int → β) : ∀ (es : List (Int × α)) (o : Int), mfind (eqN o) (es.map fun e => (e.1, f e.1)) = (mfind (eqN o) es).map fun _ => f o
  | [], o => rfl
  | (k, b) :: r, o => by
    simp only [List.map_cons]
    unfold mfind
    cases hk : eqN o k with
    | true =>
      have := eqN_iff.1 hk
      subst this
      rfl
    | false => exact mfind_map f r o

theorem mset_absent {α : Type} {es : List (Int × α)} {o : Int} {a : α} (h : mfind (eqN o) es = none) : mset (eqN o) o a es = es ++ [(o, a)] :=
  mset_none fun e he => by
    cases hk : eqN o e.1 with
    | false => rfl
    | true => exact absurd (eqN_iff.1 hk).symm (mfind_none h e he)

theorem mdel_eq {α : Type} : ∀ (es : List (Int × α)) (o : Int), (es.map (·.1)).Nodup → mdel (eqN o) es = es.filter fun e => !(eqN o e.1)
  | [], o, _ => rfl
  | (k, b) :: r, o, hn => by
    rw [List.map_cons, List.nodup_cons] at hn
    unfold mdel
    rw [List.filter_cons]
    cases hk : eqN o k with
    | true =>
      have := eqN_iff.1 hk
      subst this
      simp only [hk, Bool.not_true, Bool.false_eq_true, if_false]
      symm
      rw [List.filter_eq_self]
      intro e he
      cases hk2 : eqN o e.1 with
      | false => rfl
      | true => exact absurd (List.mem_map.2 ⟨e, he, (eqN_iff.1 hk2).symm⟩) hn.1
    | false =>
      simp only [hk, Bool.not_false, if_true]
      rw [mdel_eq r o hn.2]

theorem MRep.find (h : MRep X t d) (o : Int) : mfind (eqN o) d.hes = (mfind (eqN o) d.p.es).map fun _ => some (d.h o) := mfind_map (fun k => some (d.h k)) d.p.es o

/-- a monitor is told anew -/
def updK (es : List (Int × PL)) (o : Int) (l : PL) : List (Int × PL) := es.map fun e => if e.1 = o then (o, l) else e

theorem updK_keys (es : List (Int × PL)) (o : Int) (l : PL) : (updK es o l).map (·.1) = es.map (·.1) := by
  unfold updK
  rw [List.map_map]
  refine List.map_congr_left fun e _ => ?_
  simp only [Function.comp]
  split
  · rename_i h; exact h.symm
  · rfl

theorem updK_mem {es : List (Int × PL)} {o : Int} {l : PL} {e : Int × PL} (h : e ∈ updK es o l) : (e = (o, l) ∧ ∃ l0, (o, l0) ∈ es) ∨ (e.1 ≠ o ∧ e ∈ es) := by
  unfold updK at h
  obtain ⟨x, hx, rfl⟩ := List.mem_map.1 h
  split
  · rename_i hq
    subst hq
    exact .inl ⟨rfl, x.2, hx⟩
  · rename_i hq; exact .inr ⟨hq, hx⟩

theorem updK_find {es : List (Int × PL)} {o : Int} {l l0 : PL} (h : mfind (eqN o) es = some l0) (q : Int) : mfind (eqN q) (updK es o l) = if q = o then some l else mfind (eqN q) es := by
  unfold updK
  induction es with
  | nil => simp [mfind] at h
  | cons x r ih =>
    obtain ⟨k, b⟩ := x
    simp only [List.map_cons]
    unfold mfind at h ⊢
    by_cases hk : k = o
    · subst hk
      simp only [↓reduceIte]
      by_cases hq : q = k
      · subst hq; simp only [eqN_iff.2 rfl, ↓reduceIte]
      · have : eqN q k = false := by
          cases hc : eqN q k with
          | false => rfl
          | true => exact absurd (eqN_iff.1 hc) hq
        simp only [this, if_neg hq]
        have hmap : ∀ r : List (Int × PL), mfind (eqN q) (r.map fun e => if e.1 = k then (k, l) else e) = mfind (eqN q) r := by
          intro r
          induction r with
          | nil => rfl
          | cons y r ih =>
            simp only [List.map_cons]
            unfold mfind
            by_cases hy : y.1 = k
            · obtain ⟨y1, y2⟩ := y
              simp only at hy
              subst hy
              simp only [↓reduceIte, this]
              exact ih
            · simp only [if_neg hy]
              rw [ih]
        exact hmap r
    · have hok : eqN o k = false := by
        cases hc : eqN o k with
        | false => rfl
        | true => exact absurd (eqN_iff.1 hc).symm hk
      simp only [hok] at h
      simp only [if_neg hk]
      cases hqk : eqN q k with
      | true =>
        have := eqN_iff.1 hqk
        subst this
        rw [if_neg hk]
      | false => exact ih h

/-- its words are told anew; who waits lies perhaps elsewhere -/
theorem MRep.lock (h : MRep X t d) {o : Int} {l l' : PL} (ho : mfind (eqN o) d.p.es = some l) {s' : Option SlH} (hs : SlAt X' cN s' l'.2.2.2) (m : Mv X (hl (d.sl o)) X' (hl s')) :
    MRep (X'.set (d.h o) (.arr cL [lvOf s' l'])) t { d with p := { d.p with es := updK d.p.es o l' }, sl := fun k => if k = o then s' else d.sl k } ∧
      Mv X (d.hs t) (X'.set (d.h o) (.arr cL [lvOf s' l'])) (MD.hs { d with p := { d.p with es := updK d.p.es o l' }, sl := fun k => if k = o then s' else d.sl k } t) := by
  have hmem := mfind_mem ho
  obtain ⟨a1, a2, a3⟩ := h.n1
  obtain ⟨b1, b2, b3⟩ := h.n2 _ hmem
  simp only at b1 b2 b3
  -- what the slice's handles are none of
  have notIn : ∀ k ∈ d.hs t, k ∉ hl (d.sl o) → X'.at k = X.at k := fun k hk hn => m.keep k (h.lt k hk) hn
  have hsnew : ∀ k ∈ hl s', k ∈ hl (d.sl o) ∨ X.n ≤ k := m.own
  have hho : X'.at (d.h o) = X.at (d.h o) := notIn _ (mem_mhs.2 (.inr (.inr (.inr ⟨_, hmem, .inl rfl⟩)))) fun q => (h.n3 _ hmem _ q).2.2.2 _ hmem rfl
  have hbo : Box X' cL (d.h o) (lvOf (d.sl o) l) := (h.lk _ hmem).1.keep hho
  have key : ∀ {e : Int × PL}, e ∈ updK d.p.es o l' → ∃ x ∈ d.p.es, x.1 = e.1 := by
    intro e he
    rcases updK_mem he with ⟨rfl, l0, hl0⟩ | ⟨_, he⟩
    · exact ⟨_, hl0, rfl⟩
    · exact ⟨e, he, rfl⟩
  have hsn : ∀ k ∈ hl s', k ≠ t ∧ k ≠ d.hH ∧ k ≠ d.hW ∧ ∀ e' ∈ d.p.es, k ≠ d.h e'.1 := by
    intro k hk
    rcases hsnew k hk with hk | hk
    · exact h.n3 _ hmem k hk
    · have l1 := h.box.lt
      have l2 := at_lt h.mh
      have l3 := at_lt h.mw
      refine ⟨by omega, by omega, by omega, fun e' he' => ?_⟩
      have := (h.lk e' he').1.lt
      omega
  refine ⟨⟨?_, ?_, ?_, fun e he => ?_, by rw [updK_keys]; exact h.nd, h.n1, fun e he => ?_, fun e he k hk => ?_, fun e he e' he' hne => ?_⟩, ?_⟩
  · exact h.box.keep ((at_set_ne b1.symm).trans (notIn _ (mem_mhs.2 (.inl rfl)) fun q => (h.n3 _ hmem _ q).1 rfl))
  · rw [at_set_ne b2.symm, notIn _ (mem_mhs.2 (.inr (.inl rfl))) fun q => (h.n3 _ hmem _ q).2.1 rfl, h.mh]
    congr 2
    show d.hes = (updK d.p.es o l').map fun e => (e.1, some (d.h e.1))
    unfold MD.hes
    have : ∀ es : List (Int × PL), es.map (fun e => (e.1, some (d.h e.1))) = (es.map (·.1)).map fun k => (k, some (d.h k)) := fun es => by rw [List.map_map]; rfl
    rw [this, this (updK d.p.es o l'), updK_keys]
  · exact (at_set_ne b3.symm).trans ((notIn _ (mem_mhs.2 (.inr (.inr (.inl rfl)))) fun q => (h.n3 _ hmem _ q).2.2.1 rfl).trans h.mw)
  · rcases updK_mem he with ⟨rfl, l0, hl0⟩ | ⟨hne, he⟩
    · simp only [↓reduceIte]
      refine ⟨hbo.set, hs.keep fun k hk => at_set_ne ?_⟩
      exact (hsn k hk).2.2.2 _ hmem
    · simp only [if_neg hne]
      obtain ⟨c1, c2⟩ := h.n4 e he _ hmem hne
      refine ⟨(h.lk e he).1.keep ((at_set_ne c1).trans (notIn _ (mem_mhs.2 (.inr (.inr (.inr ⟨e, he, .inl rfl⟩)))) fun q => (h.n3 _ hmem _ q).2.2.2 e he rfl)), (h.lk e he).2.keep fun k hk => ?_⟩
      exact (at_set_ne ((h.n3 e he k hk).2.2.2 _ hmem)).trans (notIn _ (mem_mhs.2 (.inr (.inr (.inr ⟨e, he, .inr hk⟩)))) (c2 k hk))
  · obtain ⟨x, hx, hxe⟩ := key he
    have := h.n2 x hx
    rw [hxe] at this
    exact this
  · have hall : ∀ e' ∈ updK d.p.es o l', ∃ x ∈ d.p.es, x.1 = e'.1 := fun e' he' => key he'
    rcases updK_mem he with ⟨rfl, l0, hl0⟩ | ⟨hne, he⟩
    · simp only [↓reduceIte] at hk
      obtain ⟨c1, c2, c3, c4⟩ := hsn k hk
      refine ⟨c1, c2, c3, fun e' he' => ?_⟩
      obtain ⟨x, hx, hxe⟩ := hall e' he'
      rw [← hxe]; exact c4 x hx
    · simp only [if_neg hne] at hk
      obtain ⟨c1, c2, c3, c4⟩ := h.n3 e he k hk
      refine ⟨c1, c2, c3, fun e' he' => ?_⟩
      obtain ⟨x, hx, hxe⟩ := hall e' he'
      rw [← hxe]; exact c4 x hx
  · have newOld : ∀ y ∈ d.p.es, y.1 ≠ o → ∀ k ∈ hl s', k ∉ hl (d.sl y.1) := by
      intro y hy hyo k hk q
      rcases hsnew k hk with hk | hk
      · exact (h.n4 _ hmem y hy (Ne.symm hyo)).2 k hk q
      · exact absurd ((h.lk y hy).2.lt k q) (by omega)
    rcases updK_mem he with ⟨rfl, l0, hl0⟩ | ⟨hne1, he⟩
    · rcases updK_mem he' with ⟨rfl, _, _⟩ | ⟨hne2, he'⟩
      · exact absurd rfl hne
      · simp only [↓reduceIte, if_neg hne2]
        exact ⟨(h.n4 _ hmem e' he' (Ne.symm hne2)).1, newOld e' he' hne2⟩
    · rcases updK_mem he' with ⟨rfl, _, _⟩ | ⟨hne2, he'⟩
      · simp only [↓reduceIte, if_neg hne1]
        exact ⟨(h.n4 e he _ hmem hne1).1, fun k hk q => newOld e he hne1 k q hk⟩
      · simp only [if_neg hne1, if_neg hne2]
        exact h.n4 e he e' he' hne
  · have m2 : Mv X (d.hs t) X' (MD.hs { d with p := { d.p with es := updK d.p.es o l' }, sl := fun k => if k = o then s' else d.sl k } t) := by
      refine ⟨m.n, fun k hk hn => m.keep k hk fun q => hn (mem_mhs.2 (.inr (.inr (.inr ⟨_, hmem, .inr q⟩)))), fun k hk => ?_⟩
      rcases mem_mhs.1 hk with rfl | rfl | rfl | ⟨e, he, hk⟩
      · exact .inl (mem_mhs.2 (.inl rfl))
      · exact .inl (mem_mhs.2 (.inr (.inl rfl)))
      · exact .inl (mem_mhs.2 (.inr (.inr (.inl rfl))))
      · rcases updK_mem he with ⟨rfl, l0, hl0⟩ | ⟨hne, he⟩
        · simp only [↓reduceIte] at hk
          rcases hk with rfl | hk
          · exact .inl (mem_mhs.2 (.inr (.inr (.inr ⟨_, hmem, .inl rfl⟩))))
          · exact (hsnew k hk).imp (fun q => mem_mhs.2 (.inr (.inr (.inr ⟨_, hmem, .inr q⟩)))) id
        · simp only [if_neg hne] at hk
          exact .inl (mem_mhs.2 (.inr (.inr (.inr ⟨e, he, hk⟩))))
    refine m2.trans (Mv.set (mem_mhs.2 (.inr (.inr (.inr ?_)))))
    have hk : o ∈ (updK d.p.es o l').map (·.1) := by rw [updK_keys]; exact List.mem_map.2 ⟨_, hmem, rfl⟩
    obtain ⟨e, he, hee⟩ := List.mem_map.1 hk
    exact ⟨e, he, .inl (by rw [hee])⟩

/-- the turn is told anew -/
theorem MRep.turn (h : MRep X t d) (n : Int) : MRep (X.set t (.arr cT [(some d.hH, some d.hW, n)])) t { d with p := { d.p with turn := n } } ∧ Mv X (d.hs t) (X.set t (.arr cT [(some d.hH, some d.hW, n)])) (MD.hs { d with p := { d.p with turn := n } } t) := by
  obtain ⟨a1, a2, a3⟩ := h.n1
  exact ⟨⟨h.box.set, (at_set_ne a1.symm).trans h.mh, (at_set_ne a2.symm).trans h.mw, fun e he => ⟨(h.lk e he).1.keep (at_set_ne (h.n2 e he).1), (h.lk e he).2.keep fun k hk => at_set_ne (h.n3 e he k hk).1⟩, h.nd, h.n1, h.n2, h.n3, h.n4⟩, Mv.set (mem_mhs.2 (.inl rfl))⟩

/-- who waits for what is told anew -/
theorem MRep.waits (h : MRep X t d) (ws : List (Int × Int)) : MRep (X.set d.hW (.map (.int .i64) cN ws)) t { d with p := { d.p with ws := ws } } ∧ Mv X (d.hs t) (X.set d.hW (.map (.int .i64) cN ws)) (MD.hs { d with p := { d.p with ws := ws } } t) := by
  obtain ⟨a1, a2, a3⟩ := h.n1
  exact ⟨⟨h.box.keep (at_set_ne a2), (at_set_ne a3).trans h.mh, at_set_self h.mw, fun e he => ⟨(h.lk e he).1.keep (at_set_ne (h.n2 e he).2.2), (h.lk e he).2.keep fun k hk => at_set_ne (h.n3 e he k hk).2.2.1⟩, h.nd, h.n1, h.n2, h.n3, h.n4⟩, Mv.set (mem_mhs.2 (.inr (.inr (.inl rfl))))⟩

/-- a monitor is free again -/
theorem MRep.drop (h : MRep X t d) (o : Int) : MRep (X.set d.hH (.map (.int .i64) (.ref cL) (mdel (eqN o) d.hes))) t { d with p := { d.p with es := mdel (eqN o) d.p.es } } ∧
    Mv X (d.hs t) (X.set d.hH (.map (.int .i64) (.ref cL) (mdel (eqN o) d.hes))) (MD.hs { d with p := { d.p with es := mdel (eqN o) d.p.es } } t) := by
  obtain ⟨a1, a2, a3⟩ := h.n1
  have he : mdel (eqN o) d.p.es = d.p.es.filter fun e => !(eqN o e.1) := mdel_eq _ _ h.nd
  have hk : d.hes.map (·.1) = d.p.es.map (·.1) := by unfold MD.hes; rw [List.map_map]; rfl
  have hhe : mdel (eqN o) d.hes = (mdel (eqN o) d.p.es).map fun e => (e.1, some (d.h e.1)) := by
    rw [mdel_eq _ _ (by rw [hk]; exact h.nd), he]
    unfold MD.hes
    rw [List.filter_map]
    rfl
  have hin : ∀ e ∈ mdel (eqN o) d.p.es, e ∈ d.p.es := fun e hx => by rw [he] at hx; exact (List.mem_filter.1 hx).1
  refine ⟨⟨h.box.keep (at_set_ne a1), ?_, (at_set_ne a3.symm).trans h.mw, fun e hx => ⟨(h.lk e (hin e hx)).1.keep (at_set_ne (h.n2 e (hin e hx)).2.1), (h.lk e (hin e hx)).2.keep fun k hk => at_set_ne (h.n3 e (hin e hx) k hk).2.1⟩, ?_, h.n1, fun e hx => h.n2 e (hin e hx),
    fun e hx k hk => ⟨(h.n3 e (hin e hx) k hk).1, (h.n3 e (hin e hx) k hk).2.1, (h.n3 e (hin e hx) k hk).2.2.1, fun e' hx' => (h.n3 e (hin e hx) k hk).2.2.2 e' (hin e' hx')⟩, fun e hx e' hx' => h.n4 e (hin e hx) e' (hin e' hx')⟩, ?_⟩
  · rw [at_set_self h.mh, hhe]; rfl
  · show ((mdel (eqN o) d.p.es).map (·.1)).Nodup
    rw [he]
    exact h.nd.sublist (List.filter_sublist.map _)
  · refine (Mv.set (mem_mhs.2 (.inr (.inl rfl)))).weak (fun k hk => hk) fun k hk => .inr ?_
    rcases mem_mhs.1 hk with rfl | rfl | rfl | ⟨e, hx, hk⟩
    · exact mem_mhs.2 (.inl rfl)
    · exact mem_mhs.2 (.inr (.inl rfl))
    · exact mem_mhs.2 (.inr (.inr (.inl rfl)))
    · exact mem_mhs.2 (.inr (.inr (.inr ⟨e, hin e hx, hk⟩)))

/-- a monitor that is new -/
theorem MRep.fresh (h : MRep X t d) {o : Int} (ho : mfind (eqN o) d.p.es = none) (l : PL) (hl0 : l.2.2.2 = []) :
    MRep ((X.add (.arr cL [lvOf none l])).set d.hH (.map (.int .i64) (.ref cL) (mset (eqN o) o (some X.n) d.hes))) t
      { d with p := { d.p with es := d.p.es ++ [(o, l)] }, h := fun k => if k = o then X.n else d.h k, sl := fun k => if k = o then none else d.sl k } ∧
    Mv X (d.hs t) ((X.add (.arr cL [lvOf none l])).set d.hH (.map (.int .i64) (.ref cL) (mset (eqN o) o (some X.n) d.hes)))
      (MD.hs { d with p := { d.p with es := d.p.es ++ [(o, l)] }, h := fun k => if k = o then X.n else d.h k, sl := fun k => if k = o then none else d.sl k } t) := by
  obtain ⟨a1, a2, a3⟩ := h.n1
  have hno := mfind_none ho
  have l1 := h.box.lt
  have l2 := at_lt h.mh
  have l3 := at_lt h.mw
  have hfo : mfind (eqN o) d.hes = none := by rw [h.find, ho]; rfl
  have hes' : mset (eqN o) o (some X.n) d.hes = (d.p.es ++ [(o, l)]).map fun e => (e.1, some (if e.1 = o then X.n else d.h e.1)) := by
    rw [mset_absent hfo, List.map_append]
    congr 1
    · unfold MD.hes
      refine List.map_congr_left fun e he => ?_
      rw [if_neg (hno e he)]
    · simp
  have old : ∀ k ∈ d.hs t, k ≠ d.hH → ((X.add (.arr cL [lvOf none l])).set d.hH (.map (.int .i64) (.ref cL) (mset (eqN o) o (some X.n) d.hes))).at k = X.at k := fun k hk hne => by
    rw [at_set_ne hne, at_add_old (h.lt k hk)]
  have isnew : ∀ {e : Int × PL}, e ∈ d.p.es ++ [(o, l)] → (e ∈ d.p.es ∧ e.1 ≠ o) ∨ e = (o, l) := by
    intro e he
    rcases List.mem_append.1 he with he | he
    · exact .inl ⟨he, hno e he⟩
    · exact .inr (List.mem_singleton.1 he)
  refine ⟨⟨?_, ?_, ?_, fun e he => ?_, ?_, h.n1, fun e he => ?_, fun e he k hk => ?_, fun e he e' he' hne => ?_⟩, ?_⟩
  · exact h.box.keep (old _ (mem_mhs.2 (.inl rfl)) a1)
  · show ((X.add (.arr cL [lvOf none l])).set d.hH (.map (.int .i64) (.ref cL) (mset (eqN o) o (some X.n) d.hes))).at d.hH = _
    have : (X.add (.arr cL [lvOf none l])).at d.hH = some (.map (.int .i64) (.ref cL) d.hes) := by rw [at_add_old l2]; exact h.mh
    rw [at_set_self this, hes']; rfl
  · exact (old _ (mem_mhs.2 (.inr (.inr (.inl rfl)))) a3.symm).trans h.mw
  · rcases isnew he with ⟨he, hne⟩ | rfl
    · simp only [if_neg hne]
      exact ⟨(h.lk e he).1.keep (old _ (mem_mhs.2 (.inr (.inr (.inr ⟨e, he, .inl rfl⟩)))) (h.n2 e he).2.1), (h.lk e he).2.keep fun k hk => old _ (mem_mhs.2 (.inr (.inr (.inr ⟨e, he, .inr hk⟩)))) (h.n3 e he k hk).2.1⟩
    · simp only [↓reduceIte]
      refine ⟨?_, hl0⟩
      show ((X.add (.arr cL [lvOf none l])).set d.hH _).at X.n = _
      rw [at_set_ne (by omega)]; exact at_add_new _ _
  · show ((d.p.es ++ [(o, l)]).map (·.1)).Nodup
    rw [List.map_append, List.nodup_append]
    refine ⟨h.nd, by simp, fun a ha b hb => ?_⟩
    simp only [List.map_cons, List.map_nil, List.mem_singleton] at hb
    subst hb
    obtain ⟨e, he, rfl⟩ := List.mem_map.1 ha
    exact hno e he
  · rcases isnew he with ⟨he, hne⟩ | rfl
    · simp only [if_neg hne]; exact h.n2 e he
    · simp only [↓reduceIte]
      exact ⟨by omega, by omega, by omega⟩
  · rcases isnew he with ⟨he, hne⟩ | rfl
    · simp only [if_neg hne] at hk
      obtain ⟨c1, c2, c3, c4⟩ := h.n3 e he k hk
      refine ⟨c1, c2, c3, fun e' he' => ?_⟩
      have hkl := (h.lk e he).2.lt k hk
      rcases isnew he' with ⟨he', hne'⟩ | rfl
      · simp only [if_neg hne']; exact c4 e' he'
      · simp only [↓reduceIte]; omega
    · simp only [↓reduceIte] at hk
      cases hk
  · rcases isnew he with ⟨he, hne1⟩ | rfl
    · rcases isnew he' with ⟨he', hne2⟩ | rfl
      · simp only [if_neg hne1, if_neg hne2]; exact h.n4 e he e' he' hne
      · simp only [↓reduceIte, if_neg hne1]
        have := (h.lk e he).1.lt
        exact ⟨by omega, fun k hk q => by cases q⟩
    · rcases isnew he' with ⟨he', hne2⟩ | rfl
      · simp only [↓reduceIte, if_neg hne2]
        have := (h.lk e' he').1.lt
        exact ⟨by omega, fun k hk => by cases hk⟩
      · exact absurd rfl hne
  · refine ⟨by show X.n ≤ X.n + 1; omega, fun k hk hn => ?_, fun k hk => ?_⟩
    · rw [at_set_ne (fun q : k = d.hH => hn (mem_mhs.2 (.inr (.inl q)))), at_add_old hk]
    · rcases mem_mhs.1 hk with rfl | rfl | rfl | ⟨e, he, hk⟩
      · exact .inl (mem_mhs.2 (.inl rfl))
      · exact .inl (mem_mhs.2 (.inr (.inl rfl)))
      · exact .inl (mem_mhs.2 (.inr (.inr (.inl rfl))))
      · rcases isnew he with ⟨he, hne⟩ | rfl
        · simp only [if_neg hne] at hk
          exact .inl (mem_mhs.2 (.inr (.inr (.inr ⟨e, he, hk⟩))))
        · simp only [↓reduceIte] at hk
          rcases hk with rfl | hk
          · exact .inr (Nat.le_refl _)
          · cases hk

end Go.Proofs.Ytefpoodhdfggdaa.AB

set_option linter.unusedVariables false
set_option linter.unusedSimpArgs false
namespace Go.Proofs.Ytefpoodhdfggdaa.AB
open Go

variable {X X' : XH} {c : Xd} {l : List c.T}

theorem SlAt.cut {s : SlH} (h : SlAt X c (some s) l) {p q m : Nat} (h1 : p ≤ q) (h2 : q ≤ m) (h3 : m ≤ s.cap) (h4 : q ≤ s.len) : SlAt X c (slCut (some s) p q m) ((l.take q).drop p) := by
  obtain ⟨a, ha, hb, hc, hl⟩ := h
  refine ⟨a, ha, ?_, ?_, ?_⟩
  · dsimp only; omega
  · dsimp only; omega
  · dsimp only
    refine List.ext_getElem? fun i => ?_
    rw [List.getElem?_drop, List.getElem?_take, List.getElem?_take, List.getElem?_drop, hl, List.getElem?_take, List.getElem?_drop]
    by_cases e : p + i < q
    · rw [if_pos e, if_pos (by omega), if_pos (by omega)]; congr 1; omega
    · rw [if_neg e, if_neg (by omega)]

/-- what stands behind the end is turned -/
theorem SlAt.behind {s : SlH} (h : SlAt X c (some s) l) {k : Nat} {l' : List c.T} (hk : s.len ≤ k) (hl' : k + l'.length ≤ s.cap) {a : List c.T} (ha : X.at s.h = some (.arr c a)) :
    SlAt (X.set s.h (.arr c (AB.over a (s.off + k) l'))) c (some s) l := by
  obtain ⟨a', ha', hb, hc, hl⟩ := h
  rw [ha] at ha'
  cases ha'
  refine ⟨_, at_set_self ha, ?_, hc, ?_⟩
  · rw [over_length (by omega)]; exact hb
  · rw [hl]
    refine List.ext_getElem? fun i => ?_
    rw [List.getElem?_take, List.getElem?_take]
    by_cases e : i < s.len
    · rw [if_pos e, if_pos e, List.getElem?_drop, List.getElem?_drop, over_get (by omega), if_neg (by omega)]
    · rw [if_neg e, if_neg e]

/-- a slice is written over -/
theorem SlAt.over {s : SlH} (h : SlAt X c (some s) l) {k : Nat} {l' : List c.T} (hk : k + l'.length ≤ s.len) : SlAt (X.over c (some s) k l') c (some s) (AB.over l k l') ∧ Mv X (hl (some s)) (X.over c (some s) k l') (hl (some s)) := by
  obtain ⟨a, ha, hb, hc, hl⟩ := h
  rw [XH.over_eq ha]
  refine ⟨⟨_, at_set_self ha, ?_, hc, ?_⟩, Mv.set (by simp [AB.hl])⟩
  · rw [over_length (by omega)]; exact hb
  · have hll : l.length = s.len := by rw [hl]; simp; omega
    refine List.ext_getElem? fun i => ?_
    rw [List.getElem?_take, over_get (by omega), List.getElem?_drop, over_get (by omega)]
    by_cases e : i < s.len
    · rw [if_pos e]
      by_cases e2 : k ≤ i ∧ i < k + l'.length
      · rw [if_pos e2, if_pos (by omega)]
        congr 1; omega
      · rw [if_neg e2, if_neg (by omega), hl, List.getElem?_take, if_pos e, List.getElem?_drop]
    · rw [if_neg e, if_neg (by omega), List.getElem?_eq_none (by omega)]

end Go.Proofs.Ytefpoodhdfggdaa.AB

set_option linter.unusedVariables false
set_option linter.unusedSimpArgs false
set_option maxRecDepth 100000
set_option maxHeartbeats 2000000
namespace Go.Proofs.Ytefpoodhdfggdaa.AB
open Go
/-! crucible/monitor.New -/
noncomputable def X29 : Cx := ⟨tt, [], [], [(29, [(1, 0, .x (.mp (.int .i64) (.ref cmonitor_lock))), (1, 1, .x (.mp (.int .i64) (.pure (.int .i64)))), (1, 2, .x cmonitor_Table), (1, 3, .x cmonitor_Table)])], [], []⟩
theorem FN29 : fnsB Try.prog X29.fns := (show True from trivial)
theorem E29 (X : XH) {R : ((Option Nat)) → XH → Prop} (h : (∀ (X1 : XH), X1 = (XH.add X (.map (.int .i64) (.ref cmonitor_lock) [])) → (∀ (X2 : XH), X2 = (XH.add X1 (.map (.int .i64) (.pure (.int .i64)) [])) → (∀ (X3 : XH), X3 = (XH.add X2 (.arr cmonitor_Table [((some X.n), ((some X1.n), (0 : Int)))])) → R (some X2.n) X3)))) :
  fnK X29.tt (callN Try.prog X29 0) (X29.md 29) (X29.mk1 29) Try.f29 [] ⟨[], [some (.heap X)], ⟨0, []⟩⟩ (xfin [(.ref cmonitor_Table)] R) := Eq.mp (by kernel_rfl) h
end Go.Proofs.Ytefpoodhdfggdaa.AB

set_option linter.unusedVariables false
set_option linter.unusedSimpArgs false
set_option maxRecDepth 100000
set_option maxHeartbeats 2000000
namespace Go.Proofs.Ytefpoodhdfggdaa.AB
open Go
/-! (*crucible/monitor.Table).Enter -/
noncomputable def X31 : Cx := ⟨tt, [], [(61, []), (62, [])], [(31, [(6, 4, .xc), (10, 5, .x cmonitor_lock), (10, 6, .x cmonitor_lock), (11, 8, .xc)])], [], []⟩
theorem FN31 : fnsB Try.prog X31.fns := (show True from trivial)
theorem E31 (X : XH) (t0 : Nat) (object1 : Int) (thread2 : Int) {R : (Bool × Int) → XH → Prop} (h : (((decide ((if thread2 < object1 then thread2 else object1) < (1 : Int))) = true → R (false, (1 : Int)) X) ∧
 ((decide ((if thread2 < object1 then thread2 else object1) < (1 : Int))) = false → (∃ (a1 : ((Option Nat) × ((Option Nat) × Int))), XH.el X cmonitor_Table t0 0 = some a1 ∧ (∃ (es2 : List (Int × Int)), XH.vmp X (.int .i64) (.pure (.int .i64)) a1.2.1 = some es2 ∧ (∀ (v3 : Int), mfind (Cd.keq (.int .i64) thread2) es2 = some v3 → (((decide (v3 > (0 : Int))) = true → R (false, (25 : Int)) X) ∧
 ((decide (v3 > (0 : Int))) = false → (∃ (a4 : ((Option Nat) × ((Option Nat) × Int))), XH.el X cmonitor_Table t0 0 = some a4 ∧ (∃ (es5 : List (Int × (Option Nat))), XH.vmp X (.int .i64) (.ref cmonitor_lock) a4.1 = some es5 ∧ (∀ (v6 : (Option Nat)), mfind (Cd.keq (.int .i64) object1) es5 = some v6 → (((Option.isNone v6) = true → (∃ (a7 : ((Option Nat) × ((Option Nat) × Int))), XH.el X cmonitor_Table t0 0 = some a7 ∧ (∀ (X8 : XH), X8 = (XH.add X (.arr cmonitor_lock [((0 : Int), ((0 : Int), ((0 : Int), (none, ()))))])) → (∃ (h9 : Nat) (es10 : List (Int × (Option Nat))), a7.1 = some h9 ∧ XH.mp X8 (.int .i64) (.ref cmonitor_lock) h9 = some es10 ∧ (∀ (X11 : XH), X11 = (XH.set X8 h9 (.map (.int .i64) (.ref cmonitor_lock) (mset (Cd.keq (.int .i64) object1) object1 (some X.n) es10))) → (∃ (a12 : ((Option Nat) × ((Option Nat) × Int))), XH.el X11 cmonitor_Table t0 0 = some a12 ∧ (∃ (es13 : List (Int × (Option Nat))), XH.vmp X11 (.int .i64) (.ref cmonitor_lock) a12.1 = some es13 ∧ (∀ (v14 : (Option Nat)), mfind (Cd.keq (.int .i64) object1) es13 = some v14 → (XC Try.prog 61 [] [(.ref (some t0) cmonitor_Table 0 []), (.ref v14 cmonitor_lock 0 []), (.v (.int .i64 thread2))] X11 (fun (p15 : Unit) (X16 : XH) => R (true, (0 : Int)) X16))) ∧ (mfind (Cd.keq (.int .i64) object1) es13 = none → (XC Try.prog 61 [] [(.ref (some t0) cmonitor_Table 0 []), (.ref none cmonitor_lock 0 []), (.v (.int .i64 thread2))] X11 (fun (p17 : Unit) (X18 : XH) => R (true, (0 : Int)) X18)))))))))) ∧
 ((Option.isNone v6) = false → (refK v6 (fun (h19 : Nat) => (∃ (a20 : (Int × (Int × (Int × ((Option SlH) × Unit))))), XH.el X cmonitor_lock h19 0 = some a20 ∧ (((a20.1 == thread2) = true → (refK v6 (fun (h21 : Nat) => (∃ (a22 : (Int × (Int × (Int × ((Option SlH) × Unit))))), XH.el X cmonitor_lock h21 0 = some a22 ∧ (refK v6 (fun (h23 : Nat) => (∃ (a24 : (Int × (Int × (Int × ((Option SlH) × Unit))))), XH.el X cmonitor_lock h23 0 = some a24 ∧ (∀ (X25 : XH), X25 = (XH.setEl X cmonitor_lock h23 0 ((a24.1, ((IntKind.wrap .i64 (a22.2.1 + (1 : Int))), a24.2.2)))) → R (true, (0 : Int)) X25)))))))) ∧
 ((a20.1 == thread2) = false → (refK v6 (fun (h26 : Nat) => (XC Try.prog 62 [] [(.ref (some h26) cmonitor_lock 0 [.snd, .snd, .snd]), (.v (.int .i64 thread2))] X (fun (p27 : Unit) (X28 : XH) => (∃ (a29 : ((Option Nat) × ((Option Nat) × Int))), XH.el X28 cmonitor_Table t0 0 = some a29 ∧ (∃ (h30 : Nat) (es31 : List (Int × Int)), a29.2.1 = some h30 ∧ XH.mp X28 (.int .i64) (.pure (.int .i64)) h30 = some es31 ∧ (∀ (X32 : XH), X32 = (XH.set X28 h30 (.map (.int .i64) (.pure (.int .i64)) (mset (Cd.keq (.int .i64) thread2) thread2 object1 es31))) → R (false, (0 : Int)) X32))))))))))))))) ∧ (mfind (Cd.keq (.int .i64) object1) es5 = none → ((true = true → (∃ (a33 : ((Option Nat) × ((Option Nat) × Int))), XH.el X cmonitor_Table t0 0 = some a33 ∧ (∀ (X34 : XH), X34 = (XH.add X (.arr cmonitor_lock [((0 : Int), ((0 : Int), ((0 : Int), (none, ()))))])) → (∃ (h35 : Nat) (es36 : List (Int × (Option Nat))), a33.1 = some h35 ∧ XH.mp X34 (.int .i64) (.ref cmonitor_lock) h35 = some es36 ∧ (∀ (X37 : XH), X37 = (XH.set X34 h35 (.map (.int .i64) (.ref cmonitor_lock) (mset (Cd.keq (.int .i64) object1) object1 (some X.n) es36))) → (∃ (a38 : ((Option Nat) × ((Option Nat) × Int))), XH.el X37 cmonitor_Table t0 0 = some a38 ∧ (∃ (es39 : List (Int × (Option Nat))), XH.vmp X37 (.int .i64) (.ref cmonitor_lock) a38.1 = some es39 ∧ (∀ (v40 : (Option Nat)), mfind (Cd.keq (.int .i64) object1) es39 = some v40 → (XC Try.prog 61 [] [(.ref (some t0) cmonitor_Table 0 []), (.ref v40 cmonitor_lock 0 []), (.v (.int .i64 thread2))] X37 (fun (p41 : Unit) (X42 : XH) => R (true, (0 : Int)) X42))) ∧ (mfind (Cd.keq (.int .i64) object1) es39 = none → (XC Try.prog 61 [] [(.ref (some t0) cmonitor_Table 0 []), (.ref none cmonitor_lock 0 []), (.v (.int .i64 thread2))] X37 (fun (p43 : Unit) (X44 : XH) => R (true, (0 : Int)) X44)))))))))) ∧
 (true = false → False)))))))) ∧ (mfind (Cd.keq (.int .i64) thread2) es2 = none → (((decide ((0 : Int) > (0 : Int))) = true → R (false, (25 : Int)) X) ∧
 ((decide ((0 : Int) > (0 : Int))) = false → (∃ (a45 : ((Option Nat) × ((Option Nat) × Int))), XH.el X cmonitor_Table t0 0 = some a45 ∧ (∃ (es46 : List (Int × (Option Nat))), XH.vmp X (.int .i64) (.ref cmonitor_lock) a45.1 = some es46 ∧ (∀ (v47 : (Option Nat)), mfind (Cd.keq (.int .i64) object1) es46 = some v47 → (((Option.isNone v47) = true → (∃ (a48 : ((Option Nat) × ((Option Nat) × Int))), XH.el X cmonitor_Table t0 0 = some a48 ∧ (∀ (X49 : XH), X49 = (XH.add X (.arr cmonitor_lock [((0 : Int), ((0 : Int), ((0 : Int), (none, ()))))])) → (∃ (h50 : Nat) (es51 : List (Int × (Option Nat))), a48.1 = some h50 ∧ XH.mp X49 (.int .i64) (.ref cmonitor_lock) h50 = some es51 ∧ (∀ (X52 : XH), X52 = (XH.set X49 h50 (.map (.int .i64) (.ref cmonitor_lock) (mset (Cd.keq (.int .i64) object1) object1 (some X.n) es51))) → (∃ (a53 : ((Option Nat) × ((Option Nat) × Int))), XH.el X52 cmonitor_Table t0 0 = some a53 ∧ (∃ (es54 : List (Int × (Option Nat))), XH.vmp X52 (.int .i64) (.ref cmonitor_lock) a53.1 = some es54 ∧ (∀ (v55 : (Option Nat)), mfind (Cd.keq (.int .i64) object1) es54 = some v55 → (XC Try.prog 61 [] [(.ref (some t0) cmonitor_Table 0 []), (.ref v55 cmonitor_lock 0 []), (.v (.int .i64 thread2))] X52 (fun (p56 : Unit) (X57 : XH) => R (true, (0 : Int)) X57))) ∧ (mfind (Cd.keq (.int .i64) object1) es54 = none → (XC Try.prog 61 [] [(.ref (some t0) cmonitor_Table 0 []), (.ref none cmonitor_lock 0 []), (.v (.int .i64 thread2))] X52 (fun (p58 : Unit) (X59 : XH) => R (true, (0 : Int)) X59)))))))))) ∧
 ((Option.isNone v47) = false → (refK v47 (fun (h60 : Nat) => (∃ (a61 : (Int × (Int × (Int × ((Option SlH) × Unit))))), XH.el X cmonitor_lock h60 0 = some a61 ∧ (((a61.1 == thread2) = true → (refK v47 (fun (h62 : Nat) => (∃ (a63 : (Int × (Int × (Int × ((Option SlH) × Unit))))), XH.el X cmonitor_lock h62 0 = some a63 ∧ (refK v47 (fun (h64 : Nat) => (∃ (a65 : (Int × (Int × (Int × ((Option SlH) × Unit))))), XH.el X cmonitor_lock h64 0 = some a65 ∧ (∀ (X66 : XH), X66 = (XH.setEl X cmonitor_lock h64 0 ((a65.1, ((IntKind.wrap .i64 (a63.2.1 + (1 : Int))), a65.2.2)))) → R (true, (0 : Int)) X66)))))))) ∧
 ((a61.1 == thread2) = false → (refK v47 (fun (h67 : Nat) => (XC Try.prog 62 [] [(.ref (some h67) cmonitor_lock 0 [.snd, .snd, .snd]), (.v (.int .i64 thread2))] X (fun (p68 : Unit) (X69 : XH) => (∃ (a70 : ((Option Nat) × ((Option Nat) × Int))), XH.el X69 cmonitor_Table t0 0 = some a70 ∧ (∃ (h71 : Nat) (es72 : List (Int × Int)), a70.2.1 = some h71 ∧ XH.mp X69 (.int .i64) (.pure (.int .i64)) h71 = some es72 ∧ (∀ (X73 : XH), X73 = (XH.set X69 h71 (.map (.int .i64) (.pure (.int .i64)) (mset (Cd.keq (.int .i64) thread2) thread2 object1 es72))) → R (false, (0 : Int)) X73))))))))))))))) ∧ (mfind (Cd.keq (.int .i64) object1) es46 = none → ((true = true → (∃ (a74 : ((Option Nat) × ((Option Nat) × Int))), XH.el X cmonitor_Table t0 0 = some a74 ∧ (∀ (X75 : XH), X75 = (XH.add X (.arr cmonitor_lock [((0 : Int), ((0 : Int), ((0 : Int), (none, ()))))])) → (∃ (h76 : Nat) (es77 : List (Int × (Option Nat))), a74.1 = some h76 ∧ XH.mp X75 (.int .i64) (.ref cmonitor_lock) h76 = some es77 ∧ (∀ (X78 : XH), X78 = (XH.set X75 h76 (.map (.int .i64) (.ref cmonitor_lock) (mset (Cd.keq (.int .i64) object1) object1 (some X.n) es77))) → (∃ (a79 : ((Option Nat) × ((Option Nat) × Int))), XH.el X78 cmonitor_Table t0 0 = some a79 ∧ (∃ (es80 : List (Int × (Option Nat))), XH.vmp X78 (.int .i64) (.ref cmonitor_lock) a79.1 = some es80 ∧ (∀ (v81 : (Option Nat)), mfind (Cd.keq (.int .i64) object1) es80 = some v81 → (XC Try.prog 61 [] [(.ref (some t0) cmonitor_Table 0 []), (.ref v81 cmonitor_lock 0 []), (.v (.int .i64 thread2))] X78 (fun (p82 : Unit) (X83 : XH) => R (true, (0 : Int)) X83))) ∧ (mfind (Cd.keq (.int .i64) object1) es80 = none → (XC Try.prog 61 [] [(.ref (some t0) cmonitor_Table 0 []), (.ref none cmonitor_lock 0 []), (.v (.int .i64 thread2))] X78 (fun (p84 : Unit) (X85 : XH) => R (true, (0 : Int)) X85)))))))))) ∧
 (true = false → False))))))))))))) :
  fnK X31.tt (callN Try.prog X31 0) (X31.md 31) (X31.mk1 31) Try.f31 [(.ref (some t0) cmonitor_Table 0 []), (.v (.int .i64 object1)), (.v (.int .i64 thread2))] ⟨[], [some (.heap X)], ⟨0, []⟩⟩ (xfin [(.pure .bool), (.pure (.int .i64))] R) := Eq.mp (by kernel_rfl) h
end Go.Proofs.Ytefpoodhdfggdaa.AB

set_option linter.unusedVariables false
set_option linter.unusedSimpArgs false
set_option maxRecDepth 100000
set_option maxHeartbeats 2000000
namespace Go.Proofs.Ytefpoodhdfggdaa.AB
open Go
/-! (*crucible/monitor.Table).Exit -/
noncomputable def X33 : Cx := ⟨tt, [], [(65, [(.pure (.int .i64))])], [(33, [(9, 2, .xc)])], [], []⟩
theorem FN33 : fnsB Try.prog X33.fns := (show True from trivial)
theorem E33 (X : XH) (t0 : Nat) (object1 : Int) (thread2 : Int) {R : (Int × Int) → XH → Prop} (h : (((decide ((if thread2 < object1 then thread2 else object1) < (1 : Int))) = true → R ((0 : Int), (1 : Int)) X) ∧
 ((decide ((if thread2 < object1 then thread2 else object1) < (1 : Int))) = false → (∃ (a1 : ((Option Nat) × ((Option Nat) × Int))), XH.el X cmonitor_Table t0 0 = some a1 ∧ (∃ (es2 : List (Int × (Option Nat))), XH.vmp X (.int .i64) (.ref cmonitor_lock) a1.1 = some es2 ∧ (∀ (v3 : (Option Nat)), mfind (Cd.keq (.int .i64) object1) es2 = some v3 → (((Option.isNone v3) = true → R ((0 : Int), (25 : Int)) X) ∧ ((Option.isNone v3) = false → (refK v3 (fun (h4 : Nat) => (∃ (a5 : (Int × (Int × (Int × ((Option SlH) × Unit))))), XH.el X cmonitor_lock h4 0 = some a5 ∧ (((a5.1 != thread2) = true → R ((0 : Int), (25 : Int)) X) ∧
 ((a5.1 != thread2) = false → (refK v3 (fun (h6 : Nat) => (∃ (a7 : (Int × (Int × (Int × ((Option SlH) × Unit))))), XH.el X cmonitor_lock h6 0 = some a7 ∧ (refK v3 (fun (h8 : Nat) => (∃ (a9 : (Int × (Int × (Int × ((Option SlH) × Unit))))), XH.el X cmonitor_lock h8 0 = some a9 ∧ (∀ (X10 : XH), X10 = (XH.setEl X cmonitor_lock h8 0 ((a9.1, ((IntKind.wrap .i64 (a7.2.1 - (1 : Int))), a9.2.2)))) → (refK v3 (fun (h11 : Nat) => (∃ (a12 : (Int × (Int × (Int × ((Option SlH) × Unit))))), XH.el X10 cmonitor_lock h11 0 = some a12 ∧ (((decide (a12.2.1 > (0 : Int))) = true → R ((0 : Int), (0 : Int)) X10) ∧
 ((decide (a12.2.1 > (0 : Int))) = false → (XC Try.prog 65 [(.pure (.int .i64))] [(.ref (some t0) cmonitor_Table 0 []), (.v (.int .i64 object1))] X10 (fun (p13 : Int) (X14 : XH) => R (p13, (0 : Int)) X14)))))))))))))))))))))) ∧ (mfind (Cd.keq (.int .i64) object1) es2 = none → ((true = true → R ((0 : Int), (25 : Int)) X) ∧ (true = false → False)))))))) :
  fnK X33.tt (callN Try.prog X33 0) (X33.md 33) (X33.mk1 33) Try.f33 [(.ref (some t0) cmonitor_Table 0 []), (.v (.int .i64 object1)), (.v (.int .i64 thread2))] ⟨[], [some (.heap X)], ⟨0, []⟩⟩ (xfin [(.pure (.int .i64)), (.pure (.int .i64))] R) := Eq.mp (by kernel_rfl) h
end Go.Proofs.Ytefpoodhdfggdaa.AB

set_option linter.unusedVariables false
set_option linter.unusedSimpArgs false
set_option maxRecDepth 100000
set_option maxHeartbeats 2000000
namespace Go.Proofs.Ytefpoodhdfggdaa.AB
open Go
/-! (*crucible/monitor.Table).Owner -/
noncomputable def X38 : Cx := ⟨tt, [], [], [], [], []⟩
theorem FN38 : fnsB Try.prog X38.fns := (show True from trivial)
theorem E38 (X : XH) (t0 : Nat) (object1 : Int) {R : (Int × Int) → XH → Prop} (h : (∃ (a1 : ((Option Nat) × ((Option Nat) × Int))), XH.el X cmonitor_Table t0 0 = some a1 ∧ (∃ (es2 : List (Int × (Option Nat))), XH.vmp X (.int .i64) (.ref cmonitor_lock) a1.1 = some es2 ∧ (∀ (v3 : (Option Nat)), mfind (Cd.keq (.int .i64) object1) es2 = some v3 → (((!(Option.isNone v3)) = true → (refK v3 (fun (h4 : Nat) => (∃ (a5 : (Int × (Int × (Int × ((Option SlH) × Unit))))), XH.el X cmonitor_lock h4 0 = some a5 ∧ (refK v3 (fun (h6 : Nat) => (∃ (a7 : (Int × (Int × (Int × ((Option SlH) × Unit))))), XH.el X cmonitor_lock h6 0 = some a7 ∧ R (a5.1, a7.2.1) X))))))) ∧
 ((!(Option.isNone v3)) = false → R ((0 : Int), (0 : Int)) X))) ∧ (mfind (Cd.keq (.int .i64) object1) es2 = none → (((!true) = true → False) ∧
 ((!true) = false → R ((0 : Int), (0 : Int)) X)))))) :
  fnK X38.tt (callN Try.prog X38 0) (X38.md 38) (X38.mk1 38) Try.f38 [(.ref (some t0) cmonitor_Table 0 []), (.v (.int .i64 object1))] ⟨[], [some (.heap X)], ⟨0, []⟩⟩ (xfin [(.pure (.int .i64)), (.pure (.int .i64))] R) := Eq.mp (by kernel_rfl) h
end Go.Proofs.Ytefpoodhdfggdaa.AB

set_option linter.unusedVariables false
set_option linter.unusedSimpArgs false
set_option maxRecDepth 100000
set_option maxHeartbeats 2000000
namespace Go.Proofs.Ytefpoodhdfggdaa.AB
open Go
/-! (*crucible/monitor.Table).Waits -/
noncomputable def X40 : Cx := ⟨tt, [], [(73, [(.pure (.slice (.int .i64)))])], [(40, [(3, 5, .rd)])], [], []⟩
theorem FN40 : fnsB Try.prog X40.fns := (show True from trivial)
theorem E40 (X : XH) (t0 : Nat) (object1 : Int) {R : ((List Int)) → XH → Prop} (h : (∃ (a1 : ((Option Nat) × ((Option Nat) × Int))), XH.el X cmonitor_Table t0 0 = some a1 ∧ (∃ (es2 : List (Int × (Option Nat))), XH.vmp X (.int .i64) (.ref cmonitor_lock) a1.1 = some es2 ∧ (∀ (v3 : (Option Nat)), mfind (Cd.keq (.int .i64) object1) es2 = some v3 → (((!(Option.isNone v3)) = true → (refK v3 (fun (h4 : Nat) => (∃ (a5 : (Int × (Int × (Int × ((Option SlH) × Unit))))), XH.el X cmonitor_lock h4 0 = some a5 ∧ (∃ (p6 : (List Int)), RC Try.prog 73 [(.pure (.slice (.int .i64)))] [(.sl (.pure (.int .i64)) a5.2.2.2.1)] X p6 ∧ R p6 X))))) ∧
 ((!(Option.isNone v3)) = false → R ([] : List Int) X))) ∧ (mfind (Cd.keq (.int .i64) object1) es2 = none → (((!true) = true → False) ∧
 ((!true) = false → R ([] : List Int) X)))))) :
  fnK X40.tt (callN Try.prog X40 0) (X40.md 40) (X40.mk1 40) Try.f40 [(.ref (some t0) cmonitor_Table 0 []), (.v (.int .i64 object1))] ⟨[], [some (.heap X)], ⟨0, []⟩⟩ (xfin [(.pure (.slice (.int .i64)))] R) := Eq.mp (by kernel_rfl) h
end Go.Proofs.Ytefpoodhdfggdaa.AB

set_option linter.unusedVariables false
set_option linter.unusedSimpArgs false
set_option maxRecDepth 100000
set_option maxHeartbeats 2000000
namespace Go.Proofs.Ytefpoodhdfggdaa.AB
open Go
/-! (*crucible/monitor.Table).takes -/
noncomputable def X61 : Cx := ⟨tt, [], [], [], [], []⟩
theorem FN61 : fnsB Try.prog X61.fns := (show True from trivial)
theorem E61 (X : XH) (t0 : Nat) (m1 : Nat) (thread2 : Int) {R : Unit → XH → Prop} (h : (∃ (a1 : ((Option Nat) × ((Option Nat) × Int))), XH.el X cmonitor_Table t0 0 = some a1 ∧ (∃ (a2 : ((Option Nat) × ((Option Nat) × Int))), XH.el X cmonitor_Table t0 0 = some a2 ∧ (∀ (X3 : XH), X3 = (XH.setEl X cmonitor_Table t0 0 ((a2.1, (a2.2.1, (IntKind.wrap .i64 (a1.2.2 + (1 : Int))))))) → (∃ (a4 : ((Option Nat) × ((Option Nat) × Int))), XH.el X3 cmonitor_Table t0 0 = some a4 ∧ (∃ (a5 : (Int × (Int × (Int × ((Option SlH) × Unit))))), XH.el X3 cmonitor_lock m1 0 = some a5 ∧ (∀ (X6 : XH), X6 = (XH.setEl X3 cmonitor_lock m1 0 (thread2, a5.2)) → (∃ (a7 : (Int × (Int × (Int × ((Option SlH) × Unit))))), XH.el X6 cmonitor_lock m1 0 = some a7 ∧ (∀ (X8 : XH), X8 = (XH.setEl X6 cmonitor_lock m1 0 ((a7.1, ((1 : Int), a7.2.2)))) → (∃ (a9 : (Int × (Int × (Int × ((Option SlH) × Unit))))), XH.el X8 cmonitor_lock m1 0 = some a9 ∧ (∀ (X10 : XH), X10 = (XH.setEl X8 cmonitor_lock m1 0 ((a9.1, (a9.2.1, (a4.2.2, a9.2.2.2))))) → R () X10))))))))))) :
  fnK X61.tt (callN Try.prog X61 0) (X61.md 61) (X61.mk1 61) Try.f61 [(.ref (some t0) cmonitor_Table 0 []), (.ref (some m1) cmonitor_lock 0 []), (.v (.int .i64 thread2))] ⟨[], [some (.heap X)], ⟨0, []⟩⟩ (xfin [] R) := Eq.mp (by kernel_rfl) h
end Go.Proofs.Ytefpoodhdfggdaa.AB

set_option linter.unusedVariables false
set_option linter.unusedSimpArgs false
set_option maxRecDepth 100000
set_option maxHeartbeats 2000000
namespace Go.Proofs.Ytefpoodhdfggdaa.AB
open Go
/-! (*crucible/monitor.queue[int]).push -/
noncomputable def X62 : Cx := ⟨tt, [], [], [(62, [(0, 7, .x (.pure (.int .i64)))])], [], []⟩
theorem FN62 : fnsB Try.prog X62.fns := (show True from trivial)
theorem E62 (X : XH) (q0 : Nat) (x1 : Int) {R : Unit → XH → Prop} (h : (∃ (a1 : (Int × (Int × (Int × ((Option SlH) × Unit))))), XH.el X cmonitor_lock q0 0 = some a1 ∧ (∃ (l2 l3 : List Int), XH.view X (.pure (.int .i64)) a1.2.2.2.1 = some l2 ∧ (srcX X (.pure (.int .i64)) (.v (.list (.int .i64) ([x1] : List Int) .exact))) = some l3 ∧ ((slN a1.2.2.2.1) + (l3).length) * 8 ≤ room ∧ ∀ (X4 : XH) (s5 : Option SlH), XApp X (.pure (.int .i64)) (0 : Int) l2 l3 a1.2.2.2.1 X4 s5 → (∃ (a6 : (Int × (Int × (Int × ((Option SlH) × Unit))))), XH.el X4 cmonitor_lock q0 0 = some a6 ∧ (∀ (X7 : XH), X7 = (XH.setEl X4 cmonitor_lock q0 0 ((a6.1, (a6.2.1, (a6.2.2.1, (s5, a6.2.2.2.2)))))) → R () X7))))) :
  fnK X62.tt (callN Try.prog X62 0) (X62.md 62) (X62.mk1 62) Try.f62 [(.ref (some q0) cmonitor_lock 0 [.snd, .snd, .snd]), (.v (.int .i64 x1))] ⟨[], [some (.heap X)], ⟨0, []⟩⟩ (xfin [] R) := Eq.mp (by kernel_rfl) h
end Go.Proofs.Ytefpoodhdfggdaa.AB

set_option linter.unusedVariables false
set_option linter.unusedSimpArgs false
set_option maxRecDepth 100000
set_option maxHeartbeats 2000000
namespace Go.Proofs.Ytefpoodhdfggdaa.AB
open Go
/-! (*crucible/monitor.Table).next -/
noncomputable def X65 : Cx := ⟨tt, [], [(61, []), (85, [(.pure (.int .i64)), (.pure .bool)])], [(65, [(2, 3, .xc), (7, 3, .xc)])], [], []⟩
theorem FN65 : fnsB Try.prog X65.fns := (show True from trivial)
theorem E65 (X : XH) (t0 : Nat) (object1 : Int) {R : (Int) → XH → Prop} (h : (∃ (a1 : ((Option Nat) × ((Option Nat) × Int))), XH.el X cmonitor_Table t0 0 = some a1 ∧ (∃ (es2 : List (Int × (Option Nat))), XH.vmp X (.int .i64) (.ref cmonitor_lock) a1.1 = some es2 ∧ (∀ (v3 : (Option Nat)), mfind (Cd.keq (.int .i64) object1) es2 = some v3 → (refK v3 (fun (h4 : Nat) => (XC Try.prog 85 [(.pure (.int .i64)), (.pure .bool)] [(.ref (some h4) cmonitor_lock 0 [.snd, .snd, .snd])] X (fun (p5 : Int × Bool) (X6 : XH) => (((!p5.2) = true → (∃ (a7 : ((Option Nat) × ((Option Nat) × Int))), XH.el X6 cmonitor_Table t0 0 = some a7 ∧ (∃ (h8 : Nat) (es9 : List (Int × (Option Nat))), a7.1 = some h8 ∧ XH.mp X6 (.int .i64) (.ref cmonitor_lock) h8 = some es9 ∧ (∀ (X10 : XH), X10 = (XH.set X6 h8 (.map (.int .i64) (.ref cmonitor_lock) (mdel (Cd.keq (.int .i64) object1) es9))) → R (0 : Int) X10)))) ∧
 ((!p5.2) = false → (∃ (a11 : ((Option Nat) × ((Option Nat) × Int))), XH.el X6 cmonitor_Table t0 0 = some a11 ∧ (∃ (h12 : Nat) (es13 : List (Int × Int)), a11.2.1 = some h12 ∧ XH.mp X6 (.int .i64) (.pure (.int .i64)) h12 = some es13 ∧ (∀ (X14 : XH), X14 = (XH.set X6 h12 (.map (.int .i64) (.pure (.int .i64)) (mdel (Cd.keq (.int .i64) p5.1) es13))) → (XC Try.prog 61 [] [(.ref (some t0) cmonitor_Table 0 []), (.ref v3 cmonitor_lock 0 []), (.v (.int .i64 p5.1))] X14 (fun (p15 : Unit) (X16 : XH) => R p5.1 X16)))))))))))) ∧ (mfind (Cd.keq (.int .i64) object1) es2 = none → False)))) :
  fnK X65.tt (callN Try.prog X65 0) (X65.md 65) (X65.mk1 65) Try.f65 [(.ref (some t0) cmonitor_Table 0 []), (.v (.int .i64 object1))] ⟨[], [some (.heap X)], ⟨0, []⟩⟩ (xfin [(.pure (.int .i64))] R) := Eq.mp (by kernel_rfl) h
end Go.Proofs.Ytefpoodhdfggdaa.AB

set_option linter.unusedVariables false
set_option linter.unusedSimpArgs false
set_option maxRecDepth 100000
set_option maxHeartbeats 2000000
namespace Go.Proofs.Ytefpoodhdfggdaa.AB
open Go
/-! slices.Clone[[]int,int] -/
noncomputable def X73 : Cx := ⟨tt, [], [], [(73, [(1, 1, .lend)])], [], []⟩
theorem FN73 : fnsB Try.prog X73.fns := (show True from trivial)
theorem E73 (X : XH) (s0 : (Option SlH)) {R : ((List Int)) → XH → Prop} (h : (∀ (b1 : Bool), (b1 = true → s0 = none) → ((b1 = true → R ([] : List Int) X) ∧
 (b1 = false → (∃ (l2 : List Int), XH.view X (.pure (.int .i64)) s0 = some l2 ∧ Tok.own .exact ([]) ∧ ((([] : List Int)).length + (l2).length) * 8 ≤ room ∧ R ((([] : List Int) ++ l2)) X))))) :
  fnK X73.tt (callN Try.prog X73 0) (X73.md 73) (X73.mk1 73) Try.f73 [(.sl (.pure (.int .i64)) s0)] ⟨[], [some (.heap X)], ⟨0, []⟩⟩ (xfin [(.pure (.slice (.int .i64)))] R) := Eq.mp (by kernel_rfl) h
end Go.Proofs.Ytefpoodhdfggdaa.AB

set_option linter.unusedVariables false
set_option linter.unusedSimpArgs false
set_option maxRecDepth 100000
set_option maxHeartbeats 2000000
namespace Go.Proofs.Ytefpoodhdfggdaa.AB
open Go
/-! (*crucible/monitor.queue[int]).pop -/
noncomputable def X85 : Cx := ⟨tt, [], [], [], [], []⟩
theorem FN85 : fnsB Try.prog X85.fns := (show True from trivial)
theorem E85 (X : XH) (q0 : Nat) {R : (Int × Bool) → XH → Prop} (h : (∃ (a1 : (Int × (Int × (Int × ((Option SlH) × Unit))))), XH.el X cmonitor_lock q0 0 = some a1 ∧ ((((((slN a1.2.2.2.1) : Nat) : Int) == (0 : Int)) = true → R ((0 : Int), false) X) ∧
 (((((slN a1.2.2.2.1) : Nat) : Int) == (0 : Int)) = false → (∃ (a2 : (Int × (Int × (Int × ((Option SlH) × Unit))))), XH.el X cmonitor_lock q0 0 = some a2 ∧ (∃ (u3 : SlH), a2.2.2.2.1 = some u3 ∧ 0 ≤ (0 : Int) ∧ (0 : Int) < ((u3.len : Nat) : Int) ∧ (∃ (a4 : Int), XH.el X (.pure (.int .i64)) u3.h ((u3.off + ((0 : Int)).toNat)) = some a4 ∧ (∃ (a5 : (Int × (Int × (Int × ((Option SlH) × Unit))))), XH.el X cmonitor_lock q0 0 = some a5 ∧ (0 ≤ (1 : Int) ∧ (1 : Int) ≤ (((slN a5.2.2.2.1) : Nat) : Int) ∧ (∃ (a6 : (Int × (Int × (Int × ((Option SlH) × Unit))))), XH.el X cmonitor_lock q0 0 = some a6 ∧ (∀ (X7 : XH), X7 = (XH.setEl X cmonitor_lock q0 0 ((a6.1, (a6.2.1, (a6.2.2.1, ((slCut a5.2.2.2.1 (((1 : Int)).toNat) (slN a5.2.2.2.1) (slC a5.2.2.2.1)), a6.2.2.2.2)))))) → R (a4, true) X7))))))))))) :
  fnK X85.tt (callN Try.prog X85 0) (X85.md 85) (X85.mk1 85) Try.f85 [(.ref (some q0) cmonitor_lock 0 [.snd, .snd, .snd])] ⟨[], [some (.heap X)], ⟨0, []⟩⟩ (xfin [(.pure (.int .i64)), (.pure .bool)] R) := Eq.mp (by kernel_rfl) h
end Go.Proofs.Ytefpoodhdfggdaa.AB

set_option linter.unusedVariables false
set_option linter.unusedSimpArgs false
namespace Go.Proofs.Ytefpoodhdfggdaa.AB
open Go

variable {X X' : XH} {t : Nat} {d : MD} {o : Int} {l : PL}

def nextT (p : PD) : Int := IntKind.wrap .i64 (p.turn + 1)

theorem xset_set (X : XH) (h : Nat) (a b : XO) : (X.set h a).set h b = X.set h b := by
  unfold XH.set
  congr 1
  funext k
  by_cases e : k = h <;> simp [e]

/-- no list is long -/
def short (p : PD) : Prop := ∀ e ∈ p.es, e.2.2.2.2.length ≤ 1000000

/-- what is known of the table behind a call -/
def MGoes (X : XH) (t : Nat) (d : MD) (X' : XH) (p : PD) : Prop := ∃ d', MRep X' t d' ∧ Mv X (d.hs t) X' (d'.hs t) ∧ d'.p = p

theorem MGoes.refl (h : MRep X t d) : MGoes X t d X d.p := ⟨d, h, .refl _ _, rfl⟩

theorem MRep.lbox (h : MRep X t d) (ho : mfind (eqN o) d.p.es = some l) : Box X cL (d.h o) (lvOf (d.sl o) l) ∧ SlAt X cN (d.sl o) l.2.2.2 := h.lk _ (mfind_mem ho)

/-- a monitor's three words are told anew -/
theorem MRep.lock0 (h : MRep X t d) (ho : mfind (eqN o) d.p.es = some l) (l' : PL) (he : l'.2.2.2 = l.2.2.2) :
    MGoes X t d (X.set (d.h o) (.arr cL [lvOf (d.sl o) l'])) { d.p with es := updK d.p.es o l' } := by
  obtain ⟨a, b⟩ := h.lock (X' := X) ho (s' := d.sl o) (l' := l') (by rw [he]; exact (h.lbox ho).2) (.refl _ _)
  exact ⟨_, a, b, rfl⟩

/-- takes -/
theorem c61 (h : MRep X t d) (ho : mfind (eqN o) d.p.es = some l) (th : Int) : XC Try.prog 61 [] [.ref (some t) cT 0 [], .ref (some (d.h o)) cL 0 [], .v (.int .i64 th)] X
    fun _ X' => MGoes X t d X' { d.p with es := updK d.p.es o (th, 1, nextT d.p, l.2.2.2), turn := nextT d.p } := by
  refine xcOf (X := X61) rfl FN61 (by kernel_rfl) (by decide) (E61 X t (d.h o) th ⟨_, h.box.el, _, h.box.el, fun X3 e3 => ?_⟩)
  have e3 := e3.trans h.box.setEl
  obtain ⟨h3, m3⟩ := h.turn (nextT d.p)
  have e3 : X3 = X.set t (.arr cT [(some d.hH, some d.hW, nextT d.p)]) := e3
  rw [← e3] at h3 m3
  generalize hd3 : ({ d with p := { d.p with turn := nextT d.p } } : MD) = d3 at h3 m3
  have ho3 : mfind (eqN o) d3.p.es = some l := by rw [← hd3]; exact ho
  have hh3 : d3.h = d.h := by rw [← hd3]
  have hs3 : d3.sl = d.sl := by rw [← hd3]
  obtain ⟨hb, hs⟩ := h3.lbox ho3
  rw [hh3, hs3] at hb
  refine ⟨_, h3.box.el, _, hb.el, fun X6 e6 => ?_⟩
  have e6 := e6.trans hb.setEl
  have hb6 : Box X6 cL (d.h o) _ := e6 ▸ hb.set
  refine ⟨_, hb6.el, fun X8 e8 => ?_⟩
  have e8 := e8.trans hb6.setEl
  have hb8 : Box X8 cL (d.h o) _ := e8 ▸ hb6.set
  refine ⟨_, hb8.el, fun X10 e10 => ?_⟩
  have e10 := e10.trans hb8.setEl
  rw [e8, e6, xset_set, xset_set] at e10
  obtain ⟨d', r', m', hp'⟩ := h3.lock0 ho3 (th, 1, nextT d.p, l.2.2.2) rfl
  rw [hh3, hs3] at r' m'
  have e10 : X10 = X3.set (d.h o) (.arr cL [lvOf (d.sl o) (th, 1, nextT d.p, l.2.2.2)]) := by
    rw [e10]
    show X3.set (d.h o) (.arr cL [(th, 1, d3.tv.2.2, d.sl o, ())]) = _
    rw [← hd3]; rfl
  rw [← e10] at r' m'
  exact ⟨d', r', m3.trans m', by rw [hp', ← hd3]⟩

/-- push -/
theorem c62 (h : MRep X t d) (ho : mfind (eqN o) d.p.es = some l) (x : Int) (hl : l.2.2.2.length ≤ 1000000) : XC Try.prog 62 [] [.ref (some (d.h o)) cL 0 [.snd, .snd, .snd], .v (.int .i64 x)] X
    fun _ X' => MGoes X t d X' { d.p with es := updK d.p.es o (l.1, l.2.1, l.2.2.1, l.2.2.2 ++ [x]) } := by
  obtain ⟨hb, hs⟩ := h.lbox ho
  have hlen := hs.len
  refine xcOf (X := X62) rfl FN62 (by kernel_rfl) (by decide) (E62 X (d.h o) x ⟨_, hb.el, l.2.2.2, [x], hs.view, rfl, ?_, fun X4 s5 hx => ?_⟩)
  · show (slN (d.sl o) + 1) * 8 ≤ 140737488355328
    omega
  · obtain ⟨sl4, m4⟩ := hx.spec hs
    have hb4 : Box X4 cL (d.h o) (lvOf (d.sl o) l) := hb.keep (m4.keep _ hb.lt fun q => (h.n3 _ (mfind_mem ho) _ q).2.2.2 _ (mfind_mem ho) rfl)
    refine ⟨_, hb4.el, fun X7 e7 => ?_⟩
    have e7 := e7.trans hb4.setEl
    obtain ⟨a, b⟩ := h.lock ho (l' := (l.1, l.2.1, l.2.2.1, l.2.2.2 ++ [x])) sl4 m4
    have e7 : X7 = X4.set (d.h o) (.arr cL [lvOf s5 (l.1, l.2.1, l.2.2.1, l.2.2.2 ++ [x])]) := e7
    rw [← e7] at a b
    exact ⟨_, a, b, rfl⟩

/-- pop -/
theorem c85 (h : MRep X t d) (ho : mfind (eqN o) d.p.es = some l) (hl : l.2.2.2.length ≤ 1000000) : XC Try.prog 85 [.pure (.int .i64), .pure .bool] [.ref (some (d.h o)) cL 0 [.snd, .snd, .snd]] X
    fun p X' => (l.2.2.2 = [] ∧ p = ((0, false) : Int × Bool) ∧ X' = X) ∨ ∃ x r, l.2.2.2 = x :: r ∧ p = ((x, true) : Int × Bool) ∧ ∃ d', MRep X' t d' ∧ Mv X (d.hs t) X' (d'.hs t) ∧ d'.p = { d.p with es := updK d.p.es o (l.1, l.2.1, l.2.2.1, r) } ∧ d'.h = d.h := by
  obtain ⟨hb, hs⟩ := h.lbox ho
  have hlen := hs.len
  have hle := hs.le
  refine xcOf (X := X85) rfl FN85 (by kernel_rfl) (by decide) (E85 X (d.h o) ⟨_, hb.el, fun e => ?_, fun e => ?_⟩)
  · have e : slN (d.sl o) = 0 := by simpa [lvOf] using e
    refine .inl ⟨List.eq_nil_of_length_eq_zero (by omega), rfl, rfl⟩
  · have e : ¬ slN (d.sl o) = 0 := by simpa [lvOf] using e
    obtain ⟨x, r, hxr⟩ : ∃ x r, l.2.2.2 = x :: r := by
      cases hc : l.2.2.2 with
      | nil => rw [hc] at hlen; simp at hlen; omega
      | cons x r => exact ⟨x, r, rfl⟩
    obtain ⟨s, hsl⟩ : ∃ s, d.sl o = some s := by
      cases hc : d.sl o with
      | none => rw [hc] at e; exact absurd rfl e
      | some s => exact ⟨s, rfl⟩
    rw [hsl] at hs hlen e hb hle
    rw [hxr] at hs hlen
    have hlen : s.len = (x :: r).length := hlen
    have hle : s.len ≤ s.cap := hle
    have hel := hs.el (i := 0) (by simp)
    refine ⟨_, hb.el, s, rfl, by decide, by simp at hlen; omega, x, hel, _, hb.el, by decide, by show (1 : Int) ≤ ((s.len : Nat) : Int); simp at hlen; omega, _, hb.el, fun X7 e7 => ?_⟩
    have e7 := e7.trans hb.setEl
    have hc := hs.cut (p := 1) (q := s.len) (m := s.cap) (by simp at hlen; omega) hle (Nat.le_refl _) (Nat.le_refl _)
    rw [List.take_of_length_le (by rw [hlen]; exact Nat.le_refl _)] at hc
    obtain ⟨a, b⟩ := h.lock (X' := X) ho (s' := slCut (some s) 1 s.len s.cap) (l' := (l.1, l.2.1, l.2.2.1, r)) hc (by rw [hsl]; exact ⟨Nat.le_refl _, fun _ _ _ => rfl, fun k hk => .inl hk⟩)
    have e7 : X7 = X.set (d.h o) (.arr cL [lvOf (slCut (some s) 1 s.len s.cap) (l.1, l.2.1, l.2.2.1, r)]) := e7
    rw [← e7] at a b
    exact .inr ⟨x, r, hxr, rfl, _, a, b, rfl, rfl⟩

/-- Clone -/
theorem c73 {x : Option SlH} {w : List Int} (hs : SlAt X cN x w) (hl : w.length ≤ 1000000) : RC Try.prog 73 [.pure (.slice (.int .i64))] [.sl cN x] X w := by
  refine xcOf (X := X73) rfl FN73 (by kernel_rfl) (by decide) (E73 X x fun b hb => ⟨fun e => ?_, fun e => ⟨w, hs.view, trivial, ?_, ?_⟩⟩)
  · have := hb e
    subst this
    have hs : w = [] := hs
    exact ⟨hs.symm, rfl⟩
  · show (0 + w.length) * 8 ≤ 140737488355328; omega
  · have e' : [] ++ w = w := List.nil_append w
    exact ⟨e', rfl⟩

/-- who comes next, and what is left -/
def nextP (p : PD) (o : Int) : Int × PD :=
  match mfind (eqN o) p.es with
  | none => (0, p)
  | some l => match l.2.2.2 with
    | [] => (0, { p with es := mdel (eqN o) p.es })
    | x :: r => (x, { es := updK (updK p.es o (l.1, l.2.1, l.2.2.1, r)) o (x, 1, nextT p, r), ws := mdel (eqN x) p.ws, turn := nextT p })

/-- next -/
theorem c65 (h : MRep X t d) (ho : mfind (eqN o) d.p.es = some l) (hl : l.2.2.2.length ≤ 1000000) : XC Try.prog 65 [.pure (.int .i64)] [.ref (some t) cT 0 [], .v (.int .i64 o)] X
    fun v X' => v = (nextP d.p o).1 ∧ MGoes X t d X' (nextP d.p o).2 := by
  have hf : mfind (eqN o) d.hes = some (some (d.h o)) := by rw [h.find, ho]; rfl
  refine xcOf (X := X65) rfl FN65 (by kernel_rfl) (by decide) (E65 X t o ⟨_, h.box.el, d.hes, mp_at.2 h.mh, fun v hv => ?_, fun hv => ?_⟩)
  rotate_left
  · have hv : mfind (eqN o) d.hes = none := hv
    rw [hf] at hv; cases hv
  have hv : mfind (eqN o) d.hes = some v := hv
  rw [hf] at hv
  have hv := Option.some.inj hv
  subst hv
  refine refK_iff.2 ⟨_, rfl, (c85 h ho hl).mono ?_⟩
  rintro p X6 (⟨hw, rfl, rfl⟩ | ⟨x, r, hw, rfl, d', r', m', hp', hh'⟩)
  · refine ⟨fun _ => ⟨_, h.box.el, d.hH, d.hes, rfl, mp_at.2 h.mh, fun X10 e10 => ?_⟩, fun e => (by cases e)⟩
    obtain ⟨a, b⟩ := h.drop o
    rw [← e10] at a b
    have hn : nextP d.p o = (0, { d.p with es := mdel (eqN o) d.p.es }) := by unfold nextP; rw [ho]; dsimp only; rw [hw]
    rw [hn]
    exact ⟨rfl, _, a, b, rfl⟩
  · refine ⟨fun e => (by cases e), fun _ => ⟨_, r'.box.el, d'.hW, d'.p.ws, rfl, mp_at.2 r'.mw, fun X14 e14 => ?_⟩⟩
    obtain ⟨a, b⟩ := r'.waits (mdel (eqN x) d'.p.ws)
    rw [← e14] at a b
    have ho2 : mfind (eqN o) (updK d.p.es o (l.1, l.2.1, l.2.2.1, r)) = some (l.1, l.2.1, l.2.2.1, r) := by rw [updK_find ho, if_pos rfl]
    have ho' : mfind (eqN o) ({ d' with p := { d'.p with ws := mdel (eqN x) d'.p.ws } } : MD).p.es = some (l.1, l.2.1, l.2.2.1, r) := by
      show mfind (eqN o) d'.p.es = _
      rw [hp']; exact ho2
    rw [show d.h o = d'.h o by rw [hh']]
    refine (c61 a ho' x).mono ?_
    rintro _ X16 ⟨d2, r2, m2, hp2⟩
    have hn : nextP d.p o = (x, { es := updK (updK d.p.es o (l.1, l.2.1, l.2.2.1, r)) o (x, 1, nextT d.p, r), ws := mdel (eqN x) d.p.ws, turn := nextT d.p }) := by unfold nextP; rw [ho]; dsimp only; rw [hw]
    rw [hn]
    refine ⟨rfl, d2, r2, m'.trans (b.trans m2), ?_⟩
    rw [hp2]
    dsimp only
    rw [hp']
    rfl

end Go.Proofs.Ytefpoodhdfggdaa.AB

set_option linter.unusedVariables false
set_option linter.unusedSimpArgs false
namespace Go.Proofs.Ytefpoodhdfggdaa.AB
open Go

variable {X X' : XH} {t : Nat} {d : MD} {o : Int} {l : PL}

/-- New -/
theorem c29 : XC Try.prog 29 [.ref cT] [] X fun p X' => ∃ t d, p = (some t : Option Nat) ∧ MRep X' t d ∧ Mv X [] X' (d.hs t) ∧ d.p = ⟨[], [], 0⟩ := by
  refine xcOf (X := X29) rfl FN29 (by kernel_rfl) (by decide) (E29 X fun X1 e1 X2 e2 X3 e3 => ?_)
  have n1 : X1.n = X.n + 1 := by rw [e1]; rfl
  have n2 : X2.n = X.n + 2 := by rw [e2]; show X1.n + 1 = _; omega
  refine ⟨X2.n, ⟨X.n, X1.n, ⟨[], [], 0⟩, fun _ => 0, fun _ => none⟩, rfl, ⟨?_, ?_, ?_, fun e he => (by cases he), List.nodup_nil, ?_, fun e he => (by cases he), fun e he => (by cases he), fun e he => (by cases he)⟩, ?_, rfl⟩
  · show X3.at X2.n = _
    rw [e3]; exact at_add_new _ _
  · show X3.at X.n = some (.map (.int .i64) (.ref cL) [])
    rw [e3, at_add_old (by omega), e2, at_add_old (by omega), e1]; exact at_add_new _ _
  · show X3.at X1.n = some (.map (.int .i64) cN [])
    rw [e3, at_add_old (by omega), e2]; exact at_add_new _ _
  · show X2.n ≠ X.n ∧ X2.n ≠ X1.n ∧ X.n ≠ X1.n
    omega
  · refine ⟨by rw [e3]; show X.n ≤ X2.n + 1; omega, fun k hk _ => ?_, fun k hk => .inr ?_⟩
    · rw [e3, at_add_old (by omega), e2, at_add_old (by omega), e1, at_add_old hk]
    · rcases mem_mhs.1 hk with h | h | h | ⟨e, he, _⟩
      · omega
      · rw [h]; exact Nat.le_refl _
      · simp only at h; omega
      · cases he

/-- what Enter comes to -/
def enterP (p : PD) (o th : Int) : (Bool × Int) × PD :=
  if o < 1 ∨ th < 1 then ((false, 1), p)
  else if (∃ v, mfind (eqN th) p.ws = some v ∧ 0 < v) then ((false, 25), p)
  else match mfind (eqN o) p.es with
    | none => ((true, 0), { p with es := updK (p.es ++ [(o, (0, 0, 0, []))]) o (th, 1, nextT p, []), turn := nextT p })
    | some l => if l.1 = th then ((true, 0), { p with es := updK p.es o (l.1, IntKind.wrap .i64 (l.2.1 + 1), l.2.2) })
      else ((false, 0), { p with es := updK p.es o (l.1, l.2.1, l.2.2.1, l.2.2.2 ++ [th]), ws := mset (eqN th) th o p.ws })

theorem min_lt {o th : Int} : decide ((if th < o then th else o) < (1 : Int)) = true ↔ (o < 1 ∨ th < 1) := by
  rw [decide_eq_true_eq]
  split <;> omega

/-- a monitor is made, and taken -/
theorem enter_new (h : MRep X t d) (ho : mfind (eqN o) d.p.es = none) (th : Int) {R : Bool × Int → XH → Prop}
    (hR : ∀ X', MGoes X t d X' { d.p with es := updK (d.p.es ++ [(o, (0, 0, 0, []))]) o (th, 1, nextT d.p, []), turn := nextT d.p } → R (true, 0) X') :
    ∃ a7 : Option Nat × Option Nat × Int, X.el cT t 0 = some a7 ∧ ∀ X8 : XH, X8 = X.add (.arr cL [((0 : Int), ((0 : Int), ((0 : Int), (none, ()))))]) → ∃ (h9 : Nat) (es10 : List (Int × Option Nat)), a7.1 = some h9 ∧ X8.mp (.int .i64) (.ref cL) h9 = some es10 ∧
      ∀ X11 : XH, X11 = X8.set h9 (.map (.int .i64) (.ref cL) (mset (Cd.keq (.int .i64) o) o (some X.n) es10)) → ∃ a12 : Option Nat × Option Nat × Int, X11.el cT t 0 = some a12 ∧ ∃ es13 : List (Int × Option Nat), X11.vmp (.int .i64) (.ref cL) a12.1 = some es13 ∧
        ((∀ v14 : Option Nat, mfind (Cd.keq (.int .i64) o) es13 = some v14 → XC Try.prog 61 [] [.ref (some t) cT 0 [], .ref v14 cL 0 [], .v (.int .i64 th)] X11 fun _ X16 => R (true, 0) X16) ∧
         (mfind (Cd.keq (.int .i64) o) es13 = none → XC Try.prog 61 [] [.ref (some t) cT 0 [], .ref none cL 0 [], .v (.int .i64 th)] X11 fun _ X18 => R (true, 0) X18)) := by
  refine ⟨_, h.box.el, fun X8 e8 => ⟨d.hH, d.hes, rfl, mp_at.2 (by rw [e8, at_add_old (at_lt h.mh)]; exact h.mh), fun X11 e11 => ?_⟩⟩
  obtain ⟨a, b⟩ := h.fresh ho (0, 0, 0, []) rfl
  rw [e8] at e11
  have e11 : X11 = (X.add (.arr cL [lvOf none (0, 0, 0, [])])).set d.hH (.map (.int .i64) (.ref cL) (mset (eqN o) o (some X.n) d.hes)) := e11
  rw [← e11] at a b
  obtain ⟨d2, hd2⟩ : ∃ d2 : MD, d2 = { d with p := { d.p with es := d.p.es ++ [(o, (0, 0, 0, []))] }, h := fun k => if k = o then X.n else d.h k, sl := fun k => if k = o then none else d.sl k } := ⟨_, rfl⟩
  rw [← hd2] at a b
  have ho2 : mfind (eqN o) d2.p.es = some (0, 0, 0, []) := mfind_of a.nd (by rw [hd2]; simp)
  have hf : mfind (eqN o) d2.hes = some (some (d2.h o)) := by rw [a.find, ho2]; rfl
  refine ⟨_, a.box.el, d2.hes, mp_at.2 a.mh, fun v hv => ?_, fun hv => ?_⟩
  · have hv : mfind (eqN o) d2.hes = some v := hv
    rw [hf] at hv
    have hv := Option.some.inj hv
    subst hv
    refine (c61 a ho2 th).mono ?_
    rintro _ X16 ⟨d3, r3, m3, hp3⟩
    refine hR X16 ⟨d3, r3, b.trans m3, ?_⟩
    rw [hp3, hd2]
    rfl
  · have hv : mfind (eqN o) d2.hes = none := hv
    rw [hf] at hv; cases hv

/-- Enter -/
theorem c31 (h : MRep X t d) (hb : short d.p) (o th : Int) : XC Try.prog 31 [.pure .bool, .pure (.int .i64)] [.ref (some t) cT 0 [], .v (.int .i64 o), .v (.int .i64 th)] X
    fun p X' => p = (enterP d.p o th).1 ∧ MGoes X t d X' (enterP d.p o th).2 := by
  refine xcOf (X := X31) rfl FN31 (by kernel_rfl) (by decide) (E31 X t o th ⟨fun e => ?_, fun e => ?_⟩)
  · have e := min_lt.1 e
    have hn : enterP d.p o th = ((false, 1), d.p) := by unfold enterP; rw [if_pos e]
    rw [hn]; exact ⟨rfl, .refl h⟩
  have e : ¬ (o < 1 ∨ th < 1) := fun q => by rw [min_lt.2 q] at e; cases e
  -- it does not wait
  have rest : ∀ (hw : ¬ ∃ v, mfind (eqN th) d.p.ws = some v ∧ 0 < v), ∃ a4 : Option Nat × Option Nat × Int, X.el cT t 0 = some a4 ∧ ∃ es5 : List (Int × Option Nat), X.vmp (.int .i64) (.ref cL) a4.1 = some es5 ∧ True := fun _ => ⟨_, h.box.el, d.hes, mp_at.2 h.mh, trivial⟩
  have hn0 : ∀ (hw : ¬ ∃ v, mfind (eqN th) d.p.ws = some v ∧ 0 < v), mfind (eqN o) d.p.es = none → enterP d.p o th = ((true, 0), { d.p with es := updK (d.p.es ++ [(o, (0, 0, 0, []))]) o (th, 1, nextT d.p, []), turn := nextT d.p }) := fun hw ho => by
    unfold enterP; rw [if_neg e, if_neg hw, ho]
  have hn1 : ∀ (hw : ¬ ∃ v, mfind (eqN th) d.p.ws = some v ∧ 0 < v) (l : PL), mfind (eqN o) d.p.es = some l → enterP d.p o th = if l.1 = th then ((true, 0), { d.p with es := updK d.p.es o (l.1, IntKind.wrap .i64 (l.2.1 + 1), l.2.2) })
      else ((false, 0), { d.p with es := updK d.p.es o (l.1, l.2.1, l.2.2.1, l.2.2.2 ++ [th]), ws := mset (eqN th) th o d.p.ws }) := fun hw l ho => by
    unfold enterP; rw [if_neg e, if_neg hw, ho]
  have made : ∀ (hw : ¬ ∃ v, mfind (eqN th) d.p.ws = some v ∧ 0 < v) (ho : mfind (eqN o) d.p.es = none), ∀ X', MGoes X t d X' { d.p with es := updK (d.p.es ++ [(o, (0, 0, 0, []))]) o (th, 1, nextT d.p, []), turn := nextT d.p } →
      ((true, (0 : Int)) = (enterP d.p o th).1 ∧ MGoes X t d X' (enterP d.p o th).2) := fun hw ho X' hg => by rw [hn0 hw ho]; exact ⟨rfl, hg⟩
  have again : ∀ (hw : ¬ ∃ v, mfind (eqN th) d.p.ws = some v ∧ 0 < v) (l : PL) (ho : mfind (eqN o) d.p.es = some l) (ht : l.1 = th), ∀ X25, X25 = X.setEl cL (d.h o) 0 (l.1, IntKind.wrap .i64 (l.2.1 + 1), (lvOf (d.sl o) l).2.2) →
      ((true, (0 : Int)) = (enterP d.p o th).1 ∧ MGoes X t d X25 (enterP d.p o th).2) := fun hw l ho ht X25 e25 => by
    rw [hn1 hw l ho, if_pos ht]
    refine ⟨rfl, ?_⟩
    have hbx := (h.lbox ho).1
    have e25 := e25.trans hbx.setEl
    have := h.lock0 ho (l.1, IntKind.wrap .i64 (l.2.1 + 1), l.2.2) rfl
    have e25 : X25 = X.set (d.h o) (.arr cL [lvOf (d.sl o) (l.1, IntKind.wrap .i64 (l.2.1 + 1), l.2.2)]) := e25
    rw [← e25] at this
    exact this
  have line : ∀ (hw : ¬ ∃ v, mfind (eqN th) d.p.ws = some v ∧ 0 < v) (l : PL) (ho : mfind (eqN o) d.p.es = some l) (ht : l.1 ≠ th), XC Try.prog 62 [] [.ref (some (d.h o)) cL 0 [.snd, .snd, .snd], .v (.int .i64 th)] X fun _ X28 =>
      ∃ a29 : Option Nat × Option Nat × Int, X28.el cT t 0 = some a29 ∧ ∃ (h30 : Nat) (es31 : List (Int × Int)), a29.2.1 = some h30 ∧ X28.mp (.int .i64) cN h30 = some es31 ∧ ∀ X32 : XH, X32 = X28.set h30 (.map (.int .i64) cN (mset (Cd.keq (.int .i64) th) th o es31)) →
        ((false, (0 : Int)) = (enterP d.p o th).1 ∧ MGoes X t d X32 (enterP d.p o th).2) := fun hw l ho ht => by
    rw [hn1 hw l ho, if_neg ht]
    refine (c62 h ho th (hb _ (mfind_mem ho))).mono ?_
    rintro _ X28 ⟨d2, r2, m2, hp2⟩
    refine ⟨_, r2.box.el, d2.hW, d2.p.ws, rfl, mp_at.2 r2.mw, fun X32 e32 => ⟨rfl, ?_⟩⟩
    obtain ⟨a, b⟩ := r2.waits (mset (eqN th) th o d2.p.ws)
    rw [← e32] at a b
    refine ⟨_, a, m2.trans b, ?_⟩
    dsimp only
    rw [hp2]
  have hbranch : ∀ (hw : ¬ ∃ v, mfind (eqN th) d.p.ws = some v ∧ 0 < v), mfind (eqN o) d.hes = (mfind (eqN o) d.p.es).map fun _ => some (d.h o) := fun _ => h.find o
  refine ⟨_, h.box.el, d.p.ws, mp_at.2 h.mw, fun v hv => ⟨fun e3 => ?_, fun e3 => ?_⟩, fun hv => ⟨fun e3 => absurd e3 (by decide), fun _ => ?_⟩⟩
  · have hv : mfind (eqN th) d.p.ws = some v := hv
    have e3 := of_decide_eq_true e3
    have hn : enterP d.p o th = ((false, 25), d.p) := by unfold enterP; rw [if_neg e, if_pos ⟨v, hv, e3⟩]
    rw [hn]; exact ⟨rfl, .refl h⟩
  · have hv : mfind (eqN th) d.p.ws = some v := hv
    have e3 := of_decide_eq_false e3
    have hw : ¬ ∃ v, mfind (eqN th) d.p.ws = some v ∧ 0 < v := by
      rintro ⟨u, hu, hu0⟩
      rw [hv] at hu; cases hu
      exact e3 hu0
    refine ⟨_, h.box.el, d.hes, mp_at.2 h.mh, fun u hu => ?_, fun hu => ?_⟩
    · have hu : mfind (eqN o) d.hes = some u := hu
      rw [h.find] at hu
      cases ho : mfind (eqN o) d.p.es with
      | none => rw [ho] at hu; cases hu
      | some l =>
        rw [ho] at hu
        have hu : some (d.h o) = u := Option.some.inj hu
        subst hu
        have hbx := (h.lbox ho).1
        refine ⟨fun e => (by cases e), fun _ => refK_iff.2 ⟨_, rfl, _, hbx.el, fun e4 => refK_iff.2 ⟨_, rfl, _, hbx.el, refK_iff.2 ⟨_, rfl, _, hbx.el, fun X25 e25 => again hw l ho (by simpa [lvOf] using e4) X25 e25⟩⟩, fun e4 => refK_iff.2 ⟨_, rfl, line hw l ho (by simpa [lvOf] using e4)⟩⟩⟩
    · have hu : mfind (eqN o) d.hes = none := hu
      rw [h.find] at hu
      have ho : mfind (eqN o) d.p.es = none := by simpa using hu
      exact ⟨fun _ => enter_new h ho th (R := fun p X' => p = (enterP d.p o th).1 ∧ MGoes X t d X' (enterP d.p o th).2) (made hw ho), fun e => (by cases e)⟩
  · have hv : mfind (eqN th) d.p.ws = none := hv
    have hw : ¬ ∃ v, mfind (eqN th) d.p.ws = some v ∧ 0 < v := by
      rintro ⟨u, hu, hu0⟩
      rw [hv] at hu; cases hu
    refine ⟨_, h.box.el, d.hes, mp_at.2 h.mh, fun u hu => ?_, fun hu => ?_⟩
    · have hu : mfind (eqN o) d.hes = some u := hu
      rw [h.find] at hu
      cases ho : mfind (eqN o) d.p.es with
      | none => rw [ho] at hu; cases hu
      | some l =>
        rw [ho] at hu
        have hu : some (d.h o) = u := Option.some.inj hu
        subst hu
        have hbx := (h.lbox ho).1
        refine ⟨fun e => (by cases e), fun _ => refK_iff.2 ⟨_, rfl, _, hbx.el, fun e4 => refK_iff.2 ⟨_, rfl, _, hbx.el, refK_iff.2 ⟨_, rfl, _, hbx.el, fun X25 e25 => again hw l ho (by simpa [lvOf] using e4) X25 e25⟩⟩, fun e4 => refK_iff.2 ⟨_, rfl, line hw l ho (by simpa [lvOf] using e4)⟩⟩⟩
    · have hu : mfind (eqN o) d.hes = none := hu
      rw [h.find] at hu
      have ho : mfind (eqN o) d.p.es = none := by simpa using hu
      exact ⟨fun _ => enter_new h ho th (R := fun p X' => p = (enterP d.p o th).1 ∧ MGoes X t d X' (enterP d.p o th).2) (made hw ho), fun e => (by cases e)⟩

/-- what Exit comes to -/
def exitP (p : PD) (o th : Int) : (Int × Int) × PD :=
  if o < 1 ∨ th < 1 then ((0, 1), p)
  else match mfind (eqN o) p.es with
    | none => ((0, 25), p)
    | some l => if l.1 ≠ th then ((0, 25), p)
      else if IntKind.wrap .i64 (l.2.1 - 1) > 0 then ((0, 0), { p with es := updK p.es o (l.1, IntKind.wrap .i64 (l.2.1 - 1), l.2.2) })
      else (((nextP { p with es := updK p.es o (l.1, IntKind.wrap .i64 (l.2.1 - 1), l.2.2) } o).1, 0), (nextP { p with es := updK p.es o (l.1, IntKind.wrap .i64 (l.2.1 - 1), l.2.2) } o).2)

/-- Exit -/
theorem c33 (h : MRep X t d) (hb : short d.p) (o th : Int) : XC Try.prog 33 [.pure (.int .i64), .pure (.int .i64)] [.ref (some t) cT 0 [], .v (.int .i64 o), .v (.int .i64 th)] X
    fun p X' => p = (exitP d.p o th).1 ∧ MGoes X t d X' (exitP d.p o th).2 := by
  refine xcOf (X := X33) rfl FN33 (by kernel_rfl) (by decide) (E33 X t o th ⟨fun e => ?_, fun e => ?_⟩)
  · have e := min_lt.1 e
    have hn : exitP d.p o th = ((0, 1), d.p) := by unfold exitP; rw [if_pos e]
    rw [hn]; exact ⟨rfl, .refl h⟩
  have e : ¬ (o < 1 ∨ th < 1) := fun q => by rw [min_lt.2 q] at e; cases e
  refine ⟨_, h.box.el, d.hes, mp_at.2 h.mh, fun u hu => ?_, fun hu => ?_⟩
  · have hu : mfind (eqN o) d.hes = some u := hu
    rw [h.find] at hu
    cases ho : mfind (eqN o) d.p.es with
    | none => rw [ho] at hu; cases hu
    | some l =>
      rw [ho] at hu
      have hu : some (d.h o) = u := Option.some.inj hu
      subst hu
      have hbx := (h.lbox ho).1
      refine ⟨fun e => (by cases e), fun _ => refK_iff.2 ⟨_, rfl, _, hbx.el, fun e4 => ?_, fun e4 => refK_iff.2 ⟨_, rfl, _, hbx.el, refK_iff.2 ⟨_, rfl, _, hbx.el, fun X10 e10 => ?_⟩⟩⟩⟩
      · have e4 : l.1 ≠ th := by simpa [lvOf] using e4
        have hn : exitP d.p o th = ((0, 25), d.p) := by unfold exitP; rw [if_neg e, ho]; dsimp only; rw [if_pos e4]
        rw [hn]; exact ⟨rfl, .refl h⟩
      · have e4 : l.1 = th := by simpa [lvOf] using e4
        have e10 := e10.trans hbx.setEl
        obtain ⟨d2, r2, m2, hp2⟩ := h.lock0 ho (l.1, IntKind.wrap .i64 (l.2.1 - 1), l.2.2) rfl
        have e10 : X10 = X.set (d.h o) (.arr cL [lvOf (d.sl o) (l.1, IntKind.wrap .i64 (l.2.1 - 1), l.2.2)]) := e10
        rw [← e10] at r2 m2
        have hb10 : Box X10 cL (d.h o) (lvOf (d.sl o) (l.1, IntKind.wrap .i64 (l.2.1 - 1), l.2.2)) := by rw [e10]; exact hbx.set
        have ho2 : mfind (eqN o) d2.p.es = some (l.1, IntKind.wrap .i64 (l.2.1 - 1), l.2.2) := by rw [hp2]; dsimp only; rw [updK_find ho, if_pos rfl]
        refine refK_iff.2 ⟨_, rfl, _, hb10.el, fun e5 => ?_, fun e5 => ?_⟩
        · have e5 := of_decide_eq_true e5
          have e5 : IntKind.wrap .i64 (l.2.1 - 1) > 0 := e5
          have hn : exitP d.p o th = ((0, 0), { d.p with es := updK d.p.es o (l.1, IntKind.wrap .i64 (l.2.1 - 1), l.2.2) }) := by unfold exitP; rw [if_neg e, ho]; dsimp only; rw [if_neg (fun q => q e4), if_pos e5]
          rw [hn]; exact ⟨rfl, d2, r2, m2, hp2⟩
        · have e5 := of_decide_eq_false e5
          have e5 : ¬ IntKind.wrap .i64 (l.2.1 - 1) > 0 := e5
          have hn : exitP d.p o th = (((nextP d2.p o).1, 0), (nextP d2.p o).2) := by unfold exitP; rw [if_neg e, ho]; dsimp only; rw [if_neg (fun q => q e4), if_neg e5, hp2]
          rw [hn]
          refine (c65 r2 ho2 (hb _ (mfind_mem ho))).mono ?_
          rintro v X14 ⟨rfl, d3, r3, m3, hp3⟩
          exact ⟨rfl, d3, r3, m2.trans m3, hp3⟩
  · have hu : mfind (eqN o) d.hes = none := hu
    rw [h.find] at hu
    have ho : mfind (eqN o) d.p.es = none := by simpa using hu
    have hn : exitP d.p o th = ((0, 25), d.p) := by unfold exitP; rw [if_neg e, ho]
    rw [hn]
    exact ⟨fun _ => ⟨rfl, .refl h⟩, fun e => (by cases e)⟩

/-- what Owner and Waits say -/
def ownerP (p : PD) (o : Int) : Int × Int :=
  match mfind (eqN o) p.es with
  | none => (0, 0)
  | some l => (l.1, l.2.1)

def waitsP (p : PD) (o : Int) : List Int :=
  match mfind (eqN o) p.es with
  | none => []
  | some l => l.2.2.2

/-- Owner -/
theorem c38 (h : MRep X t d) (o : Int) : RC Try.prog 38 [.pure (.int .i64), .pure (.int .i64)] [.ref (some t) cT 0 [], .v (.int .i64 o)] X (ownerP d.p o) := by
  refine xcOf (X := X38) rfl FN38 (by kernel_rfl) (by decide) (E38 X t o ⟨_, h.box.el, d.hes, mp_at.2 h.mh, fun u hu => ?_, fun hu => ?_⟩)
  · have hu : mfind (eqN o) d.hes = some u := hu
    rw [h.find] at hu
    cases ho : mfind (eqN o) d.p.es with
    | none => rw [ho] at hu; cases hu
    | some l =>
      rw [ho] at hu
      have hu : some (d.h o) = u := Option.some.inj hu
      subst hu
      have hbx := (h.lbox ho).1
      have hn : ownerP d.p o = (l.1, l.2.1) := by unfold ownerP; rw [ho]
      rw [hn]
      exact ⟨fun _ => refK_iff.2 ⟨_, rfl, _, hbx.el, refK_iff.2 ⟨_, rfl, _, hbx.el, rfl, rfl⟩⟩, fun e => (by cases e)⟩
  · have hu : mfind (eqN o) d.hes = none := hu
    rw [h.find] at hu
    have ho : mfind (eqN o) d.p.es = none := by simpa using hu
    have hn : ownerP d.p o = (0, 0) := by unfold ownerP; rw [ho]
    rw [hn]
    exact ⟨fun e => (by cases e), fun _ => ⟨rfl, rfl⟩⟩

/-- Waits -/
theorem c40 (h : MRep X t d) (hb : short d.p) (o : Int) : RC Try.prog 40 [.pure (.slice (.int .i64))] [.ref (some t) cT 0 [], .v (.int .i64 o)] X (waitsP d.p o) := by
  refine xcOf (X := X40) rfl FN40 (by kernel_rfl) (by decide) (E40 X t o ⟨_, h.box.el, d.hes, mp_at.2 h.mh, fun u hu => ?_, fun hu => ?_⟩)
  · have hu : mfind (eqN o) d.hes = some u := hu
    rw [h.find] at hu
    cases ho : mfind (eqN o) d.p.es with
    | none => rw [ho] at hu; cases hu
    | some l =>
      rw [ho] at hu
      have hu : some (d.h o) = u := Option.some.inj hu
      subst hu
      obtain ⟨hbx, hs⟩ := h.lbox ho
      have hn : waitsP d.p o = l.2.2.2 := by unfold waitsP; rw [ho]
      rw [hn]
      exact ⟨fun _ => refK_iff.2 ⟨_, rfl, _, hbx.el, _, c73 hs (hb _ (mfind_mem ho)), rfl, rfl⟩, fun e => (by cases e)⟩
  · have hu : mfind (eqN o) d.hes = none := hu
    rw [h.find] at hu
    have ho : mfind (eqN o) d.p.es = none := by simpa using hu
    have hn : waitsP d.p o = [] := by unfold waitsP; rw [ho]
    rw [hn]
    exact ⟨fun e => (by cases e), fun _ => ⟨rfl, rfl⟩⟩

end Go.Proofs.Ytefpoodhdfggdaa.AB

set_option linter.unusedVariables false
set_option linter.unusedSimpArgs false
set_option maxRecDepth 100000
set_option maxHeartbeats 2000000
namespace Go.Proofs.Ytefpoodhdfggdaa.AB
open Go
/-! (*crucible/monitor.queue[int]).drop -/
noncomputable def X67 : Cx := ⟨tt, [], [(68, [(.sl (.pure (.int .i64)))])], [(67, [(0, 0, .x (.pure (.int .i64))), (1, 6, .xc)])], [], []⟩
theorem FN67 : fnsB Try.prog X67.fns := (show True from trivial)
theorem E67 (X : XH) (q0 : Nat) (x1 : Int) {R : Unit → XH → Prop} (h : (∀ (X1 : XH), X1 = (XH.add X (.arr (.pure (.int .i64)) [x1])) → (∃ (a2 : (Int × (Int × (Int × ((Option SlH) × Unit))))), XH.el X1 cmonitor_lock q0 0 = some a2 ∧ (XC Try.prog 68 [(.sl (.pure (.int .i64)))] [(.sl (.pure (.int .i64)) a2.2.2.2.1), (.clo 86 [(.ref (some X.n) (.pure (.int .i64)) 0 [])])] X1 (fun (p3 : (Option SlH)) (X4 : XH) => (∃ (a5 : (Int × (Int × (Int × ((Option SlH) × Unit))))), XH.el X4 cmonitor_lock q0 0 = some a5 ∧ (∀ (X6 : XH), X6 = (XH.setEl X4 cmonitor_lock q0 0 ((a5.1, (a5.2.1, (a5.2.2.1, (p3, a5.2.2.2.2)))))) → R () X6))))))) :
  fnK X67.tt (callN Try.prog X67 0) (X67.md 67) (X67.mk1 67) Try.f67 [(.ref (some q0) cmonitor_lock 0 [.snd, .snd, .snd]), (.v (.int .i64 x1))] ⟨[], [some (.heap X)], ⟨0, []⟩⟩ (xfin [] R) := Eq.mp (by kernel_rfl) h
end Go.Proofs.Ytefpoodhdfggdaa.AB

set_option linter.unusedVariables false
set_option linter.unusedSimpArgs false
set_option maxRecDepth 100000
set_option maxHeartbeats 2000000
namespace Go.Proofs.Ytefpoodhdfggdaa.AB
open Go
/-! slices.DeleteFunc[[]int,int] -/
noncomputable def X68 : Cx := ⟨tt, [], [(86, [(.pure .bool)]), (87, [(.pure (.int .i64))])], [(68, [(0, 0, .x (.sl (.pure (.int .i64)))), (1, 2, .rd), (8, 2, .rd)])], [(68, [(0, mkM 42 0 [0, 1, 5, 6], 0)])], []⟩
theorem FN68 : fnsB Try.prog X68.fns := (show True from trivial)
def M68_0 : List Bool × Nat := (mkM 42 0 [0, 1, 5, 6], 1)
def S68_0 (s0 : Option SlH) (del1_0 : Nat) (i5 : Int) (j6 : Int) (hq0 : XH) (T : Toks) : St :=
  mkS 42 [(0, (.sl (.pure (.int .i64)) s0)), (1, (.clo 86 [(.ref (some del1_0) (.pure (.int .i64)) 0 [])])), (5, (.v (.int .i64 i5))), (6, (.v (.int .i64 j6)))] [(some (.heap hq0))] T
noncomputable def B68_0 : (Exit → St → Prop) → St → Prop := (awp X68.tt (callN Try.prog X68 0) (X68.md 68) 1 (X68.mk1 68) 0 (codeAt [1, 1, 1, 0, 1, 0, 0] (bd Try.f68)))
noncomputable def K68_0 (R : ((Option SlH)) → XH → Prop) : Exit → St → Prop := seqK ((awp X68.tt (callN Try.prog X68 0) (X68.md 68) 1 (X68.mk1 68) 0 (codeAt [1, 1, 1, 1] (bd Try.f68))) (retK tt Try.f68.results.toList fun x s' => xfin [(.sl (.pure (.int .i64)))] R x ⟨[], s'.hp, s'.T⟩)) (retK tt Try.f68.results.toList fun x s' => xfin [(.sl (.pure (.int .i64)))] R x ⟨[], s'.hp, s'.T⟩)
noncomputable def Q68_0 (R : ((Option SlH)) → XH → Prop) : Exit → St → Prop := (blockK 0 (K68_0 R))
theorem E68 (X : XH) (s0 : (Option SlH)) (del1c0 : Nat) {R : ((Option SlH)) → XH → Prop} (h : (∃ (p1 : Int), RC Try.prog 87 [(.pure (.int .i64))] [(.sl (.pure (.int .i64)) s0), (.clo 86 [(.ref (some del1c0) (.pure (.int .i64)) 0 [])])] X p1 ∧ (((p1 == (-1 : Int)) = true → R s0 X) ∧
 ((p1 == (-1 : Int)) = false → (Loops B68_0 M68_0 (Q68_0 R)
  (S68_0 s0 del1c0 p1 ((IntKind.wrap .i64 (p1 + (1 : Int)))) X ⟨0, []⟩)))))) :
  fnK X68.tt (callN Try.prog X68 0) (X68.md 68) (X68.mk1 68) Try.f68 [(.sl (.pure (.int .i64)) s0), (.clo 86 [(.ref (some del1c0) (.pure (.int .i64)) 0 [])])] ⟨[], [some (.heap X)], ⟨0, []⟩⟩ (xfin [(.sl (.pure (.int .i64)))] R) := Eq.mp (by kernel_rfl) h
theorem L68_0 (s0 : Option SlH) (del1_0 : Nat) (i5 : Int) (j6 : Int) (hq0 : XH) (T : Toks) {R : ((Option SlH)) → XH → Prop} {k0 : St → Prop}
 (h : (((decide (j6 < (((slN s0) : Nat) : Int))) = true → (∃ (u2 : SlH), s0 = some u2 ∧ 0 ≤ j6 ∧ j6 < ((u2.len : Nat) : Int) ∧ (∃ (a3 : Int), XH.el hq0 (.pure (.int .i64)) u2.h ((u2.off + (j6).toNat)) = some a3 ∧ (∃ (p4 : Bool), RC Try.prog 86 [(.pure .bool)] [(.v (.int .i64 a3)), (.ref (some del1_0) (.pure (.int .i64)) 0 [])] hq0 p4 ∧ (((!p4) = true → (∃ (u5 : SlH), s0 = some u5 ∧ 0 ≤ i5 ∧ i5 < ((u5.len : Nat) : Int) ∧ (∃ (a6 : Int), XH.el hq0 (.pure (.int .i64)) u5.h ((u5.off + (i5).toNat)) = some a6 ∧ (∀ (X7 : XH), X7 = (XH.setEl hq0 (.pure (.int .i64)) u5.h ((u5.off + (i5).toNat)) a3) → k0 (S68_0 s0 del1_0 ((IntKind.wrap .i64 (i5 + (1 : Int)))) ((IntKind.wrap .i64 (j6 + (1 : Int)))) X7 T))))) ∧
 ((!p4) = false → k0 (S68_0 s0 del1_0 i5 ((IntKind.wrap .i64 (j6 + (1 : Int)))) hq0 T))))))) ∧
 ((decide (j6 < (((slN s0) : Nat) : Int))) = false → (0 ≤ i5 ∧ i5 ≤ (((slN s0) : Nat) : Int) ∧ (∃ (d8 : List Int), XH.view hq0 (.pure (.int .i64)) (slCut s0 ((i5).toNat) (slN s0) (slC s0)) = some d8 ∧ (∀ (X9 : XH), X9 = (XH.over hq0 (.pure (.int .i64)) (slCut s0 ((i5).toNat) (slN s0) (slC s0)) 0 (List.replicate (slN ((slCut s0 ((i5).toNat) (slN s0) (slC s0)))) (0 : Int))) → (0 ≤ i5 ∧ i5 ≤ (((slC s0) : Nat) : Int) ∧ R ((slCut s0 0 ((i5).toNat) (slC s0))) X9))))))) :
  B68_0 (loopQ M68_0 k0 (Q68_0 R)) (S68_0 s0 del1_0 i5 j6 hq0 T) := Eq.mp (by kernel_rfl) h
end Go.Proofs.Ytefpoodhdfggdaa.AB

set_option linter.unusedVariables false
set_option linter.unusedSimpArgs false
set_option maxRecDepth 100000
set_option maxHeartbeats 2000000
namespace Go.Proofs.Ytefpoodhdfggdaa.AB
open Go
/-! (*crucible/monitor.queue[int]).drop$1 -/
noncomputable def X86 : Cx := ⟨tt, [], [], [], [], []⟩
theorem FN86 : fnsB Try.prog X86.fns := (show True from trivial)
theorem E86 (X : XH) (y0 : Int) (fv0 : Nat) {R : (Bool) → XH → Prop} (h : (∃ (a1 : Int), XH.el X (.pure (.int .i64)) fv0 0 = some a1 ∧ R (y0 == a1) X)) :
  fnK X86.tt (callN Try.prog X86 0) (X86.md 86) (X86.mk1 86) Try.f86 [(.v (.int .i64 y0)), (.ref (some fv0) (.pure (.int .i64)) 0 [])] ⟨[], [some (.heap X)], ⟨0, []⟩⟩ (xfin [(.pure .bool)] R) := Eq.mp (by kernel_rfl) h
end Go.Proofs.Ytefpoodhdfggdaa.AB

set_option linter.unusedVariables false
set_option linter.unusedSimpArgs false
set_option maxRecDepth 100000
set_option maxHeartbeats 2000000
namespace Go.Proofs.Ytefpoodhdfggdaa.AB
open Go
/-! slices.IndexFunc[[]int,int] -/
noncomputable def X87 : Cx := ⟨tt, [], [(86, [(.pure .bool)])], [(87, [(4, 5, .rd)])], [(87, [(0, mkM 19 0 [0, 1, 7, 8], 0)])], []⟩
theorem FN87 : fnsB Try.prog X87.fns := (show True from trivial)
def M87_0 : List Bool × Nat := (mkM 19 0 [0, 1, 7, 8], 1)
def S87_0 (s0 : Option SlH) (f1_0 : Nat) (t7 : Int) (t8 : Int) (hq0 : XH) (T : Toks) : St :=
  mkS 19 [(0, (.sl (.pure (.int .i64)) s0)), (1, (.clo 86 [(.ref (some f1_0) (.pure (.int .i64)) 0 [])])), (7, (.v (.int .i64 t7))), (8, (.v (.int .i64 t8)))] [(some (.heap hq0))] T
noncomputable def B87_0 : (Exit → St → Prop) → St → Prop := (awp X87.tt (callN Try.prog X87 0) (X87.md 87) 1 (X87.mk1 87) 0 (codeAt [1, 0, 1, 0, 0] (bd Try.f87)))
noncomputable def K87_0 (R : (Int) → XH → Prop) : Exit → St → Prop := seqK ((awp X87.tt (callN Try.prog X87 0) (X87.md 87) 1 (X87.mk1 87) 0 (codeAt [1, 1] (bd Try.f87))) (retK tt Try.f87.results.toList fun x s' => xfin [(.pure (.int .i64))] R x ⟨[], s'.hp, s'.T⟩)) (retK tt Try.f87.results.toList fun x s' => xfin [(.pure (.int .i64))] R x ⟨[], s'.hp, s'.T⟩)
noncomputable def Q87_0 (R : (Int) → XH → Prop) : Exit → St → Prop := (blockK 0 (K87_0 R))
theorem E87 (X : XH) (s0 : (Option SlH)) (f1c0 : Nat) {R : (Int) → XH → Prop} (h : (Loops B87_0 M87_0 (Q87_0 R)
  (S87_0 s0 f1c0 ((((slN s0) : Nat) : Int)) (0 : Int) X ⟨0, []⟩))) :
  fnK X87.tt (callN Try.prog X87 0) (X87.md 87) (X87.mk1 87) Try.f87 [(.sl (.pure (.int .i64)) s0), (.clo 86 [(.ref (some f1c0) (.pure (.int .i64)) 0 [])])] ⟨[], [some (.heap X)], ⟨0, []⟩⟩ (xfin [(.pure (.int .i64))] R) := Eq.mp (by kernel_rfl) h
theorem L87_0 (s0 : Option SlH) (f1_0 : Nat) (t7 : Int) (t8 : Int) (hq0 : XH) (T : Toks) {R : (Int) → XH → Prop} {k0 : St → Prop}
 (h : (((decide (t8 < t7)) = true → (∃ (u1 : SlH), s0 = some u1 ∧ 0 ≤ t8 ∧ t8 < ((u1.len : Nat) : Int) ∧ (∃ (a2 : Int), XH.el hq0 (.pure (.int .i64)) u1.h ((u1.off + (t8).toNat)) = some a2 ∧ (∃ (p3 : Bool), RC Try.prog 86 [(.pure .bool)] [(.v (.int .i64 a2)), (.ref (some f1_0) (.pure (.int .i64)) 0 [])] hq0 p3 ∧ ((p3 = true → R t8 hq0) ∧
 (p3 = false → k0 (S87_0 s0 f1_0 t7 ((IntKind.wrap .i64 (t8 + (1 : Int)))) hq0 T))))))) ∧
 ((decide (t8 < t7)) = false → R (-1 : Int) hq0))) :
  B87_0 (loopQ M87_0 k0 (Q87_0 R)) (S87_0 s0 f1_0 t7 t8 hq0 T) := Eq.mp (by kernel_rfl) h
end Go.Proofs.Ytefpoodhdfggdaa.AB

set_option linter.unusedVariables false
set_option linter.unusedSimpArgs false
namespace Go.Proofs.Ytefpoodhdfggdaa.AB
open Go

variable {X X' : XH} {t : Nat} {d : MD} {o : Int} {l : PL}

/-- drop's closure -/
theorem c86 {b : Nat} {x : Int} (hb : Box X cN b x) (y : Int) : RC Try.prog 86 [.pure .bool] [.v (.int .i64 y), .ref (some b) cN 0 []] X (y == x) :=
  xcOf (X := X86) rfl FN86 (by kernel_rfl) (by decide) (E86 X y b ⟨_, hb.el, rfl, rfl⟩)

def idxV (x : Int) (w : List Int) : Int :=
  match w.findIdx? (· == x) with
  | some i => (i : Int)
  | none => -1

/-- IndexFunc, on a slice of the heap -/
theorem c87 {s : Option SlH} {w : List Int} (hs : SlAt X cN s w) {b : Nat} {x : Int} (hb : Box X cN b x) (hl : w.length ≤ 1000000) :
    RC Try.prog 87 [.pure (.int .i64)] [.sl cN s, .clo 86 [.ref (some b) cN 0 []]] X (idxV x w) := by
  have hlen := hs.len
  refine xcOf (X := X87) rfl FN87 (by kernel_rfl) (by decide) (E87 X s b ?_)
  rw [hlen]
  refine Loops.intro (fun i : Nat => S87_0 s b ((w.length : Nat) : Int) (i : Int) X ⟨0, []⟩) (fun i => i ≤ w.length ∧ ∀ j, (hj : j < w.length) → j < i → w[j] ≠ x) (fun i => w.length - i) 0 rfl ⟨Nat.zero_le _, fun j _ h => absurd h (Nat.not_lt_zero _)⟩ ?_
  rintro i ⟨hi, hno⟩
  refine L87_0 s b ((w.length : Nat) : Int) i X ⟨0, []⟩ ⟨fun e => ?_, fun e => ?_⟩
  · have e := of_decide_eq_true e
    have hi' : i < w.length := by omega
    obtain ⟨u, rfl⟩ : ∃ u, s = some u := by
      cases s with
      | none => have : w = [] := hs; subst this; simp at hi'
      | some u => exact ⟨u, rfl⟩
    have hlen : u.len = w.length := hlen
    have hel := hs.el hi'
    refine ⟨u, rfl, by omega, by omega, w[i], by rw [Int.toNat_natCast]; exact hel, _, c86 hb _, fun e2 => ?_, fun e2 => ?_⟩
    · have e2 : w[i] = x := by simpa using e2
      have hv : idxV x w = (i : Int) := by
        unfold idxV
        rw [(List.findIdx?_eq_some_iff_getElem).2 ⟨hi', by simpa using e2, fun j hj => by have := hno j (by omega) hj; simpa using this⟩]
      exact ⟨hv.symm, rfl⟩
    · have e2 : w[i] ≠ x := by simpa using e2
      rw [wrap64 (by omega) (by omega)]
      refine Again.mk (i + 1) rfl ⟨by omega, fun j hj hji => ?_⟩ (by omega)
      by_cases h : j = i
      · subst h; exact e2
      · exact hno j hj (by omega)
  · have e := of_decide_eq_false e
    have : i = w.length := by omega
    have hv : idxV x w = -1 := by
      unfold idxV
      rw [List.findIdx?_eq_none_iff.2 fun y hy => by
        obtain ⟨j, hj, rfl⟩ := List.getElem_of_mem hy
        have := hno j hj (by omega)
        simpa using this]
    exact ⟨hv.symm, rfl⟩

theorem over_cutS (X : XH) (c : Xd) (s : SlH) (a b m : Nat) (l' : List c.T) : X.over c (slCut (some s) a b m) 0 l' = X.over c (some s) a l' := by
  simp only [slCut, XH.over, Nat.add_zero]

/-- one place is written -/
theorem SlAt.setAt {c : Xd} {s : SlH} {v : List c.T} (h : SlAt X c (some s) v) {k : Nat} (hk : k < v.length) (a : c.T) :
    SlAt (X.setEl c s.h (s.off + k) a) c (some s) (v.set k a) ∧ Mv X (hl (some s)) (X.setEl c s.h (s.off + k) a) (hl (some s)) := by
  have hvl : s.len = v.length := h.len
  obtain ⟨r, ha, hb, hc, hl'⟩ := h
  have e : X.setEl c s.h (s.off + k) a = X.set s.h (.arr c (r.set (s.off + k) a)) := by
    unfold XH.setEl; rw [arr_at.2 ha]
  rw [e]
  refine ⟨⟨_, at_set_self ha, by rw [List.length_set]; exact hb, hc, ?_⟩, Mv.set (by simp [hl])⟩
  refine List.ext_getElem? fun i => ?_
  rw [List.getElem?_set, List.getElem?_take, List.getElem?_drop, List.getElem?_set]
  by_cases e1 : k = i
  · subst e1
    rw [if_pos rfl, if_pos hk, if_pos (by omega), if_pos rfl, if_pos (by omega)]
  · rw [if_neg e1, if_neg (show ¬ s.off + k = s.off + i by omega)]
    have : v[i]? = if i < s.len then r[s.off + i]? else none := by rw [hl', List.getElem?_take, List.getElem?_drop]
    rw [this]

/-- DeleteFunc: who is x goes -/
theorem c68 {s : Option SlH} {w : List Int} (hs : SlAt X cN s w) {b : Nat} {x : Int} (hb : Box X cN b x) (hne : b ∉ hl s) (hl0 : w.length ≤ 1000000) :
    XC Try.prog 68 [.sl cN] [.sl cN s, .clo 86 [.ref (some b) cN 0 []]] X fun p X' => SlAt X' cN p (w.filter fun y => !(y == x)) ∧ Mv X (hl s) X' (hl p) := by
  have hlen := hs.len
  refine xcOf (X := X68) rfl FN68 (by kernel_rfl) (by decide) (E68 X s b ⟨_, c87 hs hb hl0, fun e => ?_, fun e => ?_⟩)
  · have e : idxV x w = -1 := by simpa using e
    have hn : w.findIdx? (· == x) = none := by
      unfold idxV at e
      cases hc : w.findIdx? (· == x) with
      | none => rfl
      | some i => rw [hc] at e; simp only at e; omega
    have hf : (w.filter fun y => !(y == x)) = w := List.filter_eq_self.2 fun y hy => by
      have := List.findIdx?_eq_none_iff.1 hn y hy
      rw [this]; rfl
    rw [hf]
    exact ⟨hs, .refl _ _⟩
  · have e : idxV x w ≠ -1 := by simpa using e
    obtain ⟨i, hi⟩ : ∃ i, w.findIdx? (· == x) = some i := by
      unfold idxV at e
      cases hc : w.findIdx? (· == x) with
      | none => rw [hc] at e; exact absurd rfl e
      | some i => exact ⟨i, rfl⟩
    have hv : idxV x w = (i : Int) := by unfold idxV; rw [hi]
    obtain ⟨hi', hx, hno⟩ := (List.findIdx?_eq_some_iff_getElem).1 hi
    obtain ⟨u, rfl⟩ : ∃ u, s = some u := by
      cases s with
      | none => have : w = [] := hs; subst this; simp at hi'
      | some u => exact ⟨u, rfl⟩
    have hlen : u.len = w.length := hlen
    have hle : u.len ≤ u.cap := hs.le
    rw [hv, wrap64 (by omega) (by omega)]
    have hf0 : w.take i = (w.take (i + 1)).filter fun y => !(y == x) := by
      rw [List.take_succ_eq_append_getElem hi', List.filter_append]
      have h1 : ((w.take i).filter fun y => !(y == x)) = w.take i := List.filter_eq_self.2 fun y hy => by
        obtain ⟨j, hj, rfl⟩ := List.getElem_of_mem hy
        rw [List.length_take] at hj
        have := hno j (by omega)
        rw [List.getElem_take]
        simpa using this
      rw [h1]
      have h2 : ([w[i]].filter fun y => !(y == x)) = [] := by simp at hx; simp [hx]
      rw [h2, List.append_nil]
    refine Loops.intro (fun q : Nat × Nat × XH => S68_0 (some u) b (q.1 : Int) (q.2.1 : Int) q.2.2 ⟨0, []⟩)
      (fun q => q.1 < q.2.1 ∧ q.2.1 ≤ w.length ∧ ∃ v, SlAt q.2.2 cN (some u) v ∧ Mv X (hl (some u)) q.2.2 (hl (some u)) ∧ v.length = w.length ∧ v.take q.1 = (w.take q.2.1).filter (fun y => !(y == x)) ∧ v.drop q.2.1 = w.drop q.2.1) (fun q => w.length - q.2.1) (i, i + 1, X) rfl
      ⟨Nat.lt_succ_self _, hi', w, hs, .refl _ _, rfl, hf0, rfl⟩ ?_
    rintro ⟨k, j, Y⟩ ⟨hkj0, hj0, v, hsv, mv, hvl, htake, hdrop⟩
    have hkj : k < j := hkj0
    have hj : j ≤ w.length := hj0
    have hsv : SlAt Y cN (some u) v := hsv
    have htake : v.take k = (w.take j).filter (fun y => !(y == x)) := htake
    have hdrop : v.drop j = w.drop j := hdrop
    have hbY : Box Y cN b x := hb.keep (mv.keep b hb.lt hne)
    refine L68_0 (some u) b k j Y ⟨0, []⟩ ⟨fun e => ?_, fun e => ?_⟩
    · have e := of_decide_eq_true e
      have e : (j : Int) < ((u.len : Nat) : Int) := e
      have hj' : j < w.length := by omega
      have hjv : j < v.length := by omega
      have hvj : v[j] = w[j] := by
        have := congrArg (fun l => l[0]?) hdrop
        simp only [List.getElem?_drop, Nat.add_zero, List.getElem?_eq_getElem hjv, List.getElem?_eq_getElem hj', Option.some.injEq] at this
        exact this
      have hel := hsv.el hjv
      rw [hvj] at hel
      have hdrop' : v.drop (j + 1) = w.drop (j + 1) := by
        rw [← List.drop_drop, ← List.drop_drop (i := 1) (j := j) (l := w), hdrop]
      have hftake : (w.take (j + 1)).filter (fun y => !(y == x)) = v.take k ++ (if w[j] = x then [] else [w[j]]) := by
        rw [List.take_succ_eq_append_getElem hj', List.filter_append, htake]
        congr 1
        by_cases h : w[j] = x <;> simp [h]
      refine ⟨u, rfl, by omega, by omega, w[j], by rw [Int.toNat_natCast]; exact hel, _, c86 hbY _, fun e2 => ?_, fun e2 => ?_⟩
      · have e2 : w[j] ≠ x := by simpa using e2
        rw [if_neg e2] at hftake
        have hk : k < v.length := by omega
        refine ⟨u, rfl, by omega, by omega, v[k], by rw [Int.toNat_natCast]; exact hsv.el hk, fun X7 e7 => ?_⟩
        rw [Int.toNat_natCast] at e7
        obtain ⟨s7, m7⟩ := hsv.setAt hk w[j]
        have e7 : X7 = Y.setEl cN u.h (u.off + k) w[j] := e7
        rw [← e7] at s7 m7
        rw [wrap64 (x := (k : Int) + 1) (by omega) (by omega), wrap64 (x := (j : Int) + 1) (by omega) (by omega)]
        refine Again.mk (k + 1, j + 1, X7) rfl ⟨by show k + 1 < j + 1; omega, hj', v.set k w[j], s7, mv.trans m7, by rw [List.length_set]; exact hvl, ?_, ?_⟩ (show w.length - (j + 1) < w.length - j by omega)
        · show (v.set k w[j]).take (k + 1) = (w.take (j + 1)).filter (fun y => !(y == x))
          rw [hftake, List.take_succ_eq_append_getElem (by rw [List.length_set]; exact hk), List.getElem_set_self, List.take_set_of_le (Nat.le_refl _)]
        · show (v.set k w[j]).drop (j + 1) = w.drop (j + 1)
          rw [List.drop_set_of_lt (by omega)]; exact hdrop'
      · have e2 : w[j] = x := by simpa using e2
        rw [if_pos e2, List.append_nil] at hftake
        rw [wrap64 (x := (j : Int) + 1) (by omega) (by omega)]
        exact Again.mk (k, j + 1, Y) rfl ⟨by show k < j + 1; omega, hj', v, hsv, mv, hvl, hftake.symm, hdrop'⟩ (show w.length - (j + 1) < w.length - j by omega)
    · have e := of_decide_eq_false e
      have e : ¬ (j : Int) < ((u.len : Nat) : Int) := e
      have hjl : j = w.length := by omega
      rw [hjl, List.take_length] at htake
      have hc := hsv.cut (p := k) (q := u.len) (m := u.cap) (by omega) hle (Nat.le_refl _) (Nat.le_refl _)
      refine ⟨by omega, by show (k : Int) ≤ ((u.len : Nat) : Int); omega, _, by rw [Int.toNat_natCast]; exact hc.view, fun X9 e9 => ⟨by omega, by show (k : Int) ≤ ((u.cap : Nat) : Int); omega, ?_⟩⟩
      rw [Int.toNat_natCast] at e9 ⊢
      obtain ⟨s9, m9⟩ := hsv.over (k := k) (l' := List.replicate (u.len - k) (0 : Int)) (by rw [List.length_replicate]; omega)
      have e9 : X9 = Y.over cN (some u) k (List.replicate (u.len - k) (0 : Int)) := by
        rw [e9, over_cutS]
        rfl
      rw [← e9] at s9 m9
      have hc9 := s9.cut (p := 0) (q := k) (m := u.cap) (Nat.zero_le _) (by omega) (Nat.le_refl _) (by omega)
      rw [List.drop_zero] at hc9
      have : (AB.over v k (List.replicate (u.len - k) (0 : Int))).take k = v.take k := by
        unfold AB.over
        rw [List.append_assoc, List.take_append_of_le_length (by rw [List.length_take]; omega), List.take_take, Nat.min_self]
      rw [this, htake] at hc9
      exact ⟨hc9, mv.trans m9⟩

end Go.Proofs.Ytefpoodhdfggdaa.AB

set_option linter.unusedVariables false
set_option linter.unusedSimpArgs false
set_option maxRecDepth 100000
set_option maxHeartbeats 2000000
namespace Go.Proofs.Ytefpoodhdfggdaa.AB
open Go
/-! cmp.Or[int] -/
noncomputable def X92 : Cx := ⟨tt, [], [], [], [(92, [(0, mkM 18 0 [3, 6, 7, 8], 0)])], []⟩
theorem FN92 : fnsB Try.prog X92.fns := (show True from trivial)
def M92_0 : List Bool × Nat := (mkM 18 0 [3, 6, 7, 8], 0)
def S92_0 (zero3 : Int) (t6 : List Int) (t7 : Int) (t8 : Int) (T : Toks) : St :=
  mkS 18 [(3, (.v (.int .i64 zero3))), (6, (.v (.list (.int .i64) t6 .no))), (7, (.v (.int .i64 t7))), (8, (.v (.int .i64 t8)))] [] T
noncomputable def B92_0 : (Exit → St → Prop) → St → Prop := (awp X92.tt (callN Try.prog X92 0) (X92.md 92) 0 (X92.mk1 92) 0 (codeAt [1, 1, 0, 1, 0, 0] (bd Try.f92)))
noncomputable def K92_0 (R : V → Prop) : Exit → St → Prop := seqK ((awp X92.tt (callN Try.prog X92 0) (X92.md 92) 0 (X92.mk1 92) 0 (codeAt [1, 1, 1] (bd Try.f92))) (retK tt Try.f92.results.toList fun x s' => topK R x ⟨[], s'.hp, s'.T⟩)) (retK tt Try.f92.results.toList fun x s' => topK R x ⟨[], s'.hp, s'.T⟩)
noncomputable def Q92_0 (R : V → Prop) : Exit → St → Prop := (blockK 0 (K92_0 R))
theorem E92 (vals0 : (List Int)) {R : V → Prop} (h : (Loops B92_0 M92_0 (Q92_0 R)
  (S92_0 (0 : Int) vals0 (((vals0).length : Int)) (0 : Int) ⟨0, []⟩))) :
  fnK X92.tt (callN Try.prog X92 0) (X92.md 92) (X92.mk1 92) Try.f92 [(.v (.list (.int .i64) vals0 .no))] ⟨[], [], ⟨0, []⟩⟩ (topK R) := Eq.mp (by kernel_rfl) h
theorem L92_0 (zero3 : Int) (t6 : List Int) (t7 : Int) (t8 : Int) (T : Toks) {R : V → Prop} {k0 : St → Prop}
 (h : (((decide (t8 < t7)) = true → (0 ≤ t8 ∧ t8 < ((t6).length : Int) ∧ ((((t6.getD (t8).toNat 0) != zero3) = true → R (.int .i64 ((t6.getD (t8).toNat 0)))) ∧
 (((t6.getD (t8).toNat 0) != zero3) = false → k0 (S92_0 zero3 t6 t7 ((IntKind.wrap .i64 (t8 + (1 : Int)))) T))))) ∧
 ((decide (t8 < t7)) = false → R (.int .i64 zero3)))) :
  B92_0 (loopQ M92_0 k0 (Q92_0 R)) (S92_0 zero3 t6 t7 t8 T) := Eq.mp (by kernel_rfl) h
end Go.Proofs.Ytefpoodhdfggdaa.AB

set_option linter.unusedVariables false
set_option linter.unusedSimpArgs false
set_option maxRecDepth 100000
set_option maxHeartbeats 2000000
namespace Go.Proofs.Ytefpoodhdfggdaa.AB
open Go
/-! crucible/arena.order -/
noncomputable def X77 : Cx := ⟨tt, [(92, [.cd (.int .i64)])], [], [], [], []⟩
theorem FN77 : fnsB Try.prog X77.fns := (show True from trivial)
theorem E77 (a0 : (Int × Int)) (b1 : (Int × Int)) {R : V → Prop} (h : (∃ p1 : Int, PC Try.prog 92 [(.list (.int .i64) (([(IntKind.wrap .i64 (a0.2 - b1.2)), (IntKind.wrap .i64 (a0.1 - b1.1))] : List Int)) .no)] (.int .i64 p1) ∧ R (.int .i64 p1))) :
  Wrap (fnK X77.tt (callN Try.prog X77 0) (X77.md 77) (X77.mk1 77) Try.f77 [(.v (.agg [(.int .i64 a0.1), (.int .i64 a0.2)])), (.v (.agg [(.int .i64 b1.1), (.int .i64 b1.2)]))] ⟨[], [], ⟨0, []⟩⟩ (topK R)) := Wrap.cast (by kernel_rfl) ⟨h⟩
end Go.Proofs.Ytefpoodhdfggdaa.AB

set_option linter.unusedVariables false
set_option linter.unusedSimpArgs false
set_option maxRecDepth 100000
set_option maxHeartbeats 2000000
namespace Go.Proofs.Ytefpoodhdfggdaa.AB
open Go
/-! math/bits.Len -/
noncomputable def X75 : Cx := ⟨tt, [(91, [.cd (.int .i64)])], [], [], [], []⟩
theorem FN75 : fnsB Try.prog X75.fns := (show True from trivial)
theorem E75 (x0 : Int) {R : V → Prop} (h : (∃ p1 : Int, PC Try.prog 91 [(.int .u64 x0)] (.int .i64 p1) ∧ R (.int .i64 p1))) :
  fnK X75.tt (callN Try.prog X75 0) (X75.md 75) (X75.mk1 75) Try.f75 [(.v (.int .u64 x0))] ⟨[], [], ⟨0, []⟩⟩ (topK R) := Eq.mp (by kernel_rfl) h
end Go.Proofs.Ytefpoodhdfggdaa.AB

set_option linter.unusedVariables false
set_option linter.unusedSimpArgs false
set_option maxRecDepth 100000
set_option maxHeartbeats 2000000
namespace Go.Proofs.Ytefpoodhdfggdaa.AB
open Go
/-! math/bits.Len64 -/
noncomputable def X91 : Cx := ⟨tt, [], [], [], [], []⟩
theorem FN91 : fnsB Try.prog X91.fns := (show True from trivial)
theorem E91 (x0 : Int) {R : V → Prop} (h : (((decide (x0 ≥ (4294967296 : Int))) = true → (0 ≤ (32 : Int) ∧ (((decide ((Int.fdiv x0 (2 ^ min ((32 : Int)).toNat (IntKind.bits .u64))) ≥ (65536 : Int))) = true → (0 ≤ (16 : Int) ∧ (((decide ((Int.fdiv (Int.fdiv x0 (2 ^ min ((32 : Int)).toNat (IntKind.bits .u64))) (2 ^ min ((16 : Int)).toNat (IntKind.bits .u64))) ≥ (256 : Int))) = true → (0 ≤ (8 : Int) ∧ (0 ≤ (IntKind.wrap .u8 (Int.fdiv (Int.fdiv (Int.fdiv x0 (2 ^ min ((32 : Int)).toNat (IntKind.bits .u64))) (2 ^ min ((16 : Int)).toNat (IntKind.bits .u64))) (2 ^ min ((8 : Int)).toNat (IntKind.bits .u64)))) ∧ (IntKind.wrap .u8 (Int.fdiv (Int.fdiv (Int.fdiv x0 (2 ^ min ((32 : Int)).toNat (IntKind.bits .u64))) (2 ^ min ((16 : Int)).toNat (IntKind.bits .u64))) (2 ^ min ((8 : Int)).toNat (IntKind.bits .u64)))) < ((([0, 1, 2, 2, 3, 3, 3, 3, 4, 4, 4, 4, 4, 4, 4, 4, 5, 5, 5, 5, 5, 5, 5, 5, 5, 5, 5, 5, 5, 5, 5, 5, 6, 6, 6, 6, 6, 6, 6, 6, 6, 6, 6, 6, 6, 6, 6, 6, 6, 6, 6, 6, 6, 6, 6, 6, 6, 6, 6, 6, 6, 6, 6, 6, 7, 7, 7, 7, 7, 7, 7, 7, 7, 7, 7, 7, 7, 7, 7, 7, 7, 7, 7, 7, 7, 7, 7, 7, 7, 7, 7, 7, 7, 7, 7, 7, 7, 7, 7, 7, 7, 7, 7, 7, 7, 7, 7, 7, 7, 7, 7, 7, 7, 7, 7, 7, 7, 7, 7, 7, 7, 7, 7, 7, 7, 7, 7, 7, 8, 8, 8, 8, 8, 8, 8, 8, 8, 8, 8, 8, 8, 8, 8, 8, 8, 8, 8, 8, 8, 8, 8, 8, 8, 8, 8, 8, 8, 8, 8, 8, 8, 8, 8, 8, 8, 8, 8, 8, 8, 8, 8, 8, 8, 8, 8, 8, 8, 8, 8, 8, 8, 8, 8, 8, 8, 8, 8, 8, 8, 8, 8, 8, 8, 8, 8, 8, 8, 8, 8, 8, 8, 8, 8, 8, 8, 8, 8, 8, 8, 8, 8, 8, 8, 8, 8, 8, 8, 8, 8, 8, 8, 8, 8, 8, 8, 8, 8, 8, 8, 8, 8, 8, 8, 8, 8, 8, 8, 8, 8, 8, 8, 8, 8, 8, 8, 8, 8, 8, 8, 8, 8, 8, 8, 8, 8, 8] : List UInt8)).length : Int) ∧ R (.int .i64 ((IntKind.wrap .i64 ((IntKind.wrap .i64 ((IntKind.wrap .i64 ((32 : Int) + (16 : Int))) + (8 : Int))) + (IntKind.wrap .i64 ((([0, 1, 2, 2, 3, 3, 3, 3, 4, 4, 4, 4, 4, 4, 4, 4, 5, 5, 5, 5, 5, 5, 5, 5, 5, 5, 5, 5, 5, 5, 5, 5, 6, 6, 6, 6, 6, 6, 6, 6, 6, 6, 6, 6, 6, 6, 6, 6, 6, 6, 6, 6, 6, 6, 6, 6, 6, 6, 6, 6, 6, 6, 6, 6, 7, 7, 7, 7, 7, 7, 7, 7, 7, 7, 7, 7, 7, 7, 7, 7, 7, 7, 7, 7, 7, 7, 7, 7, 7, 7, 7, 7, 7, 7, 7, 7, 7, 7, 7, 7, 7, 7, 7, 7, 7, 7, 7, 7, 7, 7, 7, 7, 7, 7, 7, 7, 7, 7, 7, 7, 7, 7, 7, 7, 7, 7, 7, 7, 8, 8, 8, 8, 8, 8, 8, 8, 8, 8, 8, 8, 8, 8, 8, 8, 8, 8, 8, 8, 8, 8, 8, 8, 8, 8, 8, 8, 8, 8, 8, 8, 8, 8, 8, 8, 8, 8, 8, 8, 8, 8, 8, 8, 8, 8, 8, 8, 8, 8, 8, 8, 8, 8, 8, 8, 8, 8, 8, 8, 8, 8, 8, 8, 8, 8, 8, 8, 8, 8, 8, 8, 8, 8, 8, 8, 8, 8, 8, 8, 8, 8, 8, 8, 8, 8, 8, 8, 8, 8, 8, 8, 8, 8, 8, 8, 8, 8, 8, 8, 8, 8, 8, 8, 8, 8, 8, 8, 8, 8, 8, 8, 8, 8, 8, 8, 8, 8, 8, 8, 8, 8, 8, 8, 8, 8, 8, 8] : List UInt8).getD ((IntKind.wrap .u8 (Int.fdiv (Int.fdiv (Int.fdiv x0 (2 ^ min ((32 : Int)).toNat (IntKind.bits .u64))) (2 ^ min ((16 : Int)).toNat (IntKind.bits .u64))) (2 ^ min ((8 : Int)).toNat (IntKind.bits .u64))))).toNat 0).toNat : Int))))))))) ∧
 ((decide ((Int.fdiv (Int.fdiv x0 (2 ^ min ((32 : Int)).toNat (IntKind.bits .u64))) (2 ^ min ((16 : Int)).toNat (IntKind.bits .u64))) ≥ (256 : Int))) = false → (0 ≤ (IntKind.wrap .u8 (Int.fdiv (Int.fdiv x0 (2 ^ min ((32 : Int)).toNat (IntKind.bits .u64))) (2 ^ min ((16 : Int)).toNat (IntKind.bits .u64)))) ∧ (IntKind.wrap .u8 (Int.fdiv (Int.fdiv x0 (2 ^ min ((32 : Int)).toNat (IntKind.bits .u64))) (2 ^ min ((16 : Int)).toNat (IntKind.bits .u64)))) < ((([0, 1, 2, 2, 3, 3, 3, 3, 4, 4, 4, 4, 4, 4, 4, 4, 5, 5, 5, 5, 5, 5, 5, 5, 5, 5, 5, 5, 5, 5, 5, 5, 6, 6, 6, 6, 6, 6, 6, 6, 6, 6, 6, 6, 6, 6, 6, 6, 6, 6, 6, 6, 6, 6, 6, 6, 6, 6, 6, 6, 6, 6, 6, 6, 7, 7, 7, 7, 7, 7, 7, 7, 7, 7, 7, 7, 7, 7, 7, 7, 7, 7, 7, 7, 7, 7, 7, 7, 7, 7, 7, 7, 7, 7, 7, 7, 7, 7, 7, 7, 7, 7, 7, 7, 7, 7, 7, 7, 7, 7, 7, 7, 7, 7, 7, 7, 7, 7, 7, 7, 7, 7, 7, 7, 7, 7, 7, 7, 8, 8, 8, 8, 8, 8, 8, 8, 8, 8, 8, 8, 8, 8, 8, 8, 8, 8, 8, 8, 8, 8, 8, 8, 8, 8, 8, 8, 8, 8, 8, 8, 8, 8, 8, 8, 8, 8, 8, 8, 8, 8, 8, 8, 8, 8, 8, 8, 8, 8, 8, 8, 8, 8, 8, 8, 8, 8, 8, 8, 8, 8, 8, 8, 8, 8, 8, 8, 8, 8, 8, 8, 8, 8, 8, 8, 8, 8, 8, 8, 8, 8, 8, 8, 8, 8, 8, 8, 8, 8, 8, 8, 8, 8, 8, 8, 8, 8, 8, 8, 8, 8, 8, 8, 8, 8, 8, 8, 8, 8, 8, 8, 8, 8, 8, 8, 8, 8, 8, 8, 8, 8, 8, 8, 8, 8, 8, 8] : List UInt8)).length : Int) ∧ R (.int .i64 ((IntKind.wrap .i64 ((IntKind.wrap .i64 ((32 : Int) + (16 : Int))) + (IntKind.wrap .i64 ((([0, 1, 2, 2, 3, 3, 3, 3, 4, 4, 4, 4, 4, 4, 4, 4, 5, 5, 5, 5, 5, 5, 5, 5, 5, 5, 5, 5, 5, 5, 5, 5, 6, 6, 6, 6, 6, 6, 6, 6, 6, 6, 6, 6, 6, 6, 6, 6, 6, 6, 6, 6, 6, 6, 6, 6, 6, 6, 6, 6, 6, 6, 6, 6, 7, 7, 7, 7, 7, 7, 7, 7, 7, 7, 7, 7, 7, 7, 7, 7, 7, 7, 7, 7, 7, 7, 7, 7, 7, 7, 7, 7, 7, 7, 7, 7, 7, 7, 7, 7, 7, 7, 7, 7, 7, 7, 7, 7, 7, 7, 7, 7, 7, 7, 7, 7, 7, 7, 7, 7, 7, 7, 7, 7, 7, 7, 7, 7, 8, 8, 8, 8, 8, 8, 8, 8, 8, 8, 8, 8, 8, 8, 8, 8, 8, 8, 8, 8, 8, 8, 8, 8, 8, 8, 8, 8, 8, 8, 8, 8, 8, 8, 8, 8, 8, 8, 8, 8, 8, 8, 8, 8, 8, 8, 8, 8, 8, 8, 8, 8, 8, 8, 8, 8, 8, 8, 8, 8, 8, 8, 8, 8, 8, 8, 8, 8, 8, 8, 8, 8, 8, 8, 8, 8, 8, 8, 8, 8, 8, 8, 8, 8, 8, 8, 8, 8, 8, 8, 8, 8, 8, 8, 8, 8, 8, 8, 8, 8, 8, 8, 8, 8, 8, 8, 8, 8, 8, 8, 8, 8, 8, 8, 8, 8, 8, 8, 8, 8, 8, 8, 8, 8, 8, 8, 8, 8] : List UInt8).getD ((IntKind.wrap .u8 (Int.fdiv (Int.fdiv x0 (2 ^ min ((32 : Int)).toNat (IntKind.bits .u64))) (2 ^ min ((16 : Int)).toNat (IntKind.bits .u64))))).toNat 0).toNat : Int))))))))))) ∧
 ((decide ((Int.fdiv x0 (2 ^ min ((32 : Int)).toNat (IntKind.bits .u64))) ≥ (65536 : Int))) = false → (((decide ((Int.fdiv x0 (2 ^ min ((32 : Int)).toNat (IntKind.bits .u64))) ≥ (256 : Int))) = true → (0 ≤ (8 : Int) ∧ (0 ≤ (IntKind.wrap .u8 (Int.fdiv (Int.fdiv x0 (2 ^ min ((32 : Int)).toNat (IntKind.bits .u64))) (2 ^ min ((8 : Int)).toNat (IntKind.bits .u64)))) ∧ (IntKind.wrap .u8 (Int.fdiv (Int.fdiv x0 (2 ^ min ((32 : Int)).toNat (IntKind.bits .u64))) (2 ^ min ((8 : Int)).toNat (IntKind.bits .u64)))) < ((([0, 1, 2, 2, 3, 3, 3, 3, 4, 4, 4, 4, 4, 4, 4, 4, 5, 5, 5, 5, 5, 5, 5, 5, 5, 5, 5, 5, 5, 5, 5, 5, 6, 6, 6, 6, 6, 6, 6, 6, 6, 6, 6, 6, 6, 6, 6, 6, 6, 6, 6, 6, 6, 6, 6, 6, 6, 6, 6, 6, 6, 6, 6, 6, 7, 7, 7, 7, 7, 7, 7, 7, 7, 7, 7, 7, 7, 7, 7, 7, 7, 7, 7, 7, 7, 7, 7, 7, 7, 7, 7, 7, 7, 7, 7, 7, 7, 7, 7, 7, 7, 7, 7, 7, 7, 7, 7, 7, 7, 7, 7, 7, 7, 7, 7, 7, 7, 7, 7, 7, 7, 7, 7, 7, 7, 7, 7, 7, 8, 8, 8, 8, 8, 8, 8, 8, 8, 8, 8, 8, 8, 8, 8, 8, 8, 8, 8, 8, 8, 8, 8, 8, 8, 8, 8, 8, 8, 8, 8, 8, 8, 8, 8, 8, 8, 8, 8, 8, 8, 8, 8, 8, 8, 8, 8, 8, 8, 8, 8, 8, 8, 8, 8, 8, 8, 8, 8, 8, 8, 8, 8, 8, 8, 8, 8, 8, 8, 8, 8, 8, 8, 8, 8, 8, 8, 8, 8, 8, 8, 8, 8, 8, 8, 8, 8, 8, 8, 8, 8, 8, 8, 8, 8, 8, 8, 8, 8, 8, 8, 8, 8, 8, 8, 8, 8, 8, 8, 8, 8, 8, 8, 8, 8, 8, 8, 8, 8, 8, 8, 8, 8, 8, 8, 8, 8, 8] : List UInt8)).length : Int) ∧ R (.int .i64 ((IntKind.wrap .i64 ((IntKind.wrap .i64 ((32 : Int) + (8 : Int))) + (IntKind.wrap .i64 ((([0, 1, 2, 2, 3, 3, 3, 3, 4, 4, 4, 4, 4, 4, 4, 4, 5, 5, 5, 5, 5, 5, 5, 5, 5, 5, 5, 5, 5, 5, 5, 5, 6, 6, 6, 6, 6, 6, 6, 6, 6, 6, 6, 6, 6, 6, 6, 6, 6, 6, 6, 6, 6, 6, 6, 6, 6, 6, 6, 6, 6, 6, 6, 6, 7, 7, 7, 7, 7, 7, 7, 7, 7, 7, 7, 7, 7, 7, 7, 7, 7, 7, 7, 7, 7, 7, 7, 7, 7, 7, 7, 7, 7, 7, 7, 7, 7, 7, 7, 7, 7, 7, 7, 7, 7, 7, 7, 7, 7, 7, 7, 7, 7, 7, 7, 7, 7, 7, 7, 7, 7, 7, 7, 7, 7, 7, 7, 7, 8, 8, 8, 8, 8, 8, 8, 8, 8, 8, 8, 8, 8, 8, 8, 8, 8, 8, 8, 8, 8, 8, 8, 8, 8, 8, 8, 8, 8, 8, 8, 8, 8, 8, 8, 8, 8, 8, 8, 8, 8, 8, 8, 8, 8, 8, 8, 8, 8, 8, 8, 8, 8, 8, 8, 8, 8, 8, 8, 8, 8, 8, 8, 8, 8, 8, 8, 8, 8, 8, 8, 8, 8, 8, 8, 8, 8, 8, 8, 8, 8, 8, 8, 8, 8, 8, 8, 8, 8, 8, 8, 8, 8, 8, 8, 8, 8, 8, 8, 8, 8, 8, 8, 8, 8, 8, 8, 8, 8, 8, 8, 8, 8, 8, 8, 8, 8, 8, 8, 8, 8, 8, 8, 8, 8, 8, 8, 8] : List UInt8).getD ((IntKind.wrap .u8 (Int.fdiv (Int.fdiv x0 (2 ^ min ((32 : Int)).toNat (IntKind.bits .u64))) (2 ^ min ((8 : Int)).toNat (IntKind.bits .u64))))).toNat 0).toNat : Int))))))))) ∧
 ((decide ((Int.fdiv x0 (2 ^ min ((32 : Int)).toNat (IntKind.bits .u64))) ≥ (256 : Int))) = false → (0 ≤ (IntKind.wrap .u8 (Int.fdiv x0 (2 ^ min ((32 : Int)).toNat (IntKind.bits .u64)))) ∧ (IntKind.wrap .u8 (Int.fdiv x0 (2 ^ min ((32 : Int)).toNat (IntKind.bits .u64)))) < ((([0, 1, 2, 2, 3, 3, 3, 3, 4, 4, 4, 4, 4, 4, 4, 4, 5, 5, 5, 5, 5, 5, 5, 5, 5, 5, 5, 5, 5, 5, 5, 5, 6, 6, 6, 6, 6, 6, 6, 6, 6, 6, 6, 6, 6, 6, 6, 6, 6, 6, 6, 6, 6, 6, 6, 6, 6, 6, 6, 6, 6, 6, 6, 6, 7, 7, 7, 7, 7, 7, 7, 7, 7, 7, 7, 7, 7, 7, 7, 7, 7, 7, 7, 7, 7, 7, 7, 7, 7, 7, 7, 7, 7, 7, 7, 7, 7, 7, 7, 7, 7, 7, 7, 7, 7, 7, 7, 7, 7, 7, 7, 7, 7, 7, 7, 7, 7, 7, 7, 7, 7, 7, 7, 7, 7, 7, 7, 7, 8, 8, 8, 8, 8, 8, 8, 8, 8, 8, 8, 8, 8, 8, 8, 8, 8, 8, 8, 8, 8, 8, 8, 8, 8, 8, 8, 8, 8, 8, 8, 8, 8, 8, 8, 8, 8, 8, 8, 8, 8, 8, 8, 8, 8, 8, 8, 8, 8, 8, 8, 8, 8, 8, 8, 8, 8, 8, 8, 8, 8, 8, 8, 8, 8, 8, 8, 8, 8, 8, 8, 8, 8, 8, 8, 8, 8, 8, 8, 8, 8, 8, 8, 8, 8, 8, 8, 8, 8, 8, 8, 8, 8, 8, 8, 8, 8, 8, 8, 8, 8, 8, 8, 8, 8, 8, 8, 8, 8, 8, 8, 8, 8, 8, 8, 8, 8, 8, 8, 8, 8, 8, 8, 8, 8, 8, 8, 8] : List UInt8)).length : Int) ∧ R (.int .i64 ((IntKind.wrap .i64 ((32 : Int) + (IntKind.wrap .i64 ((([0, 1, 2, 2, 3, 3, 3, 3, 4, 4, 4, 4, 4, 4, 4, 4, 5, 5, 5, 5, 5, 5, 5, 5, 5, 5, 5, 5, 5, 5, 5, 5, 6, 6, 6, 6, 6, 6, 6, 6, 6, 6, 6, 6, 6, 6, 6, 6, 6, 6, 6, 6, 6, 6, 6, 6, 6, 6, 6, 6, 6, 6, 6, 6, 7, 7, 7, 7, 7, 7, 7, 7, 7, 7, 7, 7, 7, 7, 7, 7, 7, 7, 7, 7, 7, 7, 7, 7, 7, 7, 7, 7, 7, 7, 7, 7, 7, 7, 7, 7, 7, 7, 7, 7, 7, 7, 7, 7, 7, 7, 7, 7, 7, 7, 7, 7, 7, 7, 7, 7, 7, 7, 7, 7, 7, 7, 7, 7, 8, 8, 8, 8, 8, 8, 8, 8, 8, 8, 8, 8, 8, 8, 8, 8, 8, 8, 8, 8, 8, 8, 8, 8, 8, 8, 8, 8, 8, 8, 8, 8, 8, 8, 8, 8, 8, 8, 8, 8, 8, 8, 8, 8, 8, 8, 8, 8, 8, 8, 8, 8, 8, 8, 8, 8, 8, 8, 8, 8, 8, 8, 8, 8, 8, 8, 8, 8, 8, 8, 8, 8, 8, 8, 8, 8, 8, 8, 8, 8, 8, 8, 8, 8, 8, 8, 8, 8, 8, 8, 8, 8, 8, 8, 8, 8, 8, 8, 8, 8, 8, 8, 8, 8, 8, 8, 8, 8, 8, 8, 8, 8, 8, 8, 8, 8, 8, 8, 8, 8, 8, 8, 8, 8, 8, 8, 8, 8] : List UInt8).getD ((IntKind.wrap .u8 (Int.fdiv x0 (2 ^ min ((32 : Int)).toNat (IntKind.bits .u64))))).toNat 0).toNat : Int))))))))))))) ∧
 ((decide (x0 ≥ (4294967296 : Int))) = false → (((decide (x0 ≥ (65536 : Int))) = true → (0 ≤ (16 : Int) ∧ (((decide ((Int.fdiv x0 (2 ^ min ((16 : Int)).toNat (IntKind.bits .u64))) ≥ (256 : Int))) = true → (0 ≤ (8 : Int) ∧ (0 ≤ (IntKind.wrap .u8 (Int.fdiv (Int.fdiv x0 (2 ^ min ((16 : Int)).toNat (IntKind.bits .u64))) (2 ^ min ((8 : Int)).toNat (IntKind.bits .u64)))) ∧ (IntKind.wrap .u8 (Int.fdiv (Int.fdiv x0 (2 ^ min ((16 : Int)).toNat (IntKind.bits .u64))) (2 ^ min ((8 : Int)).toNat (IntKind.bits .u64)))) < ((([0, 1, 2, 2, 3, 3, 3, 3, 4, 4, 4, 4, 4, 4, 4, 4, 5, 5, 5, 5, 5, 5, 5, 5, 5, 5, 5, 5, 5, 5, 5, 5, 6, 6, 6, 6, 6, 6, 6, 6, 6, 6, 6, 6, 6, 6, 6, 6, 6, 6, 6, 6, 6, 6, 6, 6, 6, 6, 6, 6, 6, 6, 6, 6, 7, 7, 7, 7, 7, 7, 7, 7, 7, 7, 7, 7, 7, 7, 7, 7, 7, 7, 7, 7, 7, 7, 7, 7, 7, 7, 7, 7, 7, 7, 7, 7, 7, 7, 7, 7, 7, 7, 7, 7, 7, 7, 7, 7, 7, 7, 7, 7, 7, 7, 7, 7, 7, 7, 7, 7, 7, 7, 7, 7, 7, 7, 7, 7, 8, 8, 8, 8, 8, 8, 8, 8, 8, 8, 8, 8, 8, 8, 8, 8, 8, 8, 8, 8, 8, 8, 8, 8, 8, 8, 8, 8, 8, 8, 8, 8, 8, 8, 8, 8, 8, 8, 8, 8, 8, 8, 8, 8, 8, 8, 8, 8, 8, 8, 8, 8, 8, 8, 8, 8, 8, 8, 8, 8, 8, 8, 8, 8, 8, 8, 8, 8, 8, 8, 8, 8, 8, 8, 8, 8, 8, 8, 8, 8, 8, 8, 8, 8, 8, 8, 8, 8, 8, 8, 8, 8, 8, 8, 8, 8, 8, 8, 8, 8, 8, 8, 8, 8, 8, 8, 8, 8, 8, 8, 8, 8, 8, 8, 8, 8, 8, 8, 8, 8, 8, 8, 8, 8, 8, 8, 8, 8] : List UInt8)).length : Int) ∧ R (.int .i64 ((IntKind.wrap .i64 ((IntKind.wrap .i64 ((IntKind.wrap .i64 ((0 : Int) + (16 : Int))) + (8 : Int))) + (IntKind.wrap .i64 ((([0, 1, 2, 2, 3, 3, 3, 3, 4, 4, 4, 4, 4, 4, 4, 4, 5, 5, 5, 5, 5, 5, 5, 5, 5, 5, 5, 5, 5, 5, 5, 5, 6, 6, 6, 6, 6, 6, 6, 6, 6, 6, 6, 6, 6, 6, 6, 6, 6, 6, 6, 6, 6, 6, 6, 6, 6, 6, 6, 6, 6, 6, 6, 6, 7, 7, 7, 7, 7, 7, 7, 7, 7, 7, 7, 7, 7, 7, 7, 7, 7, 7, 7, 7, 7, 7, 7, 7, 7, 7, 7, 7, 7, 7, 7, 7, 7, 7, 7, 7, 7, 7, 7, 7, 7, 7, 7, 7, 7, 7, 7, 7, 7, 7, 7, 7, 7, 7, 7, 7, 7, 7, 7, 7, 7, 7, 7, 7, 8, 8, 8, 8, 8, 8, 8, 8, 8, 8, 8, 8, 8, 8, 8, 8, 8, 8, 8, 8, 8, 8, 8, 8, 8, 8, 8, 8, 8, 8, 8, 8, 8, 8, 8, 8, 8, 8, 8, 8, 8, 8, 8, 8, 8, 8, 8, 8, 8, 8, 8, 8, 8, 8, 8, 8, 8, 8, 8, 8, 8, 8, 8, 8, 8, 8, 8, 8, 8, 8, 8, 8, 8, 8, 8, 8, 8, 8, 8, 8, 8, 8, 8, 8, 8, 8, 8, 8, 8, 8, 8, 8, 8, 8, 8, 8, 8, 8, 8, 8, 8, 8, 8, 8, 8, 8, 8, 8, 8, 8, 8, 8, 8, 8, 8, 8, 8, 8, 8, 8, 8, 8, 8, 8, 8, 8, 8, 8] : List UInt8).getD ((IntKind.wrap .u8 (Int.fdiv (Int.fdiv x0 (2 ^ min ((16 : Int)).toNat (IntKind.bits .u64))) (2 ^ min ((8 : Int)).toNat (IntKind.bits .u64))))).toNat 0).toNat : Int))))))))) ∧
 ((decide ((Int.fdiv x0 (2 ^ min ((16 : Int)).toNat (IntKind.bits .u64))) ≥ (256 : Int))) = false → (0 ≤ (IntKind.wrap .u8 (Int.fdiv x0 (2 ^ min ((16 : Int)).toNat (IntKind.bits .u64)))) ∧ (IntKind.wrap .u8 (Int.fdiv x0 (2 ^ min ((16 : Int)).toNat (IntKind.bits .u64)))) < ((([0, 1, 2, 2, 3, 3, 3, 3, 4, 4, 4, 4, 4, 4, 4, 4, 5, 5, 5, 5, 5, 5, 5, 5, 5, 5, 5, 5, 5, 5, 5, 5, 6, 6, 6, 6, 6, 6, 6, 6, 6, 6, 6, 6, 6, 6, 6, 6, 6, 6, 6, 6, 6, 6, 6, 6, 6, 6, 6, 6, 6, 6, 6, 6, 7, 7, 7, 7, 7, 7, 7, 7, 7, 7, 7, 7, 7, 7, 7, 7, 7, 7, 7, 7, 7, 7, 7, 7, 7, 7, 7, 7, 7, 7, 7, 7, 7, 7, 7, 7, 7, 7, 7, 7, 7, 7, 7, 7, 7, 7, 7, 7, 7, 7, 7, 7, 7, 7, 7, 7, 7, 7, 7, 7, 7, 7, 7, 7, 8, 8, 8, 8, 8, 8, 8, 8, 8, 8, 8, 8, 8, 8, 8, 8, 8, 8, 8, 8, 8, 8, 8, 8, 8, 8, 8, 8, 8, 8, 8, 8, 8, 8, 8, 8, 8, 8, 8, 8, 8, 8, 8, 8, 8, 8, 8, 8, 8, 8, 8, 8, 8, 8, 8, 8, 8, 8, 8, 8, 8, 8, 8, 8, 8, 8, 8, 8, 8, 8, 8, 8, 8, 8, 8, 8, 8, 8, 8, 8, 8, 8, 8, 8, 8, 8, 8, 8, 8, 8, 8, 8, 8, 8, 8, 8, 8, 8, 8, 8, 8, 8, 8, 8, 8, 8, 8, 8, 8, 8, 8, 8, 8, 8, 8, 8, 8, 8, 8, 8, 8, 8, 8, 8, 8, 8, 8, 8] : List UInt8)).length : Int) ∧ R (.int .i64 ((IntKind.wrap .i64 ((IntKind.wrap .i64 ((0 : Int) + (16 : Int))) + (IntKind.wrap .i64 ((([0, 1, 2, 2, 3, 3, 3, 3, 4, 4, 4, 4, 4, 4, 4, 4, 5, 5, 5, 5, 5, 5, 5, 5, 5, 5, 5, 5, 5, 5, 5, 5, 6, 6, 6, 6, 6, 6, 6, 6, 6, 6, 6, 6, 6, 6, 6, 6, 6, 6, 6, 6, 6, 6, 6, 6, 6, 6, 6, 6, 6, 6, 6, 6, 7, 7, 7, 7, 7, 7, 7, 7, 7, 7, 7, 7, 7, 7, 7, 7, 7, 7, 7, 7, 7, 7, 7, 7, 7, 7, 7, 7, 7, 7, 7, 7, 7, 7, 7, 7, 7, 7, 7, 7, 7, 7, 7, 7, 7, 7, 7, 7, 7, 7, 7, 7, 7, 7, 7, 7, 7, 7, 7, 7, 7, 7, 7, 7, 8, 8, 8, 8, 8, 8, 8, 8, 8, 8, 8, 8, 8, 8, 8, 8, 8, 8, 8, 8, 8, 8, 8, 8, 8, 8, 8, 8, 8, 8, 8, 8, 8, 8, 8, 8, 8, 8, 8, 8, 8, 8, 8, 8, 8, 8, 8, 8, 8, 8, 8, 8, 8, 8, 8, 8, 8, 8, 8, 8, 8, 8, 8, 8, 8, 8, 8, 8, 8, 8, 8, 8, 8, 8, 8, 8, 8, 8, 8, 8, 8, 8, 8, 8, 8, 8, 8, 8, 8, 8, 8, 8, 8, 8, 8, 8, 8, 8, 8, 8, 8, 8, 8, 8, 8, 8, 8, 8, 8, 8, 8, 8, 8, 8, 8, 8, 8, 8, 8, 8, 8, 8, 8, 8, 8, 8, 8, 8] : List UInt8).getD ((IntKind.wrap .u8 (Int.fdiv x0 (2 ^ min ((16 : Int)).toNat (IntKind.bits .u64))))).toNat 0).toNat : Int))))))))))) ∧
 ((decide (x0 ≥ (65536 : Int))) = false → (((decide (x0 ≥ (256 : Int))) = true → (0 ≤ (8 : Int) ∧ (0 ≤ (IntKind.wrap .u8 (Int.fdiv x0 (2 ^ min ((8 : Int)).toNat (IntKind.bits .u64)))) ∧ (IntKind.wrap .u8 (Int.fdiv x0 (2 ^ min ((8 : Int)).toNat (IntKind.bits .u64)))) < ((([0, 1, 2, 2, 3, 3, 3, 3, 4, 4, 4, 4, 4, 4, 4, 4, 5, 5, 5, 5, 5, 5, 5, 5, 5, 5, 5, 5, 5, 5, 5, 5, 6, 6, 6, 6, 6, 6, 6, 6, 6, 6, 6, 6, 6, 6, 6, 6, 6, 6, 6, 6, 6, 6, 6, 6, 6, 6, 6, 6, 6, 6, 6, 6, 7, 7, 7, 7, 7, 7, 7, 7, 7, 7, 7, 7, 7, 7, 7, 7, 7, 7, 7, 7, 7, 7, 7, 7, 7, 7, 7, 7, 7, 7, 7, 7, 7, 7, 7, 7, 7, 7, 7, 7, 7, 7, 7, 7, 7, 7, 7, 7, 7, 7, 7, 7, 7, 7, 7, 7, 7, 7, 7, 7, 7, 7, 7, 7, 8, 8, 8, 8, 8, 8, 8, 8, 8, 8, 8, 8, 8, 8, 8, 8, 8, 8, 8, 8, 8, 8, 8, 8, 8, 8, 8, 8, 8, 8, 8, 8, 8, 8, 8, 8, 8, 8, 8, 8, 8, 8, 8, 8, 8, 8, 8, 8, 8, 8, 8, 8, 8, 8, 8, 8, 8, 8, 8, 8, 8, 8, 8, 8, 8, 8, 8, 8, 8, 8, 8, 8, 8, 8, 8, 8, 8, 8, 8, 8, 8, 8, 8, 8, 8, 8, 8, 8, 8, 8, 8, 8, 8, 8, 8, 8, 8, 8, 8, 8, 8, 8, 8, 8, 8, 8, 8, 8, 8, 8, 8, 8, 8, 8, 8, 8, 8, 8, 8, 8, 8, 8, 8, 8, 8, 8, 8, 8] : List UInt8)).length : Int) ∧ R (.int .i64 ((IntKind.wrap .i64 ((IntKind.wrap .i64 ((0 : Int) + (8 : Int))) + (IntKind.wrap .i64 ((([0, 1, 2, 2, 3, 3, 3, 3, 4, 4, 4, 4, 4, 4, 4, 4, 5, 5, 5, 5, 5, 5, 5, 5, 5, 5, 5, 5, 5, 5, 5, 5, 6, 6, 6, 6, 6, 6, 6, 6, 6, 6, 6, 6, 6, 6, 6, 6, 6, 6, 6, 6, 6, 6, 6, 6, 6, 6, 6, 6, 6, 6, 6, 6, 7, 7, 7, 7, 7, 7, 7, 7, 7, 7, 7, 7, 7, 7, 7, 7, 7, 7, 7, 7, 7, 7, 7, 7, 7, 7, 7, 7, 7, 7, 7, 7, 7, 7, 7, 7, 7, 7, 7, 7, 7, 7, 7, 7, 7, 7, 7, 7, 7, 7, 7, 7, 7, 7, 7, 7, 7, 7, 7, 7, 7, 7, 7, 7, 8, 8, 8, 8, 8, 8, 8, 8, 8, 8, 8, 8, 8, 8, 8, 8, 8, 8, 8, 8, 8, 8, 8, 8, 8, 8, 8, 8, 8, 8, 8, 8, 8, 8, 8, 8, 8, 8, 8, 8, 8, 8, 8, 8, 8, 8, 8, 8, 8, 8, 8, 8, 8, 8, 8, 8, 8, 8, 8, 8, 8, 8, 8, 8, 8, 8, 8, 8, 8, 8, 8, 8, 8, 8, 8, 8, 8, 8, 8, 8, 8, 8, 8, 8, 8, 8, 8, 8, 8, 8, 8, 8, 8, 8, 8, 8, 8, 8, 8, 8, 8, 8, 8, 8, 8, 8, 8, 8, 8, 8, 8, 8, 8, 8, 8, 8, 8, 8, 8, 8, 8, 8, 8, 8, 8, 8, 8, 8] : List UInt8).getD ((IntKind.wrap .u8 (Int.fdiv x0 (2 ^ min ((8 : Int)).toNat (IntKind.bits .u64))))).toNat 0).toNat : Int))))))))) ∧
 ((decide (x0 ≥ (256 : Int))) = false → (0 ≤ (IntKind.wrap .u8 x0) ∧ (IntKind.wrap .u8 x0) < ((([0, 1, 2, 2, 3, 3, 3, 3, 4, 4, 4, 4, 4, 4, 4, 4, 5, 5, 5, 5, 5, 5, 5, 5, 5, 5, 5, 5, 5, 5, 5, 5, 6, 6, 6, 6, 6, 6, 6, 6, 6, 6, 6, 6, 6, 6, 6, 6, 6, 6, 6, 6, 6, 6, 6, 6, 6, 6, 6, 6, 6, 6, 6, 6, 7, 7, 7, 7, 7, 7, 7, 7, 7, 7, 7, 7, 7, 7, 7, 7, 7, 7, 7, 7, 7, 7, 7, 7, 7, 7, 7, 7, 7, 7, 7, 7, 7, 7, 7, 7, 7, 7, 7, 7, 7, 7, 7, 7, 7, 7, 7, 7, 7, 7, 7, 7, 7, 7, 7, 7, 7, 7, 7, 7, 7, 7, 7, 7, 8, 8, 8, 8, 8, 8, 8, 8, 8, 8, 8, 8, 8, 8, 8, 8, 8, 8, 8, 8, 8, 8, 8, 8, 8, 8, 8, 8, 8, 8, 8, 8, 8, 8, 8, 8, 8, 8, 8, 8, 8, 8, 8, 8, 8, 8, 8, 8, 8, 8, 8, 8, 8, 8, 8, 8, 8, 8, 8, 8, 8, 8, 8, 8, 8, 8, 8, 8, 8, 8, 8, 8, 8, 8, 8, 8, 8, 8, 8, 8, 8, 8, 8, 8, 8, 8, 8, 8, 8, 8, 8, 8, 8, 8, 8, 8, 8, 8, 8, 8, 8, 8, 8, 8, 8, 8, 8, 8, 8, 8, 8, 8, 8, 8, 8, 8, 8, 8, 8, 8, 8, 8, 8, 8, 8, 8, 8, 8] : List UInt8)).length : Int) ∧ R (.int .i64 ((IntKind.wrap .i64 ((0 : Int) + (IntKind.wrap .i64 ((([0, 1, 2, 2, 3, 3, 3, 3, 4, 4, 4, 4, 4, 4, 4, 4, 5, 5, 5, 5, 5, 5, 5, 5, 5, 5, 5, 5, 5, 5, 5, 5, 6, 6, 6, 6, 6, 6, 6, 6, 6, 6, 6, 6, 6, 6, 6, 6, 6, 6, 6, 6, 6, 6, 6, 6, 6, 6, 6, 6, 6, 6, 6, 6, 7, 7, 7, 7, 7, 7, 7, 7, 7, 7, 7, 7, 7, 7, 7, 7, 7, 7, 7, 7, 7, 7, 7, 7, 7, 7, 7, 7, 7, 7, 7, 7, 7, 7, 7, 7, 7, 7, 7, 7, 7, 7, 7, 7, 7, 7, 7, 7, 7, 7, 7, 7, 7, 7, 7, 7, 7, 7, 7, 7, 7, 7, 7, 7, 8, 8, 8, 8, 8, 8, 8, 8, 8, 8, 8, 8, 8, 8, 8, 8, 8, 8, 8, 8, 8, 8, 8, 8, 8, 8, 8, 8, 8, 8, 8, 8, 8, 8, 8, 8, 8, 8, 8, 8, 8, 8, 8, 8, 8, 8, 8, 8, 8, 8, 8, 8, 8, 8, 8, 8, 8, 8, 8, 8, 8, 8, 8, 8, 8, 8, 8, 8, 8, 8, 8, 8, 8, 8, 8, 8, 8, 8, 8, 8, 8, 8, 8, 8, 8, 8, 8, 8, 8, 8, 8, 8, 8, 8, 8, 8, 8, 8, 8, 8, 8, 8, 8, 8, 8, 8, 8, 8, 8, 8, 8, 8, 8, 8, 8, 8, 8, 8, 8, 8, 8, 8, 8, 8, 8, 8, 8, 8] : List UInt8).getD ((IntKind.wrap .u8 x0)).toNat 0).toNat : Int)))))))))))))) :
  fnK X91.tt (callN Try.prog X91 0) (X91.md 91) (X91.mk1 91) Try.f91 [(.v (.int .u64 x0))] ⟨[], [], ⟨0, []⟩⟩ (topK R) := Eq.mp (by kernel_rfl) h
end Go.Proofs.Ytefpoodhdfggdaa.AB

set_option linter.unusedVariables false
set_option linter.unusedSimpArgs false
namespace Go.Proofs.Ytefpoodhdfggdaa.AB
open Go

def tab8 : List UInt8 := [0, 1, 2, 2, 3, 3, 3, 3, 4, 4, 4, 4, 4, 4, 4, 4, 5, 5, 5, 5, 5, 5, 5, 5, 5, 5, 5, 5, 5, 5, 5, 5, 6, 6, 6, 6, 6, 6, 6, 6, 6, 6, 6, 6, 6, 6, 6, 6, 6, 6, 6, 6, 6, 6, 6, 6, 6, 6, 6, 6, 6, 6, 6, 6, 7, 7, 7, 7, 7, 7, 7, 7, 7, 7, 7, 7, 7, 7, 7, 7, 7, 7, 7, 7, 7, 7, 7, 7, 7, 7, 7, 7, 7, 7, 7, 7, 7, 7, 7, 7, 7, 7, 7, 7, 7, 7, 7, 7, 7, 7, 7, 7, 7, 7, 7, 7, 7, 7, 7, 7, 7, 7, 7, 7, 7, 7, 7, 7, 8, 8, 8, 8, 8, 8, 8, 8, 8, 8, 8, 8, 8, 8, 8, 8, 8, 8, 8, 8, 8, 8, 8, 8, 8, 8, 8, 8, 8, 8, 8, 8, 8, 8, 8, 8, 8, 8, 8, 8, 8, 8, 8, 8, 8, 8, 8, 8, 8, 8, 8, 8, 8, 8, 8, 8, 8, 8, 8, 8, 8, 8, 8, 8, 8, 8, 8, 8, 8, 8, 8, 8, 8, 8, 8, 8, 8, 8, 8, 8, 8, 8, 8, 8, 8, 8, 8, 8, 8, 8, 8, 8, 8, 8, 8, 8, 8, 8, 8, 8, 8, 8, 8, 8, 8, 8, 8, 8, 8, 8, 8, 8, 8, 8, 8, 8, 8, 8, 8, 8, 8, 8, 8, 8, 8, 8, 8, 8]

/-- how many bits a number has: of numbers up to 2^24 -/
def bl (n : Nat) : Nat :=
  if 65536 ≤ n then 16 + (tab8.getD (n / 65536) 0).toNat else if 256 ≤ n then 8 + (tab8.getD (n / 256) 0).toNat else (tab8.getD n 0).toNat

theorem tab8_step : ∀ i : Fin 255, (tab8.getD i.1 0).toNat ≤ (tab8.getD (i.1 + 1) 0).toNat := by decide +kernel
theorem tab8_le : ∀ i : Fin 256, (tab8.getD i.1 0).toNat ≤ 8 := by decide +kernel
theorem tab8_31 : (tab8.getD 31 0).toNat = 5 := by decide +kernel
theorem tab8_1 : (tab8.getD 1 0).toNat = 1 := by decide +kernel

theorem tab8_mono {i j : Nat} (h : i ≤ j) (hj : j < 256) : (tab8.getD i 0).toNat ≤ (tab8.getD j 0).toNat := by
  induction j with
  | zero => have : i = 0 := by omega
            subst this; exact Nat.le_refl _
  | succ j ih =>
    rcases Nat.lt_or_ge i (j + 1) with h' | h'
    · exact Nat.le_trans (ih (by omega) (by omega)) (tab8_step ⟨j, by omega⟩)
    · have : i = j + 1 := by omega
      subst this; exact Nat.le_refl _

theorem bl_mono {a b : Nat} (h : a ≤ b) (hb : b < 16777216) : bl a ≤ bl b := by
  unfold bl
  have t8 := fun i (hi : i < 256) => tab8_le ⟨i, hi⟩
  by_cases h1 : 65536 ≤ a
  · rw [if_pos h1, if_pos (by omega)]
    have := tab8_mono (i := a / 65536) (j := b / 65536) (Nat.div_le_div_right h) (by omega)
    omega
  · rw [if_neg h1]
    by_cases h2 : 65536 ≤ b
    · rw [if_pos h2]
      have hp := tab8_mono (i := 1) (j := b / 65536) (by omega) (by omega)
      rw [tab8_1] at hp
      split
      · have := t8 (a / 256) (by omega)
        simp only at this
        omega
      · have := t8 a (by omega)
        simp only at this
        omega
    · rw [if_neg h2]
      by_cases h3 : 256 ≤ a
      · rw [if_pos h3, if_pos (by omega)]
        have := tab8_mono (i := a / 256) (j := b / 256) (Nat.div_le_div_right h) (by omega)
        omega
      · rw [if_neg h3]
        split
        · have hp := tab8_mono (i := 1) (j := b / 256) (by omega) (by omega)
          rw [tab8_1] at hp
          have := t8 a (by omega)
          simp only at this
          omega
        · exact tab8_mono h (by omega)

theorem bl_lt {n : Nat} (h : n < 2097152) : bl n < 22 := by
  have : bl n ≤ bl 2097151 := bl_mono (by omega) (by omega)
  have e : bl 2097151 = 21 := by decide +kernel
  omega

theorem bl_inv {a b : Nat} (h : bl a < bl b) (ha : a < 16777216) : a < b := by
  rcases Nat.lt_or_ge a b with h' | h'
  · exact h'
  · have := bl_mono h' ha; omega

theorem wrapu8' {n : Int} (h0 : 0 ≤ n) (h1 : n ≤ 255) : IntKind.wrap .u8 n = n := by
  have e : IntKind.wrap .u8 n = n % 256 := by simp [IntKind.wrap, IntKind.bits, IntKind.signed]
  rw [e]; omega

theorem fd16 (n : Nat) : Int.fdiv (n : Int) (2 ^ min ((16 : Int)).toNat (IntKind.bits .u64)) = ((n / 65536 : Nat) : Int) := by
  have e0 : ((2 : Int) ^ min ((16 : Int)).toNat (IntKind.bits .u64)) = 65536 := by decide
  rw [e0, Int.fdiv_eq_ediv_of_nonneg _ (by omega)]; omega

theorem fd8 (n : Nat) : Int.fdiv (n : Int) (2 ^ min ((8 : Int)).toNat (IntKind.bits .u64)) = ((n / 256 : Nat) : Int) := by
  have e0 : ((2 : Int) ^ min ((8 : Int)).toNat (IntKind.bits .u64)) = 256 := by decide
  rw [e0, Int.fdiv_eq_ediv_of_nonneg _ (by omega)]; omega

theorem tab8_len : tab8.length = 256 := by decide +kernel

theorem p91 (n : Nat) (h : n < 16777216) : PC Try.prog 91 [.int .u64 (n : Int)] (.int .i64 (bl n : Nat)) := by
  have T := tab8_len
  have t8 := fun i (hi : i < 256) => tab8_le ⟨i, hi⟩
  refine pcOf (X := X91) (d := 0) rfl FN91 (by kernel_rfl) (by decide) (E91 n ⟨fun e => ?_, fun e => ⟨fun e2 => ?_, fun e2 => ⟨fun e3 => ?_, fun e3 => ?_⟩⟩⟩)
  · have := of_decide_eq_true e; omega
  · have e2 := of_decide_eq_true e2
    rw [fd16]
    refine ⟨by decide, fun e3 => ?_, fun e3 => ?_⟩
    · have := of_decide_eq_true e3; omega
    · rw [wrapu8' (by omega) (by omega), Int.toNat_natCast]
      have hb := t8 (n / 65536) (by omega)
      refine ⟨by omega, ?_, ?_⟩
      · show ((n / 65536 : Nat) : Int) < (tab8.length : Int)
        omega
      · show V.norm (.int .i64 (IntKind.wrap .i64 (IntKind.wrap .i64 (0 + 16) + IntKind.wrap .i64 ((tab8.getD (n / 65536) 0).toNat : Int)))) = _ ∧ _
        simp only at hb
        rw [wrap64 (x := (0 : Int) + 16) (by omega) (by omega), wrap64 (x := ((tab8.getD (n / 65536) 0).toNat : Int)) (by omega) (by omega), wrap64 (by omega) (by omega)]
        have : bl n = 16 + (tab8.getD (n / 65536) 0).toNat := by unfold bl; rw [if_pos (by omega)]
        rw [this, Int.natCast_add]
        exact ⟨rfl, rfl⟩
  · have e3 := of_decide_eq_true e3
    have e2 := of_decide_eq_false e2
    rw [fd8, wrapu8' (by omega) (by omega), Int.toNat_natCast]
    have hb := t8 (n / 256) (by omega)
    refine ⟨by decide, by omega, ?_, ?_⟩
    · show ((n / 256 : Nat) : Int) < (tab8.length : Int)
      omega
    · show V.norm (.int .i64 (IntKind.wrap .i64 (IntKind.wrap .i64 (0 + 8) + IntKind.wrap .i64 ((tab8.getD (n / 256) 0).toNat : Int)))) = _ ∧ _
      simp only at hb
      rw [wrap64 (x := (0 : Int) + 8) (by omega) (by omega), wrap64 (x := ((tab8.getD (n / 256) 0).toNat : Int)) (by omega) (by omega), wrap64 (by omega) (by omega)]
      have : bl n = 8 + (tab8.getD (n / 256) 0).toNat := by unfold bl; rw [if_neg (by omega), if_pos (by omega)]
      rw [this, Int.natCast_add]
      exact ⟨rfl, rfl⟩
  · have e3 := of_decide_eq_false e3
    rw [wrapu8' (by omega) (by omega), Int.toNat_natCast]
    have hb := t8 n (by omega)
    refine ⟨by omega, ?_, ?_⟩
    · show (n : Int) < (tab8.length : Int)
      omega
    · show V.norm (.int .i64 (IntKind.wrap .i64 (0 + IntKind.wrap .i64 ((tab8.getD n 0).toNat : Int)))) = _ ∧ _
      simp only at hb
      rw [wrap64 (x := ((tab8.getD n 0).toNat : Int)) (by omega) (by omega), wrap64 (by omega) (by omega)]
      have : bl n = (tab8.getD n 0).toNat := by unfold bl; rw [if_neg (by omega), if_neg (by omega)]
      rw [this, Int.zero_add]
      exact ⟨rfl, rfl⟩

/-- math/bits.Len -/
theorem p75 (n : Nat) (h : n < 16777216) : PC Try.prog 75 [.int .u64 (n : Int)] (.int .i64 (bl n : Nat)) :=
  pcOf (X := X75) (d := 0) rfl FN75 (by kernel_rfl) (by decide) (E75 n ⟨_, p91 n h, rfl, rfl⟩)

/-- cmp.Or of two -/
theorem p92 (a b : Int) : PC Try.prog 92 [.list (.int .i64) [a, b] .no] (.int .i64 (if a = 0 then b else a)) := by
  refine pcOf (X := X92) (d := 0) rfl FN92 (by kernel_rfl) (by decide) (E92 [a, b] ?_)
  refine Loops.intro (fun n : Nat => S92_0 0 [a, b] (([a, b] : List Int).length) n ⟨0, []⟩) (fun n => n ≤ 2 ∧ ∀ k, k < n → [a, b].getD k 0 = 0) (fun n => 2 - n) 0 rfl ⟨by omega, fun k hk => by omega⟩ ?_
  rintro n ⟨hn, hz⟩
  have hl : (([a, b] : List Int).length : Int) = 2 := rfl
  refine L92_0 0 [a, b] _ n ⟨0, []⟩ ⟨fun h => ?_, fun h => ?_⟩
  · have h := of_decide_eq_true h
    have hlt : n < 2 := by omega
    rw [Int.toNat_natCast, wrap64 (by omega) (by omega)]
    refine ⟨by omega, by omega, fun e => ?_, fun e => ?_⟩
    · have e : [a, b].getD n 0 ≠ 0 := by simpa using e
      have : (if a = 0 then b else a) = [a, b].getD n 0 := by
        match n, hlt with
        | 0, _ => simp at e ⊢; intro h; exact absurd h e
        | 1, _ =>
          have := hz 0 (by omega)
          simp at this
          simp [this]
      rw [this]; exact ⟨rfl, rfl⟩
    · have e : [a, b].getD n 0 = 0 := by simpa using e
      refine Again.mk (n + 1) rfl ⟨by omega, fun k hk => ?_⟩ (by omega)
      rcases Nat.lt_or_ge k n with h' | h'
      · exact hz k h'
      · have : k = n := by omega
        subst this; exact e
  · have h := of_decide_eq_false h
    have h2 : n = 2 := by omega
    subst h2
    have ha := hz 0 (by omega)
    have hb := hz 1 (by omega)
    simp at ha hb
    rw [if_pos ha, hb]; exact ⟨rfl, rfl⟩

abbrev BK : Type := Int × Int
abbrev cBK : Cd := .pair (.int .i64) (.int .i64)

/-- blocks of numbers that are reckoned with -/
def bok (b : BK) : Prop := 0 ≤ b.1 ∧ b.1 ≤ 1099511627776 ∧ 0 ≤ b.2 ∧ b.2 ≤ 1099511627776

def orderR (a b : BK) : Int := if a.2 - b.2 = 0 then a.1 - b.1 else a.2 - b.2

theorem pcOfW {X : Cx} (hX : X.tt = tt) (hfn : fnsB Try.prog X.fns) {d : Nat} {f : FuncId} {fn : Func} (hf : Try.prog.funcs[f]? = some fn) (hname : fn.name ≠ "runtime.NumGoroutine") {args : List V} {r : V}
    (h : Wrap (fnK X.tt (callN Try.prog X d) (X.md f) (X.mk1 f) fn (args.map .v) ⟨[], [], ⟨0, []⟩⟩ (topK fun v => v.norm = r ∧ r.nt = true))) : PC Try.prog f args r := pcOf hX hfn hf hname h.out

/-- arena.order -/
theorem p77 (a b : BK) (ha : bok a) (hb : bok b) : PC Try.prog 77 [.agg [.int .i64 a.1, .int .i64 a.2], .agg [.int .i64 b.1, .int .i64 b.2]] (.int .i64 (orderR a b)) := by
  obtain ⟨a1, a2, a3, a4⟩ := ha
  obtain ⟨b1, b2, b3, b4⟩ := hb
  have w1 : IntKind.wrap .i64 (a.2 - b.2) = a.2 - b.2 := wrap64 (by omega) (by omega)
  have w2 : IntKind.wrap .i64 (a.1 - b.1) = a.1 - b.1 := wrap64 (by omega) (by omega)
  exact pcOfW (X := X77) (d := 0) rfl FN77 (by kernel_rfl) (by decide) (E77 a b ⟨orderR a b, by rw [w1, w2]; exact p92 _ _, rfl, rfl⟩)

/-- one stands ahead of another -/
def bkLt (a b : BK) : Prop := a.2 < b.2 ∨ a.2 = b.2 ∧ a.1 < b.1

instance (a b : BK) : Decidable (bkLt a b) := by unfold bkLt; infer_instance

theorem order_lt (a b : BK) : orderR a b < 0 ↔ bkLt a b := by
  unfold orderR bkLt; split <;> omega

theorem order_eq (a b : BK) : orderR a b = 0 ↔ a = b := by
  unfold orderR
  constructor
  · intro h
    split at h
    · exact Prod.ext (by omega) (by omega)
    · omega
  · rintro rfl; simp

theorem bkLt_trans {a b c : BK} (h : bkLt a b) (k : bkLt b c) : bkLt a c := by unfold bkLt at *; omega
theorem bkLt_irrefl (a : BK) : ¬ bkLt a a := by unfold bkLt; omega
theorem bkLt_total (a b : BK) : bkLt a b ∨ a = b ∨ bkLt b a := by
  unfold bkLt
  by_cases h : a = b
  · exact .inr (.inl h)
  · have : ¬ (a.1 = b.1 ∧ a.2 = b.2) := fun q => h (Prod.ext q.1 q.2)
    omega

end Go.Proofs.Ytefpoodhdfggdaa.AB

set_option linter.unusedVariables false
set_option linter.unusedSimpArgs false
set_option maxRecDepth 100000
set_option maxHeartbeats 2000000
namespace Go.Proofs.Ytefpoodhdfggdaa.AB
open Go
/-! (*crucible/monitor.Table).Leave$1 -/
noncomputable def X69 : Cx := ⟨tt, [], [], [], [], []⟩
theorem FN69 : fnsB Try.prog X69.fns := (show True from trivial)
theorem E69 (X : XH) (object0 : Int) (fv0 : Nat) (fv1 : Nat) {R : (Bool) → XH → Prop} (h : (∃ (a1 : (Option Nat)), XH.el X (.ref cmonitor_Table) fv0 0 = some a1 ∧ (refK a1 (fun (h2 : Nat) => (∃ (a3 : ((Option Nat) × ((Option Nat) × Int))), XH.el X cmonitor_Table h2 0 = some a3 ∧ (∃ (es4 : List (Int × (Option Nat))), XH.vmp X (.int .i64) (.ref cmonitor_lock) a3.1 = some es4 ∧ (∀ (v5 : (Option Nat)), mfind (Cd.keq (.int .i64) object0) es4 = some v5 → (refK v5 (fun (h6 : Nat) => (∃ (a7 : (Int × (Int × (Int × ((Option SlH) × Unit))))), XH.el X cmonitor_lock h6 0 = some a7 ∧ (∃ (a8 : Int), XH.el X (.pure (.int .i64)) fv1 0 = some a8 ∧ R (a7.1 != a8) X))))) ∧ (mfind (Cd.keq (.int .i64) object0) es4 = none → False))))))) :
  fnK X69.tt (callN Try.prog X69 0) (X69.md 69) (X69.mk1 69) Try.f69 [(.v (.int .i64 object0)), (.ref (some fv0) (.ref cmonitor_Table) 0 []), (.ref (some fv1) (.pure (.int .i64)) 0 [])] ⟨[], [some (.heap X)], ⟨0, []⟩⟩ (xfin [(.pure .bool)] R) := Eq.mp (by kernel_rfl) h
end Go.Proofs.Ytefpoodhdfggdaa.AB

set_option linter.unusedVariables false
set_option linter.unusedSimpArgs false
set_option maxRecDepth 100000
set_option maxHeartbeats 2000000
namespace Go.Proofs.Ytefpoodhdfggdaa.AB
open Go
/-! slices.DeleteFunc[[]int,int] -/
noncomputable def X68p : Cx := ⟨tt, [], [(69, [(.pure .bool)]), (87, [(.pure (.int .i64))])], [(68, [(1, 2, .rd), (8, 2, .rd)])], [(68, [(0, mkM 42 0 [0, 1, 5, 6], 0)])], []⟩
theorem FN68p : fnsB Try.prog X68p.fns := (show True from trivial)
def M68p_0 : List Bool × Nat := (mkM 42 0 [0, 1, 5, 6], 1)
def S68p_0 (s0 : List Int) (del1_0 : Nat) (del1_1 : Nat) (i5 : Int) (j6 : Int) (hq0 : XH) (T : Toks) : St :=
  mkS 42 [(0, (.v (.list (.int .i64) s0 .no))), (1, (.clo 69 [(.ref (some del1_0) (.ref cmonitor_Table) 0 []), (.ref (some del1_1) (.pure (.int .i64)) 0 [])])), (5, (.v (.int .i64 i5))), (6, (.v (.int .i64 j6)))] [(some (.heap hq0))] T
noncomputable def B68p_0 : (Exit → St → Prop) → St → Prop := (awp X68p.tt (callN Try.prog X68p 0) (X68p.md 68) 1 (X68p.mk1 68) 0 (codeAt [1, 1, 1, 0, 1, 0, 0] (bd Try.f68)))
noncomputable def K68p_0 (R : ((List Int)) → XH → Prop) : Exit → St → Prop := seqK ((awp X68p.tt (callN Try.prog X68p 0) (X68p.md 68) 1 (X68p.mk1 68) 0 (codeAt [1, 1, 1, 1] (bd Try.f68))) (retK tt Try.f68.results.toList fun x s' => xfin [(.pure (.slice (.int .i64)))] R x ⟨[], s'.hp, s'.T⟩)) (retK tt Try.f68.results.toList fun x s' => xfin [(.pure (.slice (.int .i64)))] R x ⟨[], s'.hp, s'.T⟩)
noncomputable def Q68p_0 (R : ((List Int)) → XH → Prop) : Exit → St → Prop := (blockK 0 (K68p_0 R))
theorem E68p (X : XH) (s0 : (List Int)) (del1c0 : Nat) (del1c1 : Nat) {R : ((List Int)) → XH → Prop} (h : (∃ (p1 : Int), RC Try.prog 87 [(.pure (.int .i64))] [(.v (.list (.int .i64) s0 .no)), (.clo 69 [(.ref (some del1c0) (.ref cmonitor_Table) 0 []), (.ref (some del1c1) (.pure (.int .i64)) 0 [])])] X p1 ∧ (((p1 == (-1 : Int)) = true → R s0 X) ∧
 ((p1 == (-1 : Int)) = false → (Loops B68p_0 M68p_0 (Q68p_0 R)
  (S68p_0 s0 del1c0 del1c1 p1 ((IntKind.wrap .i64 (p1 + (1 : Int)))) X ⟨0, []⟩)))))) :
  fnK X68p.tt (callN Try.prog X68p 0) (X68p.md 68) (X68p.mk1 68) Try.f68 [(.v (.list (.int .i64) s0 .no)), (.clo 69 [(.ref (some del1c0) (.ref cmonitor_Table) 0 []), (.ref (some del1c1) (.pure (.int .i64)) 0 [])])] ⟨[], [some (.heap X)], ⟨0, []⟩⟩ (xfin [(.pure (.slice (.int .i64)))] R) := Eq.mp (by kernel_rfl) h
theorem L68p_0 (s0 : List Int) (del1_0 : Nat) (del1_1 : Nat) (i5 : Int) (j6 : Int) (hq0 : XH) (T : Toks) {R : ((List Int)) → XH → Prop} {k0 : St → Prop}
 (h : (((decide (j6 < ((s0).length : Int))) = true → (0 ≤ j6 ∧ j6 < ((s0).length : Int) ∧ (∃ (p2 : Bool), RC Try.prog 69 [(.pure .bool)] [(.v (.int .i64 ((s0.getD (j6).toNat 0)))), (.ref (some del1_0) (.ref cmonitor_Table) 0 []), (.ref (some del1_1) (.pure (.int .i64)) 0 [])] hq0 p2 ∧ (((!p2) = true → (0 ≤ i5 ∧ i5 < ((s0).length : Int) ∧ False)) ∧
 ((!p2) = false → k0 (S68p_0 s0 del1_0 del1_1 i5 ((IntKind.wrap .i64 (j6 + (1 : Int)))) hq0 T)))))) ∧
 ((decide (j6 < ((s0).length : Int))) = false → (0 ≤ i5 ∧ i5 ≤ ((s0).length : Int) ∧ False)))) :
  B68p_0 (loopQ M68p_0 k0 (Q68p_0 R)) (S68p_0 s0 del1_0 del1_1 i5 j6 hq0 T) := Eq.mp (by kernel_rfl) h
end Go.Proofs.Ytefpoodhdfggdaa.AB

set_option linter.unusedVariables false
set_option linter.unusedSimpArgs false
set_option maxRecDepth 100000
set_option maxHeartbeats 2000000
namespace Go.Proofs.Ytefpoodhdfggdaa.AB
open Go
/-! slices.SortFunc[[]int,int] -/
noncomputable def X70p : Cx := ⟨tt, [(75, [.cd (.int .i64)])], [(88, [])], [(70, [(1, 6, .rd)])], [], []⟩
theorem FN70p : fnsB Try.prog X70p.fns := (show True from trivial)
theorem E70p (X : XH) (x0 : (List Int)) (cmp1c0 : Nat) {R : Unit → XH → Prop} (h : (∃ p1 : Int, PC Try.prog 75 [(.int .u64 ((IntKind.wrap .u64 ((x0).length : Int))))] (.int .i64 p1) ∧ (∃ (p2 : Unit), RC Try.prog 88 [] [(.v (.list (.int .i64) x0 .no)), (.v (.int .i64 (0 : Int))), (.v (.int .i64 (((x0).length : Int)))), (.v (.int .i64 p1)), (.clo 71 [(.ref (some cmp1c0) (.ref cmonitor_Table) 0 [])])] X p2 ∧ R () X))) :
  fnK X70p.tt (callN Try.prog X70p 0) (X70p.md 70) (X70p.mk1 70) Try.f70 [(.v (.list (.int .i64) x0 .no)), (.clo 71 [(.ref (some cmp1c0) (.ref cmonitor_Table) 0 [])])] ⟨[], [some (.heap X)], ⟨0, []⟩⟩ (xfin [] R) := Eq.mp (by kernel_rfl) h
end Go.Proofs.Ytefpoodhdfggdaa.AB

set_option linter.unusedVariables false
set_option linter.unusedSimpArgs false
set_option maxRecDepth 100000
set_option maxHeartbeats 2000000
namespace Go.Proofs.Ytefpoodhdfggdaa.AB
open Go
/-! slices.IndexFunc[[]int,int] -/
noncomputable def X87p : Cx := ⟨tt, [], [(69, [(.pure .bool)])], [(87, [(4, 5, .rd)])], [(87, [(0, mkM 19 0 [0, 1, 7, 8], 0)])], []⟩
theorem FN87p : fnsB Try.prog X87p.fns := (show True from trivial)
def M87p_0 : List Bool × Nat := (mkM 19 0 [0, 1, 7, 8], 1)
def S87p_0 (s0 : List Int) (f1_0 : Nat) (f1_1 : Nat) (t7 : Int) (t8 : Int) (hq0 : XH) (T : Toks) : St :=
  mkS 19 [(0, (.v (.list (.int .i64) s0 .no))), (1, (.clo 69 [(.ref (some f1_0) (.ref cmonitor_Table) 0 []), (.ref (some f1_1) (.pure (.int .i64)) 0 [])])), (7, (.v (.int .i64 t7))), (8, (.v (.int .i64 t8)))] [(some (.heap hq0))] T
noncomputable def B87p_0 : (Exit → St → Prop) → St → Prop := (awp X87p.tt (callN Try.prog X87p 0) (X87p.md 87) 1 (X87p.mk1 87) 0 (codeAt [1, 0, 1, 0, 0] (bd Try.f87)))
noncomputable def K87p_0 (R : (Int) → XH → Prop) : Exit → St → Prop := seqK ((awp X87p.tt (callN Try.prog X87p 0) (X87p.md 87) 1 (X87p.mk1 87) 0 (codeAt [1, 1] (bd Try.f87))) (retK tt Try.f87.results.toList fun x s' => xfin [(.pure (.int .i64))] R x ⟨[], s'.hp, s'.T⟩)) (retK tt Try.f87.results.toList fun x s' => xfin [(.pure (.int .i64))] R x ⟨[], s'.hp, s'.T⟩)
noncomputable def Q87p_0 (R : (Int) → XH → Prop) : Exit → St → Prop := (blockK 0 (K87p_0 R))
theorem E87p (X : XH) (s0 : (List Int)) (f1c0 : Nat) (f1c1 : Nat) {R : (Int) → XH → Prop} (h : (Loops B87p_0 M87p_0 (Q87p_0 R)
  (S87p_0 s0 f1c0 f1c1 (((s0).length : Int)) (0 : Int) X ⟨0, []⟩))) :
  fnK X87p.tt (callN Try.prog X87p 0) (X87p.md 87) (X87p.mk1 87) Try.f87 [(.v (.list (.int .i64) s0 .no)), (.clo 69 [(.ref (some f1c0) (.ref cmonitor_Table) 0 []), (.ref (some f1c1) (.pure (.int .i64)) 0 [])])] ⟨[], [some (.heap X)], ⟨0, []⟩⟩ (xfin [(.pure (.int .i64))] R) := Eq.mp (by kernel_rfl) h
theorem L87p_0 (s0 : List Int) (f1_0 : Nat) (f1_1 : Nat) (t7 : Int) (t8 : Int) (hq0 : XH) (T : Toks) {R : (Int) → XH → Prop} {k0 : St → Prop}
 (h : (((decide (t8 < t7)) = true → (0 ≤ t8 ∧ t8 < ((s0).length : Int) ∧ (∃ (p1 : Bool), RC Try.prog 69 [(.pure .bool)] [(.v (.int .i64 ((s0.getD (t8).toNat 0)))), (.ref (some f1_0) (.ref cmonitor_Table) 0 []), (.ref (some f1_1) (.pure (.int .i64)) 0 [])] hq0 p1 ∧ ((p1 = true → R t8 hq0) ∧
 (p1 = false → k0 (S87p_0 s0 f1_0 f1_1 t7 ((IntKind.wrap .i64 (t8 + (1 : Int)))) hq0 T)))))) ∧
 ((decide (t8 < t7)) = false → R (-1 : Int) hq0))) :
  B87p_0 (loopQ M87p_0 k0 (Q87p_0 R)) (S87p_0 s0 f1_0 f1_1 t7 t8 hq0 T) := Eq.mp (by kernel_rfl) h
end Go.Proofs.Ytefpoodhdfggdaa.AB

set_option linter.unusedVariables false
set_option linter.unusedSimpArgs false
set_option maxRecDepth 100000
set_option maxHeartbeats 2000000
namespace Go.Proofs.Ytefpoodhdfggdaa.AB
open Go
/-! slices.pdqsortCmpFunc[int] -/
noncomputable def X88p : Cx := ⟨tt, [], [(97, [])], [(88, [(4, 4, .rd), (5, 1, .lend)])], [(88, [(0, mkM 148 0 [0, 1, 2, 3, 4, 10, 11], 0)])], []⟩
theorem FN88p : fnsB Try.prog X88p.fns := (show True from trivial)
def M88p_0 : List Bool × Nat := (mkM 148 0 [0, 1, 2, 3, 4, 10, 11], 1)
def S88p_0 (data0 : List Int) (a1 : Int) (b2 : Int) (limit3 : Int) (cmp4_0 : Nat) (wasBalanced10 : Bool) (wasPartitioned11 : Bool) (hq0 : XH) (T : Toks) : St :=
  mkS 148 [(0, (.v (.list (.int .i64) data0 .no))), (1, (.v (.int .i64 a1))), (2, (.v (.int .i64 b2))), (3, (.v (.int .i64 limit3))), (4, (.clo 71 [(.ref (some cmp4_0) (.ref cmonitor_Table) 0 [])])), (10, (.v (.bool wasBalanced10))), (11, (.v (.bool wasPartitioned11)))] [(some (.heap hq0))] T
noncomputable def B88p_0 : (Exit → St → Prop) → St → Prop := (awp X88p.tt (callN Try.prog X88p 0) (X88p.md 88) 1 (X88p.mk1 88) 0 (codeAt [1, 1, 0, 0] (bd Try.f88)))
noncomputable def Q88p_0 (R : Unit → XH → Prop) : Exit → St → Prop := (blockK 0 (retK tt Try.f88.results.toList fun x s' => xfin [] R x ⟨[], s'.hp, s'.T⟩))
theorem E88p (X : XH) (data0 : (List Int)) (a1 : Int) (b2 : Int) (limit3 : Int) (cmp4c0 : Nat) {R : Unit → XH → Prop} (h : (Loops B88p_0 M88p_0 (Q88p_0 R)
  (S88p_0 data0 a1 b2 limit3 cmp4c0 true true X ⟨0, []⟩))) :
  fnK X88p.tt (callN Try.prog X88p 0) (X88p.md 88) (X88p.mk1 88) Try.f88 [(.v (.list (.int .i64) data0 .no)), (.v (.int .i64 a1)), (.v (.int .i64 b2)), (.v (.int .i64 limit3)), (.clo 71 [(.ref (some cmp4c0) (.ref cmonitor_Table) 0 [])])] ⟨[], [some (.heap X)], ⟨0, []⟩⟩ (xfin [] R) := Eq.mp (by kernel_rfl) h
theorem L88p_0 (data0 : List Int) (a1 : Int) (b2 : Int) (limit3 : Int) (cmp4_0 : Nat) (wasBalanced10 : Bool) (wasPartitioned11 : Bool) (hq0 : XH) (T : Toks) {R : Unit → XH → Prop} {k0 : St → Prop}
 (h : (((decide ((IntKind.wrap .i64 (b2 - a1)) ≤ (12 : Int))) = true → (∃ (p1 : Unit), RC Try.prog 97 [] [(.v (.list (.int .i64) data0 .no)), (.v (.int .i64 a1)), (.v (.int .i64 b2)), (.clo 71 [(.ref (some cmp4_0) (.ref cmonitor_Table) 0 [])])] hq0 p1 ∧ R () hq0)) ∧
 ((decide ((IntKind.wrap .i64 (b2 - a1)) ≤ (12 : Int))) = false → False))) :
  B88p_0 (loopQ M88p_0 k0 (Q88p_0 R)) (S88p_0 data0 a1 b2 limit3 cmp4_0 wasBalanced10 wasPartitioned11 hq0 T) := Eq.mp (by kernel_rfl) h
end Go.Proofs.Ytefpoodhdfggdaa.AB

set_option linter.unusedVariables false
set_option linter.unusedSimpArgs false
set_option maxRecDepth 100000
set_option maxHeartbeats 2000000
namespace Go.Proofs.Ytefpoodhdfggdaa.AB
open Go
/-! slices.insertionSortCmpFunc[int] -/
noncomputable def X97p : Cx := ⟨tt, [], [(71, [(.pure (.int .i64))])], [(97, [(4, 14, .rd)])], [(97, [(0, mkM 53 0 [0, 1, 2, 3, 8], 0), (2, mkM 53 0 [0, 1, 2, 3, 8, 9], 0)])], []⟩
theorem FN97p : fnsB Try.prog X97p.fns := (show True from trivial)
def M97p_0 : List Bool × Nat := (mkM 53 0 [0, 1, 2, 3, 8], 1)
def S97p_0 (data0 : List Int) (a1 : Int) (b2 : Int) (cmp3_0 : Nat) (i8 : Int) (hq0 : XH) (T : Toks) : St :=
  mkS 53 [(0, (.v (.list (.int .i64) data0 .no))), (1, (.v (.int .i64 a1))), (2, (.v (.int .i64 b2))), (3, (.clo 71 [(.ref (some cmp3_0) (.ref cmonitor_Table) 0 [])])), (8, (.v (.int .i64 i8)))] [(some (.heap hq0))] T
noncomputable def B97p_0 : (Exit → St → Prop) → St → Prop := (awp X97p.tt (callN Try.prog X97p 0) (X97p.md 97) 1 (X97p.mk1 97) 0 (codeAt [1, 0, 0] (bd Try.f97)))
def M97p_2 : List Bool × Nat := (mkM 53 0 [0, 1, 2, 3, 8, 9], 1)
def S97p_2 (data0 : List Int) (a1 : Int) (b2 : Int) (cmp3_0 : Nat) (i8 : Int) (j9 : Int) (hq0 : XH) (T : Toks) : St :=
  mkS 53 [(0, (.v (.list (.int .i64) data0 .no))), (1, (.v (.int .i64 a1))), (2, (.v (.int .i64 b2))), (3, (.clo 71 [(.ref (some cmp3_0) (.ref cmonitor_Table) 0 [])])), (8, (.v (.int .i64 i8))), (9, (.v (.int .i64 j9)))] [(some (.heap hq0))] T
noncomputable def B97p_2 : (Exit → St → Prop) → St → Prop := (awp X97p.tt (callN Try.prog X97p 0) (X97p.md 97) 1 (X97p.mk1 97) 2 (codeAt [1, 0, 0, 1, 0, 0, 1, 0, 0] (bd Try.f97)))
noncomputable def Q97p_0 (R : Unit → XH → Prop) : Exit → St → Prop := (blockK 0 (retK tt Try.f97.results.toList fun x s' => xfin [] R x ⟨[], s'.hp, s'.T⟩))
noncomputable def K97p_0 (R : Unit → XH → Prop) (k0 : St → Prop) : Exit → St → Prop := seqK ((awp X97p.tt (callN Try.prog X97p 0) (X97p.md 97) 1 (X97p.mk1 97) 0 (codeAt [1, 0, 0, 1, 1] (bd Try.f97))) (loopQ M97p_0 k0 (blockK 0 (retK tt Try.f97.results.toList fun x s' => xfin [] R x ⟨[], s'.hp, s'.T⟩)))) (loopQ M97p_0 k0 (blockK 0 (retK tt Try.f97.results.toList fun x s' => xfin [] R x ⟨[], s'.hp, s'.T⟩)))
noncomputable def Q97p_2 (R : Unit → XH → Prop) (k0 : St → Prop) : Exit → St → Prop := (blockK 2 (blockK 1 (K97p_0 R k0)))
theorem E97p (X : XH) (data0 : (List Int)) (a1 : Int) (b2 : Int) (cmp3c0 : Nat) {R : Unit → XH → Prop} (h : (Loops B97p_0 M97p_0 (Q97p_0 R)
  (S97p_0 data0 a1 b2 cmp3c0 ((IntKind.wrap .i64 (a1 + (1 : Int)))) X ⟨0, []⟩))) :
  fnK X97p.tt (callN Try.prog X97p 0) (X97p.md 97) (X97p.mk1 97) Try.f97 [(.v (.list (.int .i64) data0 .no)), (.v (.int .i64 a1)), (.v (.int .i64 b2)), (.clo 71 [(.ref (some cmp3c0) (.ref cmonitor_Table) 0 [])])] ⟨[], [some (.heap X)], ⟨0, []⟩⟩ (xfin [] R) := Eq.mp (by kernel_rfl) h
theorem L97p_0 (data0 : List Int) (a1 : Int) (b2 : Int) (cmp3_0 : Nat) (i8 : Int) (hq0 : XH) (T : Toks) {R : Unit → XH → Prop} {k0 : St → Prop}
 (h : (((decide (i8 < b2)) = true → (Loops B97p_2 M97p_2 (Q97p_2 R k0)
  (S97p_2 data0 a1 b2 cmp3_0 i8 i8 hq0 T))) ∧
 ((decide (i8 < b2)) = false → R () hq0))) :
  B97p_0 (loopQ M97p_0 k0 (Q97p_0 R)) (S97p_0 data0 a1 b2 cmp3_0 i8 hq0 T) := Eq.mp (by kernel_rfl) h
theorem L97p_2 (data0 : List Int) (a1 : Int) (b2 : Int) (cmp3_0 : Nat) (i8 : Int) (j9 : Int) (hq0 : XH) (T : Toks) {R : Unit → XH → Prop} {k0 : St → Prop} {k2 : St → Prop}
 (h : (((decide (j9 > a1)) = true → (0 ≤ j9 ∧ j9 < ((data0).length : Int) ∧ (0 ≤ (IntKind.wrap .i64 (j9 - (1 : Int))) ∧ (IntKind.wrap .i64 (j9 - (1 : Int))) < ((data0).length : Int) ∧ (∃ (p1 : Int), RC Try.prog 71 [(.pure (.int .i64))] [(.v (.int .i64 ((data0.getD (j9).toNat 0)))), (.v (.int .i64 ((data0.getD ((IntKind.wrap .i64 (j9 - (1 : Int)))).toNat 0)))), (.ref (some cmp3_0) (.ref cmonitor_Table) 0 [])] hq0 p1 ∧ (((decide (p1 < (0 : Int))) = true → (0 ≤ (IntKind.wrap .i64 (j9 - (1 : Int))) ∧ (IntKind.wrap .i64 (j9 - (1 : Int))) < ((data0).length : Int) ∧ (0 ≤ j9 ∧ j9 < ((data0).length : Int) ∧ (0 ≤ j9 ∧ j9 < ((data0).length : Int) ∧ False)))) ∧
 ((decide (p1 < (0 : Int))) = false → k0 (S97p_0 data0 a1 b2 cmp3_0 ((IntKind.wrap .i64 (i8 + (1 : Int)))) hq0 T))))))) ∧ ((decide (j9 > a1)) = false → k0 (S97p_0 data0 a1 b2 cmp3_0 ((IntKind.wrap .i64 (i8 + (1 : Int)))) hq0 T)))) :
  B97p_2 (loopQ M97p_2 k2 (Q97p_2 R k0)) (S97p_2 data0 a1 b2 cmp3_0 i8 j9 hq0 T) := Eq.mp (by kernel_rfl) h
end Go.Proofs.Ytefpoodhdfggdaa.AB

set_option linter.unusedVariables false
set_option linter.unusedSimpArgs false
namespace Go.Proofs.Ytefpoodhdfggdaa.AB
open Go

variable {X X' : XH} {t : Nat} {d : MD} {o : Int} {l : PL}

theorem mv_addO (X : XH) (o : XO) (S : List Nat) : Mv X S (X.add o) S := (Mv.add X o []).weak (fun _ h => by cases h) fun k h => .inr h

/-- drop -/
theorem c67 (h : MRep X t d) (ho : mfind (eqN o) d.p.es = some l) (x : Int) (hl0 : l.2.2.2.length ≤ 1000000) : XC Try.prog 67 [] [.ref (some (d.h o)) cL 0 [.snd, .snd, .snd], .v (.int .i64 x)] X
    fun _ X' => MGoes X t d X' { d.p with es := updK d.p.es o (l.1, l.2.1, l.2.2.1, l.2.2.2.filter fun y => !(y == x)) } := by
  refine xcOf (X := X67) rfl FN67 (by kernel_rfl) (by decide) (E67 X (d.h o) x fun X1 e1 => ?_)
  have m1 : Mv X (d.hs t) X1 (d.hs t) := by rw [e1]; exact mv_addO _ _ _
  have m1' : Mv X [] X1 [] := by rw [e1]; exact mv_addO _ _ _
  have h1 : MRep X1 t d := h.mv m1' fun k _ => by simp
  obtain ⟨hb, hs⟩ := h1.lbox ho
  have hbx : Box X1 cN X.n x := by rw [e1]; exact at_add_new _ _
  refine ⟨_, hb.el, (c68 hs hbx (fun q => ?_) hl0).mono ?_⟩
  · have := (h.lbox ho).2.lt _ q
    omega
  rintro p X4 ⟨s4, m4⟩
  have hb4 : Box X4 cL (d.h o) (lvOf (d.sl o) l) := hb.keep (m4.keep _ hb.lt fun q => (h1.n3 _ (mfind_mem ho) _ q).2.2.2 _ (mfind_mem ho) rfl)
  refine ⟨_, hb4.el, fun X6 e6 => ?_⟩
  have e6 := e6.trans hb4.setEl
  obtain ⟨a, b⟩ := h1.lock ho (l' := (l.1, l.2.1, l.2.2.1, l.2.2.2.filter fun y => !(y == x))) s4 m4
  have e6 : X6 = X4.set (d.h o) (.arr cL [lvOf p (l.1, l.2.1, l.2.2.1, l.2.2.2.filter fun y => !(y == x))]) := e6
  rw [← e6] at a b
  exact ⟨_, a, m1.trans b, rfl⟩

/-- Leave's first closure: is it another's? -/
theorem c69 (h : MRep X t d) {b0 b1 : Nat} {th : Int} (h0 : Box X (.ref cT) b0 (some t)) (h1 : Box X cN b1 th) (ho : mfind (eqN o) d.p.es = some l) :
    RC Try.prog 69 [.pure .bool] [.v (.int .i64 o), .ref (some b0) (.ref cT) 0 [], .ref (some b1) cN 0 []] X (l.1 != th) := by
  refine xcOf (X := X69) rfl FN69 (by kernel_rfl) (by decide) (E69 X o b0 b1 ⟨_, h0.el, refK_iff.2 ⟨t, rfl, _, h.box.el, d.hes, mp_at.2 h.mh, fun u hu => ?_, fun hu => ?_⟩⟩)
  · have hu : mfind (eqN o) d.hes = some u := hu
    rw [h.find, ho] at hu
    have hu : some (d.h o) = u := Option.some.inj hu
    subst hu
    exact refK_iff.2 ⟨_, rfl, _, (h.lbox ho).1.el, _, h1.el, rfl, rfl⟩
  · have hu : mfind (eqN o) d.hes = none := hu
    rw [h.find, ho] at hu; cases hu

/-- these are the thread's -/
def allHis (p : PD) (th : Int) (w : List Int) : Prop := ∀ o ∈ w, ∃ l, mfind (eqN o) p.es = some l ∧ l.1 = th

theorem c87p (h : MRep X t d) {b0 b1 : Nat} {th : Int} (h0 : Box X (.ref cT) b0 (some t)) (h1 : Box X cN b1 th) {w : List Int} (hw : allHis d.p th w) (hl0 : w.length ≤ 1000000) :
    RC Try.prog 87 [.pure (.int .i64)] [.v (.list (.int .i64) w .no), .clo 69 [.ref (some b0) (.ref cT) 0 [], .ref (some b1) cN 0 []]] X (-1 : Int) := by
  refine xcOf (X := X87p) rfl FN87p (by kernel_rfl) (by decide) (E87p X w b0 b1 ?_)
  refine Loops.intro (fun i : Nat => S87p_0 w b0 b1 ((w.length : Nat) : Int) (i : Int) X ⟨0, []⟩) (fun i => i ≤ w.length) (fun i => w.length - i) 0 rfl (Nat.zero_le _) ?_
  intro i hi
  refine L87p_0 w b0 b1 ((w.length : Nat) : Int) i X ⟨0, []⟩ ⟨fun e => ?_, fun e => ⟨rfl, rfl⟩⟩
  have e := of_decide_eq_true e
  have hi' : i < w.length := by omega
  have hg : w.getD i 0 ∈ w := by
    simp only [List.getD, List.getElem?_eq_getElem hi', Option.getD_some]
    exact List.getElem_mem _
  obtain ⟨l, ho, hth⟩ := hw _ hg
  rw [Int.toNat_natCast, wrap64 (by omega) (by omega)]
  refine ⟨by omega, by omega, _, c69 h h0 h1 ho, ?_⟩
  rw [hth]
  exact ⟨fun e => (by simp at e), fun _ => Again.mk (i + 1) rfl (by omega) (by omega)⟩

theorem c68p (h : MRep X t d) {b0 b1 : Nat} {th : Int} (h0 : Box X (.ref cT) b0 (some t)) (h1 : Box X cN b1 th) {w : List Int} (hw : allHis d.p th w) (hl0 : w.length ≤ 1000000) :
    RC Try.prog 68 [.pure (.slice (.int .i64))] [.v (.list (.int .i64) w .no), .clo 69 [.ref (some b0) (.ref cT) 0 [], .ref (some b1) cN 0 []]] X w :=
  xcOf (X := X68p) rfl FN68p (by kernel_rfl) (by decide) (E68p X w b0 b1 ⟨_, c87p h h0 h1 hw hl0, fun _ => ⟨rfl, rfl⟩, fun e => absurd e (by decide)⟩)

theorem c97p {b0 : Nat} {w : List Int} (hl0 : w.length ≤ 1) : RC Try.prog 97 [] [.v (.list (.int .i64) w .no), .v (.int .i64 (0 : Int)), .v (.int .i64 ((w.length : Nat) : Int)), .clo 71 [.ref (some b0) (.ref cT) 0 []]] X () := by
  refine xcOf (X := X97p) rfl FN97p (by kernel_rfl) (by decide) (E97p X w 0 ((w.length : Nat) : Int) b0 ?_)
  have e1 : IntKind.wrap .i64 ((0 : Int) + 1) = 1 := by decide
  rw [e1]
  refine Loops.intro (fun _ : Unit => S97p_0 w 0 ((w.length : Nat) : Int) b0 1 X ⟨0, []⟩) (fun _ => True) (fun _ => 0) () rfl trivial ?_
  intro _ _
  refine L97p_0 w 0 ((w.length : Nat) : Int) b0 1 X ⟨0, []⟩ ⟨fun e => ?_, fun e => ⟨rfl, rfl⟩⟩
  have e := of_decide_eq_true e
  omega

theorem c88p {b0 : Nat} {w : List Int} {lim : Int} (hl0 : w.length ≤ 1) : RC Try.prog 88 [] [.v (.list (.int .i64) w .no), .v (.int .i64 (0 : Int)), .v (.int .i64 ((w.length : Nat) : Int)), .v (.int .i64 lim), .clo 71 [.ref (some b0) (.ref cT) 0 []]] X () := by
  refine xcOf (X := X88p) rfl FN88p (by kernel_rfl) (by decide) (E88p X w 0 ((w.length : Nat) : Int) lim b0 ?_)
  refine Loops.intro (fun _ : Unit => S88p_0 w 0 ((w.length : Nat) : Int) lim b0 true true X ⟨0, []⟩) (fun _ => True) (fun _ => 0) () rfl trivial ?_
  intro _ _
  refine L88p_0 w 0 ((w.length : Nat) : Int) lim b0 true true X ⟨0, []⟩ ⟨fun e => ⟨(), c97p hl0, rfl, rfl⟩, fun e => ?_⟩
  have e := of_decide_eq_false e
  rw [wrap64 (by omega) (by omega)] at e
  omega

theorem c70p {b0 : Nat} {w : List Int} (hl0 : w.length ≤ 1) : RC Try.prog 70 [] [.v (.list (.int .i64) w .no), .clo 71 [.ref (some b0) (.ref cT) 0 []]] X () := by
  have hw : IntKind.wrap .u64 ((w.length : Nat) : Int) = ((w.length : Nat) : Int) := by
    rcases Nat.le_one_iff_eq_zero_or_eq_one.1 hl0 with h | h <;> rw [h] <;> decide
  refine xcOf (X := X70p) rfl FN70p (by kernel_rfl) (by decide) (E70p X w b0 ⟨((bl w.length : Nat) : Int), by rw [hw]; exact p75 w.length (by omega), (), c88p hl0, rfl, rfl⟩)

end Go.Proofs.Ytefpoodhdfggdaa.AB

set_option linter.unusedVariables false
set_option linter.unusedSimpArgs false
namespace Go.Proofs.Ytefpoodhdfggdaa.AB
open Go

variable {X X' : XH} {t : Nat} {d : MD}

def leN : Int → Int → Bool := fun x y => decide (x ≤ y)

/-- what the reader says of each entry: nothing -/
def noR : Value → Option (DataW Unit × List MemPlace) := fun _ => some (.nil, [])

theorem rg_int {a : Int} {x : MapEntry} (hx : x.key = .int .i64 a) (h1 : -9223372036854775808 ≤ a) (h2 : a ≤ 9223372036854775807) : WideElems.rd Try.prog 3 noR x = some (.int .i64 a, .nil) := by
  unfold WideElems.rd
  rw [hx, Go.Maps.keyOf_int_mk Try.underlying3 (by
    simp [Lit.wf, IntKind.min, IntKind.max, IntKind.bits, IntKind.signed]
    omega)]
  rfl

/-- the keys of a map of ints, in order -/
theorem c42a (h : MRep X t d) (hk : ∀ e ∈ d.hes, -9223372036854775808 ≤ e.1 ∧ e.1 ≤ 9223372036854775807) (hsz : d.hes.length < 2000000) :
    RC Try.prog 42 [.pure (.slice (.int .i64))] [.ref (some t) cT 0 []] X ((d.hes.map (·.1)).mergeSort leN) := by
  intro Mine G w vs hi hl hr
  obtain ⟨u, rfl⟩ : ∃ u, vs = #[u] := by
    have : vs.size = 1 := hl.symm
    exact ⟨vs[0], by
      apply Array.ext
      · simpa using this
      · intro i h1 h2
        have : i = 0 := by simp at h2; omega
        subst this; rfl⟩
  have hu := hr 0 (.ref (some t) cT 0 []) u rfl rfl
  refine .inl ⟨⟨Try.f42, by kernel_rfl, by decide, rfl⟩, ?_⟩
  cases hu with
  | ref _ _ _ _ b ct hl0 hp =>
  -- the arena
  obtain ⟨b', h1, h2, h3, cur, el, h4, h5, h6⟩ := hi.xarr rfl h.box.arr
  rw [hl0] at h1; cases h1
  obtain ⟨u0, q1, q2, q3⟩ := h6 0 _ rfl 0 (.mp (.int .i64) (.ref cL) (some d.hH)) (by
    simp only [MD.tv, cT, Xd.cells, List.range, List.range.loop, List.flatMap_cons, List.flatMap_nil, List.cons_append, List.nil_append, List.getElem?_cons_succ, List.getElem?_cons_zero])
  cases q2 with
  | mp _ _ _ r sz ct' hlm =>
  obtain ⟨r', sz', ct'', g1, g2, g3, ents', ck, g4, g5, g6, g7⟩ := hi.xmp rfl (mp_at.2 h.mh)
  rw [hlm] at g1; cases g1
  have hlen : ents'.size = d.hes.length := g5.symm
  have hkey : ∀ (i : Nat) x, ents'[i]? = some x → ∃ e, d.hes[i]? = some e ∧ x.key = .int .i64 e.1 := by
    intro i x hx
    have hlt := (Array.getElem?_eq_some_iff.1 hx).1
    have hi3 : i < d.hes.length := by rw [← hlen]; exact hlt
    have he : d.hes[i]? = some d.hes[i] := List.getElem?_eq_getElem hi3
    have := (g6 i _ x he hx).1
    refine ⟨_, he, ?_⟩
    have hk : VR G (.int .i64 d.hes[i].1) x.key := this
    generalize x.key = y at hk
    cases hk; rfl
  have hrd : ∀ (i : Nat) x, ents'[i]? = some x → ∃ e, d.hes[i]? = some e ∧ WideElems.rd Try.prog 3 noR x = some (.int .i64 e.1, .nil) := by
    intro i x hx
    obtain ⟨e, he, hk'⟩ := hkey i x hx
    have := hk e (List.mem_of_getElem? he)
    exact ⟨e, he, rg_int hk' this.1 this.2⟩
  have fit : WideElems.Fit Try.prog 3 noR ents' ck := by
    refine ⟨?_, g7, fun x hx => ?_⟩
    · rw [hlen]; unfold maxLen; omega
    · obtain ⟨i, hi'⟩ := List.getElem?_of_mem hx
      obtain ⟨e, _, ha⟩ := hrd i x (by simpa using hi')
      exact ⟨_, ha⟩
  have hown := World.ownsMap_of_fit (w := w) (R := noR) g4 fit (fun _ _ _ e => e)
  have hpm := WideShapes.sorted_perm (ents'.toList.map (WideElems.rg Try.prog 3 noR))
  have hkeys : intKeys (.map (ents'.toList.map (WideElems.rg Try.prog 3 noR))) = d.hes.map (·.1) := by
    show (ents'.toList.map (WideElems.rg Try.prog 3 noR)).map (fun p => Go.intOf p.1) = _
    refine List.ext_getElem? fun i => ?_
    rw [List.map_map, List.getElem?_map, List.getElem?_map]
    cases hx : ents'.toList[i]? with
    | none =>
      have : d.hes[i]? = none := by
        rw [List.getElem?_eq_none_iff] at hx ⊢
        rw [← hlen]; simpa using hx
      rw [this]; rfl
    | some x =>
      obtain ⟨e, he, hk'⟩ := hrd i x (by simpa using hx)
      rw [he]
      simp only [Option.map_some, Function.comp, WideElems.rg, hk', Option.getD_some]
      rfl
  have hsize : Go.Maps.size (DataW.map ((ents'.toList.map (WideElems.rg Try.prog 3 noR)).foldr DataW.insert [])) = d.hes.length := by
    show ((ents'.toList.map (WideElems.rg Try.prog 3 noR)).foldr DataW.insert []).length = _
    rw [hpm.length_eq]; simp [hlen]
  have hcell : w.cell? ⟨b, 0, none⟩ = some (.map (some r)) := by
    unfold World.cell?
    simp only [h4]
    simpa using q1
  have hcall := held_calls b r ents'.size _ noR w hcell hown (by rw [hsize]; unfold maxLen; omega) (by rw [hsize]; omega)
  refine hcall.mono ?_
  rintro e w' ⟨v, ss, rfl, hs, hrow, hbel⟩
  have hssp : ss.Perm (d.hes.map (·.1)) := by
    refine hs.trans ?_
    rw [← hkeys]
    unfold intKeys
    exact hpm.map _
  have hms : ss.mergeSort (fun x y => decide (x ≤ y)) = (d.hes.map (·.1)).mergeSort leN := mergeSort_of_perm_i hssp
  have hlen2 : ss.length = ((d.hes.map (·.1)).mergeSort leN).length := by
    rw [← hms]; simp
  rw [hms, hlen2] at hrow
  obtain ⟨G', k1, k2, k3, k4, k5⟩ := hi.rowInt hbel hrow
  exact ⟨v, _, X, G', rfl, ⟨rfl, rfl⟩, k1, k2, k3, k4, k5⟩

end Go.Proofs.Ytefpoodhdfggdaa.AB

set_option linter.unusedVariables false
set_option linter.unusedSimpArgs false
set_option maxRecDepth 100000
set_option maxHeartbeats 2000000
namespace Go.Proofs.Ytefpoodhdfggdaa.AB
open Go
/-! (*crucible/monitor.Table).Leave -/
noncomputable def X36p : Cx := ⟨tt, [], [(42, [(.pure (.slice (.int .i64)))]), (65, [(.pure (.int .i64))]), (67, []), (68, [(.pure (.slice (.int .i64)))]), (70, [])], [(36, [(0, 0, .x (.ref cmonitor_Table)), (0, 1, .x (.pure (.int .i64))), (3, 9, .xc), (5, 1, .rd), (5, 3, .rd), (6, 2, .rd), (11, 2, .xc)])], [(36, [(0, mkM 58 0 [2, 7, 41, 42, 43], 0)])], []⟩
theorem FN36p : fnsB Try.prog X36p.fns := (show True from trivial)
def M36p_0 : List Bool × Nat := (mkM 58 0 [2, 7, 41, 42, 43], 1)
def S36p_0 (t2 : Nat) (l7 : List Int) (l7k : Tok) (t41 : List Int) (t42 : Int) (t43 : Int) (hq0 : XH) (T : Toks) : St :=
  mkS 58 [(2, (.ref (some t2) (.ref cmonitor_Table) 0 [])), (7, (.v (.list (.int .i64) l7 l7k))), (41, (.v (.list (.int .i64) t41 .no))), (42, (.v (.int .i64 t42))), (43, (.v (.int .i64 t43)))] [(some (.heap hq0))] T
noncomputable def B36p_0 : (Exit → St → Prop) → St → Prop := (awp X36p.tt (callN Try.prog X36p 0) (X36p.md 36) 1 (X36p.mk1 36) 0 (codeAt [1, 1, 1, 1, 1, 0, 1, 0, 0] (bd Try.f36)))
noncomputable def K36p_0 (R : ((List Int)) → XH → Prop) : Exit → St → Prop := seqK ((awp X36p.tt (callN Try.prog X36p 0) (X36p.md 36) 1 (X36p.mk1 36) 0 (codeAt [1, 1, 1, 1, 1, 1] (bd Try.f36))) (retK tt Try.f36.results.toList fun x s' => xfin [(.pure (.slice (.int .i64)))] R x ⟨[], s'.hp, s'.T⟩)) (retK tt Try.f36.results.toList fun x s' => xfin [(.pure (.slice (.int .i64)))] R x ⟨[], s'.hp, s'.T⟩)
noncomputable def Q36p_0 (R : ((List Int)) → XH → Prop) : Exit → St → Prop := (blockK 0 (K36p_0 R))
theorem E36p (X : XH) (t0 : Nat) (thread1 : Int) {R : ((List Int)) → XH → Prop} (h : (∀ (X1 : XH), X1 = (XH.add X (.arr (.ref cmonitor_Table) [(some t0)])) → (∀ (X2 : XH), X2 = (XH.add X1 (.arr (.pure (.int .i64)) [thread1])) → (∃ (a3 : (Option Nat)), XH.el X2 (.ref cmonitor_Table) X.n 0 = some a3 ∧ (refK a3 (fun (h4 : Nat) => (∃ (a5 : ((Option Nat) × ((Option Nat) × Int))), XH.el X2 cmonitor_Table h4 0 = some a5 ∧ (∃ (a6 : Int), XH.el X2 (.pure (.int .i64)) X1.n 0 = some a6 ∧ (∃ (es7 : List (Int × Int)), XH.vmp X2 (.int .i64) (.pure (.int .i64)) a5.2.1 = some es7 ∧ (∀ (v8 : Int), mfind (Cd.keq (.int .i64) a6) es7 = some v8 → (((decide (v8 > (0 : Int))) = true → (∃ (a9 : (Option Nat)), XH.el X2 (.ref cmonitor_Table) X.n 0 = some a9 ∧ (refK a9 (fun (h10 : Nat) => (∃ (a11 : ((Option Nat) × ((Option Nat) × Int))), XH.el X2 cmonitor_Table h10 0 = some a11 ∧ (∃ (es12 : List (Int × (Option Nat))), XH.vmp X2 (.int .i64) (.ref cmonitor_lock) a11.1 = some es12 ∧ (∀ (v13 : (Option Nat)), mfind (Cd.keq (.int .i64) v8) es12 = some v13 → (refK v13 (fun (h14 : Nat) => (∃ (a15 : Int), XH.el X2 (.pure (.int .i64)) X1.n 0 = some a15 ∧ (XC Try.prog 67 [] [(.ref (some h14) cmonitor_lock 0 [.snd, .snd, .snd]), (.v (.int .i64 a15))] X2 (fun (p16 : Unit) (X17 : XH) => (∃ (a18 : (Option Nat)), XH.el X17 (.ref cmonitor_Table) X.n 0 = some a18 ∧ (refK a18 (fun (h19 : Nat) => (∃ (a20 : ((Option Nat) × ((Option Nat) × Int))), XH.el X17 cmonitor_Table h19 0 = some a20 ∧ (∃ (a21 : Int), XH.el X17 (.pure (.int .i64)) X1.n 0 = some a21 ∧ (∃ (h22 : Nat) (es23 : List (Int × Int)), a20.2.1 = some h22 ∧ XH.mp X17 (.int .i64) (.pure (.int .i64)) h22 = some es23 ∧ (∀ (X24 : XH), X24 = (XH.set X17 h22 (.map (.int .i64) (.pure (.int .i64)) (mdel (Cd.keq (.int .i64) a21) es23))) → (∃ (a25 : (Option Nat)), XH.el X24 (.ref cmonitor_Table) X.n 0 = some a25 ∧ (∃ (p26 : (List Int)), RC Try.prog 42 [(.pure (.slice (.int .i64)))] [(.ref a25 cmonitor_Table 0 [])] X24 p26 ∧ (∃ (p27 : (List Int)), RC Try.prog 68 [(.pure (.slice (.int .i64)))] [(.v (.list (.int .i64) p26 .no)), (.clo 69 [(.ref (some X.n) (.ref cmonitor_Table) 0 []), (.ref (some X1.n) (.pure (.int .i64)) 0 [])])] X24 p27 ∧ (∃ (p28 : Unit), RC Try.prog 70 [] [(.v (.list (.int .i64) p27 .no)), (.clo 71 [(.ref (some X.n) (.ref cmonitor_Table) 0 [])])] X24 p28 ∧ (Loops B36p_0 M36p_0 (Q36p_0 R)
  (S36p_0 X.n ([] : List Int) .exact p27 (((p27).length : Int)) (0 : Int) X24 ⟨0, []⟩))))))))))))))))))) ∧ (mfind (Cd.keq (.int .i64) v8) es12 = none → False))))))) ∧
 ((decide (v8 > (0 : Int))) = false → (∃ (a29 : (Option Nat)), XH.el X2 (.ref cmonitor_Table) X.n 0 = some a29 ∧ (∃ (p30 : (List Int)), RC Try.prog 42 [(.pure (.slice (.int .i64)))] [(.ref a29 cmonitor_Table 0 [])] X2 p30 ∧ (∃ (p31 : (List Int)), RC Try.prog 68 [(.pure (.slice (.int .i64)))] [(.v (.list (.int .i64) p30 .no)), (.clo 69 [(.ref (some X.n) (.ref cmonitor_Table) 0 []), (.ref (some X1.n) (.pure (.int .i64)) 0 [])])] X2 p31 ∧ (∃ (p32 : Unit), RC Try.prog 70 [] [(.v (.list (.int .i64) p31 .no)), (.clo 71 [(.ref (some X.n) (.ref cmonitor_Table) 0 [])])] X2 p32 ∧ (Loops B36p_0 M36p_0 (Q36p_0 R)
  (S36p_0 X.n ([] : List Int) .exact p31 (((p31).length : Int)) (0 : Int) X2 ⟨0, []⟩))))))))) ∧ (mfind (Cd.keq (.int .i64) a6) es7 = none → (((decide ((0 : Int) > (0 : Int))) = true → (∃ (a33 : (Option Nat)), XH.el X2 (.ref cmonitor_Table) X.n 0 = some a33 ∧ (refK a33 (fun (h34 : Nat) => (∃ (a35 : ((Option Nat) × ((Option Nat) × Int))), XH.el X2 cmonitor_Table h34 0 = some a35 ∧ (∃ (es36 : List (Int × (Option Nat))), XH.vmp X2 (.int .i64) (.ref cmonitor_lock) a35.1 = some es36 ∧ (∀ (v37 : (Option Nat)), mfind (Cd.keq (.int .i64) (0 : Int)) es36 = some v37 → (refK v37 (fun (h38 : Nat) => (∃ (a39 : Int), XH.el X2 (.pure (.int .i64)) X1.n 0 = some a39 ∧ (XC Try.prog 67 [] [(.ref (some h38) cmonitor_lock 0 [.snd, .snd, .snd]), (.v (.int .i64 a39))] X2 (fun (p40 : Unit) (X41 : XH) => (∃ (a42 : (Option Nat)), XH.el X41 (.ref cmonitor_Table) X.n 0 = some a42 ∧ (refK a42 (fun (h43 : Nat) => (∃ (a44 : ((Option Nat) × ((Option Nat) × Int))), XH.el X41 cmonitor_Table h43 0 = some a44 ∧ (∃ (a45 : Int), XH.el X41 (.pure (.int .i64)) X1.n 0 = some a45 ∧ (∃ (h46 : Nat) (es47 : List (Int × Int)), a44.2.1 = some h46 ∧ XH.mp X41 (.int .i64) (.pure (.int .i64)) h46 = some es47 ∧ (∀ (X48 : XH), X48 = (XH.set X41 h46 (.map (.int .i64) (.pure (.int .i64)) (mdel (Cd.keq (.int .i64) a45) es47))) → (∃ (a49 : (Option Nat)), XH.el X48 (.ref cmonitor_Table) X.n 0 = some a49 ∧ (∃ (p50 : (List Int)), RC Try.prog 42 [(.pure (.slice (.int .i64)))] [(.ref a49 cmonitor_Table 0 [])] X48 p50 ∧ (∃ (p51 : (List Int)), RC Try.prog 68 [(.pure (.slice (.int .i64)))] [(.v (.list (.int .i64) p50 .no)), (.clo 69 [(.ref (some X.n) (.ref cmonitor_Table) 0 []), (.ref (some X1.n) (.pure (.int .i64)) 0 [])])] X48 p51 ∧ (∃ (p52 : Unit), RC Try.prog 70 [] [(.v (.list (.int .i64) p51 .no)), (.clo 71 [(.ref (some X.n) (.ref cmonitor_Table) 0 [])])] X48 p52 ∧ (Loops B36p_0 M36p_0 (Q36p_0 R)
  (S36p_0 X.n ([] : List Int) .exact p51 (((p51).length : Int)) (0 : Int) X48 ⟨0, []⟩))))))))))))))))))) ∧ (mfind (Cd.keq (.int .i64) (0 : Int)) es36 = none → False))))))) ∧
 ((decide ((0 : Int) > (0 : Int))) = false → (∃ (a53 : (Option Nat)), XH.el X2 (.ref cmonitor_Table) X.n 0 = some a53 ∧ (∃ (p54 : (List Int)), RC Try.prog 42 [(.pure (.slice (.int .i64)))] [(.ref a53 cmonitor_Table 0 [])] X2 p54 ∧ (∃ (p55 : (List Int)), RC Try.prog 68 [(.pure (.slice (.int .i64)))] [(.v (.list (.int .i64) p54 .no)), (.clo 69 [(.ref (some X.n) (.ref cmonitor_Table) 0 []), (.ref (some X1.n) (.pure (.int .i64)) 0 [])])] X2 p55 ∧ (∃ (p56 : Unit), RC Try.prog 70 [] [(.v (.list (.int .i64) p55 .no)), (.clo 71 [(.ref (some X.n) (.ref cmonitor_Table) 0 [])])] X2 p56 ∧ (Loops B36p_0 M36p_0 (Q36p_0 R)
  (S36p_0 X.n ([] : List Int) .exact p55 (((p55).length : Int)) (0 : Int) X2 ⟨0, []⟩)))))))))))))))))) :
  fnK X36p.tt (callN Try.prog X36p 0) (X36p.md 36) (X36p.mk1 36) Try.f36 [(.ref (some t0) cmonitor_Table 0 []), (.v (.int .i64 thread1))] ⟨[], [some (.heap X)], ⟨0, []⟩⟩ (xfin [(.pure (.slice (.int .i64)))] R) := Eq.mp (by kernel_rfl) h
theorem L36p_0 (t2 : Nat) (l7 : List Int) (l7k : Tok) (t41 : List Int) (t42 : Int) (t43 : Int) (hq0 : XH) (T : Toks) {R : ((List Int)) → XH → Prop} {k0 : St → Prop}
 (h : (((decide (t43 < t42)) = true → (0 ≤ t43 ∧ t43 < ((t41).length : Int) ∧ (∃ (a57 : (Option Nat)), XH.el hq0 (.ref cmonitor_Table) t2 0 = some a57 ∧ (XC Try.prog 65 [(.pure (.int .i64))] [(.ref a57 cmonitor_Table 0 []), (.v (.int .i64 ((t41.getD (t43).toNat 0))))] hq0 (fun (p58 : Int) (X59 : XH) => (((decide (p58 > (0 : Int))) = true → (Tok.own l7k T.l ∧ ((l7).length + (([p58] : List Int)).length) * 8 ≤ room ∧ k0 (S36p_0 t2 ((l7 ++ ([p58] : List Int))) (.tk T.n) t41 t42 ((IntKind.wrap .i64 (t43 + (1 : Int)))) X59 ⟨(T.n + 1), (T.n :: Tok.drop l7k T.l)⟩))) ∧
 ((decide (p58 > (0 : Int))) = false → k0 (S36p_0 t2 l7 l7k t41 t42 ((IntKind.wrap .i64 (t43 + (1 : Int)))) X59 T)))))))) ∧
 ((decide (t43 < t42)) = false → R l7 hq0))) :
  B36p_0 (loopQ M36p_0 k0 (Q36p_0 R)) (S36p_0 t2 l7 l7k t41 t42 t43 hq0 T) := Eq.mp (by kernel_rfl) h
end Go.Proofs.Ytefpoodhdfggdaa.AB

set_option linter.unusedVariables false
set_option linter.unusedSimpArgs false
namespace Go.Proofs.Ytefpoodhdfggdaa.AB
open Go

variable {X X' : XH} {t : Nat} {d : MD} {o : Int} {l : PL}

def heldP (p : PD) : List Int := (p.es.map (·.1)).mergeSort leN

/-- Held -/
theorem c42 (h : MRep X t d) (hk : ∀ e ∈ d.p.es, -9223372036854775808 ≤ e.1 ∧ e.1 ≤ 9223372036854775807) (hsz : d.p.es.length < 2000000) : RC Try.prog 42 [.pure (.slice (.int .i64))] [.ref (some t) cT 0 []] X (heldP d.p) := by
  have hm : d.hes.map (·.1) = d.p.es.map (·.1) := by unfold MD.hes; rw [List.map_map]; rfl
  have := c42a h (fun e he => by
    unfold MD.hes at he
    obtain ⟨x, hx, rfl⟩ := List.mem_map.1 he
    exact hk x hx) (by unfold MD.hes; rw [List.length_map]; exact hsz)
  rw [hm] at this
  exact this

/-- Leave, where one monitor is held, and by who leaves -/
theorem c36p (h : MRep X t d) (hb : short d.p) {th : Int} (hws : mfind (eqN th) d.p.ws = none) (hes : d.p.es = [(o, l)]) (hth : l.1 = th) (hr : -9223372036854775808 ≤ o ∧ o ≤ 9223372036854775807) :
    XC Try.prog 36 [.pure (.slice (.int .i64))] [.ref (some t) cT 0 [], .v (.int .i64 th)] X fun p X' => p = (if (nextP d.p o).1 > 0 then [(nextP d.p o).1] else []) ∧ MGoes X t d X' (nextP d.p o).2 := by
  refine xcOf (X := X36p) rfl FN36p (by kernel_rfl) (by decide) (E36p X t th fun X1 e1 X2 e2 => ?_)
  have n1 : X1.n = X.n + 1 := by rw [e1]; rfl
  have m2 : Mv X (d.hs t) X2 (d.hs t) := by rw [e2, e1]; exact (mv_addO _ _ _).trans (mv_addO _ _ _)
  have m2' : Mv X [] X2 [] := by rw [e2, e1]; exact (mv_addO _ _ _).trans (mv_addO _ _ _)
  have h2 : MRep X2 t d := h.mv m2' fun k _ => by simp
  have b0 : Box X2 (.ref cT) X.n (some t) := by
    show X2.at X.n = _
    rw [e2, at_add_old (by omega), e1]; exact at_add_new _ _
  have b1 : Box X2 cN X1.n th := by
    show X2.at X1.n = _
    rw [e2]; exact at_add_new _ _
  have ho : mfind (eqN o) d.p.es = some l := mfind_of h.nd (by rw [hes]; simp)
  have hheld : heldP d.p = [o] := by unfold heldP; rw [hes]; simp
  have hhis : allHis d.p th [o] := fun q hq => by
    rw [List.mem_singleton] at hq
    subst hq
    exact ⟨l, ho, hth⟩
  refine ⟨_, b0.el, refK_iff.2 ⟨t, rfl, _, h2.box.el, _, b1.el, d.p.ws, mp_at.2 h2.mw, fun v hv => ?_, fun _ => ⟨fun e => absurd e (by decide), fun _ => ⟨_, b0.el, [o], ?_, [o], c68p h2 b0 b1 hhis (by simp), (), c70p (by simp), ?_⟩⟩⟩⟩
  · have hv : mfind (eqN th) d.p.ws = some v := hv
    rw [hws] at hv; cases hv
  · have := c42 h2 (by rw [hes]; simpa using hr) (by rw [hes]; show 1 < 2000000; omega)
    rw [hheld] at this
    exact this
  · refine Loops.intro (fun q : Nat × List Int × Tok × XH × Toks => S36p_0 X.n q.2.1 q.2.2.1 [o] (1 : Int) (q.1 : Int) q.2.2.2.1 q.2.2.2.2)
      (fun q => (q = (0, [], .exact, X2, ⟨0, []⟩)) ∨ (q.1 = 1 ∧ q.2.1 = (if (nextP d.p o).1 > 0 then [(nextP d.p o).1] else []) ∧ MGoes X t d q.2.2.2.1 (nextP d.p o).2)) (fun q => 1 - q.1) (0, [], .exact, X2, ⟨0, []⟩) rfl (.inl rfl) ?_
    rintro ⟨i, r, k, Y, T⟩ (e | ⟨e3, e4, e5⟩)
    · cases e
      refine L36p_0 X.n [] .exact [o] 1 0 X2 ⟨0, []⟩ ⟨fun _ => ⟨by decide, by show (0 : Int) < ((1 : Nat) : Int); omega, _, b0.el, ?_⟩, fun e => absurd e (by decide)⟩
      show XC Try.prog 65 [.pure (.int .i64)] [.ref (some t) cT 0 [], .v (.int .i64 o)] X2 _
      refine (c65 h2 ho (hb _ (mfind_mem ho))).mono ?_
      rintro v X59 ⟨rfl, d', r', m', hp'⟩
      have hg : MGoes X t d X59 (nextP d.p o).2 := ⟨d', r', m2.trans m', hp'⟩
      have e1' : IntKind.wrap .i64 ((0 : Int) + 1) = ((1 : Nat) : Int) := by decide
      refine ⟨fun e => ⟨trivial, by show (0 + 1) * 8 ≤ 140737488355328; omega, ?_⟩, fun e => ?_⟩
      · have e := of_decide_eq_true e
        rw [e1']
        exact Again.mk (1, [(nextP d.p o).1], .tk 0, X59, ⟨1, [0]⟩) rfl (.inr ⟨rfl, by rw [if_pos e], hg⟩) (show 1 - 1 < 1 - 0 by omega)
      · have e := of_decide_eq_false e
        rw [e1']
        exact Again.mk (1, [], .exact, X59, ⟨0, []⟩) rfl (.inr ⟨rfl, by rw [if_neg e], hg⟩) (show 1 - 1 < 1 - 0 by omega)
    · have e3 : i = 1 := e3
      subst e3
      refine L36p_0 X.n r k [o] 1 1 Y T ⟨fun e => absurd e (by decide), fun _ => ⟨e4, e5⟩⟩

end Go.Proofs.Ytefpoodhdfggdaa.AB

set_option linter.unusedVariables false
set_option linter.unusedSimpArgs false
set_option maxRecDepth 100000
set_option maxHeartbeats 2000000
namespace Go.Proofs.Ytefpoodhdfggdaa.AB
open Go
/-! crucible/cruciblelaw17.shown -/
noncomputable def X28 : Cx := ⟨tt, [(35, [.cd .bool])], [(29, [(.ref cmonitor_Table)]), (31, [(.pure .bool), (.pure (.int .i64))]), (33, [(.pure (.int .i64)), (.pure (.int .i64))]), (36, [(.pure (.slice (.int .i64)))]), (38, [(.pure (.int .i64)), (.pure (.int .i64))]), (40, [(.pure (.slice (.int .i64)))]), (42, [(.pure (.slice (.int .i64)))])], [(28, [(1, 0, .xc), (4, 1, .xc), (5, 1, .xc), (6, 1, .xc), (7, 1, .xc), (8, 1, .xc), (11, 1, .xc), (12, 1, .rd), (13, 1, .xc), (14, 1, .rd), (15, 1, .rd), (16, 1, .xc), (17, 1, .xc), (18, 1, .rd)])], [], []⟩
theorem FN28 : fnsB Try.prog X28.fns := (show True from trivial)
theorem E28 {R : V → Prop} (h : (XC Try.prog 29 [(.ref cmonitor_Table)] [] XH.none (fun (p1 : (Option Nat)) (X2 : XH) => (((Option.isNone p1) = true → R (.bool false)) ∧
 ((Option.isNone p1) = false → (XC Try.prog 31 [(.pure .bool), (.pure (.int .i64))] [(.ref p1 cmonitor_Table 0 []), (.v (.int .i64 (5 : Int))), (.v (.int .i64 (1 : Int)))] X2 (fun (p3 : Bool × Int) (X4 : XH) => (XC Try.prog 31 [(.pure .bool), (.pure (.int .i64))] [(.ref p1 cmonitor_Table 0 []), (.v (.int .i64 (5 : Int))), (.v (.int .i64 (1 : Int)))] X4 (fun (p5 : Bool × Int) (X6 : XH) => (XC Try.prog 31 [(.pure .bool), (.pure (.int .i64))] [(.ref p1 cmonitor_Table 0 []), (.v (.int .i64 (5 : Int))), (.v (.int .i64 (2 : Int)))] X6 (fun (p7 : Bool × Int) (X8 : XH) => (XC Try.prog 31 [(.pure .bool), (.pure (.int .i64))] [(.ref p1 cmonitor_Table 0 []), (.v (.int .i64 (5 : Int))), (.v (.int .i64 (3 : Int)))] X8 (fun (p9 : Bool × Int) (X10 : XH) => (XC Try.prog 31 [(.pure .bool), (.pure (.int .i64))] [(.ref p1 cmonitor_Table 0 []), (.v (.int .i64 (6 : Int))), (.v (.int .i64 (2 : Int)))] X10 (fun (p11 : Bool × Int) (X12 : XH) => (((!p3.1) = true → R (.bool false)) ∧ ((!p3.1) = false → (((p3.2 != (0 : Int)) = true → R (.bool false)) ∧ ((p3.2 != (0 : Int)) = false → (((!p5.1) = true → R (.bool false)) ∧ ((!p5.1) = false → (((p5.2 != (0 : Int)) = true → R (.bool false)) ∧ ((p5.2 != (0 : Int)) = false → ((p7.1 = true → R (.bool false)) ∧ (p7.1 = false → (((p7.2 != (0 : Int)) = true → R (.bool false)) ∧ ((p7.2 != (0 : Int)) = false → ((p9.1 = true → R (.bool false)) ∧ (p9.1 = false → (((p9.2 != (0 : Int)) = true → R (.bool false)) ∧ ((p9.2 != (0 : Int)) = false → (((p11.2 != (25 : Int)) = true → R (.bool false)) ∧
 ((p11.2 != (25 : Int)) = false → (XC Try.prog 33 [(.pure (.int .i64)), (.pure (.int .i64))] [(.ref p1 cmonitor_Table 0 []), (.v (.int .i64 (5 : Int))), (.v (.int .i64 (1 : Int)))] X12 (fun (p13 : Int × Int) (X14 : XH) => (∃ (p15 : Int × Int), RC Try.prog 38 [(.pure (.int .i64)), (.pure (.int .i64))] [(.ref p1 cmonitor_Table 0 []), (.v (.int .i64 (5 : Int)))] X14 p15 ∧ (XC Try.prog 33 [(.pure (.int .i64)), (.pure (.int .i64))] [(.ref p1 cmonitor_Table 0 []), (.v (.int .i64 (5 : Int))), (.v (.int .i64 (1 : Int)))] X14 (fun (p16 : Int × Int) (X17 : XH) => (∃ (p18 : Int × Int), RC Try.prog 38 [(.pure (.int .i64)), (.pure (.int .i64))] [(.ref p1 cmonitor_Table 0 []), (.v (.int .i64 (5 : Int)))] X17 p18 ∧ (∃ (p19 : (List Int)), RC Try.prog 40 [(.pure (.slice (.int .i64)))] [(.ref p1 cmonitor_Table 0 []), (.v (.int .i64 (5 : Int)))] X17 p19 ∧ (∃ p20 : Bool, PC Try.prog 35 [(.list (.int .i64) p19 .no), (.list (.int .i64) (([(3 : Int)] : List Int)) .no)] (.bool p20) ∧ (XC Try.prog 33 [(.pure (.int .i64)), (.pure (.int .i64))] [(.ref p1 cmonitor_Table 0 []), (.v (.int .i64 (5 : Int))), (.v (.int .i64 (1 : Int)))] X17 (fun (p21 : Int × Int) (X22 : XH) => (XC Try.prog 36 [(.pure (.slice (.int .i64)))] [(.ref p1 cmonitor_Table 0 []), (.v (.int .i64 (2 : Int)))] X22 (fun (p23 : (List Int)) (X24 : XH) => (∃ p25 : Bool, PC Try.prog 35 [(.list (.int .i64) p23 .no), (.list (.int .i64) (([(3 : Int)] : List Int)) .no)] (.bool p25) ∧ (∃ (p26 : (List Int)), RC Try.prog 42 [(.pure (.slice (.int .i64)))] [(.ref p1 cmonitor_Table 0 [])] X24 p26 ∧ (∃ p27 : Bool, PC Try.prog 35 [(.list (.int .i64) p26 .no), (.list (.int .i64) (([(5 : Int)] : List Int)) .no)] (.bool p27) ∧ (((p13.1 == (0 : Int)) = true → (((p13.2 == (0 : Int)) = true → (((p15.1 == (1 : Int)) = true → (((p15.2 == (1 : Int)) = true → (((p16.1 == (2 : Int)) = true → (((p16.2 == (0 : Int)) = true → (((p18.1 == (2 : Int)) = true → (((p18.2 == (1 : Int)) = true → ((p20 = true → (((p21.2 == (25 : Int)) = true → ((p25 = true → R (.bool p27)) ∧ (p25 = false → R (.bool false)))) ∧ ((p21.2 == (25 : Int)) = false → R (.bool false)))) ∧ (p20 = false → R (.bool false)))) ∧ ((p18.2 == (1 : Int)) = false → R (.bool false)))) ∧ ((p18.1 == (2 : Int)) = false → R (.bool false)))) ∧ ((p16.2 == (0 : Int)) = false → R (.bool false)))) ∧ ((p16.1 == (2 : Int)) = false → R (.bool false)))) ∧ ((p15.2 == (1 : Int)) = false → R (.bool false)))) ∧ ((p15.1 == (1 : Int)) = false → R (.bool false)))) ∧ ((p13.2 == (0 : Int)) = false → R (.bool false)))) ∧ ((p13.1 == (0 : Int)) = false → R (.bool false))))))))))))))))))))))))))))))))))))))))))))))))))) :
  fnK X28.tt (callN Try.prog X28 0) (X28.md 28) (X28.mk1 28) Try.f28 [] ⟨[], [some (.heap XH.none)], ⟨0, []⟩⟩ (topK R) := Eq.mp (by kernel_rfl) h
end Go.Proofs.Ytefpoodhdfggdaa.AB

set_option linter.unusedVariables false
set_option linter.unusedSimpArgs false
set_option maxRecDepth 100000
set_option maxHeartbeats 2000000
namespace Go.Proofs.Ytefpoodhdfggdaa.AB
open Go
/-! crucible/cruciblelaw17.pick -/
noncomputable def X30 : Cx := ⟨tt, [], [], [], [], []⟩
theorem FN30 : fnsB Try.prog X30.fns := (show True from trivial)
theorem E30 (c0 : Int) (n1 : Int) {R : V → Prop} (h : (((decide (c0 < (0 : Int))) = true → (n1 ≠ 0 ∧ R (.int .i64 ((Int.tmod (IntKind.wrap .i64 (0 - (IntKind.wrap .i64 (c0 + (1 : Int))))) n1))))) ∧
 ((decide (c0 < (0 : Int))) = false → (n1 ≠ 0 ∧ R (.int .i64 (Int.tmod c0 n1)))))) :
  fnK X30.tt (callN Try.prog X30 0) (X30.md 30) (X30.mk1 30) Try.f30 [(.v (.int .i64 c0)), (.v (.int .i64 n1))] ⟨[], [], ⟨0, []⟩⟩ (topK R) := Eq.mp (by kernel_rfl) h
end Go.Proofs.Ytefpoodhdfggdaa.AB

set_option linter.unusedVariables false
set_option linter.unusedSimpArgs false
set_option maxRecDepth 100000
set_option maxHeartbeats 2000000
namespace Go.Proofs.Ytefpoodhdfggdaa.AB
open Go
/-! crucible/cruciblelaw17.sameInts -/
noncomputable def X35 : Cx := ⟨tt, [], [], [], [(35, [(0, mkM 26 0 [0, 1, 5], 0)])], []⟩
theorem FN35 : fnsB Try.prog X35.fns := (show True from trivial)
def M35_0 : List Bool × Nat := (mkM 26 0 [0, 1, 5], 0)
def S35_0 (a0 : List Int) (b1 : List Int) (i5 : Int) (T : Toks) : St :=
  mkS 26 [(0, (.v (.list (.int .i64) a0 .no))), (1, (.v (.list (.int .i64) b1 .no))), (5, (.v (.int .i64 i5)))] [] T
noncomputable def B35_0 : (Exit → St → Prop) → St → Prop := (awp X35.tt (callN Try.prog X35 0) (X35.md 35) 0 (X35.mk1 35) 0 (codeAt [1, 1, 0, 1, 0, 0] (bd Try.f35)))
noncomputable def K35_0 (R : V → Prop) : Exit → St → Prop := seqK ((awp X35.tt (callN Try.prog X35 0) (X35.md 35) 0 (X35.mk1 35) 0 (codeAt [1, 1, 1] (bd Try.f35))) (retK tt Try.f35.results.toList fun x s' => topK R x ⟨[], s'.hp, s'.T⟩)) (retK tt Try.f35.results.toList fun x s' => topK R x ⟨[], s'.hp, s'.T⟩)
noncomputable def Q35_0 (R : V → Prop) : Exit → St → Prop := (blockK 0 (K35_0 R))
theorem E35 (a0 : (List Int)) (b1 : (List Int)) {R : V → Prop} (h : (((((a0).length : Int) != ((b1).length : Int)) = true → R (.bool false)) ∧
 ((((a0).length : Int) != ((b1).length : Int)) = false → (Loops B35_0 M35_0 (Q35_0 R)
  (S35_0 a0 b1 (0 : Int) ⟨0, []⟩))))) :
  fnK X35.tt (callN Try.prog X35 0) (X35.md 35) (X35.mk1 35) Try.f35 [(.v (.list (.int .i64) a0 .no)), (.v (.list (.int .i64) b1 .no))] ⟨[], [], ⟨0, []⟩⟩ (topK R) := Eq.mp (by kernel_rfl) h
theorem L35_0 (a0 : List Int) (b1 : List Int) (i5 : Int) (T : Toks) {R : V → Prop} {k0 : St → Prop}
 (h : (((decide (i5 < ((a0).length : Int))) = true → (0 ≤ i5 ∧ i5 < ((a0).length : Int) ∧ (0 ≤ i5 ∧ i5 < ((b1).length : Int) ∧ ((((a0.getD (i5).toNat 0) != (b1.getD (i5).toNat 0)) = true → R (.bool false)) ∧
 (((a0.getD (i5).toNat 0) != (b1.getD (i5).toNat 0)) = false → k0 (S35_0 a0 b1 ((IntKind.wrap .i64 (i5 + (1 : Int)))) T)))))) ∧
 ((decide (i5 < ((a0).length : Int))) = false → R (.bool true)))) :
  B35_0 (loopQ M35_0 k0 (Q35_0 R)) (S35_0 a0 b1 i5 T) := Eq.mp (by kernel_rfl) h
end Go.Proofs.Ytefpoodhdfggdaa.AB

set_option linter.unusedVariables false
set_option linter.unusedSimpArgs false
namespace Go.Proofs.Ytefpoodhdfggdaa.AB
open Go

/-- pick -/
theorem p30 (c n : Int) (hc : -9223372036854775808 ≤ c ∧ c ≤ 9223372036854775807) (hn : n ≠ 0) :
    PC Try.prog 30 [.int .i64 c, .int .i64 n] (.int .i64 (Int.tmod (if c < 0 then -(c + 1) else c) n)) := by
  refine pcOf (X := X30) (d := 0) rfl FN30 (by kernel_rfl) (by decide) (E30 c n ⟨fun h => ⟨hn, ?_⟩, fun h => ⟨hn, ?_⟩⟩)
  · have h := of_decide_eq_true h
    rw [wrap64 (x := c + 1) (by omega) (by omega), wrap64 (by omega) (by omega), if_pos h, show (0 : Int) - (c + 1) = -(c + 1) by omega]
    exact ⟨rfl, rfl⟩
  · have h := of_decide_eq_false h
    rw [if_neg (by omega)]
    exact ⟨rfl, rfl⟩

def pickR (c : Int) (n : Nat) : Nat := (Int.tmod (if c < 0 then -(c + 1) else c) n).toNat

theorem pickR_lt (c : Int) {n : Nat} (hn : 0 < n) : pickR c n < n ∧ Int.tmod (if c < 0 then -(c + 1) else c) n = (pickR c n : Nat) := by
  unfold pickR
  have hx : 0 ≤ (if c < 0 then -(c + 1) else c) := by split <;> omega
  rw [Int.tmod_eq_emod_of_nonneg hx]
  have h1 := Int.emod_nonneg (if c < 0 then -(c + 1) else c) (show (n : Int) ≠ 0 by omega)
  have h2 := Int.emod_lt_of_pos (if c < 0 then -(c + 1) else c) (show (0 : Int) < n by omega)
  omega

/-- pick, of so many -/
theorem pick_ok (c : Int) {n : Nat} (hc : -9223372036854775808 ≤ c ∧ c ≤ 9223372036854775807) (hn : 0 < n) : PC Try.prog 30 [.int .i64 c, .int .i64 (n : Int)] (.int .i64 (pickR c n : Nat)) := by
  have := p30 c n hc (by omega)
  rwa [(pickR_lt c hn).2] at this

theorem retB {a b : Bool} (h : a = b) : V.norm (.bool a) = .bool b ∧ (V.bool b).nt = true := by subst h; exact ⟨rfl, rfl⟩

theorem beq_take_succ {α : Type} [BEq α] [LawfulBEq α] {a b : List α} {n : Nat} {d : α} (h : a.take n = b.take n) (hn : n < a.length) (hm : n < b.length) (he : (a.getD n d == b.getD n d) = true) : a.take (n + 1) = b.take (n + 1) := by
  have he := eq_of_beq he
  rw [List.take_succ_eq_append_getElem hn, List.take_succ_eq_append_getElem hm, h]
  simp only [List.getD, List.getElem?_eq_getElem hn, List.getElem?_eq_getElem hm, Option.getD_some] at he
  rw [he]

/-- sameInts -/
theorem p35 (a b : List Int) (ha : a.length ≤ 9223372036854775807) : PC Try.prog 35 [.list (.int .i64) a .no, .list (.int .i64) b .no] (.bool (a == b)) := by
  refine pcOf (X := X35) (d := 0) rfl FN35 (by kernel_rfl) (by decide) (E35 a b ⟨fun h => ?_, fun h => ?_⟩)
  · have hne : a ≠ b := by rintro rfl; simp at h
    exact retB (by simpa using hne)
  · have hl : a.length = b.length := by
      have : (a.length : Int) = b.length := by simpa using h
      omega
    refine Loops.intro (fun n : Nat => S35_0 a b n ⟨0, []⟩) (fun n => n ≤ a.length ∧ a.take n = b.take n) (fun n => a.length - n) 0 rfl ⟨Nat.zero_le _, rfl⟩ ?_
    rintro n ⟨hn, ht⟩
    refine L35_0 a b n ⟨0, []⟩ ⟨fun h => ?_, fun h => ?_⟩
    · have hlt : n < a.length := by simpa using h
      refine ⟨by omega, by omega, by omega, by omega, fun h => ?_, fun h => ?_⟩
      · have hne : a ≠ b := by rintro rfl; simp at h
        exact retB (by simpa using hne)
      · rw [wrap64 (by omega) (by omega)]
        refine Again.mk (n + 1) rfl ⟨by omega, beq_take_succ (d := 0) ht hlt (by omega) ?_⟩ (by omega)
        rw [Int.toNat_natCast] at h
        have : a.getD n 0 = b.getD n 0 := by simpa using h
        rw [this]; exact beq_self_eq_true _
    · have hge : n = a.length := by
        have : ¬ ((n : Int) < a.length) := by simpa using h
        omega
      have : a = b := by
        rw [hge, List.take_length] at ht
        rw [hl, List.take_length] at ht
        exact ht
      subst this
      exact retB (by simp)

/-! the examples -/

def P1 : PD := ⟨[(5, (1, 1, 1, []))], [], 1⟩
def P2 : PD := ⟨[(5, (1, 2, 1, []))], [], 1⟩
def P3 : PD := ⟨[(5, (1, 2, 1, [2]))], [(2, 5)], 1⟩
def P4 : PD := ⟨[(5, (1, 2, 1, [2, 3]))], [(2, 5), (3, 5)], 1⟩
def P5 : PD := ⟨[(5, (1, 1, 1, [2, 3]))], [(2, 5), (3, 5)], 1⟩
def P6 : PD := ⟨[(5, (2, 1, 2, [3]))], [(3, 5)], 2⟩
def P7 : PD := ⟨[(5, (3, 1, 3, []))], [], 3⟩

theorem no_wait {p : PD} {th : Int} (h : mfind (eqN th) p.ws = none) : ¬ ∃ v, mfind (eqN th) p.ws = some v ∧ 0 < v := by
  rintro ⟨v, hv, _⟩
  rw [h] at hv; cases hv

theorem e1 : enterP ⟨[], [], 0⟩ 5 1 = ((true, 0), P1) := by
  unfold enterP; rw [if_neg (by decide), if_neg (no_wait rfl)]; rfl
theorem e2 : enterP P1 5 1 = ((true, 0), P2) := by
  unfold enterP; rw [if_neg (by decide), if_neg (no_wait rfl)]; rfl
theorem e3 : enterP P2 5 2 = ((false, 0), P3) := by
  unfold enterP; rw [if_neg (by decide), if_neg (no_wait rfl)]; rfl
theorem e4 : enterP P3 5 3 = ((false, 0), P4) := by
  unfold enterP; rw [if_neg (by decide), if_neg (no_wait rfl)]; rfl
theorem e5 : enterP P4 6 2 = ((false, 25), P4) := by
  unfold enterP; rw [if_neg (by decide), if_pos ⟨5, rfl, by decide⟩]
theorem e6 : exitP P4 5 1 = ((0, 0), P5) := rfl
theorem e7 : exitP P5 5 1 = ((2, 0), P6) := rfl
theorem e8 : exitP P6 5 1 = ((0, 25), P6) := rfl
theorem e9 : nextP P6 5 = (3, P7) := rfl

theorem shortOf {p : PD} (h : (p.es.all fun e => decide (e.2.2.2.2.length ≤ 1000000)) = true) : short p := fun e he => of_decide_eq_true (List.all_eq_true.1 h e he)

theorem MGoes.at {X : XH} {t : Nat} {d : MD} {X' : XH} {p : PD} (h : MGoes X t d X' p) : ∃ d', MRep X' t d' ∧ d'.p = p := let ⟨d', h1, _, h3⟩ := h; ⟨d', h1, h3⟩

/-- shown -/
theorem p28 : PC Try.prog 28 [] (.bool true) := by
  refine lawOf (X := X28) rfl FN28 (by kernel_rfl) (by decide) (E28 (c29.mono ?_))
  rintro p1 X2 ⟨t, d, rfl, r0, _, h0⟩
  have sh : ∀ p : PD, (∀ e ∈ p.es, e.2.2.2.2.length ≤ 1000000) → short p := fun p h => h
  refine ⟨fun e => (by cases e), fun _ => ?_⟩
  refine (c31 r0 (by rw [h0]; intro e he; cases he) 5 1).mono ?_
  rintro p3 X4 ⟨hp3, hg⟩
  rw [h0, e1] at hp3 hg
  obtain ⟨d1, r1, h1⟩ := hg.at
  refine (c31 r1 (shortOf (by rw [h1]; rfl)) 5 1).mono ?_
  rintro p5 X6 ⟨hp5, hg⟩
  rw [h1, e2] at hp5 hg
  obtain ⟨d2, r2, h2⟩ := hg.at
  refine (c31 r2 (shortOf (by rw [h2]; rfl)) 5 2).mono ?_
  rintro p7 X8 ⟨hp7, hg⟩
  rw [h2, e3] at hp7 hg
  obtain ⟨d3, r3, h3⟩ := hg.at
  refine (c31 r3 (shortOf (by rw [h3]; rfl)) 5 3).mono ?_
  rintro p9 X10 ⟨hp9, hg⟩
  rw [h3, e4] at hp9 hg
  obtain ⟨d4, r4, h4⟩ := hg.at
  refine (c31 r4 (shortOf (by rw [h4]; rfl)) 6 2).mono ?_
  rintro p11 X12 ⟨hp11, hg⟩
  rw [h4, e5] at hp11 hg
  obtain ⟨d5, r5, h5⟩ := hg.at
  subst hp3 hp5 hp7 hp9 hp11
  refine ⟨fun e => absurd e (by decide), fun _ => ⟨fun e => absurd e (by decide), fun _ => ⟨fun e => absurd e (by decide), fun _ => ⟨fun e => absurd e (by decide), fun _ => ⟨fun e => absurd e (by decide), fun _ => ⟨fun e => absurd e (by decide), fun _ =>
    ⟨fun e => absurd e (by decide), fun _ => ⟨fun e => absurd e (by decide), fun _ => ⟨fun e => absurd e (by decide), fun _ => ?_⟩⟩⟩⟩⟩⟩⟩⟩⟩
  refine (c33 r5 (shortOf (by rw [h5]; rfl)) 5 1).mono ?_
  rintro p13 X14 ⟨hp13, hg⟩
  rw [h5, e6] at hp13 hg
  obtain ⟨d6, r6, h6⟩ := hg.at
  refine ⟨_, c38 r6 5, (c33 r6 (shortOf (by rw [h6]; rfl)) 5 1).mono ?_⟩
  rintro p16 X17 ⟨hp16, hg⟩
  rw [h6, e7] at hp16 hg
  obtain ⟨d7, r7, h7⟩ := hg.at
  have hs7 : short d7.p := shortOf (by rw [h7]; rfl)
  refine ⟨_, c38 r7 5, _, c40 r7 hs7 5, _, p35 _ [3] (by rw [h7]; show 1 ≤ 9223372036854775807; omega), (c33 r7 hs7 5 1).mono ?_⟩
  rintro p21 X22 ⟨hp21, hg⟩
  rw [h7, e8] at hp21 hg
  obtain ⟨d8, r8, h8⟩ := hg.at
  refine (c36p (o := 5) (l := (2, 1, 2, [3])) r8 (shortOf (by rw [h8]; rfl)) (by rw [h8]; rfl) (by rw [h8]; rfl) rfl (by decide)).mono ?_
  rintro p23 X24 ⟨hp23, hg⟩
  rw [h8, e9] at hp23 hg
  obtain ⟨d9, r9, h9⟩ := hg.at
  have hheld : heldP d9.p = [5] := by unfold heldP; rw [h9]; simp [P7]
  have c := c42 r9 (by rw [h9]; decide) (by rw [h9]; show 1 < 2000000; omega)
  rw [hheld] at c
  subst hp13 hp16 hp21 hp23
  rw [h6, h7]
  refine ⟨_, p35 _ [3] (by decide), [5], c, _, p35 [5] [5] (by decide), fun _ => ⟨fun _ => ⟨fun _ => ⟨fun _ => ⟨fun _ => ⟨fun _ => ⟨fun _ => ⟨fun _ => ⟨fun _ => ⟨fun _ => ⟨fun _ => ⟨rfl, rfl⟩, fun e => absurd e (by decide)⟩, fun e => absurd e (by decide)⟩, fun e => absurd e (by decide)⟩, fun e => absurd e (by decide)⟩, fun e => absurd e (by decide)⟩,
    fun e => absurd e (by decide)⟩, fun e => absurd e (by decide)⟩, fun e => absurd e (by decide)⟩, fun e => absurd e (by decide)⟩, fun e => absurd e (by decide)⟩, fun e => absurd e (by decide)⟩

end Go.Proofs.Ytefpoodhdfggdaa.AB

set_option linter.unusedVariables false
set_option linter.unusedSimpArgs false
set_option maxRecDepth 100000
set_option maxHeartbeats 2000000
namespace Go.Proofs.Ytefpoodhdfggdaa.AB
open Go
/-! crucible/cruciblelaw17.MonitorTimes -/
noncomputable def X11 : Cx := ⟨tt, [(28, [.cd .bool]), (30, [.cd (.int .i64)])], [(29, [(.ref cmonitor_Table)]), (31, [(.pure .bool), (.pure (.int .i64))]), (33, [(.pure (.int .i64)), (.pure (.int .i64))]), (36, [(.pure (.slice (.int .i64)))]), (38, [(.pure (.int .i64)), (.pure (.int .i64))])], [(11, [(4, 0, .xc), (13, 3, .xc), (14, 2, .rd), (17, 4, .xc), (21, 2, .xc), (22, 2, .rd), (27, 3, .xc), (30, 3, .xc), (31, 3, .xc)])], [(11, [(0, mkM 173 0 [0, 1, 3, 9, 10, 11, 12], 0), (2, mkM 173 0 [0, 1, 9, 10, 22], 0)])], []⟩
theorem FN11 : fnsB Try.prog X11.fns := (show True from trivial)
def M11_0 : List Bool × Nat := (mkM 173 0 [0, 1, 3, 9, 10, 11, 12], 1)
def S11_0 (object0 : Int) (thread1 : Int) (leave3 : Bool) (head9 : Bool) (t10 : Option Nat) (n11 : Int) (i12 : Int) (hq0 : XH) (T : Toks) : St :=
  mkS 173 [(0, (.v (.int .i64 object0))), (1, (.v (.int .i64 thread1))), (3, (.v (.bool leave3))), (9, (.v (.bool head9))), (10, (.ref t10 cmonitor_Table 0 [])), (11, (.v (.int .i64 n11))), (12, (.v (.int .i64 i12)))] [(some (.heap hq0))] T
noncomputable def B11_0 : (Exit → St → Prop) → St → Prop := (awp X11.tt (callN Try.prog X11 0) (X11.md 11) 1 (X11.mk1 11) 0 (codeAt [1, 1, 1, 1, 1, 1, 1, 1, 0, 1, 0, 0] (bd Try.f11)))
def M11_2 : List Bool × Nat := (mkM 173 0 [0, 1, 9, 10, 22], 1)
def S11_2 (object0 : Int) (thread1 : Int) (head9 : Bool) (t10 : Option Nat) (i22 : Int) (hq0 : XH) (T : Toks) : St :=
  mkS 173 [(0, (.v (.int .i64 object0))), (1, (.v (.int .i64 thread1))), (9, (.v (.bool head9))), (10, (.ref t10 cmonitor_Table 0 [])), (22, (.v (.int .i64 i22)))] [(some (.heap hq0))] T
noncomputable def B11_2 : (Exit → St → Prop) → St → Prop := (awp X11.tt (callN Try.prog X11 0) (X11.md 11) 1 (X11.mk1 11) 2 (codeAt [1, 1, 1, 1, 1, 1, 1, 1, 1, 1, 1, 1, 0, 1, 0, 0] (bd Try.f11)))
noncomputable def K11_0 (R : V → Prop) : Exit → St → Prop := seqK ((awp X11.tt (callN Try.prog X11 0) (X11.md 11) 1 (X11.mk1 11) 0 (codeAt [1, 1, 1, 1, 1, 1, 1, 1, 1] (bd Try.f11))) (retK tt Try.f11.results.toList fun x s' => topK R x ⟨[], s'.hp, s'.T⟩)) (retK tt Try.f11.results.toList fun x s' => topK R x ⟨[], s'.hp, s'.T⟩)
noncomputable def Q11_0 (R : V → Prop) : Exit → St → Prop := (blockK 0 (K11_0 R))
noncomputable def K11_1 (R : V → Prop) : Exit → St → Prop := seqK ((awp X11.tt (callN Try.prog X11 0) (X11.md 11) 1 (X11.mk1 11) 0 (codeAt [1, 1, 1, 1, 1, 1, 1, 1, 1, 1, 1, 1, 1] (bd Try.f11))) (retK tt Try.f11.results.toList fun x s' => topK R x ⟨[], s'.hp, s'.T⟩)) (retK tt Try.f11.results.toList fun x s' => topK R x ⟨[], s'.hp, s'.T⟩)
noncomputable def Q11_2 (R : V → Prop) : Exit → St → Prop := (blockK 2 (K11_1 R))
theorem E11 (object0 : Int) (thread1 : Int) (times2 : Int) (leave3 : Bool) {R : V → Prop} (h : (∃ p1 : Bool, PC Try.prog 28 [] (.bool p1) ∧ (((!p1) = true → R (.bool false)) ∧
 ((!p1) = false → (XC Try.prog 29 [(.ref cmonitor_Table)] [] XH.none (fun (p2 : (Option Nat)) (X3 : XH) => (((Option.isNone p2) = true → R (.bool false)) ∧
 ((Option.isNone p2) = false → (∃ p4 : Int, PC Try.prog 30 [(.int .i64 object0), (.int .i64 (1000 : Int))] (.int .i64 p4) ∧ (∃ p5 : Int, PC Try.prog 30 [(.int .i64 thread1), (.int .i64 (1000 : Int))] (.int .i64 p5) ∧ (∃ p6 : Int, PC Try.prog 30 [(.int .i64 times2), (.int .i64 (50 : Int))] (.int .i64 p6) ∧ (Loops B11_0 M11_0 (Q11_0 R)
  (S11_0 ((IntKind.wrap .i64 ((1 : Int) + p4))) ((IntKind.wrap .i64 ((1 : Int) + p5))) leave3 p1 p2 ((IntKind.wrap .i64 ((1 : Int) + p6))) (0 : Int) X3 ⟨0, []⟩))))))))))))) :
  fnK X11.tt (callN Try.prog X11 0) (X11.md 11) (X11.mk1 11) Try.f11 [(.v (.int .i64 object0)), (.v (.int .i64 thread1)), (.v (.int .i64 times2)), (.v (.bool leave3))] ⟨[], [some (.heap XH.none)], ⟨0, []⟩⟩ (topK R) := Eq.mp (by kernel_rfl) h
theorem L11_0 (object0 : Int) (thread1 : Int) (leave3 : Bool) (head9 : Bool) (t10 : Option Nat) (n11 : Int) (i12 : Int) (hq0 : XH) (T : Toks) {R : V → Prop} {k0 : St → Prop}
 (h : (((decide (i12 < n11)) = true → (XC Try.prog 31 [(.pure .bool), (.pure (.int .i64))] [(.ref t10 cmonitor_Table 0 []), (.v (.int .i64 object0)), (.v (.int .i64 thread1))] hq0 (fun (p7 : Bool × Int) (X8 : XH) => (∃ (p9 : Int × Int), RC Try.prog 38 [(.pure (.int .i64)), (.pure (.int .i64))] [(.ref t10 cmonitor_Table 0 []), (.v (.int .i64 object0))] X8 p9 ∧ (((!p7.1) = true → R (.bool false)) ∧ ((!p7.1) = false → (((p7.2 != (0 : Int)) = true → R (.bool false)) ∧ ((p7.2 != (0 : Int)) = false → (((p9.1 != thread1) = true → R (.bool false)) ∧ ((p9.1 != thread1) = false → (((p9.2 != (IntKind.wrap .i64 (i12 + (1 : Int)))) = true → R (.bool false)) ∧
 ((p9.2 != (IntKind.wrap .i64 (i12 + (1 : Int)))) = false → k0 (S11_0 object0 thread1 leave3 head9 t10 n11 ((IntKind.wrap .i64 (i12 + (1 : Int)))) X8 T))))))))))))) ∧
 ((decide (i12 < n11)) = false → (XC Try.prog 31 [(.pure .bool), (.pure (.int .i64))] [(.ref t10 cmonitor_Table 0 []), (.v (.int .i64 object0)), (.v (.int .i64 ((IntKind.wrap .i64 (thread1 + (1 : Int))))))] hq0 (fun (p10 : Bool × Int) (X11 : XH) => ((p10.1 = true → R (.bool false)) ∧ (p10.1 = false → (((p10.2 != (0 : Int)) = true → R (.bool false)) ∧
 ((p10.2 != (0 : Int)) = false → ((leave3 = true → (XC Try.prog 36 [(.pure (.slice (.int .i64)))] [(.ref t10 cmonitor_Table 0 []), (.v (.int .i64 thread1))] X11 (fun (p12 : (List Int)) (X13 : XH) => (∃ (p14 : Int × Int), RC Try.prog 38 [(.pure (.int .i64)), (.pure (.int .i64))] [(.ref t10 cmonitor_Table 0 []), (.v (.int .i64 object0))] X13 p14 ∧ ((head9 = true → (((((p12).length : Int) == (1 : Int)) = true → (0 ≤ (0 : Int) ∧ (0 : Int) < ((p12).length : Int) ∧ ((((p12.getD ((0 : Int)).toNat 0) == (IntKind.wrap .i64 (thread1 + (1 : Int)))) = true → (((p14.1 == (IntKind.wrap .i64 (thread1 + (1 : Int)))) = true → R (.bool ((p14.2 == (1 : Int))))) ∧ ((p14.1 == (IntKind.wrap .i64 (thread1 + (1 : Int)))) = false → R (.bool false)))) ∧ (((p12.getD ((0 : Int)).toNat 0) == (IntKind.wrap .i64 (thread1 + (1 : Int)))) = false → R (.bool false))))) ∧ ((((p12).length : Int) == (1 : Int)) = false → R (.bool false)))) ∧ (head9 = false → R (.bool false))))))) ∧
 (leave3 = false → (Loops B11_2 M11_2 (Q11_2 R)
  (S11_2 object0 thread1 head9 t10 n11 X11 T))))))))))))) :
  B11_0 (loopQ M11_0 k0 (Q11_0 R)) (S11_0 object0 thread1 leave3 head9 t10 n11 i12 hq0 T) := Eq.mp (by kernel_rfl) h
theorem L11_2 (object0 : Int) (thread1 : Int) (head9 : Bool) (t10 : Option Nat) (i22 : Int) (hq0 : XH) (T : Toks) {R : V → Prop} {k2 : St → Prop}
 (h : (((decide (i22 > (1 : Int))) = true → (XC Try.prog 33 [(.pure (.int .i64)), (.pure (.int .i64))] [(.ref t10 cmonitor_Table 0 []), (.v (.int .i64 object0)), (.v (.int .i64 thread1))] hq0 (fun (p15 : Int × Int) (X16 : XH) => (((p15.1 != (0 : Int)) = true → R (.bool false)) ∧ ((p15.1 != (0 : Int)) = false → (((p15.2 != (0 : Int)) = true → R (.bool false)) ∧
 ((p15.2 != (0 : Int)) = false → k2 (S11_2 object0 thread1 head9 t10 ((IntKind.wrap .i64 (i22 - (1 : Int)))) X16 T)))))))) ∧
 ((decide (i22 > (1 : Int))) = false → (XC Try.prog 33 [(.pure (.int .i64)), (.pure (.int .i64))] [(.ref t10 cmonitor_Table 0 []), (.v (.int .i64 object0)), (.v (.int .i64 thread1))] hq0 (fun (p17 : Int × Int) (X18 : XH) => (XC Try.prog 33 [(.pure (.int .i64)), (.pure (.int .i64))] [(.ref t10 cmonitor_Table 0 []), (.v (.int .i64 object0)), (.v (.int .i64 thread1))] X18 (fun (p19 : Int × Int) (X20 : XH) => ((head9 = true → (((p17.1 == (IntKind.wrap .i64 (thread1 + (1 : Int)))) = true → (((p17.2 == (0 : Int)) = true → R (.bool ((p19.2 == (25 : Int))))) ∧ ((p17.2 == (0 : Int)) = false → R (.bool false)))) ∧ ((p17.1 == (IntKind.wrap .i64 (thread1 + (1 : Int)))) = false → R (.bool false)))) ∧ (head9 = false → R (.bool false)))))))))) :
  B11_2 (loopQ M11_2 k2 (Q11_2 R)) (S11_2 object0 thread1 head9 t10 i22 hq0 T) := Eq.mp (by kernel_rfl) h
end Go.Proofs.Ytefpoodhdfggdaa.AB

set_option linter.unusedVariables false
set_option linter.unusedSimpArgs false
namespace Go.Proofs.Ytefpoodhdfggdaa.AB
open Go

theorem mfind_one {α : Type} (o : Int) (l : α) : mfind (eqN o) [(o, l)] = some l := mfind_of (by simp) (by simp)
theorem mfind_other {α : Type} {o k : Int} (l : α) (h : k ≠ o) : mfind (eqN k) [(o, l)] = none := by
  cases hc : mfind (eqN k) [(o, l)] with
  | none => rfl
  | some a =>
    have := mfind_mem hc
    simp only [List.mem_singleton, Prod.mk.injEq] at this
    exact absurd this.1 h
theorem updK_one (o : Int) (l l' : PL) : updK [(o, l)] o l' = [(o, l')] := by simp [updK]

def pT (o th : Int) (i : Nat) : PD := ⟨[(o, (th, (i : Int), 1, []))], [], 1⟩
def qT (o th : Int) (i : Nat) : PD := ⟨[(o, (th, (i : Int), 1, [th + 1]))], [(th + 1, o)], 1⟩
def sT (o th : Int) : PD := ⟨[(o, (th + 1, 1, 2, []))], [], 2⟩

variable {o th : Int} {i : Nat}

theorem tE0 (ho : 1 ≤ o) (ht : 1 ≤ th) : enterP ⟨[], [], 0⟩ o th = ((true, 0), pT o th 1) := by
  unfold enterP; rw [if_neg (by omega), if_neg (no_wait rfl)]
  show ((true, (0 : Int)), ({ es := updK ([] ++ [(o, (0, 0, 0, []))]) o (th, 1, nextT ⟨[], [], 0⟩, []), ws := [], turn := nextT ⟨[], [], 0⟩ } : PD)) = _
  rw [List.nil_append, updK_one]; rfl

theorem tE1 (ho : 1 ≤ o) (ht : 1 ≤ th) (hi : i ≤ 100) : enterP (pT o th i) o th = ((true, 0), pT o th (i + 1)) := by
  unfold enterP; rw [if_neg (by omega), if_neg (no_wait rfl)]
  have : mfind (eqN o) (pT o th i).es = some (th, (i : Int), 1, []) := mfind_one _ _
  rw [this]
  dsimp only
  rw [if_pos rfl, wrap64 (by omega) (by omega)]
  show _ = ((true, (0 : Int)), ({ es := [(o, (th, ((i + 1 : Nat) : Int), 1, []))], ws := [], turn := 1 } : PD))
  unfold pT
  rw [updK_one]; rfl

theorem tE2 (ho : 1 ≤ o) (ht : 1 ≤ th) : enterP (pT o th i) o (th + 1) = ((false, 0), qT o th i) := by
  unfold enterP; rw [if_neg (by omega), if_neg (no_wait rfl)]
  have : mfind (eqN o) (pT o th i).es = some (th, (i : Int), 1, []) := mfind_one _ _
  rw [this]
  dsimp only
  rw [if_neg (by omega)]
  unfold pT qT
  rw [updK_one]; rfl

theorem tN : nextP (qT o th i) o = (th + 1, sT o th) := by
  unfold nextP
  have : mfind (eqN o) (qT o th i).es = some (th, (i : Int), 1, [th + 1]) := mfind_one _ _
  rw [this]
  dsimp only
  have h2 : mdel (eqN (th + 1)) [(th + 1, o)] = ([] : List (Int × Int)) := by rw [mdel_eq _ _ (by simp)]; simp [eqN_iff.2]
  unfold qT sT
  dsimp only
  rw [updK_one, updK_one, h2]; rfl

theorem tX1 (ho : 1 ≤ o) (ht : 1 ≤ th) (hi : 2 ≤ i ∧ i ≤ 100) : exitP (qT o th i) o th = ((0, 0), qT o th (i - 1)) := by
  unfold exitP; rw [if_neg (by omega)]
  have : mfind (eqN o) (qT o th i).es = some (th, (i : Int), 1, [th + 1]) := mfind_one _ _
  rw [this]
  dsimp only
  rw [if_neg (fun q => q rfl), wrap64 (by omega) (by omega), if_pos (by omega)]
  unfold qT
  dsimp only
  rw [updK_one, show (i : Int) - 1 = ((i - 1 : Nat) : Int) by omega]

theorem tX2 (ho : 1 ≤ o) (ht : 1 ≤ th) : exitP (qT o th 1) o th = ((th + 1, 0), sT o th) := by
  unfold exitP; rw [if_neg (by omega)]
  have : mfind (eqN o) (qT o th 1).es = some (th, ((1 : Nat) : Int), 1, [th + 1]) := mfind_one _ _
  rw [this]
  dsimp only
  rw [if_neg (fun q => q rfl), if_neg (by decide)]
  have h0 : ({ qT o th 1 with es := updK (qT o th 1).es o (th, IntKind.wrap .i64 (((1 : Nat) : Int) - 1), 1, [th + 1]) } : PD) = qT o th 0 := by
    unfold qT; dsimp only; rw [updK_one]; rfl
  rw [h0, tN]

theorem tX3 (ho : 1 ≤ o) (ht : 1 ≤ th) : exitP (sT o th) o th = ((0, 25), sT o th) := by
  unfold exitP; rw [if_neg (by omega)]
  have : mfind (eqN o) (sT o th).es = some (th + 1, 1, 2, []) := mfind_one _ _
  rw [this]
  dsimp only
  rw [if_pos (by omega)]

theorem tOp : ownerP (pT o th i) o = (th, (i : Int)) := by
  unfold ownerP
  have : mfind (eqN o) (pT o th i).es = some (th, (i : Int), 1, []) := mfind_one _ _
  rw [this]
theorem tOs : ownerP (sT o th) o = (th + 1, 1) := by
  unfold ownerP
  have : mfind (eqN o) (sT o th).es = some (th + 1, 1, 2, []) := mfind_one _ _
  rw [this]

set_option maxHeartbeats 1000000 in
/-- MonitorTimes -/
theorem p11 (object thread times : Int) (leave : Bool) (h1 : -9223372036854775808 ≤ object ∧ object ≤ 9223372036854775807) (h2 : -9223372036854775808 ≤ thread ∧ thread ≤ 9223372036854775807) (h3 : -9223372036854775808 ≤ times ∧ times ≤ 9223372036854775807) :
    PC Try.prog 11 [.int .i64 object, .int .i64 thread, .int .i64 times, .bool leave] (.bool true) := by
  have ho := pickR_lt object (n := 1000) (by omega)
  have ht := pickR_lt thread (n := 1000) (by omega)
  have hn := pickR_lt times (n := 50) (by omega)
  obtain ⟨o, ho'⟩ : ∃ o : Int, o = 1 + ((pickR object 1000 : Nat) : Int) := ⟨_, rfl⟩
  obtain ⟨th, ht'⟩ : ∃ o : Int, o = 1 + ((pickR thread 1000 : Nat) : Int) := ⟨_, rfl⟩
  obtain ⟨n, hn'⟩ : ∃ n, n = 1 + pickR times 50 := ⟨_, rfl⟩
  have ho1 : 1 ≤ o := by omega
  have ht1 : 1 ≤ th := by omega
  refine lawOf (X := X11) rfl FN11 (by kernel_rfl) (by decide) (E11 object thread times leave ⟨true, p28, fun e => (by cases e), fun _ => c29.mono ?_⟩)
  rintro p X3 ⟨t, d0, rfl, r0, _, hp0⟩
  refine ⟨fun e => (by cases e), fun _ => ⟨_, pick_ok object (n := 1000) h1 (by omega), _, pick_ok thread (n := 1000) h2 (by omega), _, pick_ok times (n := 50) h3 (by omega), ?_⟩⟩
  have w1 : IntKind.wrap .i64 ((1 : Int) + ((pickR object 1000 : Nat) : Int)) = o := by rw [wrap64 (by omega) (by omega)]; omega
  have w2 : IntKind.wrap .i64 ((1 : Int) + ((pickR thread 1000 : Nat) : Int)) = th := by rw [wrap64 (by omega) (by omega)]; omega
  have w3 : IntKind.wrap .i64 ((1 : Int) + ((pickR times 50 : Nat) : Int)) = (n : Int) := by rw [wrap64 (by omega) (by omega)]; omega
  rw [w1, w2, w3]
  have w4 : IntKind.wrap .i64 (th + 1) = th + 1 := wrap64 (by omega) (by omega)
  -- giving up
  have second : ∀ (Y : XH) (d : MD), MRep Y t d → d.p = qT o th n → Loops B11_2 M11_2 (Q11_2 fun v => v.norm = .bool true ∧ (V.bool true).nt = true) (S11_2 o th true (some t) (n : Int) Y ⟨0, []⟩) := by
    intro Y d r hp
    refine Loops.intro (fun q : Nat × XH => S11_2 o th true (some t) (q.1 : Int) q.2 ⟨0, []⟩) (fun q => 1 ≤ q.1 ∧ q.1 ≤ n ∧ ∃ d, MRep q.2 t d ∧ d.p = qT o th q.1) (fun q => q.1) (n, Y) rfl ⟨by omega, Nat.le_refl _, d, r, hp⟩ ?_
    rintro ⟨i, Z⟩ ⟨hi1, hi2, d, r, hp⟩
    have hi1 : 1 ≤ i := hi1
    have hi2 : i ≤ n := hi2
    have hp : d.p = qT o th i := hp
    have hs : short d.p := shortOf (by rw [hp]; rfl)
    refine L11_2 o th true (some t) i Z ⟨0, []⟩ ⟨fun e => ?_, fun e => ?_⟩
    · have e := of_decide_eq_true e
      refine (c33 r hs o th).mono ?_
      rintro p15 X16 ⟨hp15, hg⟩
      rw [hp, tX1 ho1 ht1 ⟨by omega, by omega⟩] at hp15 hg
      obtain ⟨d', r', hp'⟩ := hg.at
      subst hp15
      rw [wrap64 (by omega) (by omega)]
      exact ⟨fun e => (by simp at e), fun _ => ⟨fun e => (by simp at e), fun _ => Again.mk (i - 1, X16) (by show S11_2 o th true (some t) ((i : Int) - 1) X16 _ = S11_2 o th true (some t) ((i - 1 : Nat) : Int) X16 _; rw [show (i : Int) - 1 = ((i - 1 : Nat) : Int) by omega]) ⟨by show 1 ≤ i - 1; omega, by show i - 1 ≤ n; omega, d', r', hp'⟩ (show i - 1 < i by omega)⟩⟩
    · have e := of_decide_eq_false e
      have : i = 1 := by omega
      subst this
      refine (c33 r hs o th).mono ?_
      rintro p17 X18 ⟨hp17, hg⟩
      rw [hp, tX2 ho1 ht1] at hp17 hg
      obtain ⟨d', r', hp'⟩ := hg.at
      have hp' : d'.p = sT o th := hp'
      refine (c33 r' (shortOf (by rw [hp']; rfl)) o th).mono ?_
      rintro p19 X20 ⟨hp19, hg⟩
      rw [hp', tX3 ho1 ht1] at hp19 hg
      subst hp17 hp19
      rw [w4]
      exact ⟨fun _ => ⟨fun _ => ⟨fun _ => ⟨rfl, rfl⟩, fun e => (by simp at e)⟩, fun e => (by simp at e)⟩, fun e => (by cases e)⟩
  refine Loops.intro (fun q : Nat × XH => S11_0 o th leave true (some t) (n : Int) (q.1 : Int) q.2 ⟨0, []⟩) (fun q => q.1 ≤ n ∧ ∃ d, MRep q.2 t d ∧ d.p = (if q.1 = 0 then ⟨[], [], 0⟩ else pT o th q.1)) (fun q => n - q.1) (0, X3) rfl ⟨Nat.zero_le _, d0, r0, by rw [if_pos rfl]; exact hp0⟩ ?_
  rintro ⟨i, Y⟩ ⟨hi, d, r, hp⟩
  have hi : i ≤ n := hi
  have hp : d.p = (if i = 0 then ⟨[], [], 0⟩ else pT o th i) := hp
  have hs : short d.p := by
    rw [hp]
    split
    · exact shortOf rfl
    · exact shortOf rfl
  refine L11_0 o th leave true (some t) n i Y ⟨0, []⟩ ⟨fun e => ?_, fun e => ?_⟩
  · have e := of_decide_eq_true e
    have hen : enterP d.p o th = ((true, 0), pT o th (i + 1)) := by
      rw [hp]
      by_cases h0 : i = 0
      · subst h0; rw [if_pos rfl]; exact tE0 ho1 ht1
      · rw [if_neg h0]; exact tE1 ho1 ht1 (by omega)
    refine (c31 r hs o th).mono ?_
    rintro p7 X8 ⟨hp7, hg⟩
    rw [hen] at hp7 hg
    obtain ⟨d', r', hp'⟩ := hg.at
    have hp' : d'.p = pT o th (i + 1) := hp'
    subst hp7
    refine ⟨_, c38 r' o, fun e => (by simp at e), fun _ => ⟨fun e => (by simp at e), fun _ => ?_⟩⟩
    rw [hp', tOp, wrap64 (by omega) (by omega)]
    exact ⟨fun e => (by simp at e), fun _ => ⟨fun e => (by simp at e), fun _ => Again.mk (i + 1, X8) rfl ⟨by show i + 1 ≤ n; omega, d', r', by show d'.p = (if i + 1 = 0 then _ else pT o th (i + 1)); rw [if_neg (by omega)]; exact hp'⟩ (show n - (i + 1) < n - i by omega)⟩⟩
  · have e := of_decide_eq_false e
    have : i = n := by omega
    subst this
    rw [if_neg (by omega)] at hp
    rw [w4]
    refine (c31 r hs o (th + 1)).mono ?_
    rintro p10 X11 ⟨hp10, hg⟩
    rw [hp, tE2 ho1 ht1] at hp10 hg
    obtain ⟨d', r', hp'⟩ := hg.at
    have hp' : d'.p = qT o th i := hp'
    subst hp10
    refine ⟨fun e => (by simp at e), fun _ => ⟨fun e => (by simp at e), fun _ => ⟨fun e => ?_, fun e => second X11 d' r' hp'⟩⟩⟩
    refine (c36p (o := o) (l := (th, (i : Int), 1, [th + 1])) r' (shortOf (by rw [hp']; rfl)) (by rw [hp']; exact mfind_other _ (by omega)) (by rw [hp']; rfl) rfl (by omega)).mono ?_
    rintro p12 X13 ⟨hp12, hg⟩
    rw [hp', tN] at hp12 hg
    obtain ⟨d2, r2, hp2⟩ := hg.at
    have hp2 : d2.p = sT o th := hp2
    have hp12 : p12 = [th + 1] := by rw [hp12, if_pos (by show th + 1 > 0; omega)]
    subst hp12
    refine ⟨_, c38 r2 o, fun _ => ⟨fun _ => ⟨by decide, by show (0 : Int) < ((1 : Nat) : Int); omega, fun _ => ⟨fun _ => ?_, fun e => ?_⟩, fun e => ?_⟩, fun e => (by simp at e)⟩, fun e => (by cases e)⟩
    · rw [hp2, tOs]; exact ⟨rfl, rfl⟩
    · rw [hp2, tOs] at e; simp at e
    · have : ((th + 1 : Int) == th + 1) = false := e
      simp at this

theorem law_MonitorTimes (object thread times : Int) (leave : Bool) (f0 : Cd.wf (.int .i64) object) (f1 : Cd.wf (.int .i64) thread) (f2 : Cd.wf (.int .i64) times) (f3 : Cd.wf .bool leave) : PC Try.prog 11 [.int .i64 object, .int .i64 thread, .int .i64 times, .bool leave] (.bool true) :=
  p11 object thread times leave f0 f1 f2

end Go.Proofs.Ytefpoodhdfggdaa.AB

set_option linter.unusedVariables false
set_option linter.unusedSimpArgs false
set_option maxRecDepth 100000
set_option maxHeartbeats 2000000
namespace Go.Proofs.Ytefpoodhdfggdaa.AB
open Go
/-! crucible/cruciblelaw17.MonitorFair -/
noncomputable def X10 : Cx := ⟨tt, [(28, [.cd .bool]), (30, [.cd (.int .i64)])], [(29, [(.ref cmonitor_Table)]), (31, [(.pure .bool), (.pure (.int .i64))]), (33, [(.pure (.int .i64)), (.pure (.int .i64))]), (38, [(.pure (.int .i64)), (.pure (.int .i64))]), (40, [(.pure (.slice (.int .i64)))]), (42, [(.pure (.slice (.int .i64)))])], [(10, [(4, 0, .xc), (18, 3, .xc), (31, 2, .rd), (32, 13, .rd), (35, 6, .xc), (42, 2, .rd), (43, 11, .rd)])], [(10, [(0, mkM 189 0 [0, 1, 5, 6, 7, 8], 0), (2, mkM 189 0 [0, 1, 5, 6, 7, 8, 9, 10, 11], 0), (5, mkM 189 0 [0, 5, 6, 7, 14], 0), (7, mkM 189 0 [0, 5, 6, 7, 14, 16], 0)])], []⟩
theorem FN10 : fnsB Try.prog X10.fns := (show True from trivial)
def M10_0 : List Bool × Nat := (mkM 189 0 [0, 1, 5, 6, 7, 8], 1)
def S10_0 (object0 : Int) (threads1 : List Int) (head5 : Bool) (t6 : Option Nat) (order7 : List Int) (order7k : Tok) (i8 : Int) (hq0 : XH) (T : Toks) : St :=
  mkS 189 [(0, (.v (.int .i64 object0))), (1, (.v (.list (.int .i64) threads1 .no))), (5, (.v (.bool head5))), (6, (.ref t6 cmonitor_Table 0 [])), (7, (.v (.list (.int .i64) order7 order7k))), (8, (.v (.int .i64 i8)))] [(some (.heap hq0))] T
noncomputable def B10_0 : (Exit → St → Prop) → St → Prop := (awp X10.tt (callN Try.prog X10 0) (X10.md 10) 1 (X10.mk1 10) 0 (codeAt [1, 1, 1, 1, 1, 1, 1, 0, 1, 0, 0] (bd Try.f10)))
def M10_2 : List Bool × Nat := (mkM 189 0 [0, 1, 5, 6, 7, 8, 9, 10, 11], 1)
def S10_2 (object0 : Int) (threads1 : List Int) (head5 : Bool) (t6 : Option Nat) (order7 : List Int) (order7k : Tok) (i8 : Int) (n9 : Int) (known10 : Bool) (k11 : Int) (hq0 : XH) (T : Toks) : St :=
  mkS 189 [(0, (.v (.int .i64 object0))), (1, (.v (.list (.int .i64) threads1 .no))), (5, (.v (.bool head5))), (6, (.ref t6 cmonitor_Table 0 [])), (7, (.v (.list (.int .i64) order7 order7k))), (8, (.v (.int .i64 i8))), (9, (.v (.int .i64 n9))), (10, (.v (.bool known10))), (11, (.v (.int .i64 k11)))] [(some (.heap hq0))] T
noncomputable def B10_2 : (Exit → St → Prop) → St → Prop := (awp X10.tt (callN Try.prog X10 0) (X10.md 10) 1 (X10.mk1 10) 2 (codeAt [1, 1, 1, 1, 1, 1, 1, 0, 1, 0, 0, 1, 0, 0, 1, 1, 0, 1, 0, 0] (bd Try.f10)))
def M10_5 : List Bool × Nat := (mkM 189 0 [0, 5, 6, 7, 14], 1)
def S10_5 (object0 : Int) (head5 : Bool) (t6 : Option Nat) (order7 : List Int) (order7k : Tok) (i14 : Int) (hq0 : XH) (T : Toks) : St :=
  mkS 189 [(0, (.v (.int .i64 object0))), (5, (.v (.bool head5))), (6, (.ref t6 cmonitor_Table 0 [])), (7, (.v (.list (.int .i64) order7 order7k))), (14, (.v (.int .i64 i14)))] [(some (.heap hq0))] T
noncomputable def B10_5 : (Exit → St → Prop) → St → Prop := (awp X10.tt (callN Try.prog X10 0) (X10.md 10) 1 (X10.mk1 10) 5 (codeAt [1, 1, 1, 1, 1, 1, 1, 1, 0, 1, 0, 0] (bd Try.f10)))
def M10_7 : List Bool × Nat := (mkM 189 0 [0, 5, 6, 7, 14, 16], 1)
def S10_7 (object0 : Int) (head5 : Bool) (t6 : Option Nat) (order7 : List Int) (order7k : Tok) (i14 : Int) (times16 : Int) (hq0 : XH) (T : Toks) : St :=
  mkS 189 [(0, (.v (.int .i64 object0))), (5, (.v (.bool head5))), (6, (.ref t6 cmonitor_Table 0 [])), (7, (.v (.list (.int .i64) order7 order7k))), (14, (.v (.int .i64 i14))), (16, (.v (.int .i64 times16)))] [(some (.heap hq0))] T
noncomputable def B10_7 : (Exit → St → Prop) → St → Prop := (awp X10.tt (callN Try.prog X10 0) (X10.md 10) 1 (X10.mk1 10) 7 (codeAt [1, 1, 1, 1, 1, 1, 1, 1, 0, 1, 0, 0, 1, 0, 0, 1, 1, 0, 0] (bd Try.f10)))
noncomputable def K10_0 (R : V → Prop) : Exit → St → Prop := seqK ((awp X10.tt (callN Try.prog X10 0) (X10.md 10) 1 (X10.mk1 10) 0 (codeAt [1, 1, 1, 1, 1, 1, 1, 1] (bd Try.f10))) (retK tt Try.f10.results.toList fun x s' => topK R x ⟨[], s'.hp, s'.T⟩)) (retK tt Try.f10.results.toList fun x s' => topK R x ⟨[], s'.hp, s'.T⟩)
noncomputable def Q10_0 (R : V → Prop) : Exit → St → Prop := (blockK 0 (K10_0 R))
noncomputable def K10_1 (R : V → Prop) : Exit → St → Prop := seqK ((awp X10.tt (callN Try.prog X10 0) (X10.md 10) 1 (X10.mk1 10) 0 (codeAt [1, 1, 1, 1, 1, 1, 1, 1, 1] (bd Try.f10))) (retK tt Try.f10.results.toList fun x s' => topK R x ⟨[], s'.hp, s'.T⟩)) (retK tt Try.f10.results.toList fun x s' => topK R x ⟨[], s'.hp, s'.T⟩)
noncomputable def Q10_5 (R : V → Prop) : Exit → St → Prop := (blockK 5 (K10_1 R))
noncomputable def K10_2 (R : V → Prop) (k5 : St → Prop) : Exit → St → Prop := seqK ((awp X10.tt (callN Try.prog X10 0) (X10.md 10) 1 (X10.mk1 10) 5 (codeAt [1, 1, 1, 1, 1, 1, 1, 1, 0, 1, 0, 0, 1, 1] (bd Try.f10))) (loopQ M10_5 k5 (blockK 5 (K10_1 R)))) (loopQ M10_5 k5 (blockK 5 (K10_1 R)))
noncomputable def Q10_7 (R : V → Prop) (k5 : St → Prop) : Exit → St → Prop := (blockK 7 (blockK 6 (K10_2 R k5)))
noncomputable def K10_3 (R : V → Prop) (k0 : St → Prop) : Exit → St → Prop := seqK ((awp X10.tt (callN Try.prog X10 0) (X10.md 10) 1 (X10.mk1 10) 0 (codeAt [1, 1, 1, 1, 1, 1, 1, 0, 1, 0, 0, 1, 1] (bd Try.f10))) (loopQ M10_0 k0 (blockK 0 (K10_0 R)))) (loopQ M10_0 k0 (blockK 0 (K10_0 R)))
noncomputable def K10_4 (R : V → Prop) (k0 : St → Prop) : Exit → St → Prop := seqK ((awp X10.tt (callN Try.prog X10 0) (X10.md 10) 1 (X10.mk1 10) 1 (codeAt [1, 1, 1, 1, 1, 1, 1, 0, 1, 0, 0, 1, 0, 0, 1, 1, 1] (bd Try.f10))) (blockK 1 (K10_3 R k0))) (blockK 1 (K10_3 R k0))
noncomputable def Q10_2 (R : V → Prop) (k0 : St → Prop) : Exit → St → Prop := (blockK 2 (K10_4 R k0))
theorem E10 (object0 : Int) (threads1 : (List Int)) {R : V → Prop} (h : (∃ p1 : Bool, PC Try.prog 28 [] (.bool p1) ∧ (((!p1) = true → R (.bool false)) ∧
 ((!p1) = false → (XC Try.prog 29 [(.ref cmonitor_Table)] [] XH.none (fun (p2 : (Option Nat)) (X3 : XH) => (((Option.isNone p2) = true → R (.bool false)) ∧
 ((Option.isNone p2) = false → (∃ p4 : Int, PC Try.prog 30 [(.int .i64 object0), (.int .i64 (1000 : Int))] (.int .i64 p4) ∧ (Loops B10_0 M10_0 (Q10_0 R)
  (S10_0 ((IntKind.wrap .i64 ((1 : Int) + p4))) threads1 p1 p2 ([] : List Int) .exact (0 : Int) X3 ⟨0, []⟩))))))))))) :
  fnK X10.tt (callN Try.prog X10 0) (X10.md 10) (X10.mk1 10) Try.f10 [(.v (.int .i64 object0)), (.v (.list (.int .i64) threads1 .no))] ⟨[], [some (.heap XH.none)], ⟨0, []⟩⟩ (topK R) := Eq.mp (by kernel_rfl) h
theorem L10_0 (object0 : Int) (threads1 : List Int) (head5 : Bool) (t6 : Option Nat) (order7 : List Int) (order7k : Tok) (i8 : Int) (hq0 : XH) (T : Toks) {R : V → Prop} {k0 : St → Prop}
 (h : (((decide (i8 < ((threads1).length : Int))) = true → (((decide (i8 < (60 : Int))) = true → (0 ≤ i8 ∧ i8 < ((threads1).length : Int) ∧ (∃ p5 : Int, PC Try.prog 30 [(.int .i64 ((threads1.getD (i8).toNat 0))), (.int .i64 (40 : Int))] (.int .i64 p5) ∧ (Loops B10_2 M10_2 (Q10_2 R k0)
  (S10_2 object0 threads1 head5 t6 order7 order7k i8 ((IntKind.wrap .i64 ((1 : Int) + p5))) false (0 : Int) hq0 T))))) ∧
 ((decide (i8 < (60 : Int))) = false → (Loops B10_5 M10_5 (Q10_5 R)
  (S10_5 object0 head5 t6 order7 order7k (0 : Int) hq0 T))))) ∧ ((decide (i8 < ((threads1).length : Int))) = false → (Loops B10_5 M10_5 (Q10_5 R)
  (S10_5 object0 head5 t6 order7 order7k (0 : Int) hq0 T))))) :
  B10_0 (loopQ M10_0 k0 (Q10_0 R)) (S10_0 object0 threads1 head5 t6 order7 order7k i8 hq0 T) := Eq.mp (by kernel_rfl) h
theorem L10_2 (object0 : Int) (threads1 : List Int) (head5 : Bool) (t6 : Option Nat) (order7 : List Int) (order7k : Tok) (i8 : Int) (n9 : Int) (known10 : Bool) (k11 : Int) (hq0 : XH) (T : Toks) {R : V → Prop} {k0 : St → Prop} {k2 : St → Prop}
 (h : (((decide (k11 < ((order7).length : Int))) = true → ((known10 = true → k2 (S10_2 object0 threads1 head5 t6 order7 order7k i8 n9 true ((IntKind.wrap .i64 (k11 + (1 : Int)))) hq0 T)) ∧ (known10 = false → (0 ≤ k11 ∧ k11 < ((order7).length : Int) ∧ k2 (S10_2 object0 threads1 head5 t6 order7 order7k i8 n9 (((order7.getD (k11).toNat 0) == n9)) ((IntKind.wrap .i64 (k11 + (1 : Int)))) hq0 T))))) ∧
 ((decide (k11 < ((order7).length : Int))) = false → (XC Try.prog 31 [(.pure .bool), (.pure (.int .i64))] [(.ref t6 cmonitor_Table 0 []), (.v (.int .i64 object0)), (.v (.int .i64 n9))] hq0 (fun (p6 : Bool × Int) (X7 : XH) => (((!known10) = true → (((p6.2 != (0 : Int)) = true → R (.bool false)) ∧ ((p6.2 != (0 : Int)) = false → (((!(p6.1 == (((order7).length : Int) == (0 : Int)))) = true → R (.bool false)) ∧
 ((!(p6.1 == (((order7).length : Int) == (0 : Int)))) = false → (Tok.own order7k T.l ∧ ((order7).length + (([n9] : List Int)).length) * 8 ≤ room ∧ k0 (S10_0 object0 threads1 head5 t6 ((order7 ++ ([n9] : List Int))) (.tk T.n) ((IntKind.wrap .i64 (i8 + (1 : Int)))) X7 ⟨(T.n + 1), (T.n :: Tok.drop order7k T.l)⟩))))))) ∧
 ((!known10) = false → (0 ≤ (0 : Int) ∧ (0 : Int) < ((order7).length : Int) ∧ ((((order7.getD ((0 : Int)).toNat 0) == n9) = true → (((p6.2 != (0 : Int)) = true → R (.bool false)) ∧ ((p6.2 != (0 : Int)) = false → (((!p6.1) = true → R (.bool false)) ∧
 ((!p6.1) = false → k0 (S10_0 object0 threads1 head5 t6 order7 order7k ((IntKind.wrap .i64 (i8 + (1 : Int)))) X7 T)))))) ∧
 (((order7.getD ((0 : Int)).toNat 0) == n9) = false → (((p6.2 != (25 : Int)) = true → R (.bool false)) ∧
 ((p6.2 != (25 : Int)) = false → k0 (S10_0 object0 threads1 head5 t6 order7 order7k ((IntKind.wrap .i64 (i8 + (1 : Int)))) X7 T))))))))))))) :
  B10_2 (loopQ M10_2 k2 (Q10_2 R k0)) (S10_2 object0 threads1 head5 t6 order7 order7k i8 n9 known10 k11 hq0 T) := Eq.mp (by kernel_rfl) h
theorem L10_5 (object0 : Int) (head5 : Bool) (t6 : Option Nat) (order7 : List Int) (order7k : Tok) (i14 : Int) (hq0 : XH) (T : Toks) {R : V → Prop} {k5 : St → Prop}
 (h : (((decide (i14 < ((order7).length : Int))) = true → (∃ (p8 : Int × Int), RC Try.prog 38 [(.pure (.int .i64)), (.pure (.int .i64))] [(.ref t6 cmonitor_Table 0 []), (.v (.int .i64 object0))] hq0 p8 ∧ (0 ≤ i14 ∧ i14 < ((order7).length : Int) ∧ (((p8.1 != (order7.getD (i14).toNat 0)) = true → R (.bool false)) ∧ ((p8.1 != (order7.getD (i14).toNat 0)) = false → (((decide (p8.2 < (1 : Int))) = true → R (.bool false)) ∧ ((decide (p8.2 < (1 : Int))) = false → (∃ (p9 : (List Int)), RC Try.prog 40 [(.pure (.slice (.int .i64)))] [(.ref t6 cmonitor_Table 0 []), (.v (.int .i64 object0))] hq0 p9 ∧ (((((p9).length : Int) != (IntKind.wrap .i64 ((IntKind.wrap .i64 (((order7).length : Int) - i14)) - (1 : Int)))) = true → R (.bool false)) ∧
 ((((p9).length : Int) != (IntKind.wrap .i64 ((IntKind.wrap .i64 (((order7).length : Int) - i14)) - (1 : Int)))) = false → (Loops B10_7 M10_7 (Q10_7 R k5)
  (S10_7 object0 head5 t6 order7 order7k i14 p8.2 hq0 T)))))))))))) ∧
 ((decide (i14 < ((order7).length : Int))) = false → (∃ (p10 : Int × Int), RC Try.prog 38 [(.pure (.int .i64)), (.pure (.int .i64))] [(.ref t6 cmonitor_Table 0 []), (.v (.int .i64 object0))] hq0 p10 ∧ ((head5 = true → (((p10.1 == (0 : Int)) = true → (((p10.2 == (0 : Int)) = true → (∃ (p11 : (List Int)), RC Try.prog 42 [(.pure (.slice (.int .i64)))] [(.ref t6 cmonitor_Table 0 [])] hq0 p11 ∧ R (.bool ((((p11).length : Int) == (0 : Int)))))) ∧ ((p10.2 == (0 : Int)) = false → R (.bool false)))) ∧ ((p10.1 == (0 : Int)) = false → R (.bool false)))) ∧ (head5 = false → R (.bool false))))))) :
  B10_5 (loopQ M10_5 k5 (Q10_5 R)) (S10_5 object0 head5 t6 order7 order7k i14 hq0 T) := Eq.mp (by kernel_rfl) h
theorem L10_7 (object0 : Int) (head5 : Bool) (t6 : Option Nat) (order7 : List Int) (order7k : Tok) (i14 : Int) (times16 : Int) (hq0 : XH) (T : Toks) {R : V → Prop} {k5 : St → Prop} {k7 : St → Prop}
 (h : (((decide (times16 > (0 : Int))) = true → (0 ≤ i14 ∧ i14 < ((order7).length : Int) ∧ (XC Try.prog 33 [(.pure (.int .i64)), (.pure (.int .i64))] [(.ref t6 cmonitor_Table 0 []), (.v (.int .i64 object0)), (.v (.int .i64 ((order7.getD (i14).toNat 0))))] hq0 (fun (p12 : Int × Int) (X13 : XH) => ((((IntKind.wrap .i64 (times16 - (1 : Int))) == (0 : Int)) = true → (((decide ((IntKind.wrap .i64 (i14 + (1 : Int))) < ((order7).length : Int))) = true → (0 ≤ (IntKind.wrap .i64 (i14 + (1 : Int))) ∧ (IntKind.wrap .i64 (i14 + (1 : Int))) < ((order7).length : Int) ∧ (((p12.2 != (0 : Int)) = true → R (.bool false)) ∧ ((p12.2 != (0 : Int)) = false → (((p12.1 != (order7.getD ((IntKind.wrap .i64 (i14 + (1 : Int)))).toNat 0)) = true → R (.bool false)) ∧
 ((p12.1 != (order7.getD ((IntKind.wrap .i64 (i14 + (1 : Int)))).toNat 0)) = false → k7 (S10_7 object0 head5 t6 order7 order7k i14 ((IntKind.wrap .i64 (times16 - (1 : Int)))) X13 T))))))) ∧
 ((decide ((IntKind.wrap .i64 (i14 + (1 : Int))) < ((order7).length : Int))) = false → (((p12.2 != (0 : Int)) = true → R (.bool false)) ∧ ((p12.2 != (0 : Int)) = false → (((p12.1 != (0 : Int)) = true → R (.bool false)) ∧
 ((p12.1 != (0 : Int)) = false → k7 (S10_7 object0 head5 t6 order7 order7k i14 ((IntKind.wrap .i64 (times16 - (1 : Int)))) X13 T)))))))) ∧ (((IntKind.wrap .i64 (times16 - (1 : Int))) == (0 : Int)) = false → (((p12.2 != (0 : Int)) = true → R (.bool false)) ∧ ((p12.2 != (0 : Int)) = false → (((p12.1 != (0 : Int)) = true → R (.bool false)) ∧
 ((p12.1 != (0 : Int)) = false → k7 (S10_7 object0 head5 t6 order7 order7k i14 ((IntKind.wrap .i64 (times16 - (1 : Int)))) X13 T))))))))))) ∧
 ((decide (times16 > (0 : Int))) = false → k5 (S10_5 object0 head5 t6 order7 order7k ((IntKind.wrap .i64 (i14 + (1 : Int)))) hq0 T)))) :
  B10_7 (loopQ M10_7 k7 (Q10_7 R k5)) (S10_7 object0 head5 t6 order7 order7k i14 times16 hq0 T) := Eq.mp (by kernel_rfl) h
end Go.Proofs.Ytefpoodhdfggdaa.AB

