/- Parts of the proof: what functions of the program compute, on plain values. -/
import Derived.Shelf.SlIterI.Nil
import Derived.Shelf.SortM.Plain
import Derived.Shelf.SortM.SortNone
import Derived.Ground.GgzProg
import Derived.Ground.SlgmProg
import Derived.Test.YtdcljlafookliaaDoorProg
import Derived.Test.YtdcljlafookliaaDoorABx4
import Derived.KernelRfl
import Derived.Lib.Overlaps
set_option linter.unusedVariables false
set_option linter.unusedSimpArgs false
namespace Go.Proofs.YtdcljlafookliaaDoor.AB
open Go Go.Proofs Go.RowKit Go.Maps Go.Sort Go.Shelf

def keysL_ren : Ren :=
  {
  f := fun x =>
    match x with
    | 7 => 53
    | 10 => 61
    | n => n,
  t := fun x =>
    match x with
    | 23 => 89
    | 26 => 3
    | 3 => 3
    | 28 => 110
    | 0 => 0
    | 27 => 109
    | 33 => 84
    | 4 => 4
    | n => n,
  g := fun x =>
    x }

set_option maxRecDepth 100000 in
theorem keysL : SlLaysZI.n7 Tryd.prog keysL_ren :=
  { mixed := by kernel_rfl,f7 := Exists.intro "maps.Keys[map[int]int,int,int]" ⟨of_decide_eq_true (by kernel_rfl),Eq.trans Tryd.func53 (congrArg some (by kernel_rfl))⟩,f10 := Exists.intro "maps.Keys[map[int]int,int,int]$1" ⟨of_decide_eq_true (by kernel_rfl),Eq.trans Tryd.func61 (congrArg some (by kernel_rfl))⟩,t0 := Tryd.underlying0,a0 := Tryd.isAgg0,z0 := Tryd.sizeOf0,v0 := Tryd.zeroValue0,t4 := Tryd.underlying4,a4 := Tryd.isAgg4,z4 := Tryd.sizeOf4,v4 := Tryd.zeroValue4,t23 := Tryd.underlying89,a23 := Tryd.isAgg89,z23 := Tryd.sizeOf89,v23 := Tryd.zeroValue89,t26 := Tryd.underlying3,a26 := Tryd.isAgg3,z26 := Tryd.sizeOf3,v26 := Tryd.zeroValue3,t27 := Tryd.underlying109,a27 := Tryd.isAgg109,z27 := Tryd.sizeOf109,v27 := Tryd.zeroValue109,t28 := Tryd.underlying110,a28 := Tryd.isAgg110,z28 := Tryd.sizeOf110,v28 := Tryd.zeroValue110,t33 := Tryd.underlying84,a33 := Tryd.isAgg84,z33 := Tryd.sizeOf84,v33 := Tryd.zeroValue84 }

def sortedL_ren : Ren :=
  {
  f := fun x =>
    match x with
    | 6 => 52
    | 8 => 59
    | 9 => 60
    | 11 => 67
    | 13 => 54
    | 12 => 68
    | 23 => 62
    | 24 => 63
    | 14 => 70
    | 15 => 71
    | 16 => 72
    | 17 => 73
    | 18 => 74
    | 19 => 75
    | 20 => 76
    | 21 => 77
    | 22 => 78
    | 25 => 80
    | 26 => 81
    | 27 => 82
    | 28 => 83
    | 29 => 84
    | 30 => 85
    | 31 => 86
    | n => n,
  t := fun x =>
    match x with
    | 26 => 3
    | 28 => 110
    | 24 => 34
    | 0 => 0
    | 3 => 3
    | 37 => 104
    | 48 => 105
    | 50 => 117
    | 4 => 4
    | 40 => 129
    | 39 => 128
    | 45 => 38
    | 5 => 5
    | 9 => 9
    | 51 => 135
    | 55 => 139
    | 57 => 141
    | 58 => 55
    | 33 => 84
    | n => n,
  g := fun x =>
    x }

set_option maxRecDepth 100000 in
theorem sortedL : SlLaysZI.n6 Tryd.prog sortedL_ren :=
  { mixed := by kernel_rfl,f6 := Exists.intro "slices.Sorted[int]" ⟨of_decide_eq_true (by kernel_rfl),Eq.trans Tryd.func52 (congrArg some (by kernel_rfl))⟩,f8 := Exists.intro "slices.Collect[int]" ⟨of_decide_eq_true (by kernel_rfl),Eq.trans Tryd.func59 (congrArg some (by kernel_rfl))⟩,f11 := Exists.intro "slices.AppendSeq[[]int,int]" ⟨of_decide_eq_true (by kernel_rfl),Eq.trans Tryd.func67 (congrArg some (by kernel_rfl))⟩,t0 := Tryd.underlying0,a0 := Tryd.isAgg0,z0 := Tryd.sizeOf0,v0 := Tryd.zeroValue0,t24 := Tryd.underlying34,a24 := Tryd.isAgg34,z24 := Tryd.sizeOf34,v24 := Tryd.zeroValue34,t26 := Tryd.underlying3,a26 := Tryd.isAgg3,z26 := Tryd.sizeOf3,v26 := Tryd.zeroValue3,t28 := Tryd.underlying110,a28 := Tryd.isAgg110,z28 := Tryd.sizeOf110,v28 := Tryd.zeroValue110,i26 := Eq.refl (some (some (Value.int IntKind.i64 0),1,8)) }

def sortL_ren : Ren :=
  {
  f := fun x =>
    match x with
    | 5 => 60
    | 8 => 54
    | 7 => 68
    | 19 => 62
    | 20 => 63
    | 10 => 70
    | 11 => 71
    | 12 => 72
    | 13 => 73
    | 14 => 74
    | 15 => 75
    | 16 => 76
    | 17 => 77
    | 18 => 78
    | 30 => 80
    | 31 => 81
    | 32 => 82
    | 33 => 83
    | 34 => 84
    | 35 => 85
    | 40 => 86
    | n => n,
  t := fun x =>
    match x with
    | 23 => 34
    | 25 => 3
    | 3 => 3
    | 32 => 104
    | 22 => 34
    | 0 => 0
    | 44 => 105
    | 46 => 117
    | 4 => 4
    | 36 => 129
    | 35 => 128
    | 41 => 38
    | 5 => 5
    | 9 => 9
    | 53 => 135
    | 57 => 139
    | 63 => 141
    | 64 => 55
    | n => n,
  g := fun x =>
    x }

set_option maxRecDepth 100000 in
theorem sortL : SlLaysM.n5 Tryd.prog sortL_ren :=
  { mixed := by kernel_rfl,f5 := Exists.intro "slices.Sort[[]int,int]" ⟨of_decide_eq_true (by kernel_rfl),Eq.trans Tryd.func60 (congrArg some (by kernel_rfl))⟩,f7 := Exists.intro "slices.pdqsortOrdered[int]" ⟨of_decide_eq_true (by kernel_rfl),Eq.trans Tryd.func68 (congrArg some (by kernel_rfl))⟩,f8 := Eq.trans Tryd.func54 (congrArg some (by kernel_rfl)),f10 := Exists.intro "slices.insertionSortOrdered[int]" ⟨of_decide_eq_true (by kernel_rfl),Eq.trans Tryd.func70 (congrArg some (by kernel_rfl))⟩,f11 := Exists.intro "slices.heapSortOrdered[int]" ⟨of_decide_eq_true (by kernel_rfl),Eq.trans Tryd.func71 (congrArg some (by kernel_rfl))⟩,f12 := Exists.intro "slices.breakPatternsOrdered[int]" ⟨of_decide_eq_true (by kernel_rfl),Eq.trans Tryd.func72 (congrArg some (by kernel_rfl))⟩,f13 := Exists.intro "slices.choosePivotOrdered[int]" ⟨of_decide_eq_true (by kernel_rfl),Eq.trans Tryd.func73 (congrArg some (by kernel_rfl))⟩,f14 := Exists.intro "slices.reverseRangeOrdered[int]" ⟨of_decide_eq_true (by kernel_rfl),Eq.trans Tryd.func74 (congrArg some (by kernel_rfl))⟩,f15 := Exists.intro "slices.partialInsertionSortOrdered[int]" ⟨of_decide_eq_true (by kernel_rfl),Eq.trans Tryd.func75 (congrArg some (by kernel_rfl))⟩,f16 := Exists.intro "cmp.Less[int]" ⟨of_decide_eq_true (by kernel_rfl),Eq.trans Tryd.func76 (congrArg some (by kernel_rfl))⟩,f17 := Exists.intro "slices.partitionEqualOrdered[int]" ⟨of_decide_eq_true (by kernel_rfl),Eq.trans Tryd.func77 (congrArg some (by kernel_rfl))⟩,f18 := Exists.intro "slices.partitionOrdered[int]" ⟨of_decide_eq_true (by kernel_rfl),Eq.trans Tryd.func78 (congrArg some (by kernel_rfl))⟩,f19 := Eq.trans Tryd.func62 (congrArg some (by kernel_rfl)),f20 := Eq.trans Tryd.func63 (congrArg some (by kernel_rfl)),f30 := Exists.intro "slices.siftDownOrdered[int]" ⟨of_decide_eq_true (by kernel_rfl),Eq.trans Tryd.func80 (congrArg some (by kernel_rfl))⟩,f31 := Eq.trans Tryd.func81 (congrArg some (by kernel_rfl)),f32 := Eq.trans Tryd.func82 (congrArg some (by kernel_rfl)),f33 := Exists.intro "slices.medianAdjacentOrdered[int]" ⟨of_decide_eq_true (by kernel_rfl),Eq.trans Tryd.func83 (congrArg some (by kernel_rfl))⟩,f34 := Exists.intro "slices.medianOrdered[int]" ⟨of_decide_eq_true (by kernel_rfl),Eq.trans Tryd.func84 (congrArg some (by kernel_rfl))⟩,f35 := Exists.intro "cmp.isNaN[int]" ⟨of_decide_eq_true (by kernel_rfl),Eq.trans Tryd.func85 (congrArg some (by kernel_rfl))⟩,f40 := Exists.intro "slices.order2Ordered[int]" ⟨of_decide_eq_true (by kernel_rfl),Eq.trans Tryd.func86 (congrArg some (by kernel_rfl))⟩,t0 := Tryd.underlying0,a0 := Tryd.isAgg0,z0 := Tryd.sizeOf0,v0 := Tryd.zeroValue0,t3 := Tryd.underlying3,a3 := Tryd.isAgg3,z3 := Tryd.sizeOf3,v3 := Tryd.zeroValue3,t4 := Tryd.underlying4,a4 := Tryd.isAgg4,z4 := Tryd.sizeOf4,v4 := Tryd.zeroValue4,t5 := Tryd.underlying5,a5 := Tryd.isAgg5,z5 := Tryd.sizeOf5,v5 := Tryd.zeroValue5,t9 := Tryd.underlying9,a9 := Tryd.isAgg9,z9 := Tryd.sizeOf9,v9 := Tryd.zeroValue9,t22 := Tryd.underlying34,a22 := Tryd.isAgg34,z22 := Tryd.sizeOf34,v22 := Tryd.zeroValue34,t23 := Tryd.underlying34,a23 := Tryd.isAgg34,z23 := Tryd.sizeOf34,v23 := Tryd.zeroValue34,t25 := Tryd.underlying3,a25 := Tryd.isAgg3,z25 := Tryd.sizeOf3,v25 := Tryd.zeroValue3,t32 := Tryd.underlying104,a32 := Tryd.isAgg104,z32 := Tryd.sizeOf104,v32 := Tryd.zeroValue104,t35 := Tryd.underlying128,a35 := Tryd.isAgg128,z35 := Tryd.sizeOf128,v35 := Tryd.zeroValue128,t36 := Tryd.underlying129,a36 := Tryd.isAgg129,z36 := Tryd.sizeOf129,v36 := Tryd.zeroValue129,t41 := Tryd.underlying38,a41 := Tryd.isAgg38,z41 := Tryd.sizeOf38,v41 := Tryd.zeroValue38,t44 := Tryd.underlying105,a44 := Tryd.isAgg105,z44 := Tryd.sizeOf105,v44 := Tryd.zeroValue105,t46 := Tryd.underlying117,a46 := Tryd.isAgg117,z46 := Tryd.sizeOf117,v46 := Tryd.zeroValue117,t53 := Tryd.underlying135,a53 := Tryd.isAgg135,z53 := Tryd.sizeOf135,v53 := Tryd.zeroValue135,t57 := Tryd.underlying139,a57 := Tryd.isAgg139,z57 := Tryd.sizeOf139,v57 := Tryd.zeroValue139,t63 := Tryd.underlying141,a63 := Tryd.isAgg141,z63 := Tryd.sizeOf141,v63 := Tryd.zeroValue141,t64 := Tryd.underlying55,a64 := Tryd.isAgg55,z64 := Tryd.sizeOf55,v64 := Tryd.zeroValue55 }




theorem sortsL (m : Nat) : AnyZI.SortsIn Tryd.prog sortedL_ren Fence.wide m :=
  ⟨fun blk off cap ss W hH hblk hsz => callsIn_wide.2 (AnyM.slices_Sort_int sortL blk off cap ss W hH hblk hsz),
   fun p cap W => callsIn_wide.2 (AnyM.slices_Sort_int_none sortL p cap W)⟩

set_option maxHeartbeats 1000000 in
theorem used_calls {H : Type} (a b nn : Nat) (D0 : DataW H) (R : Value → Option (DataW H × List MemPlace)) (w : World) (hc : w.cell? ⟨a,24,none⟩ = some (.map (some b))) (hown : w.ownsMap Tryd.prog 3 R b nn D0) (hmax : Maps.size D0 ≤ maxLen)
    (hbytes : Maps.size D0 * 8 ≤ 140737488355328) :
    Calls Tryd.prog 43 #[.pointer (some ⟨a,0,none⟩)] w fun e w' => ∃ (v : Value) (ss : List Int),e = .returned v ∧ ss.Perm (intKeys D0) ∧
      w'.ownsRow w.heap.size 3 1 v ss.length ((ss.mergeSort (fun x y => decide (x ≤ y))).map encZ) ∧ Below w.heap.size w w' := by
  refine (callsIn_wide (n := 6)).1 ?_
  have hbl := hown.lt
  have hseq : SeqGives Fence.wide 2 Tryd.prog 61 #[.pointer (some ⟨w.heap.size,0,none⟩)] encZ (fun ss => ss.Perm (intKeys D0)) (Maps.size D0) (w.alloc (.cells #[.map (some b)] 89)) :=
    AnyZI.keys_gives (ρ := keysL_ren) { keysL with } Fence.wide _ trivial rfl (by omega) w.heap.size b nn D0 _ (by simp) (by simp) (by
      obtain ⟨es,clock,hb,Ft,hs,hD⟩ := hown
      exact ⟨es,clock,(Below.heap_alloc _ _ b hbl).trans hb,Ft,hs,hD⟩)
  have cK : ∀ mb W,CallsIn Fence.wide 5 Tryd.prog 53 #[.map mb] W fun e w' => e = .returned (.func (.func 61) #[] #[.pointer (some ⟨W.heap.size,0,none⟩)]) ∧ w' = W.alloc (.cells #[.map mb] 89) := fun mb W => AnyZI.keys_in keysL Fence.wide 5 trivial rfl mb W
  have cS := AnyZI.sorted_in sortedL Fence.wide 5 trivial trivial trivial trivial rfl (by omega) (sortsL _) (enters_of Tryd.func60 (by kernel_rfl) rfl) 61 #[.pointer (some ⟨w.heap.size,0,none⟩)] trivial (enters_of Tryd.func61 (by kernel_rfl) rfl) _ _ hmax hbytes _ hseq
  change CallsIn _ _ Tryd.prog 52 _ _ _ at cS
  have hfK : Fence.wide.fn 53 := trivial
  have hfS : Fence.wide.fn 52 := trivial
  refine callsIn_of_wp Tryd.func43 rfl trivial ?_ rfl
  simp only [Tryd.ntmps43,List.size_toArray,List.length_cons,List.length_nil,Nat.reduceAdd,Nat.reduceSub,Array.replicate_succ,Array.replicate_zero,List.push_toArray,List.append_toArray,List.nil_append,List.cons_append]
  gi_wp2_with (first
    | (gi_at_call 53; refine (cK _ _).mono ?_; rintro e w' ⟨rfl,rfl⟩)
    | (gi_at_call 52; refine cS.mono ?_; rintro e w' ⟨v,ss,rfl,hS,hrow,hnil,hb⟩))
  go_ret
  exact ⟨v,ss,rfl,hS,ownsRow_base_a hrow (by simp),((Below.refl _ w).alloc (Nat.le_refl _) _).trans (hb.mono (by simp))⟩

end Go.Proofs.YtdcljlafookliaaDoor.AB

set_option maxRecDepth 100000
set_option maxHeartbeats 2000000
namespace Go.Proofs.YtdcljlafookliaaDoor.AB
open Go
def tt : TT := [
 ⟨.other,0,0,.undef,.unit,false,false⟩,
 ⟨.func,1,8,.nilf,.unit,true,false⟩,
 ⟨.int .i64,1,8,(.int .i64 (0:Int)),(.int .i64),true,true⟩,
 ⟨.int .i64,1,8,(.int .i64 (0:Int)),(.int .i64),true,true⟩,
 ⟨.bool,1,1,.ff,.bool,true,true⟩,
 ⟨.int .u8,1,1,(.int .u8 (0:Int)),(.int .u8),true,true⟩,
 ⟨.int .u8,1,1,(.int .u8 (0:Int)),(.int .u8),true,true⟩,
 ⟨.strct [(0,2),(1,3),(2,4),(3,6)],4,24,(.agg [(.int .i64 (0:Int)),(.int .i64 (0:Int)),.ff,(.int .u8 (0:Int))]),(.pair (.int .i64) (.pair (.int .i64) (.pair .bool (.int .u8)))),true,true⟩,
 ⟨.strct [(0,2),(1,3),(2,4),(3,6)],4,24,(.agg [(.int .i64 (0:Int)),(.int .i64 (0:Int)),.ff,(.int .u8 (0:Int))]),(.pair (.int .i64) (.pair (.int .i64) (.pair .bool (.int .u8)))),true,true⟩,
 ⟨.str,1,16,(.str ([] : List UInt8)),.str,true,true⟩,
 ⟨.str,1,16,(.str ([] : List UInt8)),.str,true,true⟩,
 ⟨.str,1,16,(.str ([] : List UInt8)),.str,true,true⟩,
 ⟨.int .u64,1,8,(.int .u64 (0:Int)),(.int .u64),true,true⟩,
 ⟨.strct [(0,9),(1,12)],2,24,(.agg [(.str ([] : List UInt8)),(.int .u64 (0:Int))]),(.pair .str (.int .u64)),true,true⟩,
 ⟨.strct [(0,9),(1,12)],2,24,(.agg [(.str ([] : List UInt8)),(.int .u64 (0:Int))]),(.pair .str (.int .u64)),true,true⟩,
 ⟨.ptr 145,1,8,.nilp,.unit,true,false⟩,
 ⟨.ptr 148,1,8,.nilp,.unit,true,false⟩,
 ⟨.ptr 156,1,8,.nilp,.unit,true,false⟩,
 ⟨.strct [(0,17)],1,8,(.agg [.nilp]),.unit,true,false⟩,
 ⟨.strct [(0,17)],1,8,(.agg [.nilp]),.unit,true,false⟩,
 ⟨.iface,1,16,.nili,.unit,true,false⟩,
 ⟨.int .i32,1,4,(.int .i32 (0:Int)),(.int .i32),true,true⟩,
 ⟨.slice 9,1,24,(.list .str (([] : List (List UInt8))) .exact),(.slice .str),true,true⟩,
 ⟨.func,1,8,.nilf,.unit,true,false⟩,
 ⟨.ptr 68,1,8,.nilp,.unit,true,false⟩,
 ⟨.int .i64,1,8,(.int .i64 (0:Int)),(.int .i64),true,true⟩,
 ⟨.other,0,0,.undef,.unit,false,false⟩,
 ⟨.func,1,8,.nilf,.unit,true,false⟩,
 ⟨.func,1,8,.nilf,.unit,true,false⟩,
 ⟨.other,0,0,.undef,.unit,false,false⟩,
 ⟨.func,1,8,.nilf,.unit,true,false⟩,
 ⟨.slice 4,1,24,(.list .bool ([] : List Bool) .exact),(.slice .bool),true,true⟩,
 ⟨.strct [(0,3),(1,31)],2,32,(.agg [(.int .i64 (0:Int)),(.list .bool ([] : List Bool) .exact)]),(.pair (.int .i64) (.slice .bool)),true,true⟩,
 ⟨.strct [(0,3),(1,31)],2,32,(.agg [(.int .i64 (0:Int)),(.list .bool ([] : List Bool) .exact)]),(.pair (.int .i64) (.slice .bool)),true,true⟩,
 ⟨.slice 3,1,24,(.list (.int .i64) ([] : List Int) .exact),(.slice (.int .i64)),true,true⟩,
 ⟨.func,1,8,.nilf,.unit,true,false⟩,
 ⟨.other,0,0,.undef,.unit,false,false⟩,
 ⟨.func,1,8,.nilf,.unit,true,false⟩,
 ⟨.other,0,0,.undef,.unit,false,false⟩,
 ⟨.func,1,8,.nilf,.unit,true,false⟩,
 ⟨.func,1,8,.nilf,.unit,true,false⟩,
 ⟨.func,1,8,.nilf,.unit,true,false⟩,
 ⟨.slice 45,1,24,(.list (.pair (.int .i64) (.pair (.int .i64) (.pair (.int .i64) (.pair (.int .i64) (.pair .str (.pair (.pair (.int .i64) (.slice .bool)) .bool)))))) (([] : List (Int × (Int × (Int × (Int × ((List UInt8) × ((Int × (List Bool)) × Bool)))))))) .exact),(.slice (.pair (.int .i64) (.pair (.int .i64) (.pair (.int .i64) (.pair (.int .i64) (.pair .str (.pair (.pair (.int .i64) (.slice .bool)) .bool))))))),true,true⟩,
 ⟨.slice 48,1,24,(.list (.pair (.int .i64) (.slice (.int .i64))) (([] : List (Int × (List Int)))) .exact),(.slice (.pair (.int .i64) (.slice (.int .i64)))),true,true⟩,
 ⟨.strct [(0,3),(1,3),(2,3),(3,3),(4,9),(5,33),(7,4)],8,88,(.agg [(.int .i64 (0:Int)),(.int .i64 (0:Int)),(.int .i64 (0:Int)),(.int .i64 (0:Int)),(.str ([] : List UInt8)),(.int .i64 (0:Int)),(.list .bool ([] : List Bool) .exact),.ff]),(.pair (.int .i64) (.pair (.int .i64) (.pair (.int .i64) (.pair (.int .i64) (.pair .str (.pair (.pair (.int .i64) (.slice .bool)) .bool)))))),true,true⟩,
 ⟨.strct [(0,3),(1,3),(2,3),(3,3),(4,9),(5,33),(7,4)],8,88,(.agg [(.int .i64 (0:Int)),(.int .i64 (0:Int)),(.int .i64 (0:Int)),(.int .i64 (0:Int)),(.str ([] : List UInt8)),(.int .i64 (0:Int)),(.list .bool ([] : List Bool) .exact),.ff]),(.pair (.int .i64) (.pair (.int .i64) (.pair (.int .i64) (.pair (.int .i64) (.pair .str (.pair (.pair (.int .i64) (.slice .bool)) .bool)))))),true,true⟩,
 ⟨.func,1,8,.nilf,.unit,true,false⟩,
 ⟨.strct [(0,3),(1,34)],2,32,(.agg [(.int .i64 (0:Int)),(.list (.int .i64) ([] : List Int) .exact)]),(.pair (.int .i64) (.slice (.int .i64))),true,true⟩,
 ⟨.strct [(0,3),(1,34)],2,32,(.agg [(.int .i64 (0:Int)),(.list (.int .i64) ([] : List Int) .exact)]),(.pair (.int .i64) (.slice (.int .i64))),true,true⟩,
 ⟨.func,1,8,.nilf,.unit,true,false⟩,
 ⟨.other,0,0,.undef,.unit,false,false⟩,
 ⟨.func,1,8,.nilf,.unit,true,false⟩,
 ⟨.func,1,8,.nilf,.unit,true,false⟩,
 ⟨.func,1,8,.nilf,.unit,true,false⟩,
 ⟨.func,1,8,.nilf,.unit,true,false⟩,
 ⟨.other,0,0,.undef,.unit,false,false⟩,
 ⟨.func,1,8,.nilf,.unit,true,false⟩,
 ⟨.func,1,8,.nilf,.unit,true,false⟩,
 ⟨.other,0,0,.undef,.unit,false,false⟩,
 ⟨.func,1,8,.nilf,.unit,true,false⟩,
 ⟨.func,1,8,.nilf,.unit,true,false⟩,
 ⟨.func,1,8,.nilf,.unit,true,false⟩,
 ⟨.func,1,8,.nilf,.unit,true,false⟩,
 ⟨.ptr 93,1,8,.nilp,.unit,true,false⟩,
 ⟨.other,0,0,.undef,.unit,false,false⟩,
 ⟨.func,1,8,.nilf,.unit,true,false⟩,
 ⟨.map 3 70,1,8,.nilm,.unit,true,false⟩,
 ⟨.strct [(0,63),(1,66),(2,3)],3,24,(.agg [.nilp,.nilm,(.int .i64 (0:Int))]),.unit,true,false⟩,
 ⟨.strct [(0,63),(1,66),(2,3)],3,24,(.agg [.nilp,.nilm,(.int .i64 (0:Int))]),.unit,true,false⟩,
 ⟨.iface,1,16,.nili,.unit,true,false⟩,
 ⟨.iface,1,16,.nili,.unit,true,false⟩,
 ⟨.func,1,8,.nilf,.unit,true,false⟩,
 ⟨.other,0,0,.undef,.unit,false,false⟩,
 ⟨.func,1,8,.nilf,.unit,true,false⟩,
 ⟨.func,1,8,.nilf,.unit,true,false⟩,
 ⟨.slice 21,1,24,(.list (.int .i32) ([] : List Int) .exact),(.slice (.int .i32)),true,true⟩,
 ⟨.func,1,8,.nilf,.unit,true,false⟩,
 ⟨.func,1,8,.nilf,.unit,true,false⟩,
 ⟨.slice 5,1,24,(.list (.int .u8) ([] : List Int) .exact),(.slice (.int .u8)),true,true⟩,
 ⟨.func,1,8,.nilf,.unit,true,false⟩,
 ⟨.strct [(0,31)],1,24,(.agg [(.list .bool ([] : List Bool) .exact)]),(.pair (.slice .bool) .unit),true,true⟩,
 ⟨.strct [(0,31)],1,24,(.agg [(.list .bool ([] : List Bool) .exact)]),(.pair (.slice .bool) .unit),true,true⟩,
 ⟨.strct [(0,3)],1,8,(.agg [(.int .i64 (0:Int))]),(.pair (.int .i64) .unit),true,true⟩,
 ⟨.strct [(0,3)],1,8,(.agg [(.int .i64 (0:Int))]),(.pair (.int .i64) .unit),true,true⟩,
 ⟨.func,1,8,.nilf,.unit,true,false⟩,
 ⟨.func,1,8,.nilf,.unit,true,false⟩,
 ⟨.other,0,0,.undef,.unit,false,false⟩,
 ⟨.other,0,0,.undef,.unit,false,false⟩,
 ⟨.func,1,8,.nilf,.unit,true,false⟩,
 ⟨.map 3 3,1,8,.nilm,.unit,true,false⟩,
 ⟨.slice 96,1,24,(.list (.pair (.int .i64) (.int .i64)) (([] : List (Int × Int))) .exact),(.slice (.pair (.int .i64) (.int .i64))),true,true⟩,
 ⟨.arr 22 90,22,528,(V.agg (List.cons (.list (.pair (.int .i64) (.int .i64)) (([] : List (Int × Int))) .exact) (List.cons (.list (.pair (.int .i64) (.int .i64)) (([] : List (Int × Int))) .exact) (List.cons (.list (.pair (.int .i64) (.int .i64)) (([] : List (Int × Int))) .exact) (List.cons (.list (.pair (.int .i64) (.int .i64)) (([] : List (Int × Int))) .exact) (List.cons (.list (.pair (.int .i64) (.int .i64)) (([] : List (Int × Int))) .exact) (List.cons (.list (.pair (.int .i64) (.int .i64)) (([] : List (Int × Int))) .exact) (List.cons (.list (.pair (.int .i64) (.int .i64)) (([] : List (Int × Int))) .exact) (List.cons (.list (.pair (.int .i64) (.int .i64)) (([] : List (Int × Int))) .exact) (List.cons (.list (.pair (.int .i64) (.int .i64)) (([] : List (Int × Int))) .exact) (List.cons (.list (.pair (.int .i64) (.int .i64)) (([] : List (Int × Int))) .exact) (List.cons (.list (.pair (.int .i64) (.int .i64)) (([] : List (Int × Int))) .exact) (List.cons (.list (.pair (.int .i64) (.int .i64)) (([] : List (Int × Int))) .exact) (List.cons (.list (.pair (.int .i64) (.int .i64)) (([] : List (Int × Int))) .exact) (List.cons (.list (.pair (.int .i64) (.int .i64)) (([] : List (Int × Int))) .exact) (List.cons (.list (.pair (.int .i64) (.int .i64)) (([] : List (Int × Int))) .exact) (List.cons (.list (.pair (.int .i64) (.int .i64)) (([] : List (Int × Int))) .exact) (List.cons (.list (.pair (.int .i64) (.int .i64)) (([] : List (Int × Int))) .exact) (List.cons (.list (.pair (.int .i64) (.int .i64)) (([] : List (Int × Int))) .exact) (List.cons (.list (.pair (.int .i64) (.int .i64)) (([] : List (Int × Int))) .exact) (List.cons (.list (.pair (.int .i64) (.int .i64)) (([] : List (Int × Int))) .exact) (List.cons (.list (.pair (.int .i64) (.int .i64)) (([] : List (Int × Int))) .exact) (List.cons (.list (.pair (.int .i64) (.int .i64)) (([] : List (Int × Int))) .exact) ([] : List V)))))))))))))))))))))))),.unit,true,false⟩,
 ⟨.strct [(0,34),(1,91),(23,89),(24,89),(25,3)],26,576,(V.agg (List.cons (.list (.int .i64) ([] : List Int) .exact) (List.cons (.list (.pair (.int .i64) (.int .i64)) (([] : List (Int × Int))) .exact) (List.cons (.list (.pair (.int .i64) (.int .i64)) (([] : List (Int × Int))) .exact) (List.cons (.list (.pair (.int .i64) (.int .i64)) (([] : List (Int × Int))) .exact) (List.cons (.list (.pair (.int .i64) (.int .i64)) (([] : List (Int × Int))) .exact) (List.cons (.list (.pair (.int .i64) (.int .i64)) (([] : List (Int × Int))) .exact) (List.cons (.list (.pair (.int .i64) (.int .i64)) (([] : List (Int × Int))) .exact) (List.cons (.list (.pair (.int .i64) (.int .i64)) (([] : List (Int × Int))) .exact) (List.cons (.list (.pair (.int .i64) (.int .i64)) (([] : List (Int × Int))) .exact) (List.cons (.list (.pair (.int .i64) (.int .i64)) (([] : List (Int × Int))) .exact) (List.cons (.list (.pair (.int .i64) (.int .i64)) (([] : List (Int × Int))) .exact) (List.cons (.list (.pair (.int .i64) (.int .i64)) (([] : List (Int × Int))) .exact) (List.cons (.list (.pair (.int .i64) (.int .i64)) (([] : List (Int × Int))) .exact) (List.cons (.list (.pair (.int .i64) (.int .i64)) (([] : List (Int × Int))) .exact) (List.cons (.list (.pair (.int .i64) (.int .i64)) (([] : List (Int × Int))) .exact) (List.cons (.list (.pair (.int .i64) (.int .i64)) (([] : List (Int × Int))) .exact) (List.cons (.list (.pair (.int .i64) (.int .i64)) (([] : List (Int × Int))) .exact) (List.cons (.list (.pair (.int .i64) (.int .i64)) (([] : List (Int × Int))) .exact) (List.cons (.list (.pair (.int .i64) (.int .i64)) (([] : List (Int × Int))) .exact) (List.cons (.list (.pair (.int .i64) (.int .i64)) (([] : List (Int × Int))) .exact) (List.cons (.list (.pair (.int .i64) (.int .i64)) (([] : List (Int × Int))) .exact) (List.cons (.list (.pair (.int .i64) (.int .i64)) (([] : List (Int × Int))) .exact) (List.cons (.list (.pair (.int .i64) (.int .i64)) (([] : List (Int × Int))) .exact) (List.cons .nilm (List.cons .nilm (List.cons (V.int IntKind.i64 (0:Int)) ([] : List V)))))))))))))))))))))))))))),.unit,true,false⟩,
 ⟨.strct [(0,34),(1,91),(23,89),(24,89),(25,3)],26,576,(V.agg (List.cons (.list (.int .i64) ([] : List Int) .exact) (List.cons (.list (.pair (.int .i64) (.int .i64)) (([] : List (Int × Int))) .exact) (List.cons (.list (.pair (.int .i64) (.int .i64)) (([] : List (Int × Int))) .exact) (List.cons (.list (.pair (.int .i64) (.int .i64)) (([] : List (Int × Int))) .exact) (List.cons (.list (.pair (.int .i64) (.int .i64)) (([] : List (Int × Int))) .exact) (List.cons (.list (.pair (.int .i64) (.int .i64)) (([] : List (Int × Int))) .exact) (List.cons (.list (.pair (.int .i64) (.int .i64)) (([] : List (Int × Int))) .exact) (List.cons (.list (.pair (.int .i64) (.int .i64)) (([] : List (Int × Int))) .exact) (List.cons (.list (.pair (.int .i64) (.int .i64)) (([] : List (Int × Int))) .exact) (List.cons (.list (.pair (.int .i64) (.int .i64)) (([] : List (Int × Int))) .exact) (List.cons (.list (.pair (.int .i64) (.int .i64)) (([] : List (Int × Int))) .exact) (List.cons (.list (.pair (.int .i64) (.int .i64)) (([] : List (Int × Int))) .exact) (List.cons (.list (.pair (.int .i64) (.int .i64)) (([] : List (Int × Int))) .exact) (List.cons (.list (.pair (.int .i64) (.int .i64)) (([] : List (Int × Int))) .exact) (List.cons (.list (.pair (.int .i64) (.int .i64)) (([] : List (Int × Int))) .exact) (List.cons (.list (.pair (.int .i64) (.int .i64)) (([] : List (Int × Int))) .exact) (List.cons (.list (.pair (.int .i64) (.int .i64)) (([] : List (Int × Int))) .exact) (List.cons (.list (.pair (.int .i64) (.int .i64)) (([] : List (Int × Int))) .exact) (List.cons (.list (.pair (.int .i64) (.int .i64)) (([] : List (Int × Int))) .exact) (List.cons (.list (.pair (.int .i64) (.int .i64)) (([] : List (Int × Int))) .exact) (List.cons (.list (.pair (.int .i64) (.int .i64)) (([] : List (Int × Int))) .exact) (List.cons (.list (.pair (.int .i64) (.int .i64)) (([] : List (Int × Int))) .exact) (List.cons (.list (.pair (.int .i64) (.int .i64)) (([] : List (Int × Int))) .exact) (List.cons .nilm (List.cons .nilm (List.cons (V.int IntKind.i64 (0:Int)) ([] : List V)))))))))))))))))))))))))))),.unit,true,false⟩,
 ⟨.func,1,8,.nilf,.unit,true,false⟩,
 ⟨.strct [(0,3),(1,3)],2,16,(.agg [(.int .i64 (0:Int)),(.int .i64 (0:Int))]),(.pair (.int .i64) (.int .i64)),true,true⟩,
 ⟨.strct [(0,3),(1,3)],2,16,(.agg [(.int .i64 (0:Int)),(.int .i64 (0:Int))]),(.pair (.int .i64) (.int .i64)),true,true⟩,
 ⟨.func,1,8,.nilf,.unit,true,false⟩,
 ⟨.strct [(0,3)],1,8,(.agg [(.int .i64 (0:Int))]),(.pair (.int .i64) .unit),true,true⟩,
 ⟨.func,1,8,.nilf,.unit,true,false⟩,
 ⟨.arr 256 5,256,256,(V.agg (List.cons (V.int IntKind.u8 (0:Int)) (List.cons (V.int IntKind.u8 (0:Int)) (List.cons (V.int IntKind.u8 (0:Int)) (List.cons (V.int IntKind.u8 (0:Int)) (List.cons (V.int IntKind.u8 (0:Int)) (List.cons (V.int IntKind.u8 (0:Int)) (List.cons (V.int IntKind.u8 (0:Int)) (List.cons (V.int IntKind.u8 (0:Int)) (List.cons (V.int IntKind.u8 (0:Int)) (List.cons (V.int IntKind.u8 (0:Int)) (List.cons (V.int IntKind.u8 (0:Int)) (List.cons (V.int IntKind.u8 (0:Int)) (List.cons (V.int IntKind.u8 (0:Int)) (List.cons (V.int IntKind.u8 (0:Int)) (List.cons (V.int IntKind.u8 (0:Int)) (List.cons (V.int IntKind.u8 (0:Int)) (List.cons (V.int IntKind.u8 (0:Int)) (List.cons (V.int IntKind.u8 (0:Int)) (List.cons (V.int IntKind.u8 (0:Int)) (List.cons (V.int IntKind.u8 (0:Int)) (List.cons (V.int IntKind.u8 (0:Int)) (List.cons (V.int IntKind.u8 (0:Int)) (List.cons (V.int IntKind.u8 (0:Int)) (List.cons (V.int IntKind.u8 (0:Int)) (List.cons (V.int IntKind.u8 (0:Int)) (List.cons (V.int IntKind.u8 (0:Int)) (List.cons (V.int IntKind.u8 (0:Int)) (List.cons (V.int IntKind.u8 (0:Int)) (List.cons (V.int IntKind.u8 (0:Int)) (List.cons (V.int IntKind.u8 (0:Int)) (List.cons (V.int IntKind.u8 (0:Int)) (List.cons (V.int IntKind.u8 (0:Int)) (List.cons (V.int IntKind.u8 (0:Int)) (List.cons (V.int IntKind.u8 (0:Int)) (List.cons (V.int IntKind.u8 (0:Int)) (List.cons (V.int IntKind.u8 (0:Int)) (List.cons (V.int IntKind.u8 (0:Int)) (List.cons (V.int IntKind.u8 (0:Int)) (List.cons (V.int IntKind.u8 (0:Int)) (List.cons (V.int IntKind.u8 (0:Int)) (List.cons (V.int IntKind.u8 (0:Int)) (List.cons (V.int IntKind.u8 (0:Int)) (List.cons (V.int IntKind.u8 (0:Int)) (List.cons (V.int IntKind.u8 (0:Int)) (List.cons (V.int IntKind.u8 (0:Int)) (List.cons (V.int IntKind.u8 (0:Int)) (List.cons (V.int IntKind.u8 (0:Int)) (List.cons (V.int IntKind.u8 (0:Int)) (List.cons (V.int IntKind.u8 (0:Int)) (List.cons (V.int IntKind.u8 (0:Int)) (List.cons (V.int IntKind.u8 (0:Int)) (List.cons (V.int IntKind.u8 (0:Int)) (List.cons (V.int IntKind.u8 (0:Int)) (List.cons (V.int IntKind.u8 (0:Int)) (List.cons (V.int IntKind.u8 (0:Int)) (List.cons (V.int IntKind.u8 (0:Int)) (List.cons (V.int IntKind.u8 (0:Int)) (List.cons (V.int IntKind.u8 (0:Int)) (List.cons (V.int IntKind.u8 (0:Int)) (List.cons (V.int IntKind.u8 (0:Int)) (List.cons (V.int IntKind.u8 (0:Int)) (List.cons (V.int IntKind.u8 (0:Int)) (List.cons (V.int IntKind.u8 (0:Int)) (List.cons (V.int IntKind.u8 (0:Int)) (List.cons (V.int IntKind.u8 (0:Int)) (List.cons (V.int IntKind.u8 (0:Int)) (List.cons (V.int IntKind.u8 (0:Int)) (List.cons (V.int IntKind.u8 (0:Int)) (List.cons (V.int IntKind.u8 (0:Int)) (List.cons (V.int IntKind.u8 (0:Int)) (List.cons (V.int IntKind.u8 (0:Int)) (List.cons (V.int IntKind.u8 (0:Int)) (List.cons (V.int IntKind.u8 (0:Int)) (List.cons (V.int IntKind.u8 (0:Int)) (List.cons (V.int IntKind.u8 (0:Int)) (List.cons (V.int IntKind.u8 (0:Int)) (List.cons (V.int IntKind.u8 (0:Int)) (List.cons (V.int IntKind.u8 (0:Int)) (List.cons (V.int IntKind.u8 (0:Int)) (List.cons (V.int IntKind.u8 (0:Int)) (List.cons (V.int IntKind.u8 (0:Int)) (List.cons (V.int IntKind.u8 (0:Int)) (List.cons (V.int IntKind.u8 (0:Int)) (List.cons (V.int IntKind.u8 (0:Int)) (List.cons (V.int IntKind.u8 (0:Int)) (List.cons (V.int IntKind.u8 (0:Int)) (List.cons (V.int IntKind.u8 (0:Int)) (List.cons (V.int IntKind.u8 (0:Int)) (List.cons (V.int IntKind.u8 (0:Int)) (List.cons (V.int IntKind.u8 (0:Int)) (List.cons (V.int IntKind.u8 (0:Int)) (List.cons (V.int IntKind.u8 (0:Int)) (List.cons (V.int IntKind.u8 (0:Int)) (List.cons (V.int IntKind.u8 (0:Int)) (List.cons (V.int IntKind.u8 (0:Int)) (List.cons (V.int IntKind.u8 (0:Int)) (List.cons (V.int IntKind.u8 (0:Int)) (List.cons (V.int IntKind.u8 (0:Int)) (List.cons (V.int IntKind.u8 (0:Int)) (List.cons (V.int IntKind.u8 (0:Int)) (List.cons (V.int IntKind.u8 (0:Int)) (List.cons (V.int IntKind.u8 (0:Int)) (List.cons (V.int IntKind.u8 (0:Int)) (List.cons (V.int IntKind.u8 (0:Int)) (List.cons (V.int IntKind.u8 (0:Int)) (List.cons (V.int IntKind.u8 (0:Int)) (List.cons (V.int IntKind.u8 (0:Int)) (List.cons (V.int IntKind.u8 (0:Int)) (List.cons (V.int IntKind.u8 (0:Int)) (List.cons (V.int IntKind.u8 (0:Int)) (List.cons (V.int IntKind.u8 (0:Int)) (List.cons (V.int IntKind.u8 (0:Int)) (List.cons (V.int IntKind.u8 (0:Int)) (List.cons (V.int IntKind.u8 (0:Int)) (List.cons (V.int IntKind.u8 (0:Int)) (List.cons (V.int IntKind.u8 (0:Int)) (List.cons (V.int IntKind.u8 (0:Int)) (List.cons (V.int IntKind.u8 (0:Int)) (List.cons (V.int IntKind.u8 (0:Int)) (List.cons (V.int IntKind.u8 (0:Int)) (List.cons (V.int IntKind.u8 (0:Int)) (List.cons (V.int IntKind.u8 (0:Int)) (List.cons (V.int IntKind.u8 (0:Int)) (List.cons (V.int IntKind.u8 (0:Int)) (List.cons (V.int IntKind.u8 (0:Int)) (List.cons (V.int IntKind.u8 (0:Int)) (List.cons (V.int IntKind.u8 (0:Int)) (List.cons (V.int IntKind.u8 (0:Int)) (List.cons (V.int IntKind.u8 (0:Int)) (List.cons (V.int IntKind.u8 (0:Int)) (List.cons (V.int IntKind.u8 (0:Int)) (List.cons (V.int IntKind.u8 (0:Int)) (List.cons (V.int IntKind.u8 (0:Int)) (List.cons (V.int IntKind.u8 (0:Int)) (List.cons (V.int IntKind.u8 (0:Int)) (List.cons (V.int IntKind.u8 (0:Int)) (List.cons (V.int IntKind.u8 (0:Int)) (List.cons (V.int IntKind.u8 (0:Int)) (List.cons (V.int IntKind.u8 (0:Int)) (List.cons (V.int IntKind.u8 (0:Int)) (List.cons (V.int IntKind.u8 (0:Int)) (List.cons (V.int IntKind.u8 (0:Int)) (List.cons (V.int IntKind.u8 (0:Int)) (List.cons (V.int IntKind.u8 (0:Int)) (List.cons (V.int IntKind.u8 (0:Int)) (List.cons (V.int IntKind.u8 (0:Int)) (List.cons (V.int IntKind.u8 (0:Int)) (List.cons (V.int IntKind.u8 (0:Int)) (List.cons (V.int IntKind.u8 (0:Int)) (List.cons (V.int IntKind.u8 (0:Int)) (List.cons (V.int IntKind.u8 (0:Int)) (List.cons (V.int IntKind.u8 (0:Int)) (List.cons (V.int IntKind.u8 (0:Int)) (List.cons (V.int IntKind.u8 (0:Int)) (List.cons (V.int IntKind.u8 (0:Int)) (List.cons (V.int IntKind.u8 (0:Int)) (List.cons (V.int IntKind.u8 (0:Int)) (List.cons (V.int IntKind.u8 (0:Int)) (List.cons (V.int IntKind.u8 (0:Int)) (List.cons (V.int IntKind.u8 (0:Int)) (List.cons (V.int IntKind.u8 (0:Int)) (List.cons (V.int IntKind.u8 (0:Int)) (List.cons (V.int IntKind.u8 (0:Int)) (List.cons (V.int IntKind.u8 (0:Int)) (List.cons (V.int IntKind.u8 (0:Int)) (List.cons (V.int IntKind.u8 (0:Int)) (List.cons (V.int IntKind.u8 (0:Int)) (List.cons (V.int IntKind.u8 (0:Int)) (List.cons (V.int IntKind.u8 (0:Int)) (List.cons (V.int IntKind.u8 (0:Int)) (List.cons (V.int IntKind.u8 (0:Int)) (List.cons (V.int IntKind.u8 (0:Int)) (List.cons (V.int IntKind.u8 (0:Int)) (List.cons (V.int IntKind.u8 (0:Int)) (List.cons (V.int IntKind.u8 (0:Int)) (List.cons (V.int IntKind.u8 (0:Int)) (List.cons (V.int IntKind.u8 (0:Int)) (List.cons (V.int IntKind.u8 (0:Int)) (List.cons (V.int IntKind.u8 (0:Int)) (List.cons (V.int IntKind.u8 (0:Int)) (List.cons (V.int IntKind.u8 (0:Int)) (List.cons (V.int IntKind.u8 (0:Int)) (List.cons (V.int IntKind.u8 (0:Int)) (List.cons (V.int IntKind.u8 (0:Int)) (List.cons (V.int IntKind.u8 (0:Int)) (List.cons (V.int IntKind.u8 (0:Int)) (List.cons (V.int IntKind.u8 (0:Int)) (List.cons (V.int IntKind.u8 (0:Int)) (List.cons (V.int IntKind.u8 (0:Int)) (List.cons (V.int IntKind.u8 (0:Int)) (List.cons (V.int IntKind.u8 (0:Int)) (List.cons (V.int IntKind.u8 (0:Int)) (List.cons (V.int IntKind.u8 (0:Int)) (List.cons (V.int IntKind.u8 (0:Int)) (List.cons (V.int IntKind.u8 (0:Int)) (List.cons (V.int IntKind.u8 (0:Int)) (List.cons (V.int IntKind.u8 (0:Int)) (List.cons (V.int IntKind.u8 (0:Int)) (List.cons (V.int IntKind.u8 (0:Int)) (List.cons (V.int IntKind.u8 (0:Int)) (List.cons (V.int IntKind.u8 (0:Int)) (List.cons (V.int IntKind.u8 (0:Int)) (List.cons (V.int IntKind.u8 (0:Int)) (List.cons (V.int IntKind.u8 (0:Int)) (List.cons (V.int IntKind.u8 (0:Int)) (List.cons (V.int IntKind.u8 (0:Int)) (List.cons (V.int IntKind.u8 (0:Int)) (List.cons (V.int IntKind.u8 (0:Int)) (List.cons (V.int IntKind.u8 (0:Int)) (List.cons (V.int IntKind.u8 (0:Int)) (List.cons (V.int IntKind.u8 (0:Int)) (List.cons (V.int IntKind.u8 (0:Int)) (List.cons (V.int IntKind.u8 (0:Int)) (List.cons (V.int IntKind.u8 (0:Int)) (List.cons (V.int IntKind.u8 (0:Int)) (List.cons (V.int IntKind.u8 (0:Int)) (List.cons (V.int IntKind.u8 (0:Int)) (List.cons (V.int IntKind.u8 (0:Int)) (List.cons (V.int IntKind.u8 (0:Int)) (List.cons (V.int IntKind.u8 (0:Int)) (List.cons (V.int IntKind.u8 (0:Int)) (List.cons (V.int IntKind.u8 (0:Int)) (List.cons (V.int IntKind.u8 (0:Int)) (List.cons (V.int IntKind.u8 (0:Int)) (List.cons (V.int IntKind.u8 (0:Int)) (List.cons (V.int IntKind.u8 (0:Int)) (List.cons (V.int IntKind.u8 (0:Int)) (List.cons (V.int IntKind.u8 (0:Int)) (List.cons (V.int IntKind.u8 (0:Int)) (List.cons (V.int IntKind.u8 (0:Int)) (List.cons (V.int IntKind.u8 (0:Int)) (List.cons (V.int IntKind.u8 (0:Int)) (List.cons (V.int IntKind.u8 (0:Int)) (List.cons (V.int IntKind.u8 (0:Int)) (List.cons (V.int IntKind.u8 (0:Int)) (List.cons (V.int IntKind.u8 (0:Int)) (List.cons (V.int IntKind.u8 (0:Int)) (List.cons (V.int IntKind.u8 (0:Int)) (List.cons (V.int IntKind.u8 (0:Int)) (List.cons (V.int IntKind.u8 (0:Int)) (List.cons (V.int IntKind.u8 (0:Int)) (List.cons (V.int IntKind.u8 (0:Int)) (List.cons (V.int IntKind.u8 (0:Int)) (List.cons (V.int IntKind.u8 (0:Int)) (List.cons (V.int IntKind.u8 (0:Int)) (List.cons (V.int IntKind.u8 (0:Int)) (List.cons (V.int IntKind.u8 (0:Int)) (List.cons (V.int IntKind.u8 (0:Int)) (List.cons (V.int IntKind.u8 (0:Int)) (List.cons (V.int IntKind.u8 (0:Int)) (List.cons (V.int IntKind.u8 (0:Int)) (List.cons (V.int IntKind.u8 (0:Int)) (List.cons (V.int IntKind.u8 (0:Int)) (List.cons (V.int IntKind.u8 (0:Int)) (List.cons (V.int IntKind.u8 (0:Int)) (List.cons (V.int IntKind.u8 (0:Int)) ([] : List V)))))))))))))))))))))))))))))))))))))))))))))))))))))))))))))))))))))))))))))))))))))))))))))))))))))))))))))))))))))))))))))))))))))))))))))))))))))))))))))))))))))))))))))))))))))))))))))))))))))))))))))))))))))))))))))))))))))))))))))))))))))))))))))))))),.unit,true,false⟩,
 ⟨.strct [(0,5),(1,5)],2,2,(.agg [(.int .u8 (0:Int)),(.int .u8 (0:Int))]),(.pair (.int .u8) (.int .u8)),true,true⟩,
 ⟨.strct [(0,5),(1,5)],2,2,(.agg [(.int .u8 (0:Int)),(.int .u8 (0:Int))]),(.pair (.int .u8) (.int .u8)),true,true⟩,
 ⟨.arr 16 102,32,32,(V.agg (List.cons (V.int IntKind.u8 (0:Int)) (List.cons (V.int IntKind.u8 (0:Int)) (List.cons (V.int IntKind.u8 (0:Int)) (List.cons (V.int IntKind.u8 (0:Int)) (List.cons (V.int IntKind.u8 (0:Int)) (List.cons (V.int IntKind.u8 (0:Int)) (List.cons (V.int IntKind.u8 (0:Int)) (List.cons (V.int IntKind.u8 (0:Int)) (List.cons (V.int IntKind.u8 (0:Int)) (List.cons (V.int IntKind.u8 (0:Int)) (List.cons (V.int IntKind.u8 (0:Int)) (List.cons (V.int IntKind.u8 (0:Int)) (List.cons (V.int IntKind.u8 (0:Int)) (List.cons (V.int IntKind.u8 (0:Int)) (List.cons (V.int IntKind.u8 (0:Int)) (List.cons (V.int IntKind.u8 (0:Int)) (List.cons (V.int IntKind.u8 (0:Int)) (List.cons (V.int IntKind.u8 (0:Int)) (List.cons (V.int IntKind.u8 (0:Int)) (List.cons (V.int IntKind.u8 (0:Int)) (List.cons (V.int IntKind.u8 (0:Int)) (List.cons (V.int IntKind.u8 (0:Int)) (List.cons (V.int IntKind.u8 (0:Int)) (List.cons (V.int IntKind.u8 (0:Int)) (List.cons (V.int IntKind.u8 (0:Int)) (List.cons (V.int IntKind.u8 (0:Int)) (List.cons (V.int IntKind.u8 (0:Int)) (List.cons (V.int IntKind.u8 (0:Int)) (List.cons (V.int IntKind.u8 (0:Int)) (List.cons (V.int IntKind.u8 (0:Int)) (List.cons (V.int IntKind.u8 (0:Int)) (List.cons (V.int IntKind.u8 (0:Int)) ([] : List V)))))))))))))))))))))))))))))))))),.unit,true,false⟩,
 ⟨.int .u64,1,8,(.int .u64 (0:Int)),(.int .u64),true,true⟩,
 ⟨.int .u32,1,4,(.int .u32 (0:Int)),(.int .u32),true,true⟩,
 ⟨.other,0,0,.undef,.unit,false,false⟩,
 ⟨.func,1,8,.nilf,.unit,true,false⟩,
 ⟨.func,1,8,.nilf,.unit,true,false⟩,
 ⟨.func,1,8,.nilf,.unit,true,false⟩,
 ⟨.func,1,8,.nilf,.unit,true,false⟩,
 ⟨.func,1,8,.nilf,.unit,true,false⟩,
 ⟨.ptr 90,1,8,.nilp,.unit,true,false⟩,
 ⟨.func,1,8,.nilf,.unit,true,false⟩,
 ⟨.func,1,8,.nilf,.unit,true,false⟩,
 ⟨.func,1,8,.nilf,.unit,true,false⟩,
 ⟨.func,1,8,.nilf,.unit,true,false⟩,
 ⟨.int .u64,1,8,(.int .u64 (0:Int)),(.int .u64),true,true⟩,
 ⟨.func,1,8,.nilf,.unit,true,false⟩,
 ⟨.func,1,8,.nilf,.unit,true,false⟩,
 ⟨.func,1,8,.nilf,.unit,true,false⟩,
 ⟨.func,1,8,.nilf,.unit,true,false⟩,
 ⟨.func,1,8,.nilf,.unit,true,false⟩,
 ⟨.func,1,8,.nilf,.unit,true,false⟩,
 ⟨.func,1,8,.nilf,.unit,true,false⟩,
 ⟨.func,1,8,.nilf,.unit,true,false⟩,
 ⟨.func,1,8,.nilf,.unit,true,false⟩,
 ⟨.func,1,8,.nilf,.unit,true,false⟩,
 ⟨.int .i64,1,8,(.int .i64 (0:Int)),(.int .i64),true,true⟩,
 ⟨.other,0,0,.undef,.unit,false,false⟩,
 ⟨.func,1,8,.nilf,.unit,true,false⟩,
 ⟨.func,1,8,.nilf,.unit,true,false⟩,
 ⟨.func,1,8,.nilf,.unit,true,false⟩,
 ⟨.func,1,8,.nilf,.unit,true,false⟩,
 ⟨.func,1,8,.nilf,.unit,true,false⟩,
 ⟨.int .u64,1,8,(.int .u64 (0:Int)),(.int .u64),true,true⟩,
 ⟨.func,1,8,.nilf,.unit,true,false⟩,
 ⟨.func,1,8,.nilf,.unit,true,false⟩,
 ⟨.func,1,8,.nilf,.unit,true,false⟩,
 ⟨.ptr 3,1,8,.nilp,.unit,true,false⟩,
 ⟨.func,1,8,.nilf,.unit,true,false⟩,
 ⟨.ptr 135,1,8,.nilp,.unit,true,false⟩,
 ⟨.func,1,8,.nilf,.unit,true,false⟩,
 ⟨.func,1,8,.nilf,.unit,true,false⟩,
 ⟨.strct [(0,17),(1,17),(2,17),(3,9)],4,40,(.agg [.nilp,.nilp,.nilp,(.str ([] : List UInt8))]),.unit,true,false⟩,
 ⟨.strct [(0,17),(1,17),(2,17),(3,9)],4,40,(.agg [.nilp,.nilp,.nilp,(.str ([] : List UInt8))]),.unit,true,false⟩,
 ⟨.arr 0 16,0,0,(.agg []),.unit,true,false⟩,
 ⟨.strct [(0,146)],0,0,(.agg []),.unit,true,false⟩,
 ⟨.strct [(0,146)],0,0,(.agg []),.unit,true,false⟩,
 ⟨.int .u8,1,1,(.int .u8 (0:Int)),(.int .u8),true,true⟩,
 ⟨.int .u8,1,1,(.int .u8 (0:Int)),(.int .u8),true,true⟩,
 ⟨.func,1,8,.nilf,.unit,true,false⟩,
 ⟨.ptr 5,1,8,.nilp,.unit,true,false⟩,
 ⟨.int .i32,1,4,(.int .i32 (0:Int)),(.int .i32),true,true⟩,
 ⟨.int .i32,1,4,(.int .i32 (0:Int)),(.int .i32),true,true⟩,
 ⟨.strct [(0,12),(1,12),(2,105),(3,149),(4,5),(5,5),(6,150),(7,151),(8,152),(9,153),(10,154)],11,48,(.agg [(.int .u64 (0:Int)),(.int .u64 (0:Int)),(.int .u32 (0:Int)),(.int .u8 (0:Int)),(.int .u8 (0:Int)),(.int .u8 (0:Int)),(.int .u8 (0:Int)),.nilf,.nilp,(.int .i32 (0:Int)),(.int .i32 (0:Int))]),.unit,true,false⟩,
 ⟨.strct [(0,12),(1,12),(2,105),(3,149),(4,5),(5,5),(6,150),(7,151),(8,152),(9,153),(10,154)],11,48,(.agg [(.int .u64 (0:Int)),(.int .u64 (0:Int)),(.int .u32 (0:Int)),(.int .u8 (0:Int)),(.int .u8 (0:Int)),(.int .u8 (0:Int)),(.int .u8 (0:Int)),.nilf,.nilp,(.int .i32 (0:Int)),(.int .i32 (0:Int))]),.unit,true,false⟩,
 ⟨.other,0,0,.undef,.unit,false,false⟩]
theorem tt_ok : TTOK Tryd.prog tt := ttok_of (by kernel_rfl)
abbrev yZ0 : Xd := (.pair (.sl (.pure (.int .i64))) (.pair (.vec 22 (.sl (.pure (.pair (.int .i64) (.int .i64))))) (.pair (.mp (.int .i64) (.pure (.int .i64))) (.pair (.mp (.int .i64) (.pure (.int .i64))) (.pure (.int .i64))))))
abbrev yZ1 : Xd := (.pair (.ref yZ0) (.pair (.mp (.int .i64) .ifc) (.pure (.int .i64))))
end Go.Proofs.YtdcljlafookliaaDoor.AB

namespace Go.Proofs.YtdcljlafookliaaDoor.AB
open Go

theorem mix : Tryd.prog.follows .mixedOrders = true := by kernel_rfl

theorem pcOf {X : Cx} (hX : X.tt = tt) (hfn : fnsB Tryd.prog X.fns) {d : Nat} {f : FuncId} {fn : Func} (hf : Tryd.prog.funcs[f]? = some fn) (hname : fn.name ≠ "runtime.NumGoroutine") {args : List V} {r : V}
  (h : fnK X.tt (callN Tryd.prog X d) (X.md f) (X.mk1 f) fn (args.map .v) ⟨[],[],⟨0,[]⟩⟩ (topK fun v => v.norm = r ∧ r.nt = true)) : PC Tryd.prog f args r := by
 have htt : TTOK Tryd.prog X.tt := by rw [hX]; exact tt_ok
 exact PC.of htt (callN_sound htt mix (fun f fn => fnsB_spec hfn f fn) d) (callN_det d) mix hf hname h

theorem lawOf {X : Cx} (hX : X.tt = tt) (hfn : fnsB Tryd.prog X.fns) {d : Nat} {f : FuncId} {fn : Func} (hf : Tryd.prog.funcs[f]? = some fn) (hname : fn.name ≠ "runtime.NumGoroutine") {args : List V} {r : V}
  (h : fnK X.tt (callN Tryd.prog X d) (X.md f) (X.mk1 f) fn (args.map .v) ⟨[],[some (.heap XH.none)],⟨0,[]⟩⟩ (topK fun v => v.norm = r ∧ r.nt = true)) : PC Tryd.prog f args r := by
 have htt : TTOK Tryd.prog X.tt := by rw [hX]; exact tt_ok
 exact PC.ofX htt (callN_sound htt mix (fun f fn => fnsB_spec hfn f fn) d) (callN_det d) mix hf hname h

theorem xcOf {X : Cx} (hX : X.tt = tt) (hfn : fnsB Tryd.prog X.fns) {d : Nat} {f : FuncId} {fn : Func} (hf : Tryd.prog.funcs[f]? = some fn) (hname : fn.name ≠ "runtime.NumGoroutine") {cs : List Xd} {args : List TV} {H : XH}
  {Q : xresT cs → XH → Prop} (h : fnK X.tt (callN Tryd.prog X d) (X.md f) (X.mk1 f) fn args ⟨[],[some (.heap H)],⟨0,[]⟩⟩ (xfin cs Q)) : XC Tryd.prog f cs args H Q := by
 have htt : TTOK Tryd.prog X.tt := by rw [hX]; exact tt_ok
 exact XC.of htt (callN_sound htt mix (fun f fn => fnsB_spec hfn f fn) d) (callN_det d) mix hf hname h

theorem wrap64 {x : Int} (h1 : -9223372036854775808 ≤ x) (h2 : x ≤ 9223372036854775807) : IntKind.wrap .i64 x = x := by
 have e : IntKind.wrap .i64 x = (if 9223372036854775808 ≤ x % 18446744073709551616 then x % 18446744073709551616 - 18446744073709551616 else x % 18446744073709551616) := by
  simp [IntKind.wrap,IntKind.bits,IntKind.signed]
 rw [e]
 split <;> omega

theorem take_succ_eq {α : Type} [DecidableEq α] {a b : List α} {n : Nat} {d : α} (h : a.take n = b.take n) (hn : n < a.length) (hm : n < b.length) (he : a.getD n d = b.getD n d) : a.take (n + 1) = b.take (n + 1) := by
 rw [List.take_succ_eq_append_getElem hn,List.take_succ_eq_append_getElem hm,h]
 simp only [List.getD,List.getElem?_eq_getElem hn,List.getElem?_eq_getElem hm,Option.getD_some] at he
 rw [he]

def Tok.fresh (t : Tok) (T : Toks) : Prop :=
 match t with
 | .no => False
 | .exact => True
 | .tk n => n ∈ T.l ∧ n < T.n

def Tok.ne (t u : Tok) : Prop :=
 match t,u with
 | .tk a,.tk b => a ≠ b
 | _,_ => True

theorem Tok.fresh.own {t : Tok} {T : Toks} (h : t.fresh T) : t.own T.l := by
 cases t with
 | no => exact h
 | exact => trivial
 | tk n => exact h.1

theorem Tok.fresh.up {t : Tok} {n m : Nat} {l : List Nat} (h : t.fresh ⟨n,l⟩) (hm : n ≤ m) : t.fresh ⟨m,l⟩ := by
 cases t with
 | no => exact h
 | exact => trivial
 | tk k => exact ⟨h.1,Nat.lt_of_lt_of_le h.2 hm⟩

theorem Tok.fresh_new (n : Nat) (l : List Nat) : (Tok.tk n).fresh ⟨n + 1,n :: l⟩ := ⟨by simp,Nat.lt_succ_self _⟩

theorem Tok.fresh.keep {t u : Tok} {T : Toks} (h : t.fresh T) (hne : u.ne t) : t.fresh ⟨T.n + 1,T.n :: u.drop T.l⟩ := by
 cases t with
 | no => exact h
 | exact => trivial
 | tk n =>
  refine ⟨List.mem_cons_of_mem _ ?_,Nat.lt_succ_of_lt h.2⟩
  cases u with
  | no => exact h.1
  | exact => exact h.1
  | tk m =>
   show n ∈ List.filter _ _
   rw [List.mem_filter]
   exact ⟨h.1,by simpa using fun e : n = m => hne e.symm⟩

theorem Tok.fresh.ne_new {t : Tok} {T : Toks} (h : t.fresh T) : t.ne (.tk T.n) := by
 cases t with
 | no => exact h.elim
 | exact => trivial
 | tk n => exact Nat.ne_of_lt h.2

theorem Tok.fresh.new_ne {t : Tok} {T : Toks} (h : t.fresh T) : (Tok.tk T.n).ne t := by
 cases t with
 | no => exact h.elim
 | exact => trivial
 | tk n => exact Nat.ne_of_gt h.2

def FrT (ts : Nat → Tok) (T : Toks) : Prop := (∀ j,(ts j).fresh T) ∧ ∀ i j,i ≠ j → (ts i).ne (ts j)

theorem FrT.exact (T : Toks) : FrT (fun _ => .exact) T := ⟨fun _ => trivial,fun _ _ _ => trivial⟩

theorem FrT.upd {ts : Nat → Tok} {T : Toks} (h : FrT ts T) (i : Nat) : FrT (fun j => if j = i then .tk T.n else ts j) ⟨T.n + 1,T.n :: (ts i).drop T.l⟩ := by
 refine ⟨fun j => ?_,fun j k hjk => ?_⟩
 ·by_cases e : j = i
  ·simp only [e,if_true]; exact Tok.fresh_new _ _
  ·simp only [e,if_false]; exact (h.1 j).keep (h.2 i j (fun e' => e e'.symm))
 ·by_cases e : j = i
  ·by_cases e' : k = i
   ·exact absurd (e.trans e'.symm) hjk
   ·simp only [e,e',if_true,if_false]; exact (h.1 k).new_ne
  ·by_cases e' : k = i
   ·simp only [e,e',if_true,if_false]; exact (h.1 j).ne_new
   ·simp only [e,e',if_false]; exact h.2 j k hjk

end Go.Proofs.YtdcljlafookliaaDoor.AB

set_option maxRecDepth 100000
set_option maxHeartbeats 2000000
namespace Go.Proofs.YtdcljlafookliaaDoor.AB
open Go
noncomputable def X64 : Cx := ⟨tt,[],[],[],[(64,[(0,mkM 18 0 [3,6,7,8],0)])],[]⟩
theorem FN64 : fnsB Tryd.prog X64.fns := (show True from trivial)
def M64_0 : List Bool × Nat := (mkM 18 0 [3,6,7,8],0)
def S64_0 (zero3 : Int) (t6 : List Int) (t7 : Int) (t8 : Int) (T : Toks) : St :=
  mkS 18 [(3,(.v (.int .i64 zero3))),(6,(.v (.list (.int .i64) t6 .no))),(7,(.v (.int .i64 t7))),(8,(.v (.int .i64 t8)))] [] T
noncomputable def B64_0 : (Exit → St → Prop) → St → Prop := (awp X64.tt (callN Tryd.prog X64 0) (X64.md 64) 0 (X64.mk1 64) 0 (codeAt [1,1,0,1,0,0] (bd Tryd.f64)))
noncomputable def K64_0 (R : V → Prop) : Exit → St → Prop := seqK ((awp X64.tt (callN Tryd.prog X64 0) (X64.md 64) 0 (X64.mk1 64) 0 (codeAt [1,1,1] (bd Tryd.f64))) (retK tt Tryd.f64.results.toList fun x s' => topK R x ⟨[],s'.hp,s'.T⟩)) (retK tt Tryd.f64.results.toList fun x s' => topK R x ⟨[],s'.hp,s'.T⟩)
noncomputable def Q64_0 (R : V → Prop) : Exit → St → Prop := (blockK 0 (K64_0 R))
theorem E64 (vals0 : (List Int)) {R : V → Prop} (h : (Loops B64_0 M64_0 (Q64_0 R)
  (S64_0 (0:Int) vals0 (((vals0).length : Int)) (0:Int) ⟨0,[]⟩))) :
  fnK X64.tt (callN Tryd.prog X64 0) (X64.md 64) (X64.mk1 64) Tryd.f64 [(.v (.list (.int .i64) vals0 .no))] ⟨[],[],⟨0,[]⟩⟩ (topK R) := Eq.mp (by kernel_rfl) h
theorem L64_0 (zero3 : Int) (t6 : List Int) (t7 : Int) (t8 : Int) (T : Toks) {R : V → Prop} {k0 : St → Prop}
 (h : (((decide (t8 < t7)) = true → (0 ≤ t8 ∧ t8 < ((t6).length : Int) ∧ ((((t6.getD (t8).toNat 0) != zero3) = true → R (.int .i64 ((t6.getD (t8).toNat 0)))) ∧
 (((t6.getD (t8).toNat 0) != zero3) = false → k0 (S64_0 zero3 t6 t7 ((IntKind.wrap .i64 (t8 + (1:Int)))) T))))) ∧
 ((decide (t8 < t7)) = false → R (.int .i64 zero3)))) :
  B64_0 (loopQ M64_0 k0 (Q64_0 R)) (S64_0 zero3 t6 t7 t8 T) := Eq.mp (by kernel_rfl) h
end Go.Proofs.YtdcljlafookliaaDoor.AB

set_option maxRecDepth 100000
set_option maxHeartbeats 2000000
namespace Go.Proofs.YtdcljlafookliaaDoor.AB
open Go
noncomputable def X56 : Cx := ⟨tt,[(64,[.cd (.int .i64)])],[],[],[],[]⟩
theorem FN56 : fnsB Tryd.prog X56.fns := (show True from trivial)
theorem E56 (a0 : (Int × Int)) (b1 : (Int × Int)) {R : V → Prop} (h : (∃ p1 : Int,PC Tryd.prog 64 [(.list (.int .i64) (([(IntKind.wrap .i64 (a0.2 - b1.2)),(IntKind.wrap .i64 (a0.1 - b1.1))] : List Int)) .no)] (.int .i64 p1) ∧ R (.int .i64 p1))) :
 Wrap (fnK X56.tt (callN Tryd.prog X56 0) (X56.md 56) (X56.mk1 56) Tryd.f56 [(.v (.agg [(.int .i64 a0.1),(.int .i64 a0.2)])),(.v (.agg [(.int .i64 b1.1),(.int .i64 b1.2)]))] ⟨[],[],⟨0,[]⟩⟩ (topK R)) := Wrap.cast (by kernel_rfl) ⟨h⟩
end Go.Proofs.YtdcljlafookliaaDoor.AB

set_option maxRecDepth 100000
set_option maxHeartbeats 2000000
namespace Go.Proofs.YtdcljlafookliaaDoor.AB
open Go
noncomputable def X54 : Cx := ⟨tt,[(63,[.cd (.int .i64)])],[],[],[],[]⟩
theorem FN54 : fnsB Tryd.prog X54.fns := (show True from trivial)
theorem E54 (x0 : Int) {R : V → Prop} (h : (∃ p1 : Int,PC Tryd.prog 63 [(.int .u64 x0)] (.int .i64 p1) ∧ R (.int .i64 p1))) :
 fnK X54.tt (callN Tryd.prog X54 0) (X54.md 54) (X54.mk1 54) Tryd.f54 [(.v (.int .u64 x0))] ⟨[],[],⟨0,[]⟩⟩ (topK R) := Eq.mp (by kernel_rfl) h
end Go.Proofs.YtdcljlafookliaaDoor.AB

set_option maxRecDepth 100000
set_option maxHeartbeats 2000000
namespace Go.Proofs.YtdcljlafookliaaDoor.AB
open Go
noncomputable def X63 : Cx := ⟨tt,[],[],[],[],[]⟩
theorem FN63 : fnsB Tryd.prog X63.fns := (show True from trivial)
theorem E63 (x0 : Int) {R : V → Prop} (h : (((decide (x0 ≥ (4294967296:Int))) = true → (0 ≤ (32:Int) ∧ (((decide ((Int.fdiv x0 (2 ^ min ((32:Int)).toNat (IntKind.bits .u64))) ≥ (65536:Int))) = true → (0 ≤ (16:Int) ∧ (((decide ((Int.fdiv (Int.fdiv x0 (2 ^ min ((32:Int)).toNat (IntKind.bits .u64))) (2 ^ min ((16:Int)).toNat (IntKind.bits .u64))) ≥ (256:Int))) = true → (0 ≤ (8:Int) ∧ (0 ≤ (IntKind.wrap .u8 (Int.fdiv (Int.fdiv (Int.fdiv x0 (2 ^ min ((32:Int)).toNat (IntKind.bits .u64))) (2 ^ min ((16:Int)).toNat (IntKind.bits .u64))) (2 ^ min ((8:Int)).toNat (IntKind.bits .u64)))) ∧ (IntKind.wrap .u8 (Int.fdiv (Int.fdiv (Int.fdiv x0 (2 ^ min ((32:Int)).toNat (IntKind.bits .u64))) (2 ^ min ((16:Int)).toNat (IntKind.bits .u64))) (2 ^ min ((8:Int)).toNat (IntKind.bits .u64)))) < ((([0,1,2,2,3,3,3,3,4,4,4,4,4,4,4,4,5,5,5,5,5,5,5,5,5,5,5,5,5,5,5,5,6,6,6,6,6,6,6,6,6,6,6,6,6,6,6,6,6,6,6,6,6,6,6,6,6,6,6,6,6,6,6,6,7,7,7,7,7,7,7,7,7,7,7,7,7,7,7,7,7,7,7,7,7,7,7,7,7,7,7,7,7,7,7,7,7,7,7,7,7,7,7,7,7,7,7,7,7,7,7,7,7,7,7,7,7,7,7,7,7,7,7,7,7,7,7,7,8,8,8,8,8,8,8,8,8,8,8,8,8,8,8,8,8,8,8,8,8,8,8,8,8,8,8,8,8,8,8,8,8,8,8,8,8,8,8,8,8,8,8,8,8,8,8,8,8,8,8,8,8,8,8,8,8,8,8,8,8,8,8,8,8,8,8,8,8,8,8,8,8,8,8,8,8,8,8,8,8,8,8,8,8,8,8,8,8,8,8,8,8,8,8,8,8,8,8,8,8,8,8,8,8,8,8,8,8,8,8,8,8,8,8,8,8,8,8,8,8,8,8,8,8,8,8,8] : List UInt8)).length : Int) ∧ R (.int .i64 ((IntKind.wrap .i64 ((IntKind.wrap .i64 ((IntKind.wrap .i64 ((32:Int) + (16:Int))) + (8:Int))) + (IntKind.wrap .i64 ((([0,1,2,2,3,3,3,3,4,4,4,4,4,4,4,4,5,5,5,5,5,5,5,5,5,5,5,5,5,5,5,5,6,6,6,6,6,6,6,6,6,6,6,6,6,6,6,6,6,6,6,6,6,6,6,6,6,6,6,6,6,6,6,6,7,7,7,7,7,7,7,7,7,7,7,7,7,7,7,7,7,7,7,7,7,7,7,7,7,7,7,7,7,7,7,7,7,7,7,7,7,7,7,7,7,7,7,7,7,7,7,7,7,7,7,7,7,7,7,7,7,7,7,7,7,7,7,7,8,8,8,8,8,8,8,8,8,8,8,8,8,8,8,8,8,8,8,8,8,8,8,8,8,8,8,8,8,8,8,8,8,8,8,8,8,8,8,8,8,8,8,8,8,8,8,8,8,8,8,8,8,8,8,8,8,8,8,8,8,8,8,8,8,8,8,8,8,8,8,8,8,8,8,8,8,8,8,8,8,8,8,8,8,8,8,8,8,8,8,8,8,8,8,8,8,8,8,8,8,8,8,8,8,8,8,8,8,8,8,8,8,8,8,8,8,8,8,8,8,8,8,8,8,8,8,8] : List UInt8).getD ((IntKind.wrap .u8 (Int.fdiv (Int.fdiv (Int.fdiv x0 (2 ^ min ((32:Int)).toNat (IntKind.bits .u64))) (2 ^ min ((16:Int)).toNat (IntKind.bits .u64))) (2 ^ min ((8:Int)).toNat (IntKind.bits .u64))))).toNat 0).toNat : Int))))))))) ∧
 ((decide ((Int.fdiv (Int.fdiv x0 (2 ^ min ((32:Int)).toNat (IntKind.bits .u64))) (2 ^ min ((16:Int)).toNat (IntKind.bits .u64))) ≥ (256:Int))) = false → (0 ≤ (IntKind.wrap .u8 (Int.fdiv (Int.fdiv x0 (2 ^ min ((32:Int)).toNat (IntKind.bits .u64))) (2 ^ min ((16:Int)).toNat (IntKind.bits .u64)))) ∧ (IntKind.wrap .u8 (Int.fdiv (Int.fdiv x0 (2 ^ min ((32:Int)).toNat (IntKind.bits .u64))) (2 ^ min ((16:Int)).toNat (IntKind.bits .u64)))) < ((([0,1,2,2,3,3,3,3,4,4,4,4,4,4,4,4,5,5,5,5,5,5,5,5,5,5,5,5,5,5,5,5,6,6,6,6,6,6,6,6,6,6,6,6,6,6,6,6,6,6,6,6,6,6,6,6,6,6,6,6,6,6,6,6,7,7,7,7,7,7,7,7,7,7,7,7,7,7,7,7,7,7,7,7,7,7,7,7,7,7,7,7,7,7,7,7,7,7,7,7,7,7,7,7,7,7,7,7,7,7,7,7,7,7,7,7,7,7,7,7,7,7,7,7,7,7,7,7,8,8,8,8,8,8,8,8,8,8,8,8,8,8,8,8,8,8,8,8,8,8,8,8,8,8,8,8,8,8,8,8,8,8,8,8,8,8,8,8,8,8,8,8,8,8,8,8,8,8,8,8,8,8,8,8,8,8,8,8,8,8,8,8,8,8,8,8,8,8,8,8,8,8,8,8,8,8,8,8,8,8,8,8,8,8,8,8,8,8,8,8,8,8,8,8,8,8,8,8,8,8,8,8,8,8,8,8,8,8,8,8,8,8,8,8,8,8,8,8,8,8,8,8,8,8,8,8] : List UInt8)).length : Int) ∧ R (.int .i64 ((IntKind.wrap .i64 ((IntKind.wrap .i64 ((32:Int) + (16:Int))) + (IntKind.wrap .i64 ((([0,1,2,2,3,3,3,3,4,4,4,4,4,4,4,4,5,5,5,5,5,5,5,5,5,5,5,5,5,5,5,5,6,6,6,6,6,6,6,6,6,6,6,6,6,6,6,6,6,6,6,6,6,6,6,6,6,6,6,6,6,6,6,6,7,7,7,7,7,7,7,7,7,7,7,7,7,7,7,7,7,7,7,7,7,7,7,7,7,7,7,7,7,7,7,7,7,7,7,7,7,7,7,7,7,7,7,7,7,7,7,7,7,7,7,7,7,7,7,7,7,7,7,7,7,7,7,7,8,8,8,8,8,8,8,8,8,8,8,8,8,8,8,8,8,8,8,8,8,8,8,8,8,8,8,8,8,8,8,8,8,8,8,8,8,8,8,8,8,8,8,8,8,8,8,8,8,8,8,8,8,8,8,8,8,8,8,8,8,8,8,8,8,8,8,8,8,8,8,8,8,8,8,8,8,8,8,8,8,8,8,8,8,8,8,8,8,8,8,8,8,8,8,8,8,8,8,8,8,8,8,8,8,8,8,8,8,8,8,8,8,8,8,8,8,8,8,8,8,8,8,8,8,8,8,8] : List UInt8).getD ((IntKind.wrap .u8 (Int.fdiv (Int.fdiv x0 (2 ^ min ((32:Int)).toNat (IntKind.bits .u64))) (2 ^ min ((16:Int)).toNat (IntKind.bits .u64))))).toNat 0).toNat : Int))))))))))) ∧
 ((decide ((Int.fdiv x0 (2 ^ min ((32:Int)).toNat (IntKind.bits .u64))) ≥ (65536:Int))) = false → (((decide ((Int.fdiv x0 (2 ^ min ((32:Int)).toNat (IntKind.bits .u64))) ≥ (256:Int))) = true → (0 ≤ (8:Int) ∧ (0 ≤ (IntKind.wrap .u8 (Int.fdiv (Int.fdiv x0 (2 ^ min ((32:Int)).toNat (IntKind.bits .u64))) (2 ^ min ((8:Int)).toNat (IntKind.bits .u64)))) ∧ (IntKind.wrap .u8 (Int.fdiv (Int.fdiv x0 (2 ^ min ((32:Int)).toNat (IntKind.bits .u64))) (2 ^ min ((8:Int)).toNat (IntKind.bits .u64)))) < ((([0,1,2,2,3,3,3,3,4,4,4,4,4,4,4,4,5,5,5,5,5,5,5,5,5,5,5,5,5,5,5,5,6,6,6,6,6,6,6,6,6,6,6,6,6,6,6,6,6,6,6,6,6,6,6,6,6,6,6,6,6,6,6,6,7,7,7,7,7,7,7,7,7,7,7,7,7,7,7,7,7,7,7,7,7,7,7,7,7,7,7,7,7,7,7,7,7,7,7,7,7,7,7,7,7,7,7,7,7,7,7,7,7,7,7,7,7,7,7,7,7,7,7,7,7,7,7,7,8,8,8,8,8,8,8,8,8,8,8,8,8,8,8,8,8,8,8,8,8,8,8,8,8,8,8,8,8,8,8,8,8,8,8,8,8,8,8,8,8,8,8,8,8,8,8,8,8,8,8,8,8,8,8,8,8,8,8,8,8,8,8,8,8,8,8,8,8,8,8,8,8,8,8,8,8,8,8,8,8,8,8,8,8,8,8,8,8,8,8,8,8,8,8,8,8,8,8,8,8,8,8,8,8,8,8,8,8,8,8,8,8,8,8,8,8,8,8,8,8,8,8,8,8,8,8,8] : List UInt8)).length : Int) ∧ R (.int .i64 ((IntKind.wrap .i64 ((IntKind.wrap .i64 ((32:Int) + (8:Int))) + (IntKind.wrap .i64 ((([0,1,2,2,3,3,3,3,4,4,4,4,4,4,4,4,5,5,5,5,5,5,5,5,5,5,5,5,5,5,5,5,6,6,6,6,6,6,6,6,6,6,6,6,6,6,6,6,6,6,6,6,6,6,6,6,6,6,6,6,6,6,6,6,7,7,7,7,7,7,7,7,7,7,7,7,7,7,7,7,7,7,7,7,7,7,7,7,7,7,7,7,7,7,7,7,7,7,7,7,7,7,7,7,7,7,7,7,7,7,7,7,7,7,7,7,7,7,7,7,7,7,7,7,7,7,7,7,8,8,8,8,8,8,8,8,8,8,8,8,8,8,8,8,8,8,8,8,8,8,8,8,8,8,8,8,8,8,8,8,8,8,8,8,8,8,8,8,8,8,8,8,8,8,8,8,8,8,8,8,8,8,8,8,8,8,8,8,8,8,8,8,8,8,8,8,8,8,8,8,8,8,8,8,8,8,8,8,8,8,8,8,8,8,8,8,8,8,8,8,8,8,8,8,8,8,8,8,8,8,8,8,8,8,8,8,8,8,8,8,8,8,8,8,8,8,8,8,8,8,8,8,8,8,8,8] : List UInt8).getD ((IntKind.wrap .u8 (Int.fdiv (Int.fdiv x0 (2 ^ min ((32:Int)).toNat (IntKind.bits .u64))) (2 ^ min ((8:Int)).toNat (IntKind.bits .u64))))).toNat 0).toNat : Int))))))))) ∧
 ((decide ((Int.fdiv x0 (2 ^ min ((32:Int)).toNat (IntKind.bits .u64))) ≥ (256:Int))) = false → (0 ≤ (IntKind.wrap .u8 (Int.fdiv x0 (2 ^ min ((32:Int)).toNat (IntKind.bits .u64)))) ∧ (IntKind.wrap .u8 (Int.fdiv x0 (2 ^ min ((32:Int)).toNat (IntKind.bits .u64)))) < ((([0,1,2,2,3,3,3,3,4,4,4,4,4,4,4,4,5,5,5,5,5,5,5,5,5,5,5,5,5,5,5,5,6,6,6,6,6,6,6,6,6,6,6,6,6,6,6,6,6,6,6,6,6,6,6,6,6,6,6,6,6,6,6,6,7,7,7,7,7,7,7,7,7,7,7,7,7,7,7,7,7,7,7,7,7,7,7,7,7,7,7,7,7,7,7,7,7,7,7,7,7,7,7,7,7,7,7,7,7,7,7,7,7,7,7,7,7,7,7,7,7,7,7,7,7,7,7,7,8,8,8,8,8,8,8,8,8,8,8,8,8,8,8,8,8,8,8,8,8,8,8,8,8,8,8,8,8,8,8,8,8,8,8,8,8,8,8,8,8,8,8,8,8,8,8,8,8,8,8,8,8,8,8,8,8,8,8,8,8,8,8,8,8,8,8,8,8,8,8,8,8,8,8,8,8,8,8,8,8,8,8,8,8,8,8,8,8,8,8,8,8,8,8,8,8,8,8,8,8,8,8,8,8,8,8,8,8,8,8,8,8,8,8,8,8,8,8,8,8,8,8,8,8,8,8,8] : List UInt8)).length : Int) ∧ R (.int .i64 ((IntKind.wrap .i64 ((32:Int) + (IntKind.wrap .i64 ((([0,1,2,2,3,3,3,3,4,4,4,4,4,4,4,4,5,5,5,5,5,5,5,5,5,5,5,5,5,5,5,5,6,6,6,6,6,6,6,6,6,6,6,6,6,6,6,6,6,6,6,6,6,6,6,6,6,6,6,6,6,6,6,6,7,7,7,7,7,7,7,7,7,7,7,7,7,7,7,7,7,7,7,7,7,7,7,7,7,7,7,7,7,7,7,7,7,7,7,7,7,7,7,7,7,7,7,7,7,7,7,7,7,7,7,7,7,7,7,7,7,7,7,7,7,7,7,7,8,8,8,8,8,8,8,8,8,8,8,8,8,8,8,8,8,8,8,8,8,8,8,8,8,8,8,8,8,8,8,8,8,8,8,8,8,8,8,8,8,8,8,8,8,8,8,8,8,8,8,8,8,8,8,8,8,8,8,8,8,8,8,8,8,8,8,8,8,8,8,8,8,8,8,8,8,8,8,8,8,8,8,8,8,8,8,8,8,8,8,8,8,8,8,8,8,8,8,8,8,8,8,8,8,8,8,8,8,8,8,8,8,8,8,8,8,8,8,8,8,8,8,8,8,8,8,8] : List UInt8).getD ((IntKind.wrap .u8 (Int.fdiv x0 (2 ^ min ((32:Int)).toNat (IntKind.bits .u64))))).toNat 0).toNat : Int))))))))))))) ∧
 ((decide (x0 ≥ (4294967296:Int))) = false → (((decide (x0 ≥ (65536:Int))) = true → (0 ≤ (16:Int) ∧ (((decide ((Int.fdiv x0 (2 ^ min ((16:Int)).toNat (IntKind.bits .u64))) ≥ (256:Int))) = true → (0 ≤ (8:Int) ∧ (0 ≤ (IntKind.wrap .u8 (Int.fdiv (Int.fdiv x0 (2 ^ min ((16:Int)).toNat (IntKind.bits .u64))) (2 ^ min ((8:Int)).toNat (IntKind.bits .u64)))) ∧ (IntKind.wrap .u8 (Int.fdiv (Int.fdiv x0 (2 ^ min ((16:Int)).toNat (IntKind.bits .u64))) (2 ^ min ((8:Int)).toNat (IntKind.bits .u64)))) < ((([0,1,2,2,3,3,3,3,4,4,4,4,4,4,4,4,5,5,5,5,5,5,5,5,5,5,5,5,5,5,5,5,6,6,6,6,6,6,6,6,6,6,6,6,6,6,6,6,6,6,6,6,6,6,6,6,6,6,6,6,6,6,6,6,7,7,7,7,7,7,7,7,7,7,7,7,7,7,7,7,7,7,7,7,7,7,7,7,7,7,7,7,7,7,7,7,7,7,7,7,7,7,7,7,7,7,7,7,7,7,7,7,7,7,7,7,7,7,7,7,7,7,7,7,7,7,7,7,8,8,8,8,8,8,8,8,8,8,8,8,8,8,8,8,8,8,8,8,8,8,8,8,8,8,8,8,8,8,8,8,8,8,8,8,8,8,8,8,8,8,8,8,8,8,8,8,8,8,8,8,8,8,8,8,8,8,8,8,8,8,8,8,8,8,8,8,8,8,8,8,8,8,8,8,8,8,8,8,8,8,8,8,8,8,8,8,8,8,8,8,8,8,8,8,8,8,8,8,8,8,8,8,8,8,8,8,8,8,8,8,8,8,8,8,8,8,8,8,8,8,8,8,8,8,8,8] : List UInt8)).length : Int) ∧ R (.int .i64 ((IntKind.wrap .i64 ((IntKind.wrap .i64 ((IntKind.wrap .i64 ((0:Int) + (16:Int))) + (8:Int))) + (IntKind.wrap .i64 ((([0,1,2,2,3,3,3,3,4,4,4,4,4,4,4,4,5,5,5,5,5,5,5,5,5,5,5,5,5,5,5,5,6,6,6,6,6,6,6,6,6,6,6,6,6,6,6,6,6,6,6,6,6,6,6,6,6,6,6,6,6,6,6,6,7,7,7,7,7,7,7,7,7,7,7,7,7,7,7,7,7,7,7,7,7,7,7,7,7,7,7,7,7,7,7,7,7,7,7,7,7,7,7,7,7,7,7,7,7,7,7,7,7,7,7,7,7,7,7,7,7,7,7,7,7,7,7,7,8,8,8,8,8,8,8,8,8,8,8,8,8,8,8,8,8,8,8,8,8,8,8,8,8,8,8,8,8,8,8,8,8,8,8,8,8,8,8,8,8,8,8,8,8,8,8,8,8,8,8,8,8,8,8,8,8,8,8,8,8,8,8,8,8,8,8,8,8,8,8,8,8,8,8,8,8,8,8,8,8,8,8,8,8,8,8,8,8,8,8,8,8,8,8,8,8,8,8,8,8,8,8,8,8,8,8,8,8,8,8,8,8,8,8,8,8,8,8,8,8,8,8,8,8,8,8,8] : List UInt8).getD ((IntKind.wrap .u8 (Int.fdiv (Int.fdiv x0 (2 ^ min ((16:Int)).toNat (IntKind.bits .u64))) (2 ^ min ((8:Int)).toNat (IntKind.bits .u64))))).toNat 0).toNat : Int))))))))) ∧
 ((decide ((Int.fdiv x0 (2 ^ min ((16:Int)).toNat (IntKind.bits .u64))) ≥ (256:Int))) = false → (0 ≤ (IntKind.wrap .u8 (Int.fdiv x0 (2 ^ min ((16:Int)).toNat (IntKind.bits .u64)))) ∧ (IntKind.wrap .u8 (Int.fdiv x0 (2 ^ min ((16:Int)).toNat (IntKind.bits .u64)))) < ((([0,1,2,2,3,3,3,3,4,4,4,4,4,4,4,4,5,5,5,5,5,5,5,5,5,5,5,5,5,5,5,5,6,6,6,6,6,6,6,6,6,6,6,6,6,6,6,6,6,6,6,6,6,6,6,6,6,6,6,6,6,6,6,6,7,7,7,7,7,7,7,7,7,7,7,7,7,7,7,7,7,7,7,7,7,7,7,7,7,7,7,7,7,7,7,7,7,7,7,7,7,7,7,7,7,7,7,7,7,7,7,7,7,7,7,7,7,7,7,7,7,7,7,7,7,7,7,7,8,8,8,8,8,8,8,8,8,8,8,8,8,8,8,8,8,8,8,8,8,8,8,8,8,8,8,8,8,8,8,8,8,8,8,8,8,8,8,8,8,8,8,8,8,8,8,8,8,8,8,8,8,8,8,8,8,8,8,8,8,8,8,8,8,8,8,8,8,8,8,8,8,8,8,8,8,8,8,8,8,8,8,8,8,8,8,8,8,8,8,8,8,8,8,8,8,8,8,8,8,8,8,8,8,8,8,8,8,8,8,8,8,8,8,8,8,8,8,8,8,8,8,8,8,8,8,8] : List UInt8)).length : Int) ∧ R (.int .i64 ((IntKind.wrap .i64 ((IntKind.wrap .i64 ((0:Int) + (16:Int))) + (IntKind.wrap .i64 ((([0,1,2,2,3,3,3,3,4,4,4,4,4,4,4,4,5,5,5,5,5,5,5,5,5,5,5,5,5,5,5,5,6,6,6,6,6,6,6,6,6,6,6,6,6,6,6,6,6,6,6,6,6,6,6,6,6,6,6,6,6,6,6,6,7,7,7,7,7,7,7,7,7,7,7,7,7,7,7,7,7,7,7,7,7,7,7,7,7,7,7,7,7,7,7,7,7,7,7,7,7,7,7,7,7,7,7,7,7,7,7,7,7,7,7,7,7,7,7,7,7,7,7,7,7,7,7,7,8,8,8,8,8,8,8,8,8,8,8,8,8,8,8,8,8,8,8,8,8,8,8,8,8,8,8,8,8,8,8,8,8,8,8,8,8,8,8,8,8,8,8,8,8,8,8,8,8,8,8,8,8,8,8,8,8,8,8,8,8,8,8,8,8,8,8,8,8,8,8,8,8,8,8,8,8,8,8,8,8,8,8,8,8,8,8,8,8,8,8,8,8,8,8,8,8,8,8,8,8,8,8,8,8,8,8,8,8,8,8,8,8,8,8,8,8,8,8,8,8,8,8,8,8,8,8,8] : List UInt8).getD ((IntKind.wrap .u8 (Int.fdiv x0 (2 ^ min ((16:Int)).toNat (IntKind.bits .u64))))).toNat 0).toNat : Int))))))))))) ∧
 ((decide (x0 ≥ (65536:Int))) = false → (((decide (x0 ≥ (256:Int))) = true → (0 ≤ (8:Int) ∧ (0 ≤ (IntKind.wrap .u8 (Int.fdiv x0 (2 ^ min ((8:Int)).toNat (IntKind.bits .u64)))) ∧ (IntKind.wrap .u8 (Int.fdiv x0 (2 ^ min ((8:Int)).toNat (IntKind.bits .u64)))) < ((([0,1,2,2,3,3,3,3,4,4,4,4,4,4,4,4,5,5,5,5,5,5,5,5,5,5,5,5,5,5,5,5,6,6,6,6,6,6,6,6,6,6,6,6,6,6,6,6,6,6,6,6,6,6,6,6,6,6,6,6,6,6,6,6,7,7,7,7,7,7,7,7,7,7,7,7,7,7,7,7,7,7,7,7,7,7,7,7,7,7,7,7,7,7,7,7,7,7,7,7,7,7,7,7,7,7,7,7,7,7,7,7,7,7,7,7,7,7,7,7,7,7,7,7,7,7,7,7,8,8,8,8,8,8,8,8,8,8,8,8,8,8,8,8,8,8,8,8,8,8,8,8,8,8,8,8,8,8,8,8,8,8,8,8,8,8,8,8,8,8,8,8,8,8,8,8,8,8,8,8,8,8,8,8,8,8,8,8,8,8,8,8,8,8,8,8,8,8,8,8,8,8,8,8,8,8,8,8,8,8,8,8,8,8,8,8,8,8,8,8,8,8,8,8,8,8,8,8,8,8,8,8,8,8,8,8,8,8,8,8,8,8,8,8,8,8,8,8,8,8,8,8,8,8,8,8] : List UInt8)).length : Int) ∧ R (.int .i64 ((IntKind.wrap .i64 ((IntKind.wrap .i64 ((0:Int) + (8:Int))) + (IntKind.wrap .i64 ((([0,1,2,2,3,3,3,3,4,4,4,4,4,4,4,4,5,5,5,5,5,5,5,5,5,5,5,5,5,5,5,5,6,6,6,6,6,6,6,6,6,6,6,6,6,6,6,6,6,6,6,6,6,6,6,6,6,6,6,6,6,6,6,6,7,7,7,7,7,7,7,7,7,7,7,7,7,7,7,7,7,7,7,7,7,7,7,7,7,7,7,7,7,7,7,7,7,7,7,7,7,7,7,7,7,7,7,7,7,7,7,7,7,7,7,7,7,7,7,7,7,7,7,7,7,7,7,7,8,8,8,8,8,8,8,8,8,8,8,8,8,8,8,8,8,8,8,8,8,8,8,8,8,8,8,8,8,8,8,8,8,8,8,8,8,8,8,8,8,8,8,8,8,8,8,8,8,8,8,8,8,8,8,8,8,8,8,8,8,8,8,8,8,8,8,8,8,8,8,8,8,8,8,8,8,8,8,8,8,8,8,8,8,8,8,8,8,8,8,8,8,8,8,8,8,8,8,8,8,8,8,8,8,8,8,8,8,8,8,8,8,8,8,8,8,8,8,8,8,8,8,8,8,8,8,8] : List UInt8).getD ((IntKind.wrap .u8 (Int.fdiv x0 (2 ^ min ((8:Int)).toNat (IntKind.bits .u64))))).toNat 0).toNat : Int))))))))) ∧
 ((decide (x0 ≥ (256:Int))) = false → (0 ≤ (IntKind.wrap .u8 x0) ∧ (IntKind.wrap .u8 x0) < ((([0,1,2,2,3,3,3,3,4,4,4,4,4,4,4,4,5,5,5,5,5,5,5,5,5,5,5,5,5,5,5,5,6,6,6,6,6,6,6,6,6,6,6,6,6,6,6,6,6,6,6,6,6,6,6,6,6,6,6,6,6,6,6,6,7,7,7,7,7,7,7,7,7,7,7,7,7,7,7,7,7,7,7,7,7,7,7,7,7,7,7,7,7,7,7,7,7,7,7,7,7,7,7,7,7,7,7,7,7,7,7,7,7,7,7,7,7,7,7,7,7,7,7,7,7,7,7,7,8,8,8,8,8,8,8,8,8,8,8,8,8,8,8,8,8,8,8,8,8,8,8,8,8,8,8,8,8,8,8,8,8,8,8,8,8,8,8,8,8,8,8,8,8,8,8,8,8,8,8,8,8,8,8,8,8,8,8,8,8,8,8,8,8,8,8,8,8,8,8,8,8,8,8,8,8,8,8,8,8,8,8,8,8,8,8,8,8,8,8,8,8,8,8,8,8,8,8,8,8,8,8,8,8,8,8,8,8,8,8,8,8,8,8,8,8,8,8,8,8,8,8,8,8,8,8,8] : List UInt8)).length : Int) ∧ R (.int .i64 ((IntKind.wrap .i64 ((0:Int) + (IntKind.wrap .i64 ((([0,1,2,2,3,3,3,3,4,4,4,4,4,4,4,4,5,5,5,5,5,5,5,5,5,5,5,5,5,5,5,5,6,6,6,6,6,6,6,6,6,6,6,6,6,6,6,6,6,6,6,6,6,6,6,6,6,6,6,6,6,6,6,6,7,7,7,7,7,7,7,7,7,7,7,7,7,7,7,7,7,7,7,7,7,7,7,7,7,7,7,7,7,7,7,7,7,7,7,7,7,7,7,7,7,7,7,7,7,7,7,7,7,7,7,7,7,7,7,7,7,7,7,7,7,7,7,7,8,8,8,8,8,8,8,8,8,8,8,8,8,8,8,8,8,8,8,8,8,8,8,8,8,8,8,8,8,8,8,8,8,8,8,8,8,8,8,8,8,8,8,8,8,8,8,8,8,8,8,8,8,8,8,8,8,8,8,8,8,8,8,8,8,8,8,8,8,8,8,8,8,8,8,8,8,8,8,8,8,8,8,8,8,8,8,8,8,8,8,8,8,8,8,8,8,8,8,8,8,8,8,8,8,8,8,8,8,8,8,8,8,8,8,8,8,8,8,8,8,8,8,8,8,8,8,8] : List UInt8).getD ((IntKind.wrap .u8 x0)).toNat 0).toNat : Int)))))))))))))) :
  fnK X63.tt (callN Tryd.prog X63 0) (X63.md 63) (X63.mk1 63) Tryd.f63 [(.v (.int .u64 x0))] ⟨[],[],⟨0,[]⟩⟩ (topK R) := Eq.mp (by kernel_rfl) h
end Go.Proofs.YtdcljlafookliaaDoor.AB

namespace Go.Proofs.YtdcljlafookliaaDoor.AB
open Go

def tab8 : List UInt8 := [0,1,2,2,3,3,3,3,4,4,4,4,4,4,4,4,5,5,5,5,5,5,5,5,5,5,5,5,5,5,5,5,6,6,6,6,6,6,6,6,6,6,6,6,6,6,6,6,6,6,6,6,6,6,6,6,6,6,6,6,6,6,6,6,7,7,7,7,7,7,7,7,7,7,7,7,7,7,7,7,7,7,7,7,7,7,7,7,7,7,7,7,7,7,7,7,7,7,7,7,7,7,7,7,7,7,7,7,7,7,7,7,7,7,7,7,7,7,7,7,7,7,7,7,7,7,7,7,8,8,8,8,8,8,8,8,8,8,8,8,8,8,8,8,8,8,8,8,8,8,8,8,8,8,8,8,8,8,8,8,8,8,8,8,8,8,8,8,8,8,8,8,8,8,8,8,8,8,8,8,8,8,8,8,8,8,8,8,8,8,8,8,8,8,8,8,8,8,8,8,8,8,8,8,8,8,8,8,8,8,8,8,8,8,8,8,8,8,8,8,8,8,8,8,8,8,8,8,8,8,8,8,8,8,8,8,8,8,8,8,8,8,8,8,8,8,8,8,8,8,8,8,8,8,8,8]

def bl (n : Nat) : Nat :=
 if 65536 ≤ n then 16 + (tab8.getD (n / 65536) 0).toNat else if 256 ≤ n then 8 + (tab8.getD (n / 256) 0).toNat else (tab8.getD n 0).toNat

theorem tab8_step : ∀ i : Fin 255,(tab8.getD i.1 0).toNat ≤ (tab8.getD (i.1 + 1) 0).toNat := by decide +kernel
theorem tab8_le : ∀ i : Fin 256,(tab8.getD i.1 0).toNat ≤ 8 := by decide +kernel
theorem tab8_31 : (tab8.getD 31 0).toNat = 5 := by decide +kernel
theorem tab8_1 : (tab8.getD 1 0).toNat = 1 := by decide +kernel

theorem tab8_mono {i j : Nat} (h : i ≤ j) (hj : j < 256) : (tab8.getD i 0).toNat ≤ (tab8.getD j 0).toNat := by
 induction j with
 | zero =>
  have : i = 0 := by omega
  subst this; exact Nat.le_refl _
 | succ j ih =>
  rcases Nat.lt_or_ge i (j + 1) with h' | h'
  ·exact Nat.le_trans (ih (by omega) (by omega)) (tab8_step ⟨j,by omega⟩)
  ·have : i = j + 1 := by omega
   subst this; exact Nat.le_refl _

theorem bl_mono {a b : Nat} (h : a ≤ b) (hb : b < 16777216) : bl a ≤ bl b := by
 unfold bl
 have t8 := fun i (hi : i < 256) => tab8_le ⟨i,hi⟩
 by_cases h1 : 65536 ≤ a
 ·rw [if_pos h1,if_pos (by omega)]
  have := tab8_mono (i := a / 65536) (j := b / 65536) (Nat.div_le_div_right h) (by omega)
  omega
 ·rw [if_neg h1]
  by_cases h2 : 65536 ≤ b
  ·rw [if_pos h2]
   have hp := tab8_mono (i := 1) (j := b / 65536) (by omega) (by omega)
   rw [tab8_1] at hp
   split
   ·have := t8 (a / 256) (by omega)
    simp only at this
    omega
   ·have := t8 a (by omega)
    simp only at this
    omega
  ·rw [if_neg h2]
   by_cases h3 : 256 ≤ a
   ·rw [if_pos h3,if_pos (by omega)]
    have := tab8_mono (i := a / 256) (j := b / 256) (Nat.div_le_div_right h) (by omega)
    omega
   ·rw [if_neg h3]
    split
    ·have hp := tab8_mono (i := 1) (j := b / 256) (by omega) (by omega)
     rw [tab8_1] at hp
     have := t8 a (by omega)
     simp only at this
     omega
    ·exact tab8_mono h (by omega)

theorem bl_lt {n : Nat} (h : n < 2097152) : bl n < 22 := by
 have : bl n ≤ bl 2097151 := bl_mono (by omega) (by omega)
 have e : bl 2097151 = 21 := by decide +kernel
 omega

theorem bl_inv {a b : Nat} (h : bl a < bl b) (ha : a < 16777216) : a < b := by
 rcases Nat.lt_or_ge a b with h' | h'
 ·exact h'
 ·have := bl_mono h' ha; omega

theorem wrapu8' {n : Int} (h0 : 0 ≤ n) (h1 : n ≤ 255) : IntKind.wrap .u8 n = n := by
 have e : IntKind.wrap .u8 n = n % 256 := by simp [IntKind.wrap,IntKind.bits,IntKind.signed]
 rw [e]; omega

theorem fd16 (n : Nat) : Int.fdiv (n : Int) (2 ^ min ((16:Int)).toNat (IntKind.bits .u64)) = ((n / 65536 : Nat) : Int) := by
 have e0 : ((2:Int) ^ min ((16:Int)).toNat (IntKind.bits .u64)) = 65536 := by decide
 rw [e0,Int.fdiv_eq_ediv_of_nonneg _ (by omega)]; omega

theorem fd8 (n : Nat) : Int.fdiv (n : Int) (2 ^ min ((8:Int)).toNat (IntKind.bits .u64)) = ((n / 256 : Nat) : Int) := by
 have e0 : ((2:Int) ^ min ((8:Int)).toNat (IntKind.bits .u64)) = 256 := by decide
 rw [e0,Int.fdiv_eq_ediv_of_nonneg _ (by omega)]; omega

theorem tab8_len : tab8.length = 256 := by decide +kernel

theorem p63 (n : Nat) (h : n < 16777216) : PC Tryd.prog 63 [.int .u64 (n : Int)] (.int .i64 (bl n : Nat)) := by
 have T := tab8_len
 have t8 := fun i (hi : i < 256) => tab8_le ⟨i,hi⟩
 refine pcOf (X := X63) (d := 0) rfl FN63 (by kernel_rfl) (by decide) (E63 n ⟨fun e => ?_,fun e => ⟨fun e2 => ?_,fun e2 => ⟨fun e3 => ?_,fun e3 => ?_⟩⟩⟩)
 ·have := of_decide_eq_true e; omega
 ·have e2 := of_decide_eq_true e2
  rw [fd16]
  refine ⟨by decide,fun e3 => ?_,fun e3 => ?_⟩
  ·have := of_decide_eq_true e3; omega
  ·rw [wrapu8' (by omega) (by omega),Int.toNat_natCast]
   have hb := t8 (n / 65536) (by omega)
   refine ⟨by omega,?_,?_⟩
   ·show ((n / 65536 : Nat) : Int) < (tab8.length : Int)
    omega
   ·show V.norm (.int .i64 (IntKind.wrap .i64 (IntKind.wrap .i64 (0 + 16) + IntKind.wrap .i64 ((tab8.getD (n / 65536) 0).toNat : Int)))) = _ ∧ _
    simp only at hb
    rw [wrap64 (x := (0:Int) + 16) (by omega) (by omega),wrap64 (x := ((tab8.getD (n / 65536) 0).toNat : Int)) (by omega) (by omega),wrap64 (by omega) (by omega)]
    have : bl n = 16 + (tab8.getD (n / 65536) 0).toNat := by unfold bl; rw [if_pos (by omega)]
    rw [this,Int.natCast_add]
    exact ⟨rfl,rfl⟩
 ·have e3 := of_decide_eq_true e3
  have e2 := of_decide_eq_false e2
  rw [fd8,wrapu8' (by omega) (by omega),Int.toNat_natCast]
  have hb := t8 (n / 256) (by omega)
  refine ⟨by decide,by omega,?_,?_⟩
  ·show ((n / 256 : Nat) : Int) < (tab8.length : Int)
   omega
  ·show V.norm (.int .i64 (IntKind.wrap .i64 (IntKind.wrap .i64 (0 + 8) + IntKind.wrap .i64 ((tab8.getD (n / 256) 0).toNat : Int)))) = _ ∧ _
   simp only at hb
   rw [wrap64 (x := (0:Int) + 8) (by omega) (by omega),wrap64 (x := ((tab8.getD (n / 256) 0).toNat : Int)) (by omega) (by omega),wrap64 (by omega) (by omega)]
   have : bl n = 8 + (tab8.getD (n / 256) 0).toNat := by unfold bl; rw [if_neg (by omega),if_pos (by omega)]
   rw [this,Int.natCast_add]
   exact ⟨rfl,rfl⟩
 ·have e3 := of_decide_eq_false e3
  rw [wrapu8' (by omega) (by omega),Int.toNat_natCast]
  have hb := t8 n (by omega)
  refine ⟨by omega,?_,?_⟩
  ·show (n : Int) < (tab8.length : Int)
   omega
  ·show V.norm (.int .i64 (IntKind.wrap .i64 (0 + IntKind.wrap .i64 ((tab8.getD n 0).toNat : Int)))) = _ ∧ _
   simp only at hb
   rw [wrap64 (x := ((tab8.getD n 0).toNat : Int)) (by omega) (by omega),wrap64 (by omega) (by omega)]
   have : bl n = (tab8.getD n 0).toNat := by unfold bl; rw [if_neg (by omega),if_neg (by omega)]
   rw [this,Int.zero_add]
   exact ⟨rfl,rfl⟩

theorem p54 (n : Nat) (h : n < 16777216) : PC Tryd.prog 54 [.int .u64 (n : Int)] (.int .i64 (bl n : Nat)) :=
 pcOf (X := X54) (d := 0) rfl FN54 (by kernel_rfl) (by decide) (E54 n ⟨_,p63 n h,rfl,rfl⟩)

theorem p64 (a b : Int) : PC Tryd.prog 64 [.list (.int .i64) [a,b] .no] (.int .i64 (if a = 0 then b else a)) := by
 refine pcOf (X := X64) (d := 0) rfl FN64 (by kernel_rfl) (by decide) (E64 [a,b] ?_)
 refine Loops.intro (fun n : Nat => S64_0 0 [a,b] (([a,b] : List Int).length) n ⟨0,[]⟩) (fun n => n ≤ 2 ∧ ∀ k,k < n → [a,b].getD k 0 = 0) (fun n => 2 - n) 0 rfl ⟨by omega,fun k hk => by omega⟩ ?_
 rintro n ⟨hn,hz⟩
 have hl : (([a,b] : List Int).length : Int) = 2 := rfl
 refine L64_0 0 [a,b] _ n ⟨0,[]⟩ ⟨fun h => ?_,fun h => ?_⟩
 ·have h := of_decide_eq_true h
  have hlt : n < 2 := by omega
  rw [Int.toNat_natCast,wrap64 (by omega) (by omega)]
  refine ⟨by omega,by omega,fun e => ?_,fun e => ?_⟩
  ·have e : [a,b].getD n 0 ≠ 0 := by simpa using e
   have : (if a = 0 then b else a) = [a,b].getD n 0 := by
    match n,hlt with
    | 0,_ => simp at e ⊢; intro h; exact absurd h e
    | 1,_ =>
     have := hz 0 (by omega)
     simp at this
     simp [this]
   rw [this]; exact ⟨rfl,rfl⟩
  ·have e : [a,b].getD n 0 = 0 := by simpa using e
   refine Again.mk (n + 1) rfl ⟨by omega,fun k hk => ?_⟩ (by omega)
   rcases Nat.lt_or_ge k n with h' | h'
   ·exact hz k h'
   ·have : k = n := by omega
    subst this; exact e
 ·have h := of_decide_eq_false h
  have h2 : n = 2 := by omega
  subst h2
  have ha := hz 0 (by omega)
  have hb := hz 1 (by omega)
  simp at ha hb
  rw [if_pos ha,hb]; exact ⟨rfl,rfl⟩

abbrev BK : Type := Int × Int
abbrev cBK : Cd := .pair (.int .i64) (.int .i64)

def bok (b : BK) : Prop := 0 ≤ b.1 ∧ b.1 ≤ 1099511627776 ∧ 0 ≤ b.2 ∧ b.2 ≤ 1099511627776

def orderR (a b : BK) : Int := if a.2 - b.2 = 0 then a.1 - b.1 else a.2 - b.2

theorem pcOfW {X : Cx} (hX : X.tt = tt) (hfn : fnsB Tryd.prog X.fns) {d : Nat} {f : FuncId} {fn : Func} (hf : Tryd.prog.funcs[f]? = some fn) (hname : fn.name ≠ "runtime.NumGoroutine") {args : List V} {r : V}
  (h : Wrap (fnK X.tt (callN Tryd.prog X d) (X.md f) (X.mk1 f) fn (args.map .v) ⟨[],[],⟨0,[]⟩⟩ (topK fun v => v.norm = r ∧ r.nt = true))) : PC Tryd.prog f args r := pcOf hX hfn hf hname h.out

theorem p56 (a b : BK) (ha : bok a) (hb : bok b) : PC Tryd.prog 56 [.agg [.int .i64 a.1,.int .i64 a.2],.agg [.int .i64 b.1,.int .i64 b.2]] (.int .i64 (orderR a b)) := by
 obtain ⟨a1,a2,a3,a4⟩ := ha
 obtain ⟨b1,b2,b3,b4⟩ := hb
 have w1 : IntKind.wrap .i64 (a.2 - b.2) = a.2 - b.2 := wrap64 (by omega) (by omega)
 have w2 : IntKind.wrap .i64 (a.1 - b.1) = a.1 - b.1 := wrap64 (by omega) (by omega)
 exact pcOfW (X := X56) (d := 0) rfl FN56 (by kernel_rfl) (by decide) (E56 a b ⟨orderR a b,by rw [w1,w2]; exact p64 _ _,rfl,rfl⟩)

def bkLt (a b : BK) : Prop := a.2 < b.2 ∨ a.2 = b.2 ∧ a.1 < b.1

instance (a b : BK) : Decidable (bkLt a b) := by unfold bkLt; infer_instance

theorem order_lt (a b : BK) : orderR a b < 0 ↔ bkLt a b := by
 unfold orderR bkLt; split <;> omega

theorem order_eq (a b : BK) : orderR a b = 0 ↔ a = b := by
 unfold orderR
 constructor
 ·intro h
  split at h
  ·exact Prod.ext (by omega) (by omega)
  ·omega
 ·rintro rfl; simp

theorem bkLt_trans {a b c : BK} (h : bkLt a b) (k : bkLt b c) : bkLt a c := by unfold bkLt at *; omega
theorem bkLt_irrefl (a : BK) : ¬ bkLt a a := by unfold bkLt; omega
theorem bkLt_total (a b : BK) : bkLt a b ∨ a = b ∨ bkLt b a := by
 unfold bkLt
 by_cases h : a = b
 ·exact .inr (.inl h)
 ·have : ¬ (a.1 = b.1 ∧ a.2 = b.2) := fun q => h (Prod.ext q.1 q.2)
  omega

end Go.Proofs.YtdcljlafookliaaDoor.AB

set_option maxRecDepth 100000
set_option maxHeartbeats 2000000
namespace Go.Proofs.YtdcljlafookliaaDoor.AB
open Go
noncomputable def X55 : Cx := ⟨tt,[(56,[.cd (.int .i64)])],[],[],[(55,[(0,mkM 49 0 [0,2,4,8,9,10],1)])],[]⟩
theorem FN55 : fnsB Tryd.prog X55.fns := (show True from trivial)
def M55_0 : List Bool × Nat := (mkM 49 0 [0,2,4,8,9,10],2)
def S55_0 (x0 : Option SlH) (n8 : Int) (i9 : Int) (j10 : Int) (hq0 : XH) (hq1_0 : Int) (hq1_1 : Int) (T : Toks) : St :=
  mkS 49 [(0,(.sl (.pure (.pair (.int .i64) (.int .i64))) x0)),(2,(.v (.fn 56))),(4,(.ptr 1 0 0 0)),(8,(.v (.int .i64 n8))),(9,(.v (.int .i64 i9))),(10,(.v (.int .i64 j10)))] [(some (.heap hq0)),(some (.box (.v (.agg [(.int .i64 hq1_0),(.int .i64 hq1_1)]))))] T
noncomputable def B55_0 : (Exit → St → Prop) → St → Prop := (awp X55.tt (callN Tryd.prog X55 0) (X55.md 55) 1 (X55.mk1 55) 0 (codeAt [1,1,1,0,0,0] (bd Tryd.f55)))
noncomputable def K55_0 (R : (Int × Bool) → XH → Prop) : Exit → St → Prop := seqK ((awp X55.tt (callN Tryd.prog X55 0) (X55.md 55) 1 (X55.mk1 55) 0 (codeAt [1,1,1,1] (bd Tryd.f55))) (retK tt Tryd.f55.results.toList fun x s' => xfin [(.pure (.int .i64)),(.pure .bool)] R x ⟨[],s'.hp,s'.T⟩)) (retK tt Tryd.f55.results.toList fun x s' => xfin [(.pure (.int .i64)),(.pure .bool)] R x ⟨[],s'.hp,s'.T⟩)
noncomputable def Q55_0 (R : (Int × Bool) → XH → Prop) : Exit → St → Prop := (blockK 0 (K55_0 R))
theorem E55 (X : XH) (x0 : (Option SlH)) (target1 : (Int × Int)) {R : (Int × Bool) → XH → Prop} (h : (Loops B55_0 M55_0 (Q55_0 R)
  (S55_0 x0 ((((slN x0) : Nat) : Int)) (0:Int) ((((slN x0) : Nat) : Int)) X target1.1 target1.2 ⟨0,[]⟩))) :
  fnK X55.tt (callN Tryd.prog X55 0) (X55.md 55) (X55.mk1 55) Tryd.f55 [(.sl (.pure (.pair (.int .i64) (.int .i64))) x0),(.v (.agg [(.int .i64 target1.1),(.int .i64 target1.2)])),(.v (.fn 56))] ⟨[],[some (.heap X)],⟨0,[]⟩⟩ (xfin [(.pure (.int .i64)),(.pure .bool)] R) := Eq.mp (by kernel_rfl) h
theorem L55_0 (x0 : Option SlH) (n8 : Int) (i9 : Int) (j10 : Int) (hq0 : XH) (hq1_0 : Int) (hq1_1 : Int) (T : Toks) {R : (Int × Bool) → XH → Prop} {k0 : St → Prop}
 (h : (((decide (i9 < j10)) = true → (0 ≤ (1:Int) ∧ (∃ (u1 : SlH),x0 = some u1 ∧ 0 ≤ (IntKind.wrap .i64 (Int.fdiv (IntKind.wrap .u64 (IntKind.wrap .i64 (i9 + j10))) (2 ^ min ((1:Int)).toNat (IntKind.bits .u64)))) ∧ (IntKind.wrap .i64 (Int.fdiv (IntKind.wrap .u64 (IntKind.wrap .i64 (i9 + j10))) (2 ^ min ((1:Int)).toNat (IntKind.bits .u64)))) < ((u1.len : Nat) : Int) ∧ (∃ (a2 : (Int × Int)),XH.el hq0 (.pure (.pair (.int .i64) (.int .i64))) u1.h ((u1.off + ((IntKind.wrap .i64 (Int.fdiv (IntKind.wrap .u64 (IntKind.wrap .i64 (i9 + j10))) (2 ^ min ((1:Int)).toNat (IntKind.bits .u64))))).toNat)) = some a2 ∧ (∃ p3 : Int,PC Tryd.prog 56 [(.agg [(.int .i64 a2.1),(.int .i64 a2.2)]),(.agg [(.int .i64 hq1_0),(.int .i64 hq1_1)])] (.int .i64 p3) ∧ (((decide (p3 < (0:Int))) = true → k0 (S55_0 x0 n8 ((IntKind.wrap .i64 ((IntKind.wrap .i64 (Int.fdiv (IntKind.wrap .u64 (IntKind.wrap .i64 (i9 + j10))) (2 ^ min ((1:Int)).toNat (IntKind.bits .u64)))) + (1:Int)))) j10 hq0 hq1_0 hq1_1 T)) ∧
 ((decide (p3 < (0:Int))) = false → k0 (S55_0 x0 n8 i9 ((IntKind.wrap .i64 (Int.fdiv (IntKind.wrap .u64 (IntKind.wrap .i64 (i9 + j10))) (2 ^ min ((1:Int)).toNat (IntKind.bits .u64))))) hq0 hq1_0 hq1_1 T)))))))) ∧
 ((decide (i9 < j10)) = false → (((decide (i9 < n8)) = true → (∃ (u4 : SlH),x0 = some u4 ∧ 0 ≤ i9 ∧ i9 < ((u4.len : Nat) : Int) ∧ (∃ (a5 : (Int × Int)),XH.el hq0 (.pure (.pair (.int .i64) (.int .i64))) u4.h ((u4.off + (i9).toNat)) = some a5 ∧ (∃ p6 : Int,PC Tryd.prog 56 [(.agg [(.int .i64 a5.1),(.int .i64 a5.2)]),(.agg [(.int .i64 hq1_0),(.int .i64 hq1_1)])] (.int .i64 p6) ∧ R (i9,(p6 == (0:Int))) hq0)))) ∧ ((decide (i9 < n8)) = false → R (i9,false) hq0))))) :
  B55_0 (loopQ M55_0 k0 (Q55_0 R)) (S55_0 x0 n8 i9 j10 hq0 hq1_0 hq1_1 T) := Eq.mp (by kernel_rfl) h
end Go.Proofs.YtdcljlafookliaaDoor.AB

namespace Go.Proofs.YtdcljlafookliaaDoor.AB
open Go

abbrev cB : Xd := .pure cBK
abbrev cI : Xd := .pure (.int .i64)

def Srt (l : List BK) : Prop := l.Pairwise bkLt

def bsI (l : List BK) (t : BK) : Nat := (l.takeWhile fun b => decide (bkLt b t)).length

theorem bsI_le (l : List BK) (t : BK) : bsI l t ≤ l.length := by
 unfold bsI
 exact (List.takeWhile_sublist _).length_le

theorem bsI_eq {l : List BK} {t : BK} {i : Nat} (hi : i ≤ l.length) (h1 : ∀ k,k < i → bkLt (l.getD k (0,0)) t) (h2 : ∀ (h : i < l.length),¬ bkLt (l[i]'h) t) : bsI l t = i := by
 unfold bsI
 induction l generalizing i with
 | nil => simp at hi; simp [hi]
 | cons a l ih =>
  match i with
  | 0 =>
   have := h2 (by simp)
   simp only [List.getElem_cons_zero] at this
   rw [List.takeWhile_cons_of_neg (by simpa using this)]; rfl
  | i + 1 =>
   have := h1 0 (by omega)
   simp only [List.getD_cons_zero] at this
   rw [List.takeWhile_cons_of_pos (by simpa using this),List.length_cons]
   rw [ih (by simpa using hi) (fun k hk => by have := h1 (k + 1) (by omega); simpa using this) (fun h => by have := h2 (by simpa using h); simpa using this)]

theorem bsI_lt {l : List BK} {t : BK} {k : Nat} (h : k < bsI l t) : bkLt (l.getD k (0,0)) t := by
 unfold bsI at h
 induction l generalizing k with
 | nil => simp at h
 | cons a l ih =>
  by_cases e : bkLt a t
  ·rw [List.takeWhile_cons_of_pos (by simpa using e)] at h
   match k with
   | 0 => exact e
   | k + 1 => exact ih (by simpa using h)
  ·rw [List.takeWhile_cons_of_neg (by simpa using e)] at h; simp at h

theorem bsI_ge {l : List BK} {t : BK} (h : bsI l t < l.length) : ¬ bkLt (l[bsI l t]'h) t := by
 unfold bsI at h ⊢
 induction l with
 | nil => simp at h
 | cons a l ih =>
  by_cases e : bkLt a t
  ·have ee := List.takeWhile_cons_of_pos (p := fun b => decide (bkLt b t)) (l := l) (by simpa using e)
   simp only [ee,List.length_cons,List.getElem_cons_succ] at h ⊢
   exact ih (by omega)
  ·have ee := List.takeWhile_cons_of_neg (p := fun b => decide (bkLt b t)) (l := l) (by simpa using e)
   simp only [ee,List.length_nil,List.getElem_cons_zero]
   exact e

theorem Srt.get {l : List BK} (h : Srt l) {i j : Nat} (hij : i < j) (hj : j < l.length) : bkLt (l.getD i (0,0)) (l.getD j (0,0)) := by
 have := List.pairwise_iff_getElem.1 h i j (by omega) hj hij
 simpa [List.getD,List.getElem?_eq_getElem hj,List.getElem?_eq_getElem (show i < l.length by omega)] using this

theorem fd1 (n : Nat) (h : n ≤ 4611686018427387904) : IntKind.wrap .i64 (Int.fdiv (IntKind.wrap .u64 (n : Int)) (2 ^ min ((1:Int)).toNat (IntKind.bits .u64))) = ((n / 2 : Nat) : Int) := by
 have e0 : ((2:Int) ^ min ((1:Int)).toNat (IntKind.bits .u64)) = 2 := by decide
 have e1 : IntKind.wrap .u64 (n : Int) = n := by
  have e : IntKind.wrap .u64 (n : Int) = (n : Int) % 18446744073709551616 := by simp [IntKind.wrap,IntKind.bits,IntKind.signed]
  rw [e]; omega
 rw [e0,e1,Int.fdiv_eq_ediv_of_nonneg _ (by omega),wrap64 (by omega) (by omega)]; omega

def bsF (l : List BK) (t : BK) : Bool := decide (l.getD (bsI l t) (0,0) = t) && decide (bsI l t < l.length)

theorem c55 {X : XH} {x : Option SlH} {l : List BK} {t : BK} (h : SlAt X cB x l) (hs : Srt l) (hb : ∀ b ∈ l,bok b) (ht : bok t) (hl : l.length ≤ 1099511627776) :
  RC Tryd.prog 55 [.pure (.int .i64),.pure .bool] [.sl cB x,.v (.agg [.int .i64 t.1,.int .i64 t.2]),.v (.fn 56)] X ((bsI l t : Nat),bsF l t) := by
 have hlen := h.len
 have hel : ∀ (n : Nat),n < l.length → ∃ u,x = some u ∧ u.len = l.length ∧ X.el cB u.h (u.off + n) = some (l.getD n (0,0)) := by
  intro n hn
  cases x with
  | none => simp only [SlAt] at h; subst h; simp at hn
  | some s => exact ⟨s,rfl,hlen,by rw [h.el hn]; simp [List.getD,List.getElem?_eq_getElem hn]⟩
 have hmem : ∀ n,n < l.length → bok (l.getD n (0,0)) := by
  intro n hn
  have : l.getD n (0,0) = l[n] := by simp [List.getD,List.getElem?_eq_getElem hn]
  rw [this]; exact hb _ (List.getElem_mem hn)
 refine xcOf (X := X55) rfl FN55 (by kernel_rfl) (by decide) (E55 X x t ?_)
 rw [hlen]
 refine Loops.intro (fun a : Nat × Nat => S55_0 x (l.length : Nat) a.1 a.2 X t.1 t.2 ⟨0,[]⟩) (fun a => a.1 ≤ a.2 ∧ a.2 ≤ l.length ∧ (∀ k,k < a.1 → bkLt (l.getD k (0,0)) t) ∧ ∀ k,a.2 ≤ k → k < l.length → ¬ bkLt (l.getD k (0,0)) t) (fun a => a.2 - a.1) (0,l.length) rfl
  ⟨Nat.zero_le _,Nat.le_refl _,fun k hk => by simp at hk,fun k h1 h2 => by simp only at h1; omega⟩ ?_
 rintro ⟨i,j⟩ ⟨hij,hj,h1,h2⟩
 have hij : i ≤ j := hij
 have hj : j ≤ l.length := hj
 have h1 : ∀ k,k < i → bkLt (l.getD k (0,0)) t := h1
 have h2 : ∀ k,j ≤ k → k < l.length → ¬ bkLt (l.getD k (0,0)) t := h2
 refine L55_0 x _ i j X t.1 t.2 ⟨0,[]⟩ ⟨fun e => ?_,fun e => ?_⟩
 ·have e := of_decide_eq_true e
  have ew : IntKind.wrap .i64 ((i : Int) + (j : Int)) = ((i + j : Nat) : Int) := by rw [wrap64 (by omega) (by omega)]; omega
  rw [ew,fd1 _ (by omega),Int.toNat_natCast]
  obtain ⟨u,hu,hul,he⟩ := hel ((i + j) / 2) (by omega)
  refine ⟨by decide,u,hu,by omega,by omega,_,he,_,p56 _ _ (hmem _ (by omega)) ht,fun e2 => ?_,fun e2 => ?_⟩
  ·have e2 := (order_lt _ _).1 (of_decide_eq_true e2)
   rw [wrap64 (by omega) (by omega)]
   refine Again.mk ((i + j) / 2 + 1,j) rfl ⟨show (i + j) / 2 + 1 ≤ j by omega,hj,fun k hk => ?_,h2⟩ (show j - ((i + j) / 2 + 1) < j - i by omega)
   have hk : k < (i + j) / 2 + 1 := hk
   rcases Nat.lt_or_ge k ((i + j) / 2) with h' | h'
   ·exact bkLt_trans (hs.get h' (by omega)) e2
   ·have : k = (i + j) / 2 := by omega
    subst this; exact e2
  ·have e2 : ¬ bkLt _ _ := fun q => absurd ((order_lt _ _).2 q) (of_decide_eq_false e2)
   refine Again.mk (i,(i + j) / 2) rfl ⟨show i ≤ (i + j) / 2 by omega,show (i + j) / 2 ≤ l.length by omega,h1,fun k hk hkl q => ?_⟩ (show (i + j) / 2 - i < j - i by omega)
   have hk : (i + j) / 2 ≤ k := hk
   rcases Nat.lt_or_ge ((i + j) / 2) k with h' | h'
   ·exact e2 (bkLt_trans (hs.get h' hkl) q)
   ·have : k = (i + j) / 2 := by omega
    subst this; exact e2 q
 ·have e := of_decide_eq_false e
  have hji : j = i := by omega
  subst hji
  have hI : bsI l t = j := bsI_eq hj h1 (fun h => by
   have := h2 j (Nat.le_refl _) h
   simpa [List.getD,List.getElem?_eq_getElem h] using this)
  refine ⟨fun e2 => ?_,fun e2 => ?_⟩
  ·have e2 := of_decide_eq_true e2
   have hjl : j < l.length := by omega
   obtain ⟨u,hu,hul,he⟩ := hel j hjl
   refine ⟨u,hu,by omega,by omega,_,he,_,p56 _ _ (hmem _ hjl) ht,?_,rfl⟩
   have : (orderR (l.getD j (0,0)) t == 0) = bsF l t := by
    unfold bsF
    rw [hI,decide_eq_true hjl,Bool.and_true]
    rw [Bool.eq_iff_iff,beq_iff_eq,decide_eq_true_eq,order_eq]
   rw [hI,← this]
   exact rfl
  ·have e2 := of_decide_eq_false e2
   have : bsF l t = false := by
    unfold bsF
    rw [hI,decide_eq_false (by omega : ¬ j < l.length),Bool.and_false]
   rw [hI,this]
   exact ⟨rfl,rfl⟩

end Go.Proofs.YtdcljlafookliaaDoor.AB

namespace Go.Proofs.YtdcljlafookliaaDoor.AB
open Go

variable {X X' : XH} {c : Xd} {l : List c.T}

theorem SlAt.cut {s : SlH} (h : SlAt X c (some s) l) {p q m : Nat} (h1 : p ≤ q) (h2 : q ≤ m) (h3 : m ≤ s.cap) (h4 : q ≤ s.len) : SlAt X c (slCut (some s) p q m) ((l.take q).drop p) := by
 obtain ⟨a,ha,hb,hc,hl⟩ := h
 refine ⟨a,ha,?_,?_,?_⟩
 ·dsimp only; omega
 ·dsimp only; omega
 ·dsimp only
  refine List.ext_getElem? fun i => ?_
  rw [List.getElem?_drop,List.getElem?_take,List.getElem?_take,List.getElem?_drop,hl,List.getElem?_take,List.getElem?_drop]
  by_cases e : p + i < q
  ·rw [if_pos e,if_pos (by omega),if_pos (by omega)]; congr 1; omega
  ·rw [if_neg e,if_neg (by omega)]

theorem SlAt.behind {s : SlH} (h : SlAt X c (some s) l) {k : Nat} {l' : List c.T} (hk : s.len ≤ k) (hl' : k + l'.length ≤ s.cap) {a : List c.T} (ha : X.at s.h = some (.arr c a)) :
  SlAt (X.set s.h (.arr c (AB.over a (s.off + k) l'))) c (some s) l := by
 obtain ⟨a',ha',hb,hc,hl⟩ := h
 rw [ha] at ha'
 cases ha'
 refine ⟨_,at_set_self ha,?_,hc,?_⟩
 ·rw [over_length (by omega)]; exact hb
 ·rw [hl]
  refine List.ext_getElem? fun i => ?_
  rw [List.getElem?_take,List.getElem?_take]
  by_cases e : i < s.len
  ·rw [if_pos e,if_pos e,List.getElem?_drop,List.getElem?_drop,over_get (by omega),if_neg (by omega)]
  ·rw [if_neg e,if_neg e]

theorem SlAt.over {s : SlH} (h : SlAt X c (some s) l) {k : Nat} {l' : List c.T} (hk : k + l'.length ≤ s.len) : SlAt (X.over c (some s) k l') c (some s) (AB.over l k l') ∧ Mv X (hl (some s)) (X.over c (some s) k l') (hl (some s)) := by
 obtain ⟨a,ha,hb,hc,hl⟩ := h
 rw [XH.over_eq ha]
 refine ⟨⟨_,at_set_self ha,?_,hc,?_⟩,Mv.set (by simp [AB.hl])⟩
 ·rw [over_length (by omega)]; exact hb
 ·have hll : l.length = s.len := by rw [hl]; simp; omega
  refine List.ext_getElem? fun i => ?_
  rw [List.getElem?_take,over_get (by omega),List.getElem?_drop,over_get (by omega)]
  by_cases e : i < s.len
  ·rw [if_pos e]
   by_cases e2 : k ≤ i ∧ i < k + l'.length
   ·rw [if_pos e2,if_pos (by omega)]
    congr 1; omega
   ·rw [if_neg e2,if_neg (by omega),hl,List.getElem?_take,if_pos e,List.getElem?_drop]
  ·rw [if_neg e,if_neg (by omega),List.getElem?_eq_none (by omega)]

theorem over_cut (X : XH) (c : Xd) (s : SlH) (a b m k : Nat) (l' : List c.T) : X.over c (slCut (some s) a b m) k l' = X.over c (some s) (a + k) l' := by
 simp only [slCut,XH.over,Nat.add_assoc]

theorem at_over_ne {s : SlH} {k h : Nat} {l' : List c.T} (hne : h ≠ s.h) : (X.over c (some s) k l').at h = X.at h := by
 unfold XH.over
 dsimp only
 split
 ·exact at_set_ne hne
 ·rfl

theorem SlAt.reach {s : SlH} (h : SlAt X c (some s) l) {q : Nat} (h1 : s.len ≤ q) (h2 : q ≤ s.cap) : ∃ r : List c.T,r.length = q - s.len ∧ SlAt X c (slCut (some s) 0 q s.cap) (l ++ r) := by
 obtain ⟨a,ha,hb,hc,hl⟩ := h
 refine ⟨(a.drop (s.off + s.len)).take (q - s.len),by simp; omega,a,ha,?_,?_,?_⟩
 ·dsimp only; omega
 ·dsimp only; omega
 ·dsimp only
  have hll : l.length = s.len := by rw [hl]; simp; omega
  refine List.ext_getElem? fun i => ?_
  rw [List.getElem?_take,List.getElem?_drop]
  by_cases e : i < s.len
  ·rw [if_pos (by omega),List.getElem?_append_left (by omega),hl,List.getElem?_take,if_pos e,List.getElem?_drop]
   rfl
  ·rw [List.getElem?_append_right (by omega),List.getElem?_take,List.getElem?_drop]
   by_cases e2 : i < q - 0
   ·rw [if_pos e2,if_pos (by omega)]; congr 1; omega
   ·rw [if_neg e2,if_neg (by omega)]

theorem over_insert {α : Type} {E l v d : List α} {i m n : Nat} (hE : E.length = n + m) (hl : l.length = n) (hi : i ≤ n) (hv : v.length = m) (hd : d = l.drop i) (ht : ∀ k,k < i → E[k]? = l[k]?) :
  over (over E (i + m) d) i v = l.take i ++ v ++ l.drop i ∧ over (over E i v) (i + m) d = l.take i ++ v ++ l.drop i := by
 have hdl : d.length = n - i := by rw [hd,List.length_drop]; omega
 constructor
 all_goals
  refine List.ext_getElem? fun k => ?_
  rw [over_get (by rw [over_length (by omega)]; omega),over_get (by omega)]
  rw [List.append_assoc]
  by_cases h1 : k < i
  ·rw [if_neg (by omega),if_neg (by omega),List.getElem?_append_left (by simp; omega),List.getElem?_take,if_pos h1,ht k h1]
  ·rw [List.getElem?_append_right (by simp; omega)]
   simp only [List.length_take]
   by_cases h2 : k < i + m
   ·first
     | rw [if_pos (by omega),List.getElem?_append_left (by omega)]; congr 1; omega
     | rw [if_neg (by omega),if_pos (by omega),List.getElem?_append_left (by omega)]; congr 1; omega
   ·rw [List.getElem?_append_right (by omega),← hd]
    by_cases h3 : k < n + m
    ·first
      | rw [if_neg (by omega),if_pos (by omega)]; congr 1; omega
      | rw [if_pos (by omega)]; congr 1; omega
    ·rw [if_neg (by omega),if_neg (by omega),List.getElem?_eq_none (by omega),List.getElem?_eq_none (by omega)]

end Go.Proofs.YtdcljlafookliaaDoor.AB

set_option maxRecDepth 100000
set_option maxHeartbeats 2000000
namespace Go.Proofs.YtdcljlafookliaaDoor.AB
open Go
noncomputable def X58 : Cx := ⟨tt,[],[],[(58,[(0,0,.x (.sl (.pure (.pair (.int .i64) (.int .i64))))),(5,6,.x (.pure (.pair (.int .i64) (.int .i64))))])],[],[]⟩
theorem FN58 : fnsB Tryd.prog X58.fns := (show True from trivial)
theorem E58 (X : XH) (s0 : (Option SlH)) (i1 : Int) (j2 : Int) {R : ((Option SlH)) → XH → Prop} (h : (0 ≤ (((slN s0) : Nat) : Int) ∧ (((slN s0) : Nat) : Int) ≤ (((slC s0) : Nat) : Int) ∧ (0 ≤ i1 ∧ i1 ≤ j2 ∧ j2 ≤ ((((((slN s0) : Nat) : Int)).toNat : Nat) : Int) ∧ (((i1 == j2) = true → R s0 X) ∧
 ((i1 == j2) = false → (0 ≤ i1 ∧ i1 ≤ (((slC s0) : Nat) : Int) ∧ (0 ≤ j2 ∧ j2 ≤ (((slN s0) : Nat) : Int) ∧ (∃ (l1 l2 : List (Int × Int)),XH.view X (.pure (.pair (.int .i64) (.int .i64))) (slCut s0 0 ((i1).toNat) (slC s0)) = some l1 ∧ (srcX X (.pure (.pair (.int .i64) (.int .i64))) (.sl (.pure (.pair (.int .i64) (.int .i64))) (slCut s0 ((j2).toNat) (slN s0) (slC s0)))) = some l2 ∧ ((slN ((slCut s0 0 ((i1).toNat) (slC s0)))) + (l2).length) * 16 ≤ room ∧ ∀ (X3 : XH) (s4 : Option SlH),XApp X (.pure (.pair (.int .i64) (.int .i64))) (((0:Int),(0:Int))) l1 l2 (slCut s0 0 ((i1).toNat) (slC s0)) X3 s4 → (0 ≤ (((slN s4) : Nat) : Int) ∧ (((slN s4) : Nat) : Int) ≤ (((slN s0) : Nat) : Int) ∧ (((slN s0) : Nat) : Int) ≤ (((slC s4) : Nat) : Int) ∧ (∃ (d5 : List (Int × Int)),XH.view X3 (.pure (.pair (.int .i64) (.int .i64))) (slCut s4 (((((slN s4) : Nat) : Int)).toNat) (((((slN s0) : Nat) : Int)).toNat) (slC s4)) = some d5 ∧ (∀ (X6 : XH),X6 = (XH.over X3 (.pure (.pair (.int .i64) (.int .i64))) (slCut s4 (((((slN s4) : Nat) : Int)).toNat) (((((slN s0) : Nat) : Int)).toNat) (slC s4)) 0 (List.replicate (slN ((slCut s4 (((((slN s4) : Nat) : Int)).toNat) (((((slN s0) : Nat) : Int)).toNat) (slC s4)))) (((0:Int),(0:Int))))) → R s4 X6))))))))))) :
  fnK X58.tt (callN Tryd.prog X58 0) (X58.md 58) (X58.mk1 58) Tryd.f58 [(.sl (.pure (.pair (.int .i64) (.int .i64))) s0),(.v (.int .i64 i1)),(.v (.int .i64 j2))] ⟨[],[some (.heap X)],⟨0,[]⟩⟩ (xfin [(.sl (.pure (.pair (.int .i64) (.int .i64))))] R) := Eq.mp (by kernel_rfl) h
end Go.Proofs.YtdcljlafookliaaDoor.AB

namespace Go.Proofs.YtdcljlafookliaaDoor.AB
open Go

variable {X X' : XH}

theorem c58 {x : Option SlH} {l : List BK} (h : SlAt X cB x l) {i j : Int} (h0 : 0 ≤ i) (h1 : i ≤ j) (h2 : j ≤ (l.length : Int)) (hr : l.length * 16 ≤ room) :
  XC Tryd.prog 58 [.sl cB] [.sl cB x,.v (.int .i64 i),.v (.int .i64 j)] X fun p X' => SlAt X' cB p (l.take i.toNat ++ l.drop j.toNat) ∧ Mv X (hl x) X' (hl p) := by
 have hlen := h.len
 have hle := h.le
 refine xcOf (X := X58) rfl FN58 (by kernel_rfl) (by decide) (E58 X x i j ⟨by omega,by omega,h0,h1,by omega,fun e => ?_,fun e => ⟨h0,by omega,by omega,by omega,?_⟩⟩)
 ·have e : i = j := by simpa using e
  subst e
  rw [List.take_append_drop]
  exact ⟨h,.refl _ _⟩
 ·have e : i ≠ j := by simpa using e
  obtain ⟨s,rfl⟩ : ∃ s,x = some s := by
   cases x with
   | none => simp only [SlAt] at h; subst h; simp at h2; omega
   | some s => exact ⟨s,rfl⟩
  simp only [slN,slC] at hlen hle ⊢
  have hc1 := h.cut (p := 0) (q := i.toNat) (m := s.cap) (by omega) (by omega) (Nat.le_refl _) (by omega)
  have hc2 := h.cut (p := j.toNat) (q := s.len) (m := s.cap) (by omega) (by omega) (Nat.le_refl _) (Nat.le_refl _)
  rw [List.take_of_length_le (by omega)] at hc2
  rw [List.drop_zero] at hc1
  refine ⟨l.take i.toNat,l.drop j.toNat,hc1.view,?_,?_,fun X3 s4 hx => ?_⟩
  ·exact hc2.view
  ·show (i.toNat - 0 + (l.drop j.toNat).length) * 16 ≤ room
   rw [List.length_drop]; omega
  ·obtain ⟨b1,b2⟩ := hx.spec hc1
   have hl3 : ∃ a,X3.at s.h = some (.arr cB a) ∧ s4 = some ⟨s.h,s.off,i.toNat + (l.length - j.toNat),s.cap⟩ := by
    have hx' : XApp X cB ((0,0) : Int × Int) (l.take i.toNat) (l.drop j.toNat) (some ⟨s.h,s.off + 0,i.toNat - 0,s.cap - 0⟩) X3 s4 := hx
    cases hx' with
    | room s' hs =>
     obtain ⟨a,ha,_⟩ := b1
     exact ⟨a,ha,by simp [List.length_drop]⟩
    | grow _ k hk =>
     change s.cap - 0 < i.toNat - 0 + (l.drop j.toNat).length at hk
     rw [List.length_drop] at hk
     omega
   obtain ⟨a3,ha3,rfl⟩ := hl3
   refine ⟨by simp only [slN]; omega,by simp only [slN]; omega,by simp only [slC]; omega,_,by simp only [slCut,XH.view,arr_at.2 ha3]; rfl,fun X6 e6 => ?_⟩
   simp only [slCut,slN,slC] at e6
   have e6 := e6.trans (XH.over_eq ha3 _ _)
   subst e6
   have := b1.behind (k := i.toNat + (l.length - j.toNat)) (l' := List.replicate (s.len - (i.toNat + (l.length - j.toNat))) ((0,0) : Int × Int)) (Nat.le_refl _) (by simp only [List.length_replicate]; omega) ha3
   refine ⟨?_,?_⟩
   ·simp only [Int.toNat_natCast,Nat.add_zero,slN] at this ⊢
    exact this
   ·exact (b2.weak (T := hl (some s)) (T' := hl (some s)) (fun k hk => hk) fun k hk => .inr hk).trans (Mv.set (by simp [hl]))

end Go.Proofs.YtdcljlafookliaaDoor.AB

set_option maxRecDepth 100000
set_option maxHeartbeats 2000000
namespace Go.Proofs.YtdcljlafookliaaDoor.AB
open Go
noncomputable def X57 : Cx := ⟨tt,[],[(65,[(.pure .bool)]),(66,[])],[(57,[(0,0,.x (.sl (.pure (.pair (.int .i64) (.int .i64))))),(7,2,.x (.pure (.pair (.int .i64) (.int .i64)))),(9,8,.x (.pure (.pair (.int .i64) (.int .i64)))),(14,6,.rd),(19,4,.xc)])],[],[]⟩
theorem FN57 : fnsB Tryd.prog X57.fns := (show True from trivial)
theorem E57 (X : XH) (s0 : (Option SlH)) (i1 : Int) (v2 : (Option SlH)) {R : ((Option SlH)) → XH → Prop} (h : (0 ≤ i1 ∧ i1 ≤ (((slN s0) : Nat) : Int) ∧ ((((((slN v2) : Nat) : Int) == (0:Int)) = true → R s0 X) ∧
 (((((slN v2) : Nat) : Int) == (0:Int)) = false → (((i1 == (((slN s0) : Nat) : Int)) = true → (∃ (l1 l2 : List (Int × Int)),XH.view X (.pure (.pair (.int .i64) (.int .i64))) s0 = some l1 ∧ (srcX X (.pure (.pair (.int .i64) (.int .i64))) (.sl (.pure (.pair (.int .i64) (.int .i64))) v2)) = some l2 ∧ ((slN s0) + (l2).length) * 16 ≤ room ∧ ∀ (X3 : XH) (s4 : Option SlH),XApp X (.pure (.pair (.int .i64) (.int .i64))) (((0:Int),(0:Int))) l1 l2 s0 X3 s4 → R s4 X3)) ∧
 ((i1 == (((slN s0) : Nat) : Int)) = false → (((decide ((IntKind.wrap .i64 ((((slN s0) : Nat) : Int) + (((slN v2) : Nat) : Int))) > (((slC s0) : Nat) : Int))) = true → (0 ≤ i1 ∧ i1 ≤ (((slC s0) : Nat) : Int) ∧ (0 ≤ (IntKind.wrap .i64 ((IntKind.wrap .i64 ((((slN s0) : Nat) : Int) + (((slN v2) : Nat) : Int))) - i1)) ∧ ∃ (l5 : List (Int × Int)),XH.view X (.pure (.pair (.int .i64) (.int .i64))) (slCut s0 0 ((i1).toNat) (slC s0)) = some l5 ∧ ((slN ((slCut s0 0 ((i1).toNat) (slC s0)))) + ((IntKind.wrap .i64 ((IntKind.wrap .i64 ((((slN s0) : Nat) : Int) + (((slN v2) : Nat) : Int))) - i1))).toNat) * 16 ≤ room ∧ ∀ (X6 : XH) (s7 : Option SlH),XApp X (.pure (.pair (.int .i64) (.int .i64))) (((0:Int),(0:Int))) l5 (List.replicate ((IntKind.wrap .i64 ((IntKind.wrap .i64 ((((slN s0) : Nat) : Int) + (((slN v2) : Nat) : Int))) - i1))).toNat (((0:Int),(0:Int)))) (slCut s0 0 ((i1).toNat) (slC s0)) X6 s7 → (0 ≤ i1 ∧ i1 ≤ (((slN s7) : Nat) : Int) ∧ (∃ (d8 l9 : List (Int × Int)),XH.view X6 (.pure (.pair (.int .i64) (.int .i64))) (slCut s7 ((i1).toNat) (slN s7) (slC s7)) = some d8 ∧ (srcX X6 (.pure (.pair (.int .i64) (.int .i64))) (.sl (.pure (.pair (.int .i64) (.int .i64))) v2)) = some l9 ∧ (∀ (X10 : XH),X10 = (XH.over X6 (.pure (.pair (.int .i64) (.int .i64))) (slCut s7 ((i1).toNat) (slN s7) (slC s7)) 0 (l9.take (slN ((slCut s7 ((i1).toNat) (slN s7) (slC s7)))))) → (0 ≤ (IntKind.wrap .i64 (i1 + (((slN v2) : Nat) : Int))) ∧ (IntKind.wrap .i64 (i1 + (((slN v2) : Nat) : Int))) ≤ (((slN s7) : Nat) : Int) ∧ (0 ≤ i1 ∧ i1 ≤ (((slN s0) : Nat) : Int) ∧ (∃ (d11 l12 : List (Int × Int)),XH.view X10 (.pure (.pair (.int .i64) (.int .i64))) (slCut s7 (((IntKind.wrap .i64 (i1 + (((slN v2) : Nat) : Int)))).toNat) (slN s7) (slC s7)) = some d11 ∧ (srcX X10 (.pure (.pair (.int .i64) (.int .i64))) (.sl (.pure (.pair (.int .i64) (.int .i64))) (slCut s0 ((i1).toNat) (slN s0) (slC s0)))) = some l12 ∧ (∀ (X13 : XH),X13 = (XH.over X10 (.pure (.pair (.int .i64) (.int .i64))) (slCut s7 (((IntKind.wrap .i64 (i1 + (((slN v2) : Nat) : Int)))).toNat) (slN s7) (slC s7)) 0 (l12.take (slN ((slCut s7 (((IntKind.wrap .i64 (i1 + (((slN v2) : Nat) : Int)))).toNat) (slN s7) (slC s7)))))) → R s7 X13)))))))))) ∧
 ((decide ((IntKind.wrap .i64 ((((slN s0) : Nat) : Int) + (((slN v2) : Nat) : Int))) > (((slC s0) : Nat) : Int))) = false → (0 ≤ (IntKind.wrap .i64 ((((slN s0) : Nat) : Int) + (((slN v2) : Nat) : Int))) ∧ (IntKind.wrap .i64 ((((slN s0) : Nat) : Int) + (((slN v2) : Nat) : Int))) ≤ (((slC s0) : Nat) : Int) ∧ (0 ≤ (IntKind.wrap .i64 (i1 + (((slN v2) : Nat) : Int))) ∧ (IntKind.wrap .i64 (i1 + (((slN v2) : Nat) : Int))) ≤ (((slN ((slCut s0 0 (((IntKind.wrap .i64 ((((slN s0) : Nat) : Int) + (((slN v2) : Nat) : Int)))).toNat) (slC s0)))) : Nat) : Int) ∧ (∃ (p14 : Bool),RC Tryd.prog 65 [(.pure .bool)] [(.sl (.pure (.pair (.int .i64) (.int .i64))) v2),(.sl (.pure (.pair (.int .i64) (.int .i64))) (slCut ((slCut s0 0 (((IntKind.wrap .i64 ((((slN s0) : Nat) : Int) + (((slN v2) : Nat) : Int)))).toNat) (slC s0))) (((IntKind.wrap .i64 (i1 + (((slN v2) : Nat) : Int)))).toNat) ((slN ((slCut s0 0 (((IntKind.wrap .i64 ((((slN s0) : Nat) : Int) + (((slN v2) : Nat) : Int)))).toNat) (slC s0))))) ((slC ((slCut s0 0 (((IntKind.wrap .i64 ((((slN s0) : Nat) : Int) + (((slN v2) : Nat) : Int)))).toNat) (slC s0)))))))] X p14 ∧ (((!p14) = true → (0 ≤ (IntKind.wrap .i64 (i1 + (((slN v2) : Nat) : Int))) ∧ (IntKind.wrap .i64 (i1 + (((slN v2) : Nat) : Int))) ≤ (((slN ((slCut s0 0 (((IntKind.wrap .i64 ((((slN s0) : Nat) : Int) + (((slN v2) : Nat) : Int)))).toNat) (slC s0)))) : Nat) : Int) ∧ (0 ≤ i1 ∧ i1 ≤ (((slN ((slCut s0 0 (((IntKind.wrap .i64 ((((slN s0) : Nat) : Int) + (((slN v2) : Nat) : Int)))).toNat) (slC s0)))) : Nat) : Int) ∧ (∃ (d15 l16 : List (Int × Int)),XH.view X (.pure (.pair (.int .i64) (.int .i64))) (slCut ((slCut s0 0 (((IntKind.wrap .i64 ((((slN s0) : Nat) : Int) + (((slN v2) : Nat) : Int)))).toNat) (slC s0))) (((IntKind.wrap .i64 (i1 + (((slN v2) : Nat) : Int)))).toNat) ((slN ((slCut s0 0 (((IntKind.wrap .i64 ((((slN s0) : Nat) : Int) + (((slN v2) : Nat) : Int)))).toNat) (slC s0))))) ((slC ((slCut s0 0 (((IntKind.wrap .i64 ((((slN s0) : Nat) : Int) + (((slN v2) : Nat) : Int)))).toNat) (slC s0)))))) = some d15 ∧ (srcX X (.pure (.pair (.int .i64) (.int .i64))) (.sl (.pure (.pair (.int .i64) (.int .i64))) (slCut ((slCut s0 0 (((IntKind.wrap .i64 ((((slN s0) : Nat) : Int) + (((slN v2) : Nat) : Int)))).toNat) (slC s0))) ((i1).toNat) ((slN ((slCut s0 0 (((IntKind.wrap .i64 ((((slN s0) : Nat) : Int) + (((slN v2) : Nat) : Int)))).toNat) (slC s0))))) ((slC ((slCut s0 0 (((IntKind.wrap .i64 ((((slN s0) : Nat) : Int) + (((slN v2) : Nat) : Int)))).toNat) (slC s0)))))))) = some l16 ∧ (∀ (X17 : XH),X17 = (XH.over X (.pure (.pair (.int .i64) (.int .i64))) (slCut ((slCut s0 0 (((IntKind.wrap .i64 ((((slN s0) : Nat) : Int) + (((slN v2) : Nat) : Int)))).toNat) (slC s0))) (((IntKind.wrap .i64 (i1 + (((slN v2) : Nat) : Int)))).toNat) ((slN ((slCut s0 0 (((IntKind.wrap .i64 ((((slN s0) : Nat) : Int) + (((slN v2) : Nat) : Int)))).toNat) (slC s0))))) ((slC ((slCut s0 0 (((IntKind.wrap .i64 ((((slN s0) : Nat) : Int) + (((slN v2) : Nat) : Int)))).toNat) (slC s0)))))) 0 (l16.take (slN ((slCut ((slCut s0 0 (((IntKind.wrap .i64 ((((slN s0) : Nat) : Int) + (((slN v2) : Nat) : Int)))).toNat) (slC s0))) (((IntKind.wrap .i64 (i1 + (((slN v2) : Nat) : Int)))).toNat) ((slN ((slCut s0 0 (((IntKind.wrap .i64 ((((slN s0) : Nat) : Int) + (((slN v2) : Nat) : Int)))).toNat) (slC s0))))) ((slC ((slCut s0 0 (((IntKind.wrap .i64 ((((slN s0) : Nat) : Int) + (((slN v2) : Nat) : Int)))).toNat) (slC s0)))))))))) → (0 ≤ i1 ∧ i1 ≤ (((slN ((slCut s0 0 (((IntKind.wrap .i64 ((((slN s0) : Nat) : Int) + (((slN v2) : Nat) : Int)))).toNat) (slC s0)))) : Nat) : Int) ∧ (∃ (d18 l19 : List (Int × Int)),XH.view X17 (.pure (.pair (.int .i64) (.int .i64))) (slCut ((slCut s0 0 (((IntKind.wrap .i64 ((((slN s0) : Nat) : Int) + (((slN v2) : Nat) : Int)))).toNat) (slC s0))) ((i1).toNat) ((slN ((slCut s0 0 (((IntKind.wrap .i64 ((((slN s0) : Nat) : Int) + (((slN v2) : Nat) : Int)))).toNat) (slC s0))))) ((slC ((slCut s0 0 (((IntKind.wrap .i64 ((((slN s0) : Nat) : Int) + (((slN v2) : Nat) : Int)))).toNat) (slC s0)))))) = some d18 ∧ (srcX X17 (.pure (.pair (.int .i64) (.int .i64))) (.sl (.pure (.pair (.int .i64) (.int .i64))) v2)) = some l19 ∧ (∀ (X20 : XH),X20 = (XH.over X17 (.pure (.pair (.int .i64) (.int .i64))) (slCut ((slCut s0 0 (((IntKind.wrap .i64 ((((slN s0) : Nat) : Int) + (((slN v2) : Nat) : Int)))).toNat) (slC s0))) ((i1).toNat) ((slN ((slCut s0 0 (((IntKind.wrap .i64 ((((slN s0) : Nat) : Int) + (((slN v2) : Nat) : Int)))).toNat) (slC s0))))) ((slC ((slCut s0 0 (((IntKind.wrap .i64 ((((slN s0) : Nat) : Int) + (((slN v2) : Nat) : Int)))).toNat) (slC s0)))))) 0 (l19.take (slN ((slCut ((slCut s0 0 (((IntKind.wrap .i64 ((((slN s0) : Nat) : Int) + (((slN v2) : Nat) : Int)))).toNat) (slC s0))) ((i1).toNat) ((slN ((slCut s0 0 (((IntKind.wrap .i64 ((((slN s0) : Nat) : Int) + (((slN v2) : Nat) : Int)))).toNat) (slC s0))))) ((slC ((slCut s0 0 (((IntKind.wrap .i64 ((((slN s0) : Nat) : Int) + (((slN v2) : Nat) : Int)))).toNat) (slC s0)))))))))) → R ((slCut s0 0 (((IntKind.wrap .i64 ((((slN s0) : Nat) : Int) + (((slN v2) : Nat) : Int)))).toNat) (slC s0))) X20)))))))) ∧
 ((!p14) = false → (0 ≤ (((slN s0) : Nat) : Int) ∧ (((slN s0) : Nat) : Int) ≤ (((slN ((slCut s0 0 (((IntKind.wrap .i64 ((((slN s0) : Nat) : Int) + (((slN v2) : Nat) : Int)))).toNat) (slC s0)))) : Nat) : Int) ∧ (∃ (d21 l22 : List (Int × Int)),XH.view X (.pure (.pair (.int .i64) (.int .i64))) (slCut ((slCut s0 0 (((IntKind.wrap .i64 ((((slN s0) : Nat) : Int) + (((slN v2) : Nat) : Int)))).toNat) (slC s0))) (((((slN s0) : Nat) : Int)).toNat) ((slN ((slCut s0 0 (((IntKind.wrap .i64 ((((slN s0) : Nat) : Int) + (((slN v2) : Nat) : Int)))).toNat) (slC s0))))) ((slC ((slCut s0 0 (((IntKind.wrap .i64 ((((slN s0) : Nat) : Int) + (((slN v2) : Nat) : Int)))).toNat) (slC s0)))))) = some d21 ∧ (srcX X (.pure (.pair (.int .i64) (.int .i64))) (.sl (.pure (.pair (.int .i64) (.int .i64))) v2)) = some l22 ∧ (∀ (X23 : XH),X23 = (XH.over X (.pure (.pair (.int .i64) (.int .i64))) (slCut ((slCut s0 0 (((IntKind.wrap .i64 ((((slN s0) : Nat) : Int) + (((slN v2) : Nat) : Int)))).toNat) (slC s0))) (((((slN s0) : Nat) : Int)).toNat) ((slN ((slCut s0 0 (((IntKind.wrap .i64 ((((slN s0) : Nat) : Int) + (((slN v2) : Nat) : Int)))).toNat) (slC s0))))) ((slC ((slCut s0 0 (((IntKind.wrap .i64 ((((slN s0) : Nat) : Int) + (((slN v2) : Nat) : Int)))).toNat) (slC s0)))))) 0 (l22.take (slN ((slCut ((slCut s0 0 (((IntKind.wrap .i64 ((((slN s0) : Nat) : Int) + (((slN v2) : Nat) : Int)))).toNat) (slC s0))) (((((slN s0) : Nat) : Int)).toNat) ((slN ((slCut s0 0 (((IntKind.wrap .i64 ((((slN s0) : Nat) : Int) + (((slN v2) : Nat) : Int)))).toNat) (slC s0))))) ((slC ((slCut s0 0 (((IntKind.wrap .i64 ((((slN s0) : Nat) : Int) + (((slN v2) : Nat) : Int)))).toNat) (slC s0)))))))))) → (0 ≤ i1 ∧ i1 ≤ (((slN ((slCut s0 0 (((IntKind.wrap .i64 ((((slN s0) : Nat) : Int) + (((slN v2) : Nat) : Int)))).toNat) (slC s0)))) : Nat) : Int) ∧ (XC Tryd.prog 66 [] [(.sl (.pure (.pair (.int .i64) (.int .i64))) (slCut ((slCut s0 0 (((IntKind.wrap .i64 ((((slN s0) : Nat) : Int) + (((slN v2) : Nat) : Int)))).toNat) (slC s0))) ((i1).toNat) ((slN ((slCut s0 0 (((IntKind.wrap .i64 ((((slN s0) : Nat) : Int) + (((slN v2) : Nat) : Int)))).toNat) (slC s0))))) ((slC ((slCut s0 0 (((IntKind.wrap .i64 ((((slN s0) : Nat) : Int) + (((slN v2) : Nat) : Int)))).toNat) (slC s0))))))),(.v (.int .i64 ((((slN v2) : Nat) : Int))))] X23 (fun (p24 : Unit) (X25 : XH) => R ((slCut s0 0 (((IntKind.wrap .i64 ((((slN s0) : Nat) : Int) + (((slN v2) : Nat) : Int)))).toNat) (slC s0))) X25))))))))))))))))))) :
  fnK X57.tt (callN Tryd.prog X57 0) (X57.md 57) (X57.mk1 57) Tryd.f57 [(.sl (.pure (.pair (.int .i64) (.int .i64))) s0),(.v (.int .i64 i1)),(.sl (.pure (.pair (.int .i64) (.int .i64))) v2)] ⟨[],[some (.heap X)],⟨0,[]⟩⟩ (xfin [(.sl (.pure (.pair (.int .i64) (.int .i64))))] R) := Eq.mp (by kernel_rfl) h
end Go.Proofs.YtdcljlafookliaaDoor.AB

namespace Go.Proofs.YtdcljlafookliaaDoor.AB
open Go

variable {X X' : XH}

theorem two_args {vs : Array Value} {n : Nat} (hn : n = 2) (h : n = vs.size) : ∃ u v,vs = #[u,v] := by
 subst hn
 match vs,h with
 | ⟨[u,v]⟩,_ => exact ⟨u,v,rfl⟩

set_option maxRecDepth 100000 in
theorem c65 {v x : Option SlH} {lv lx : List BK} (hv : SlAt X cB v lv) (hx : SlAt X cB x lx) (hd : ∀ k ∈ hl v,k ∉ hl x) :
  RC Tryd.prog 65 [.pure .bool] [.sl cB v,.sl cB x] X false := by
 intro Mine G w vs hi hl hr
 obtain ⟨a,b,rfl⟩ := two_args rfl hl
 have ha := hr 0 _ a rfl rfl
 have hb := hr 1 _ b rfl rfl
 refine .inr ⟨.bool false,w,?_,.bool false,false,X,G,rfl,⟨rfl,rfl⟩,.v _ _ (.bool false),hi,.refl _,.refl _ _,.refl _ _⟩
 have htt : TTOK Tryd.prog tt := tt_ok
 have hun : Tryd.prog.underlying 90 = some (.slice 96) := by kernel_rfl
 have hsz : ∀ w,(Go.sizeOf 96).run Tryd.prog w = .ok 2 w := by
  intro w
  obtain ⟨i,z,h1',h2,h3,h4,h5,h6,h7,h8,h9⟩ := run_zero (P := Tryd.prog) htt (t := 96) (by kernel_rfl) w
  have hs : i.size = 2 := by rw [h3]; rfl
  simp [Go.sizeOf,typeInfo,h1',hs]
 rw [run_callFunc_extern (fn := Tryd.f65) Tryd.func65 (by decide) (by decide) (by kernel_rfl) (e := Extern.SlicesOverlaps.overlaps #[90,90] #[4]) (by kernel_rfl)]
 -- nothing in one of them
 have zero : ∀ (p q : Option Addr) (lp cp lq cq : Nat),lp = 0 ∨ lq = 0 → (Extern.SlicesOverlaps.overlaps #[90,90] #[4] #[.slice p lp cp,.slice q lq cq]).run Tryd.prog w = .ok (.bool false) w := by
  intro p q lp cp lq cq h0
  change Sem.run Tryd.prog (α := Value) (do
   let some t := (#[90,90] : Array TypeId)[0]? | stuck "slices.overlaps: no parameter types"
   let .slice elem ← underlying t | stuck "slices.overlaps: slice type expected"
   let size ← sizeOf elem
   match p,q with
   | some a,some b =>
    if lp = 0 ∨ lq = 0 ∨ size = 0 then pure (Value.bool false)
    else if a.block != b.block && (← frozen a) && (← frozen b) then unsupported .addressObserved
    else do
     if a.block != b.block then do
      noView a; noView b
      if ← mayBeOne a b then return Value.bool ((← choose (.extern "sameAddr.stringBytes" 2)) == 1)
     pure (Value.bool (a.block == b.block && a.off < b.off + lq * size && b.off < a.off + lp * size))
   | _,_ => pure (Value.bool false)) w = _
  cases p with
  | none => simp [run_underlying hun,hsz]
  | some p =>
   cases q with
   | none => simp [run_underlying hun,hsz]
   | some q =>
    have : lp = 0 ∨ lq = 0 ∨ (2:Nat) = 0 := by omega
    simp only [List.getElem?_toArray,List.getElem?_cons_zero,Sem.run_bind,run_underlying hun,Result.andThen_ok,hsz,if_pos this,Sem.run_pure]
 have key : (Extern.SlicesOverlaps.overlaps #[90,90] #[4] #[a,b]).run Tryd.prog w = .ok (.bool false) w := by
  cases ha with
  | sl0 _ ao =>
   obtain ⟨q,lq,cq,rfl⟩ : ∃ q lq cq,b = .slice q lq cq := by
    cases hb with
    | sl0 _ bo => exact ⟨_,_,_,rfl⟩
    | sl s _ b' ct' o' hl' g1 g2 g3 => exact ⟨_,_,_,rfl⟩
   exact zero _ _ _ _ _ _ (.inl rfl)
  | sl s _ ba ct o hla h1 h2 h3 =>
   cases hb with
   | sl0 _ bo => exact zero _ _ _ _ _ _ (.inr rfl)
   | sl s' _ bb ct' o' hlb g1 g2 g3 =>
    by_cases hz : s.len = 0 ∨ s'.len = 0
    ·exact zero _ _ _ _ _ _ hz
    obtain ⟨A,hA,hA2,hA3,hA4⟩ := hv
    obtain ⟨B,hB,hB2,hB3,hB4⟩ := hx
    have hne : s.h ≠ s'.h := fun e => hd s.h (by simp [AB.hl]) (by simp [AB.hl,e])
    obtain ⟨b1,q1,q2,q3,cur,el,q4,q5,q6⟩ := hi.xarr rfl (arr_at.2 hA)
    obtain ⟨b2,r1,r2,r3,cur',el',r4,r5,r6⟩ := hi.xarr rfl (arr_at.2 hB)
    rw [hla] at q1; cases q1
    rw [hlb] at r1; cases r1
    have hbne : ba ≠ bb := by
     rintro rfl
     exact (hi.xor rfl).2.2.2 s.h s'.h ba _ _ _ _ hne (by rw [(at_get hA).1]; simp) (by rw [(at_get hB).1]; simp) hla hlb
    have f1 : w.frozen? ⟨ba,o,none⟩ = false := by unfold World.frozen?; simp only [q4]; simp
    have f2 : w.frozen? ⟨ba,cur.size,none⟩ = false := by unfold World.frozen?; simp only [q4]; simp
    have s1 : w.shape? ba = some (el,cur.size) := by unfold World.shape?; simp only [q4]
    have s2 : w.shape? bb = some (el',cur'.size) := by unfold World.shape?; simp only [r4]
    have hk : cur'.size ≠ 0 := by
     rw [r5]
     have : cB.sz = 2 := rfl
     rw [this]; omega
    exact Lib.run_overlaps_apart w 90 4 96 hun 2 hsz ⟨ba,o,none⟩ ⟨bb,o',none⟩ s.len s.cap s'.len s'.cap hbne el el' cur.size cur'.size s1 s2 hk f1 f2
 rw [key]
 rfl

theorem c57 {x v : Option SlH} {l lv : List BK} (h : SlAt X cB x l) (hv : SlAt X cB v lv) (hd : ∀ k ∈ hl v,k ∉ hl x) {i : Nat} (hi : i ≤ l.length) (hr : (l.length + lv.length) * 16 ≤ room) (hne : lv ≠ []) :
  XC Tryd.prog 57 [.sl cB] [.sl cB x,.v (.int .i64 (i : Int)),.sl cB v] X fun p X' => SlAt X' cB p (l.take i ++ lv ++ l.drop i) ∧ Mv X (hl x) X' (hl p) := by
 have hlen := h.len
 have hle := h.le
 have hvl := hv.len
 have hpos : 0 < lv.length := List.length_pos_iff.2 hne
 have hroom : (l.length + lv.length) * 16 ≤ 140737488355328 := hr
 have hw1 : IntKind.wrap .i64 ((l.length : Int) + (lv.length : Int)) = ((l.length + lv.length : Nat) : Int) := by rw [wrap64 (by omega) (by omega)]; omega
 have hw2 : IntKind.wrap .i64 ((i : Int) + (lv.length : Int)) = ((i + lv.length : Nat) : Int) := by rw [wrap64 (by omega) (by omega)]; omega
 have hw3 : IntKind.wrap .i64 (((l.length + lv.length : Nat) : Int) - (i : Int)) = ((l.length + lv.length - i : Nat) : Int) := by rw [wrap64 (by omega) (by omega)]; omega
 refine xcOf (X := X57) rfl FN57 (by kernel_rfl) (by decide) (E57 X x i v ?_)
 rw [hlen,hvl,hw1,hw2,hw3]
 simp only [Int.toNat_natCast]
 refine ⟨by omega,by omega,fun e => ?_,fun _ => ⟨fun e => ?_,fun e => ?_⟩⟩
 ·have : (lv.length : Int) = 0 := by simpa using e
  omega
 ·have hin : i = l.length := by
   have : (i : Int) = (l.length : Int) := by simpa using e
   omega
  refine ⟨l,lv,h.view,hv.view,hroom,fun X3 s4 hx => ?_⟩
  obtain ⟨b1,b2⟩ := hx.spec h
  subst hin
  rw [List.take_length,List.drop_length,List.append_nil]
  exact ⟨b1,b2⟩
 ·have hin : i < l.length := by
   have : (i : Int) ≠ (l.length : Int) := by simpa using e
   omega
  obtain ⟨s,rfl⟩ : ∃ s,x = some s := by
   cases x with
   | none => simp only [SlAt] at h; subst h; simp at hin
   | some s => exact ⟨s,rfl⟩
  have hsn : s.len = l.length := hlen
  have hsc : s.len ≤ s.cap := hle
  have hdl : (l.drop i).length = l.length - i := by simp
  have hc0 := h.cut (p := i) (q := s.len) (m := s.cap) (by omega) (by omega) (Nat.le_refl _) (Nat.le_refl _)
  rw [List.take_of_length_le (by omega),hsn] at hc0
  refine ⟨fun e2 => ?_,fun e2 => ?_⟩
  ·-- a new array
   have e2 : s.cap < l.length + lv.length := by have := of_decide_eq_true e2; simp only [slC] at this; omega
   have hc1 := h.cut (p := 0) (q := i) (m := s.cap) (by omega) (by omega) (Nat.le_refl _) (by omega)
   rw [List.drop_zero] at hc1
   refine ⟨by omega,by simp only [slC]; omega,by omega,l.take i,hc1.view,by simp only [slCut,slN]; show (i - 0 + (l.length + lv.length - i)) * 16 ≤ 140737488355328; omega,fun X6 s7 hx => ?_⟩
   obtain ⟨b1,b2⟩ := hx.spec hc1
   have b3 : ∃ k o,s7 = some ⟨X.n,0,l.length + lv.length,k⟩ ∧ l.length + lv.length ≤ k ∧ X6 = X.add o := by
    generalize hz : (List.replicate (l.length + lv.length - i) ((0,0) : Int × Int)) = Z at hx
    have hZl : Z.length = l.length + lv.length - i := by rw [← hz]; simp
    cases hx with
    | room s' hs => simp only [slCut,slC] at hs; omega
    | grow _ k hk =>
     simp only [slCut,slN,hZl]
     have e3 : i - 0 + (l.length + lv.length - i) = l.length + lv.length := by omega
     rw [e3]
     exact ⟨_,_,rfl,by omega,rfl⟩
   obtain ⟨k7,o7,rfl,hk7,rfl⟩ := b3
   have hsn' : s.h < X.n := h.lt _ (by simp [hl])
   have hv' : SlAt (X.add o7) cB v lv := hv.keep fun k hk => at_add_old (hv.lt k hk)
   have hs6 : SlAt (X.add o7) cB (slCut (some s) i l.length s.cap) (l.drop i) := hc0.keep fun k hk => at_add_old (hc0.lt k hk)
   have hvne : ∀ k ∈ hl v,k ≠ X.n := fun k hk => by have := hv.lt k hk; omega
   have hbc := b1.cut (p := i) (q := l.length + lv.length) (m := k7) (by omega) hk7 (Nat.le_refl _) (Nat.le_refl _)
   refine ⟨by omega,by simp only [slN]; omega,_,lv,hbc.view,hv'.view,fun X10 e10 => ?_⟩
   subst e10
   rw [over_cut,Nat.add_zero]
   have hE : (l.take i ++ List.replicate (l.length + lv.length - i) ((0,0) : Int × Int)).length = l.length + lv.length := by simp; omega
   have tk : ∀ (L : List BK) (n : Nat),L.length ≤ n → L.take n = L := fun L n h => List.take_of_length_le h
   rw [tk lv _ (by simp only [slCut,slN]; omega)]
   obtain ⟨o1,o2⟩ := b1.over (k := i) (l' := lv) (by show i + lv.length ≤ l.length + lv.length; omega)
   have hs10 : SlAt ((X.add o7).over cB (some ⟨X.n,0,l.length + lv.length,k7⟩) i lv) cB (slCut (some s) i l.length s.cap) (l.drop i) := hs6.keep fun k hk => at_over_ne (by
    simp only [slCut,hl,List.mem_singleton] at hk
    subst hk
    show s.h ≠ X.n
    omega)
   have hbd := o1.cut (p := i + lv.length) (q := l.length + lv.length) (m := k7) (by omega) hk7 (Nat.le_refl _) (Nat.le_refl _)
   refine ⟨by omega,by simp only [slN]; omega,by omega,by omega,_,l.drop i,hbd.view,hs10.view,fun X9 e13 => ?_⟩
   subst e13
   rw [over_cut,Nat.add_zero,tk (l.drop i) _ (by simp only [slCut,slN]; rw [hdl]; omega)]
   obtain ⟨o3,o4⟩ := o1.over (k := i + lv.length) (l' := l.drop i) (by show i + lv.length + (l.drop i).length ≤ l.length + lv.length; rw [hdl]; omega)
   rw [(over_insert (E := l.take i ++ List.replicate (l.length + lv.length - i) ((0,0) : Int × Int)) (l := l) (v := lv) (d := l.drop i) (i := i) hE rfl (by omega) rfl rfl (fun k hk => by
    rw [List.getElem?_append_left (by simp; omega),List.getElem?_take,if_pos hk])).2] at o3
   refine ⟨o3,?_⟩
   have m1 : Mv X (hl (some s)) (X.add o7) [X.n] := ⟨Nat.le_succ _,fun k hk _ => at_add_old hk,fun k hk => .inr (by simp only [List.mem_singleton] at hk; omega)⟩
   exact (m1.trans o2).trans o4
  ·-- in place
   have e2 : l.length + lv.length ≤ s.cap := by have := of_decide_eq_false e2; simp only [slC] at this; omega
   obtain ⟨r,hrl,hex⟩ := h.reach (q := l.length + lv.length) (by omega) e2
   have hex' : SlAt X cB (some ⟨s.h,s.off + 0,l.length + lv.length - 0,s.cap - 0⟩) (l ++ r) := hex
   simp only [slCut,slN,slC,Nat.add_zero,Nat.sub_zero] at hex' ⊢
   obtain ⟨S,hS⟩ : ∃ S : SlH,S = ⟨s.h,s.off,l.length + lv.length,s.cap⟩ := ⟨_,rfl⟩
   rw [← hS] at hex'
   have hSl : S.len = l.length + lv.length := by rw [hS]
   have hSc : S.cap = s.cap := by rw [hS]
   have hcE := hex'.cut (p := i + lv.length) (q := S.len) (m := S.cap) (by omega) (by omega) (Nat.le_refl _) (Nat.le_refl _)
   have hcE0 := hex'.cut (p := i) (q := S.len) (m := S.cap) (by omega) (by omega) (Nat.le_refl _) (Nat.le_refl _)
   have ec : ∀ p,(some ⟨s.h,s.off + p,l.length + lv.length - p,s.cap - p⟩ : Option SlH) = slCut (some S) p S.len S.cap := fun p => by rw [hS]; rfl
   have hll : (l ++ r).length = l.length + lv.length := by rw [List.length_append]; omega
   have tkE : (l ++ r).take S.len = l ++ r := List.take_of_length_le (by rw [hSl,hll]; exact Nat.le_refl _)
   have tk : ∀ (L : List BK) (n : Nat),L.length ≤ n → L.take n = L := fun L n h => List.take_of_length_le h
   rw [tkE] at hcE hcE0
   rw [ec,ec,← hS]
   refine ⟨by omega,by omega,by omega,by omega,false,c65 hv hcE (by simpa [slCut,hl,hS] using hd),fun _ => ?_,fun e => by cases e⟩
   refine ⟨by omega,by omega,by omega,by omega,_,_,hcE.view,hcE0.view,fun X41 e17 => ?_⟩
   subst e17
   rw [over_cut,Nat.add_zero]
   have ed : ((l ++ r).drop i).take (l.length + lv.length - (i + lv.length)) = l.drop i := by
    rw [List.drop_append_of_le_length (by omega),List.take_append_of_le_length (by rw [hdl]; omega),tk _ _ (by rw [hdl]; omega)]
   rw [ed]
   obtain ⟨o1,o2⟩ := hex'.over (k := i + lv.length) (l' := l.drop i) (by rw [hdl,hSl]; omega)
   have hv17 : SlAt (X.over cB (some S) (i + lv.length) (l.drop i)) cB v lv := hv.keep fun k hk => at_over_ne (by
    rintro rfl
    refine hd _ hk ?_
    simp [hl,hS])
   have hbd := o1.cut (p := i) (q := S.len) (m := S.cap) (by omega) (by omega) (Nat.le_refl _) (Nat.le_refl _)
   refine ⟨by omega,by omega,_,lv,hbd.view,hv17.view,fun X20 e20 => ?_⟩
   subst e20
   rw [over_cut,Nat.add_zero,tk lv _ (by omega)]
   obtain ⟨o3,o4⟩ := o1.over (k := i) (l' := lv) (by rw [hSl]; omega)
   rw [(over_insert (E := l ++ r) (l := l) (v := lv) (d := l.drop i) (i := i) hll rfl (by omega) rfl rfl (fun k hk => by
    rw [List.getElem?_append_left (by omega)])).1] at o3
   refine ⟨o3,?_⟩
   have es : hl (some s) = hl (some S) := by simp [hl,hS]
   rw [es]
   exact o2.trans o4

end Go.Proofs.YtdcljlafookliaaDoor.AB

set_option maxRecDepth 100000
set_option maxHeartbeats 2000000
namespace Go.Proofs.YtdcljlafookliaaDoor.AB
open Go
noncomputable def X45 : Cx := ⟨tt,[(54,[.cd (.int .i64)])],[(55,[(.pure (.int .i64)),(.pure .bool)]),(57,[(.sl (.pure (.pair (.int .i64) (.int .i64))))])],[(45,[(2,4,.rd),(3,6,.x (.pure (.pair (.int .i64) (.int .i64)))),(3,7,.xc)])],[],[]⟩
theorem FN45 : fnsB Tryd.prog X45.fns := (show True from trivial)
theorem E45 (X : XH) (a0 : Nat) (b1 : (Int × Int)) {R : Unit → XH → Prop} (h : (∃ p1 : Int,PC Tryd.prog 54 [(.int .u64 (IntKind.wrap .u64 b1.2))] (.int .i64 p1) ∧ (0 ≤ p1 ∧ p1 < (22:Int) ∧ (∃ (a2 : ((Option SlH) × ((Nat → (Option SlH)) × ((Option Nat) × ((Option Nat) × Int))))),XH.el X yZ0 a0 0 = some a2 ∧ (∃ (p3 : Int × Bool),RC Tryd.prog 55 [(.pure (.int .i64)),(.pure .bool)] [(.sl (.pure (.pair (.int .i64) (.int .i64))) (a2.2.1 ((p1).toNat))),(.v (.agg [(.int .i64 b1.1),(.int .i64 b1.2)])),(.v (.fn 56))] X p3 ∧ (∃ (a4 : ((Option SlH) × ((Nat → (Option SlH)) × ((Option Nat) × ((Option Nat) × Int))))),XH.el X yZ0 a0 0 = some a4 ∧ (∀ (X5 : XH),X5 = (XH.add X (.arr (.pure (.pair (.int .i64) (.int .i64))) ([(b1.1,b1.2)] : List (Int × Int)))) → (XC Tryd.prog 57 [(.sl (.pure (.pair (.int .i64) (.int .i64))))] [(.sl (.pure (.pair (.int .i64) (.int .i64))) (a4.2.1 ((p1).toNat))),(.v (.int .i64 p3.1)),(.sl (.pure (.pair (.int .i64) (.int .i64))) (some ⟨X.n,0,1,1⟩))] X5 (fun (p6 : (Option SlH)) (X7 : XH) => (∃ (a8 : ((Option SlH) × ((Nat → (Option SlH)) × ((Option Nat) × ((Option Nat) × Int))))),XH.el X7 yZ0 a0 0 = some a8 ∧ (∀ (X9 : XH),X9 = (XH.setEl X7 yZ0 a0 0 ((a8.1,((fun j => if j = (p1).toNat then p6 else a8.2.1 j),a8.2.2)))) → (∃ (a10 : ((Option SlH) × ((Nat → (Option SlH)) × ((Option Nat) × ((Option Nat) × Int))))),XH.el X9 yZ0 a0 0 = some a10 ∧ (∃ (u11 : SlH),a10.1 = some u11 ∧ 0 ≤ b1.1 ∧ b1.1 < ((u11.len : Nat) : Int) ∧ (∃ (a12 : Int),XH.el X9 (.pure (.int .i64)) u11.h ((u11.off + (b1.1).toNat)) = some a12 ∧ (∀ (X13 : XH),X13 = (XH.setEl X9 (.pure (.int .i64)) u11.h ((u11.off + (b1.1).toNat)) ((IntKind.wrap .i64 ((2:Int) * b1.2)))) → (∃ (a14 : ((Option SlH) × ((Nat → (Option SlH)) × ((Option Nat) × ((Option Nat) × Int))))),XH.el X13 yZ0 a0 0 = some a14 ∧ (∃ (h15 : Nat) (es16 : List (Int × Int)),a14.2.2.1 = some h15 ∧ XH.mp X13 (.int .i64) (.pure (.int .i64)) h15 = some es16 ∧ (∀ (X17 : XH),X17 = (XH.set X13 h15 (.map (.int .i64) (.pure (.int .i64)) (mset (Cd.keq (.int .i64) ((IntKind.wrap .i64 (b1.1 + b1.2)))) ((IntKind.wrap .i64 (b1.1 + b1.2))) b1.1 es16))) → R () X17)))))))))))))))))) :
 fnK X45.tt (callN Tryd.prog X45 0) (X45.md 45) (X45.mk1 45) Tryd.f45 [(.ref (some a0) yZ0 0 []),(.v (.agg [(.int .i64 b1.1),(.int .i64 b1.2)]))] ⟨[],[some (.heap X)],⟨0,[]⟩⟩ (xfin [] R) := Eq.mp (by kernel_rfl) h
end Go.Proofs.YtdcljlafookliaaDoor.AB

set_option maxRecDepth 100000
set_option maxHeartbeats 2000000
namespace Go.Proofs.YtdcljlafookliaaDoor.AB
open Go
noncomputable def X46 : Cx := ⟨tt,[],[],[],[(46,[(0,mkM 27 0 [0,1,14,15],0)])],[]⟩
theorem FN46 : fnsB Tryd.prog X46.fns := (show True from trivial)
def M46_0 : List Bool × Nat := (mkM 27 0 [0,1,14,15],1)
def S46_0 (a0 : Nat) (from1 : Int) (t14 : Int) (t15 : Int) (hq0 : XH) (T : Toks) : St :=
  mkS 27 [(0,(.ref (some a0) yZ0 0 [])),(1,(.v (.int .i64 from1))),(14,(.v (.int .i64 t14))),(15,(.v (.int .i64 t15)))] [(some (.heap hq0))] T
noncomputable def B46_0 : (Exit → St → Prop) → St → Prop := (awp X46.tt (callN Tryd.prog X46 0) (X46.md 46) 1 (X46.mk1 46) 0 (codeAt [1,0,0] (bd Tryd.f46)))
noncomputable def Q46_0 (R : Unit → XH → Prop) : Exit → St → Prop := (blockK 0 (retK tt Tryd.f46.results.toList fun x s' => xfin [] R x ⟨[],s'.hp,s'.T⟩))
theorem E46 (X : XH) (a0 : Nat) (from1 : Int) (to2 : Int) {R : Unit → XH → Prop} (h : (∃ (a1 : ((Option SlH) × ((Nat → (Option SlH)) × ((Option Nat) × ((Option Nat) × Int))))),XH.el X yZ0 a0 0 = some a1 ∧ (0 ≤ from1 ∧ from1 ≤ to2 ∧ to2 ≤ (((slC a1.1) : Nat) : Int) ∧ (Loops B46_0 M46_0 (Q46_0 R)
  (S46_0 a0 from1 ((((slN ((slCut a1.1 ((from1).toNat) ((to2).toNat) (slC a1.1)))) : Nat) : Int)) (0:Int) X ⟨0,[]⟩))))) :
  fnK X46.tt (callN Tryd.prog X46 0) (X46.md 46) (X46.mk1 46) Tryd.f46 [(.ref (some a0) yZ0 0 []),(.v (.int .i64 from1)),(.v (.int .i64 to2))] ⟨[],[some (.heap X)],⟨0,[]⟩⟩ (xfin [] R) := Eq.mp (by kernel_rfl) h
theorem L46_0 (a0 : Nat) (from1 : Int) (t14 : Int) (t15 : Int) (hq0 : XH) (T : Toks) {R : Unit → XH → Prop} {k0 : St → Prop}
 (h : (((decide (t15 < t14)) = true → (∃ (a2 : ((Option SlH) × ((Nat → (Option SlH)) × ((Option Nat) × ((Option Nat) × Int))))),XH.el hq0 yZ0 a0 0 = some a2 ∧ (∃ (u3 : SlH),a2.1 = some u3 ∧ 0 ≤ (IntKind.wrap .i64 (from1 + t15)) ∧ (IntKind.wrap .i64 (from1 + t15)) < ((u3.len : Nat) : Int) ∧ (∃ (a4 : Int),XH.el hq0 (.pure (.int .i64)) u3.h ((u3.off + ((IntKind.wrap .i64 (from1 + t15))).toNat)) = some a4 ∧ (∀ (X5 : XH),X5 = (XH.setEl hq0 (.pure (.int .i64)) u3.h ((u3.off + ((IntKind.wrap .i64 (from1 + t15))).toNat)) (-6148914691236517206:Int)) → k0 (S46_0 a0 from1 t14 ((IntKind.wrap .i64 (t15 + (1:Int)))) X5 T)))))) ∧
 ((decide (t15 < t14)) = false → R () hq0))) :
  B46_0 (loopQ M46_0 k0 (Q46_0 R)) (S46_0 a0 from1 t14 t15 hq0 T) := Eq.mp (by kernel_rfl) h
end Go.Proofs.YtdcljlafookliaaDoor.AB

set_option maxRecDepth 100000
set_option maxHeartbeats 2000000
namespace Go.Proofs.YtdcljlafookliaaDoor.AB
open Go
noncomputable def X50 : Cx := ⟨tt,[(54,[.cd (.int .i64)])],[(55,[(.pure (.int .i64)),(.pure .bool)])],[(50,[(7,4,.rd)])],[(50,[(0,mkM 48 0 [0,1,4,6],1)])],[]⟩
theorem FN50 : fnsB Tryd.prog X50.fns := (show True from trivial)
def M50_0 : List Bool × Nat := (mkM 48 0 [0,1,4,6],2)
def S50_0 (a0 : Nat) (n1 : Int) (k6 : Int) (hq0 : XH) (hq1_0 : Int) (hq1_1 : Int) (T : Toks) : St :=
  mkS 48 [(0,(.ref (some a0) yZ0 0 [])),(1,(.v (.int .i64 n1))),(4,(.ptr 1 0 0 0)),(6,(.v (.int .i64 k6)))] [(some (.heap hq0)),(some (.box (.v (.agg [(.int .i64 hq1_0),(.int .i64 hq1_1)]))))] T
noncomputable def B50_0 : (Exit → St → Prop) → St → Prop := (awp X50.tt (callN Tryd.prog X50 0) (X50.md 50) 1 (X50.mk1 50) 0 (codeAt [1,1,0,1,0,0] (bd Tryd.f50)))
noncomputable def K50_0 (R : ((Int × Int) × Bool) → XH → Prop) : Exit → St → Prop := seqK ((awp X50.tt (callN Tryd.prog X50 0) (X50.md 50) 1 (X50.mk1 50) 0 (codeAt [1,1,1] (bd Tryd.f50))) (retK tt Tryd.f50.results.toList fun x s' => xfin [(.pure (.pair (.int .i64) (.int .i64))),(.pure .bool)] R x ⟨[],s'.hp,s'.T⟩)) (retK tt Tryd.f50.results.toList fun x s' => xfin [(.pure (.pair (.int .i64) (.int .i64))),(.pure .bool)] R x ⟨[],s'.hp,s'.T⟩)
noncomputable def Q50_0 (R : ((Int × Int) × Bool) → XH → Prop) : Exit → St → Prop := (blockK 0 (K50_0 R))
theorem E50 (X : XH) (a0 : Nat) (n1 : Int) {R : ((Int × Int) × Bool) → XH → Prop} (h : (((decide (n1 < (1:Int))) = true → R (((0:Int),(0:Int)),false) X) ∧ ((decide (n1 < (1:Int))) = false → (((decide (n1 > (1048576:Int))) = true → R (((0:Int),(0:Int)),false) X) ∧
 ((decide (n1 > (1048576:Int))) = false → (∃ p1 : Int,PC Tryd.prog 54 [(.int .u64 ((IntKind.wrap .u64 (IntKind.wrap .i64 (n1 + (1:Int))))))] (.int .i64 p1) ∧ (Loops B50_0 M50_0 (Q50_0 R)
  (S50_0 a0 n1 p1 X (0:Int) (0:Int) ⟨0,[]⟩)))))))) :
  fnK X50.tt (callN Tryd.prog X50 0) (X50.md 50) (X50.mk1 50) Tryd.f50 [(.ref (some a0) yZ0 0 []),(.v (.int .i64 n1))] ⟨[],[some (.heap X)],⟨0,[]⟩⟩ (xfin [(.pure (.pair (.int .i64) (.int .i64))),(.pure .bool)] R) := Eq.mp (by kernel_rfl) h
theorem L50_0 (a0 : Nat) (n1 : Int) (k6 : Int) (hq0 : XH) (hq1_0 : Int) (hq1_1 : Int) (T : Toks) {R : ((Int × Int) × Bool) → XH → Prop} {k0 : St → Prop}
 (h : (((decide (k6 < (22:Int))) = true → (0 ≤ k6 ∧ k6 < (22:Int) ∧ (∃ (a2 : ((Option SlH) × ((Nat → (Option SlH)) × ((Option Nat) × ((Option Nat) × Int))))),XH.el hq0 yZ0 a0 0 = some a2 ∧ (∃ (p3 : Int × Bool),RC Tryd.prog 55 [(.pure (.int .i64)),(.pure .bool)] [(.sl (.pure (.pair (.int .i64) (.int .i64))) (a2.2.1 ((k6).toNat))),(.v (.agg [(.int .i64 (0:Int)),(.int .i64 ((IntKind.wrap .i64 (n1 + (1:Int)))))])),(.v (.fn 56))] hq0 p3 ∧ (((decide (p3.1 < (((slN ((a2.2.1 ((k6).toNat)))) : Nat) : Int))) = true → (∃ (u4 : SlH),(a2.2.1 ((k6).toNat)) = some u4 ∧ 0 ≤ p3.1 ∧ p3.1 < ((u4.len : Nat) : Int) ∧ (∃ (a5 : (Int × Int)),XH.el hq0 (.pure (.pair (.int .i64) (.int .i64))) u4.h ((u4.off + (p3.1).toNat)) = some a5 ∧ R ((a5.1,a5.2),true) hq0))) ∧
 ((decide (p3.1 < (((slN ((a2.2.1 ((k6).toNat)))) : Nat) : Int))) = false → k0 (S50_0 a0 n1 ((IntKind.wrap .i64 (k6 + (1:Int)))) hq0 hq1_0 hq1_1 T))))))) ∧
 ((decide (k6 < (22:Int))) = false → R (((0:Int),(0:Int)),false) hq0))) :
  B50_0 (loopQ M50_0 k0 (Q50_0 R)) (S50_0 a0 n1 k6 hq0 hq1_0 hq1_1 T) := Eq.mp (by kernel_rfl) h
end Go.Proofs.YtdcljlafookliaaDoor.AB

set_option maxRecDepth 100000
set_option maxHeartbeats 2000000
namespace Go.Proofs.YtdcljlafookliaaDoor.AB
open Go
noncomputable def X51 : Cx := ⟨tt,[(54,[.cd (.int .i64)])],[(55,[(.pure (.int .i64)),(.pure .bool)]),(58,[(.sl (.pure (.pair (.int .i64) (.int .i64))))])],[(51,[(2,4,.rd),(3,7,.xc)])],[],[]⟩
theorem FN51 : fnsB Tryd.prog X51.fns := (show True from trivial)
theorem E51 (X : XH) (a0 : Nat) (b1 : (Int × Int)) {R : Unit → XH → Prop} (h : (∃ p1 : Int,PC Tryd.prog 54 [(.int .u64 (IntKind.wrap .u64 b1.2))] (.int .i64 p1) ∧ (0 ≤ p1 ∧ p1 < (22:Int) ∧ (∃ (a2 : ((Option SlH) × ((Nat → (Option SlH)) × ((Option Nat) × ((Option Nat) × Int))))),XH.el X yZ0 a0 0 = some a2 ∧ (∃ (p3 : Int × Bool),RC Tryd.prog 55 [(.pure (.int .i64)),(.pure .bool)] [(.sl (.pure (.pair (.int .i64) (.int .i64))) (a2.2.1 ((p1).toNat))),(.v (.agg [(.int .i64 b1.1),(.int .i64 b1.2)])),(.v (.fn 56))] X p3 ∧ (∃ (a4 : ((Option SlH) × ((Nat → (Option SlH)) × ((Option Nat) × ((Option Nat) × Int))))),XH.el X yZ0 a0 0 = some a4 ∧ (XC Tryd.prog 58 [(.sl (.pure (.pair (.int .i64) (.int .i64))))] [(.sl (.pure (.pair (.int .i64) (.int .i64))) (a4.2.1 ((p1).toNat))),(.v (.int .i64 p3.1)),(.v (.int .i64 ((IntKind.wrap .i64 (p3.1 + (1:Int))))))] X (fun (p5 : (Option SlH)) (X6 : XH) => (∃ (a7 : ((Option SlH) × ((Nat → (Option SlH)) × ((Option Nat) × ((Option Nat) × Int))))),XH.el X6 yZ0 a0 0 = some a7 ∧ (∀ (X8 : XH),X8 = (XH.setEl X6 yZ0 a0 0 ((a7.1,((fun j => if j = (p1).toNat then p5 else a7.2.1 j),a7.2.2)))) → (∃ (a9 : ((Option SlH) × ((Nat → (Option SlH)) × ((Option Nat) × ((Option Nat) × Int))))),XH.el X8 yZ0 a0 0 = some a9 ∧ (∃ (h10 : Nat) (es11 : List (Int × Int)),a9.2.2.1 = some h10 ∧ XH.mp X8 (.int .i64) (.pure (.int .i64)) h10 = some es11 ∧ (∀ (X12 : XH),X12 = (XH.set X8 h10 (.map (.int .i64) (.pure (.int .i64)) (mdel (Cd.keq (.int .i64) ((IntKind.wrap .i64 (b1.1 + b1.2)))) es11))) → R () X12))))))))))))) :
 fnK X51.tt (callN Tryd.prog X51 0) (X51.md 51) (X51.mk1 51) Tryd.f51 [(.ref (some a0) yZ0 0 []),(.v (.agg [(.int .i64 b1.1),(.int .i64 b1.2)]))] ⟨[],[some (.heap X)],⟨0,[]⟩⟩ (xfin [] R) := Eq.mp (by kernel_rfl) h
end Go.Proofs.YtdcljlafookliaaDoor.AB

namespace Go.Proofs.YtdcljlafookliaaDoor.AB
open Go

structure AD where
 hw : Nat
 he : Nat
 ht : Nat
 ls : Nat → Option SlH
 W : List Int
 L : Nat → List BK
 E : List (Int × Int)
 T : List (Int × Int)
 n : Int

abbrev cA : Xd := yZ0

def AD.val (d : AD) : cA.T := (some ⟨d.hw,0,d.W.length,d.W.length⟩,d.ls,some d.he,some d.ht,d.n)

def AD.hs (d : AD) (t : Nat) : List Nat := t :: d.hw :: d.he :: d.ht :: (List.range 22).flatMap fun k => hl (d.ls k)

structure Rep (X : XH) (t : Nat) (d : AD) : Prop where
 box : Box X cA t d.val
 w : X.at d.hw = some (.arr cI d.W)
 e : X.at d.he = some (.map (.int .i64) cI d.E)
 tk : X.at d.ht = some (.map (.int .i64) cI d.T)
 l : ∀ k,k < 22 → SlAt X cB (d.ls k) (d.L k)
 n1 : t ≠ d.hw ∧ t ≠ d.he ∧ t ≠ d.ht ∧ d.hw ≠ d.he ∧ d.hw ≠ d.ht ∧ d.he ≠ d.ht
 n2 : ∀ k,k < 22 → ∀ h ∈ hl (d.ls k),h ≠ t ∧ h ≠ d.hw ∧ h ≠ d.he ∧ h ≠ d.ht
 n3 : ∀ k k',k < 22 → k' < 22 → k ≠ k' → ∀ h ∈ hl (d.ls k),h ∉ hl (d.ls k')

variable {X X' : XH} {t : Nat} {d : AD}

theorem mem_hs {h : Nat} : h ∈ d.hs t ↔ h = t ∨ h = d.hw ∨ h = d.he ∨ h = d.ht ∨ ∃ k,k < 22 ∧ h ∈ hl (d.ls k) := by
 simp [AD.hs,List.mem_flatMap]

theorem Rep.lt (h : Rep X t d) : ∀ k ∈ d.hs t,k < X.n := by
 intro k hk
 rcases mem_hs.1 hk with rfl | rfl | rfl | rfl | ⟨j,hj,hk⟩
 ·exact h.box.lt
 ·exact at_lt h.w
 ·exact at_lt h.e
 ·exact at_lt h.tk
 ·exact (h.l j hj).lt k hk

theorem Rep.keep (h : Rep X t d) (e : ∀ k ∈ d.hs t,X'.at k = X.at k) : Rep X' t d :=
 ⟨h.box.keep (e _ (mem_hs.2 (.inl rfl))),(e _ (mem_hs.2 (.inr (.inl rfl)))).trans h.w,(e _ (mem_hs.2 (.inr (.inr (.inl rfl))))).trans h.e,(e _ (mem_hs.2 (.inr (.inr (.inr (.inl rfl)))))).trans h.tk,
  fun k hk => (h.l k hk).keep fun j hj => e _ (mem_hs.2 (.inr (.inr (.inr (.inr ⟨k,hk,hj⟩))))),h.n1,h.n2,h.n3⟩

theorem Rep.mv {S S' : List Nat} (h : Rep X t d) (m : Mv X S X' S') (hd : ∀ k ∈ d.hs t,k ∉ S) : Rep X' t d := h.keep fun k hk => m.keep k (h.lt k hk) (hd k hk)

theorem Rep.setW (h : Rep X t d) {W' : List Int} (hl' : W'.length = d.W.length) : Rep (X.set d.hw (.arr cI W')) t { d with W := W' } ∧ Mv X (d.hs t) (X.set d.hw (.arr cI W')) (AD.hs { d with W := W' } t) := by
 obtain ⟨a1,a2,a3,a4,a5,a6⟩ := h.n1
 refine ⟨⟨?_,at_set_self h.w,(at_set_ne a4.symm).trans h.e,(at_set_ne a5.symm).trans h.tk,fun k hk => (h.l k hk).keep fun j hj => at_set_ne (h.n2 k hk j hj).2.1,h.n1,h.n2,h.n3⟩,Mv.set (mem_hs.2 (.inr (.inl rfl)))⟩
 have : AD.val { d with W := W' } = d.val := by simp only [AD.val,hl']
 rw [this]
 exact h.box.keep (at_set_ne a1)

theorem Rep.setE (h : Rep X t d) (E' : List (Int × Int)) : Rep (X.set d.he (.map (.int .i64) cI E')) t { d with E := E' } ∧ Mv X (d.hs t) (X.set d.he (.map (.int .i64) cI E')) (AD.hs { d with E := E' } t) := by
 obtain ⟨a1,a2,a3,a4,a5,a6⟩ := h.n1
 exact ⟨⟨h.box.keep (at_set_ne a2),(at_set_ne a4).trans h.w,at_set_self h.e,(at_set_ne a6.symm).trans h.tk,fun k hk => (h.l k hk).keep fun j hj => at_set_ne (h.n2 k hk j hj).2.2.1,h.n1,h.n2,h.n3⟩,Mv.set (mem_hs.2 (.inr (.inr (.inl rfl))))⟩

theorem Rep.setT (h : Rep X t d) (T' : List (Int × Int)) : Rep (X.set d.ht (.map (.int .i64) cI T')) t { d with T := T' } ∧ Mv X (d.hs t) (X.set d.ht (.map (.int .i64) cI T')) (AD.hs { d with T := T' } t) := by
 obtain ⟨a1,a2,a3,a4,a5,a6⟩ := h.n1
 exact ⟨⟨h.box.keep (at_set_ne a3),(at_set_ne a5).trans h.w,(at_set_ne a6).trans h.e,at_set_self h.tk,fun k hk => (h.l k hk).keep fun j hj => at_set_ne (h.n2 k hk j hj).2.2.2,h.n1,h.n2,h.n3⟩,Mv.set (mem_hs.2 (.inr (.inr (.inr (.inl rfl)))))⟩

theorem Rep.setN (h : Rep X t d) (n' : Int) : Rep (X.set t (.arr cA [AD.val { d with n := n' }])) t { d with n := n' } ∧ Mv X (d.hs t) (X.set t (.arr cA [AD.val { d with n := n' }])) (AD.hs { d with n := n' } t) := by
 obtain ⟨a1,a2,a3,a4,a5,a6⟩ := h.n1
 exact ⟨⟨h.box.set,(at_set_ne a1.symm).trans h.w,(at_set_ne a2.symm).trans h.e,(at_set_ne a3.symm).trans h.tk,fun k hk => (h.l k hk).keep fun j hj => at_set_ne (h.n2 k hk j hj).1,h.n1,h.n2,h.n3⟩,Mv.set (mem_hs.2 (.inl rfl))⟩

def updL {α : Type} (f : Nat → α) (k : Nat) (a : α) : Nat → α := fun j => if j = k then a else f j

theorem Rep.setL (h : Rep X t d) {k : Nat} (hk : k < 22) {p : Option SlH} {l' : List BK} (hp : SlAt X' cB p l') (m : Mv X (hl (d.ls k)) X' (hl p)) :
  Rep (X'.set t (.arr cA [AD.val { d with ls := updL d.ls k p,L := updL d.L k l' }])) t { d with ls := updL d.ls k p,L := updL d.L k l' } ∧
   Mv X (d.hs t) (X'.set t (.arr cA [AD.val { d with ls := updL d.ls k p,L := updL d.L k l' }])) (AD.hs { d with ls := updL d.ls k p,L := updL d.L k l' } t) := by
 obtain ⟨a1,a2,a3,a4,a5,a6⟩ := h.n1
 have hn := h.n2 k hk
 -- what is not the list's stays
 have ke : ∀ q,q < X.n → q ∉ hl (d.ls k) → X'.at q = X.at q := fun q hq hq2 => m.keep q hq hq2
 have bt : Box X' cA t d.val := h.box.keep (ke t h.box.lt fun q => (hn t q).1 rfl)
 have pn : ∀ q ∈ hl p,q ≠ t ∧ q ≠ d.hw ∧ q ≠ d.he ∧ q ≠ d.ht := by
  intro q hq
  rcases m.own q hq with h1 | h1
  ·exact hn q h1
  ·have b1 := h.box.lt
   have b2 := at_lt h.w
   have b3 := at_lt h.e
   have b4 := at_lt h.tk
   refine ⟨?_,?_,?_,?_⟩ <;> omega
 have po : ∀ j,j < 22 → j ≠ k → ∀ q ∈ hl p,q ∉ hl (d.ls j) := by
  intro j hj hjk q hq hq2
  rcases m.own q hq with h1 | h1
  ·exact h.n3 k j hk hj hjk.symm q h1 hq2
  ·have := (h.l j hj).lt q hq2; omega
 refine ⟨⟨bt.set,?_,?_,?_,fun j hj => ?_,h.n1,fun j hj q hq => ?_,fun j j' hj hj' hjj q hq => ?_⟩,?_⟩
 ·exact (at_set_ne a1.symm).trans ((ke _ (at_lt h.w) fun q => (hn _ q).2.1 rfl).trans h.w)
 ·exact (at_set_ne a2.symm).trans ((ke _ (at_lt h.e) fun q => (hn _ q).2.2.1 rfl).trans h.e)
 ·exact (at_set_ne a3.symm).trans ((ke _ (at_lt h.tk) fun q => (hn _ q).2.2.2 rfl).trans h.tk)
 ·show SlAt _ cB (updL d.ls k p j) (updL d.L k l' j)
  unfold updL
  by_cases e : j = k
  ·rw [if_pos e,if_pos e]
   exact hp.keep fun q hq => at_set_ne (pn q hq).1
  ·rw [if_neg e,if_neg e]
   exact (h.l j hj).keep fun q hq => (at_set_ne (h.n2 j hj q hq).1).trans (ke q ((h.l j hj).lt q hq) fun q2 => h.n3 j k hj hk e q hq q2)
 ·have hq : q ∈ hl (updL d.ls k p j) := hq
  unfold updL at hq
  split at hq
  ·exact pn q hq
  ·exact h.n2 j hj q hq
 ·have hq : q ∈ hl (updL d.ls k p j) := hq
  show q ∉ hl (updL d.ls k p j')
  unfold updL at hq ⊢
  by_cases e : j = k
  ·rw [if_pos e] at hq
   rw [if_neg (by omega)]
   exact po j' hj' (by omega) q hq
  ·rw [if_neg e] at hq
   by_cases e' : j' = k
   ·rw [if_pos e']
    exact fun q2 => po j hj e q q2 hq
   ·rw [if_neg e']
    exact h.n3 j j' hj hj' hjj q hq
 ·have m2 : Mv X (d.hs t) X' (AD.hs { d with ls := updL d.ls k p,L := updL d.L k l' } t) := m.weak (fun q hq => mem_hs.2 (.inr (.inr (.inr (.inr ⟨k,hk,hq⟩))))) (fun q hq => by
   rcases mem_hs.1 hq with h1 | h1 | h1 | h1 | ⟨j,hj,h1⟩
   ·exact .inr (mem_hs.2 (.inl h1))
   ·exact .inr (mem_hs.2 (.inr (.inl h1)))
   ·exact .inr (mem_hs.2 (.inr (.inr (.inl h1))))
   ·exact .inr (mem_hs.2 (.inr (.inr (.inr (.inl h1)))))
   ·have h1 : q ∈ hl (updL d.ls k p j) := h1
    unfold updL at h1
    split at h1
    ·exact .inl h1
    ·exact .inr (mem_hs.2 (.inr (.inr (.inr (.inr ⟨j,hj,h1⟩))))))
  exact m2.trans (Mv.set (mem_hs.2 (.inl rfl)))

theorem Rep.el (h : Rep X t d) : X.el cA t 0 = some d.val := h.box.el
theorem Rep.setEl (h : Rep X t d) (v : cA.T) : X.setEl cA t 0 v = X.set t (.arr cA [v]) := h.box.setEl

theorem at_arr_el {hw : Nat} {W : List Int} (h : X.at hw = some (.arr cI W)) {i : Nat} (hi : i < W.length) : X.el cI hw i = some (W.getD i 0) := by
 unfold XH.el
 rw [arr_at.2 h]
 simp [List.getD,List.getElem?_eq_getElem hi]

theorem at_arr_setEl {hw : Nat} {W : List Int} (h : X.at hw = some (.arr cI W)) (i : Nat) (v : Int) : X.setEl cI hw i v = X.set hw (.arr cI (W.set i v)) := by
 unfold XH.setEl
 rw [arr_at.2 h]

structure LOK (L : Nat → List BK) : Prop where
 srt : ∀ k,k < 22 → Srt (L k)
 ok : ∀ k,k < 22 → ∀ b ∈ L k,bok b
 len : ∀ k,k < 22 → (L k).length ≤ 1099511627776

def insB (l : List BK) (b : BK) : List BK := l.take (bsI l b) ++ [b] ++ l.drop (bsI l b)
def delB (l : List BK) (b : BK) : List BK := l.take (bsI l b) ++ l.drop (bsI l b + 1)

abbrev eqI (k : Int) : Int → Bool := Cd.keq (.int .i64) k

theorem wrapu64 {n : Int} (h0 : 0 ≤ n) (h1 : n ≤ 9223372036854775807) : IntKind.wrap .u64 n = n := by
 have e : IntKind.wrap .u64 n = n % 18446744073709551616 := by simp [IntKind.wrap,IntKind.bits,IntKind.signed]
 rw [e]; omega

theorem c45 (h : Rep X t d) (hL : LOK d.L) {a s : Nat} (ha : a < d.W.length) (hs : s < 2097152) (hw : d.W.length ≤ 1099511627776) (hb : bok ((a : Int),(s : Int))) :
  XC Tryd.prog 45 [] [.ref (some t) cA 0 [],.v (.agg [.int .i64 (a : Int),.int .i64 (s : Int)])] X fun _ X' => ∃ d',Rep X' t d' ∧ Mv X (d.hs t) X' (d'.hs t) ∧ d'.W = d.W.set a (2 * (s : Int)) ∧
   d'.L = updL d.L (bl s) (insB (d.L (bl s)) ((a : Int),(s : Int))) ∧ d'.E = mset (eqI ((a : Int) + (s : Int))) ((a : Int) + (s : Int)) (a : Int) d.E ∧ d'.T = d.T ∧ d'.n = d.n := by
 have hk := bl_lt hs
 obtain ⟨k,hkd⟩ : ∃ k,k = bl s := ⟨_,rfl⟩
 rw [← hkd] at hk ⊢
 obtain ⟨b,hbd⟩ : ∃ b : BK,b = ((a : Int),(s : Int)) := ⟨_,rfl⟩
 have b1 := hb.2.1
 have b2 := hb.2.2.2
 simp only at b1 b2
 have hsl := h.l k hk
 have hll := hL.len k hk
 refine xcOf (X := X45) rfl FN45 (by kernel_rfl) (by decide) (E45 X t ((a : Int),(s : Int)) ?_)
 rw [← hbd] at hb ⊢
 have e1 : b.1 = (a : Int) := by rw [hbd]
 have e2 : b.2 = (s : Int) := by rw [hbd]
 rw [e1,e2,wrapu64 (n := (s : Int)) (by omega) (by omega),wrap64 (x := (a : Int) + (s : Int)) (by omega) (by omega),wrap64 (x := 2 * (s : Int)) (by omega) (by omega)]
 refine ⟨(k : Nat),by rw [hkd]; exact p54 s (by omega),by omega,by omega,d.val,h.el,?_⟩
 rw [Int.toNat_natCast,Int.toNat_natCast]
 have hx := c55 (t := b) hsl (hL.srt k hk) (hL.ok k hk) hb hll
 rw [e1,e2] at hx
 refine ⟨((bsI (d.L k) b : Nat),bsF (d.L k) b),hx,d.val,h.el,fun X5 e5 => ?_⟩
 -- the block that is put in,in a list of its own
 have m5 : Mv X [] X5 [X.n] := by subst e5; exact Mv.add _ _ _
 have h5 : Rep X5 t d := h.mv m5 (fun _ _ q => by cases q)
 have hv5 : SlAt X5 cB (some ⟨X.n,0,1,1⟩) [b] := by
  subst e5
  refine ⟨[b],?_,by simp,by simp,by simp⟩
  rw [at_add_new,hbd]
 refine (c57 (h5.l k hk) hv5 (fun q hq hq2 => ?_) (bsI_le _ _) (by show ((d.L k).length + 1) * 16 ≤ 140737488355328; omega) (by simp)).mono ?_
 ·simp only [hl,List.mem_singleton] at hq
  subst hq
  have := hsl.lt _ hq2
  omega
 rintro p X7 ⟨hp,m7⟩
 obtain ⟨h9,m9⟩ := h5.setL hk hp m7
 have bt7 : Box X7 cA t d.val := h5.box.keep (m7.keep t h5.box.lt fun q => (h5.n2 k hk t q).1 rfl)
 refine ⟨d.val,bt7.el,fun X9 e9 => ?_⟩
 have e9 := e9.trans (bt7.setEl)
 obtain ⟨d1,hd1⟩ : ∃ d1 : AD,d1 = { d with ls := updL d.ls k p,L := updL d.L k ((d.L k).take (bsI (d.L k) b) ++ [b] ++ (d.L k).drop (bsI (d.L k) b)) } := ⟨_,rfl⟩
 have e9 : X9 = X7.set t (.arr cA [d1.val]) := by rw [e9,hd1]; rfl
 rw [← hd1] at h9 m9
 rw [← e9] at h9 m9
 have hW1 : d1.W = d.W := by rw [hd1]
 refine ⟨d1.val,h9.el,⟨d1.hw,0,d1.W.length,d1.W.length⟩,rfl,by omega,by show (a : Int) < ((d1.W.length : Nat) : Int); rw [hW1]; omega,d1.W.getD a 0,?_,fun X9 e13 => ?_⟩
 ·rw [Nat.zero_add]
  exact at_arr_el h9.w (by rw [hW1]; exact ha)
 rw [Nat.zero_add] at e13
 have e13 := e13.trans (at_arr_setEl h9.w a (2 * (s : Int)))
 obtain ⟨h13,m13⟩ := h9.setW (W' := d1.W.set a (2 * (s : Int))) (by simp)
 obtain ⟨d2,hd2⟩ : ∃ d2 : AD,d2 = { d1 with W := d1.W.set a (2 * (s : Int)) } := ⟨_,rfl⟩
 rw [← e13,← hd2] at h13 m13
 refine ⟨d2.val,h13.el,d2.he,d2.E,rfl,mp_at.2 h13.e,fun X41 e17 => ?_⟩
 obtain ⟨h17,m17⟩ := h13.setE (mset (eqI ((a : Int) + (s : Int))) ((a : Int) + (s : Int)) (a : Int) d2.E)
 rw [← e17] at h17 m17
 refine ⟨_,h17,?_,?_,?_,?_,?_,?_⟩
 ·have m0 : Mv X (d.hs t) X5 (d.hs t) := m5.weak (fun _ q => by cases q) (fun q hq => .inr hq)
  exact ((m0.trans m9).trans m13).trans m17
 ·rw [hd2,hd1]
 ·rw [hd2,hd1]; rfl
 ·rw [hd2,hd1]
 ·rw [hd2,hd1]
 ·rw [hd2,hd1]

theorem c51 (h : Rep X t d) (hL : LOK d.L) {a s : Nat} (hs : s < 2097152) (hb : bok ((a : Int),(s : Int))) (hm : ((a : Int),(s : Int)) ∈ d.L (bl s)) :
  XC Tryd.prog 51 [] [.ref (some t) cA 0 [],.v (.agg [.int .i64 (a : Int),.int .i64 (s : Int)])] X fun _ X' => ∃ d',Rep X' t d' ∧ Mv X (d.hs t) X' (d'.hs t) ∧ d'.W = d.W ∧
   d'.L = updL d.L (bl s) (delB (d.L (bl s)) ((a : Int),(s : Int))) ∧ d'.E = mdel (eqI ((a : Int) + (s : Int))) d.E ∧ d'.T = d.T ∧ d'.n = d.n := by
 have hk := bl_lt hs
 obtain ⟨k,hkd⟩ : ∃ k,k = bl s := ⟨_,rfl⟩
 rw [← hkd] at hk hm ⊢
 obtain ⟨b,hbd⟩ : ∃ b : BK,b = ((a : Int),(s : Int)) := ⟨_,rfl⟩
 have b1 := hb.2.1
 have b2 := hb.2.2.2
 simp only at b1 b2
 have hsl := h.l k hk
 have hll := hL.len k hk
 have hI : bsI (d.L k) b < (d.L k).length := by
  rcases Nat.lt_or_ge (bsI (d.L k) b) (d.L k).length with h' | h'
  ·exact h'
  ·exfalso
   obtain ⟨i,hi,he⟩ := List.getElem_of_mem hm
   have := bsI_lt (l := d.L k) (t := b) (k := i) (by omega)
   simp only [List.getD,List.getElem?_eq_getElem hi,Option.getD_some,he] at this
   rw [hbd] at this
   exact bkLt_irrefl _ this
 refine xcOf (X := X51) rfl FN51 (by kernel_rfl) (by decide) (E51 X t ((a : Int),(s : Int)) ?_)
 rw [← hbd] at hb ⊢
 have e1 : b.1 = (a : Int) := by rw [hbd]
 have e2 : b.2 = (s : Int) := by rw [hbd]
 rw [e1,e2,wrapu64 (n := (s : Int)) (by omega) (by omega),wrap64 (x := (a : Int) + (s : Int)) (by omega) (by omega)]
 refine ⟨(k : Nat),by rw [hkd]; exact p54 s (by omega),by omega,by omega,d.val,h.el,?_⟩
 rw [Int.toNat_natCast]
 have hx := c55 (t := b) hsl (hL.srt k hk) (hL.ok k hk) hb hll
 rw [e1,e2] at hx
 refine ⟨((bsI (d.L k) b : Nat),bsF (d.L k) b),hx,d.val,h.el,?_⟩
 have hw : IntKind.wrap .i64 (((bsI (d.L k) b : Nat) : Int) + 1) = ((bsI (d.L k) b : Nat) : Int) + 1 := wrap64 (by omega) (by omega)
 show XC _ _ _ [_,_,.v (.int .i64 (IntKind.wrap .i64 (((bsI (d.L k) b : Nat) : Int) + 1)))] _ _
 rw [hw]
 refine (c58 hsl (i := ((bsI (d.L k) b : Nat) : Int)) (j := ((bsI (d.L k) b : Nat) : Int) + 1) (by omega) (by omega) (by omega) (by show (d.L k).length * 16 ≤ 140737488355328; omega)).mono ?_
 rintro p X7 ⟨hp,m7⟩
 have et : (((bsI (d.L k) b : Nat) : Int) + 1).toNat = bsI (d.L k) b + 1 := by omega
 rw [Int.toNat_natCast,et] at hp
 obtain ⟨h9,m9⟩ := h.setL hk hp m7
 have bt7 : Box X7 cA t d.val := h.box.keep (m7.keep t h.box.lt fun q => (h.n2 k hk t q).1 rfl)
 refine ⟨d.val,bt7.el,fun X9 e9 => ?_⟩
 have e9 := e9.trans (bt7.setEl)
 obtain ⟨d1,hd1⟩ : ∃ d1 : AD,d1 = { d with ls := updL d.ls k p,L := updL d.L k ((d.L k).take (bsI (d.L k) b) ++ (d.L k).drop (bsI (d.L k) b + 1)) } := ⟨_,rfl⟩
 have e9 : X9 = X7.set t (.arr cA [d1.val]) := by rw [e9,hd1]; rfl
 rw [← hd1] at h9 m9
 rw [← e9] at h9 m9
 refine ⟨d1.val,h9.el,d1.he,d1.E,rfl,mp_at.2 h9.e,fun X41 e17 => ?_⟩
 obtain ⟨h17,m17⟩ := h9.setE (mdel (eqI ((a : Int) + (s : Int))) d1.E)
 rw [← e17] at h17 m17
 refine ⟨_,h17,m9.trans m17,?_,?_,?_,?_,?_⟩
 ·rw [hd1]
 ·rw [hd1]; rfl
 ·rw [hd1]
 ·rw [hd1]
 ·rw [hd1]

def poisonW : Int := -6148914691236517206

theorem c46 (h : Rep X t d) {a b : Nat} (hab : a ≤ b) (hb : b ≤ d.W.length) (hw : d.W.length ≤ 1099511627776) :
  XC Tryd.prog 46 [] [.ref (some t) cA 0 [],.v (.int .i64 (a : Int)),.v (.int .i64 (b : Int))] X fun _ X' => ∃ d',Rep X' t d' ∧ Mv X (d.hs t) X' (d'.hs t) ∧ d' = { d with W := over d.W a (List.replicate (b - a) poisonW) } := by
 refine xcOf (X := X46) rfl FN46 (by kernel_rfl) (by decide) (E46 X t a b ⟨d.val,h.el,by omega,by omega,by simp only [AD.val,slC]; omega,?_⟩)
 have e0 : (((slN (slCut (some ⟨d.hw,0,d.W.length,d.W.length⟩) ((a : Int)).toNat ((b : Int)).toNat (slC (some ⟨d.hw,0,d.W.length,d.W.length⟩))) : Nat)) : Int) = ((b - a : Nat) : Int) := by
  simp only [slCut,slN,Int.toNat_natCast]
 show Loops _ _ _ (S46_0 t a (((slN (slCut (some ⟨d.hw,0,d.W.length,d.W.length⟩) ((a : Int)).toNat ((b : Int)).toNat (slC (some ⟨d.hw,0,d.W.length,d.W.length⟩))) : Nat)) : Int) 0 X ⟨0,[]⟩)
 rw [e0]
 refine Loops.intro (fun q : Nat × XH => S46_0 t a ((b - a : Nat) : Int) q.1 q.2 ⟨0,[]⟩) (fun q => q.1 ≤ b - a ∧ ∃ d',Rep q.2 t d' ∧ Mv X (d.hs t) q.2 (d'.hs t) ∧ d' = { d with W := over d.W a (List.replicate q.1 poisonW) }) (fun q => b - a - q.1) (0,X) rfl
  ⟨Nat.zero_le _,d,h,.refl _ _,by simp only [List.replicate_zero,over,List.append_nil,List.length_nil,Nat.add_zero,List.take_append_drop]⟩ ?_
 rintro ⟨n,Y⟩ ⟨hn,d1,h1,m1,e1⟩
 have hn : n ≤ b - a := hn
 have hW1 : d1.W = over d.W a (List.replicate n poisonW) := by rw [e1]
 have hl1 : d1.W.length = d.W.length := by rw [hW1]; exact over_length (by simp; omega)
 refine L46_0 t a _ n Y ⟨0,[]⟩ ⟨fun hlt => ?_,fun hge => ?_⟩
 ·have hlt := of_decide_eq_true hlt
  have ew : IntKind.wrap .i64 ((a : Int) + (n : Int)) = ((a + n : Nat) : Int) := by rw [wrap64 (by omega) (by omega)]; omega
  rw [ew,Int.toNat_natCast,wrap64 (x := (n : Int) + 1) (by omega) (by omega)]
  refine ⟨d1.val,h1.el,⟨d1.hw,0,d1.W.length,d1.W.length⟩,rfl,by omega,by show ((a + n : Nat) : Int) < ((d1.W.length : Nat) : Int); rw [hl1]; omega,d1.W.getD (a + n) 0,?_,fun X5 e5 => ?_⟩
  ·rw [Nat.zero_add]; exact at_arr_el h1.w (by rw [hl1]; omega)
  rw [Nat.zero_add] at e5
  have e5 := e5.trans (at_arr_setEl h1.w (a + n) poisonW)
  obtain ⟨h5,m5⟩ := h1.setW (W' := d1.W.set (a + n) poisonW) (by simp)
  rw [← e5] at h5 m5
  refine Again.mk (n + 1,X5) rfl ⟨show n + 1 ≤ b - a by omega,_,h5,m1.trans m5,?_⟩ (show b - a - (n + 1) < b - a - n by omega)
  rw [e1]
  have : (over d.W a (List.replicate n poisonW)).set (a + n) poisonW = over d.W a (List.replicate (n + 1) poisonW) := by
   refine List.ext_getElem? fun i => ?_
   rw [List.getElem?_set,over_length (by simp; omega),over_get (by simp; omega),over_get (by simp; omega)]
   simp only [List.length_replicate]
   by_cases e : a + n = i
   ·subst e
    rw [if_pos rfl,if_pos (by omega),if_pos (by omega),List.getElem?_replicate,if_pos (by omega)]
   ·rw [if_neg e]
    by_cases e2 : a ≤ i ∧ i < a + n
    ·rw [if_pos e2,if_pos (by omega),List.getElem?_replicate,if_pos (by omega),List.getElem?_replicate,if_pos (by omega)]
    ·rw [if_neg e2,if_neg (by omega)]
  show ({ d with W := (over d.W a (List.replicate n poisonW)).set (a + n) poisonW } : AD) = _
  rw [this]
 ·have hge := of_decide_eq_false hge
  have : n = b - a := by omega
  subst this
  exact ⟨d1,h1,m1,e1⟩

end Go.Proofs.YtdcljlafookliaaDoor.AB

namespace Go.Proofs.YtdcljlafookliaaDoor.AB
open Go

theorem srt_ne {l : List BK} (h : Srt l) {i j : Nat} (hi : i < l.length) (hj : j < l.length) (e : l[i] = l[j]) : i = j := by
 rcases Nat.lt_trichotomy i j with h1 | h1 | h1
 ·have := List.pairwise_iff_getElem.1 h i j hi hj h1
  rw [e] at this; exact absurd this (bkLt_irrefl _)
 ·exact h1
 ·have := List.pairwise_iff_getElem.1 h j i hj hi h1
  rw [e] at this; exact absurd this (bkLt_irrefl _)

theorem bsI_mem {l : List BK} (h : Srt l) {b : BK} (hb : b ∈ l) : ∃ hi : bsI l b < l.length,l[bsI l b] = b := by
 obtain ⟨i,hi,he⟩ := List.getElem_of_mem hb
 have h1 : bsI l b = i := by
  refine bsI_eq (by omega) (fun k hk => ?_) (fun _ => by rw [he]; exact bkLt_irrefl _)
  have := h.get hk hi
  simpa [List.getD,List.getElem?_eq_getElem hi,he] using this
 subst h1
 exact ⟨hi,he⟩

theorem insB_spec {l : List BK} (h : Srt l) {b : BK} (hb : b ∉ l) : Srt (insB l b) ∧ ∀ x,x ∈ insB l b ↔ x ∈ l ∨ x = b := by
 have hmem : ∀ x,x ∈ l ↔ x ∈ l.take (bsI l b) ∨ x ∈ l.drop (bsI l b) := fun x => by
  conv => lhs; rw [← List.take_append_drop (bsI l b) l,List.mem_append]
 refine ⟨?_,fun x => ?_⟩
 ·unfold insB Srt
  have h2 : Srt (l.take (bsI l b) ++ l.drop (bsI l b)) := by rw [List.take_append_drop]; exact h
  obtain ⟨p1,p2,p3⟩ := List.pairwise_append.1 h2
  have f1 : ∀ a ∈ l.take (bsI l b),bkLt a b := by
   intro a ha
   obtain ⟨i,hi,he⟩ := List.getElem_of_mem ha
   have hi' : i < bsI l b := by simp at hi; omega
   have := bsI_lt hi'
   rw [List.getElem_take] at he
   have hil : i < l.length := by simp at hi; omega
   simp only [List.getD,List.getElem?_eq_getElem hil,Option.getD_some,he] at this
   exact this
  have f2 : ∀ a ∈ l.drop (bsI l b),bkLt b a := by
   intro a ha
   obtain ⟨i,hi,he⟩ := List.getElem_of_mem ha
   rw [List.getElem_drop] at he
   simp at hi
   have hlt : bsI l b < l.length := by omega
   have h0 := bsI_ge hlt
   have h1 : bkLt b (l[bsI l b]) := by
    rcases bkLt_total (l[bsI l b]) b with q | q | q
    ·exact absurd q h0
    ·exact absurd (q ▸ List.getElem_mem hlt) hb
    ·exact q
   rcases Nat.eq_zero_or_pos i with e | e
   ·subst e; simp only [Nat.add_zero] at he; rw [← he]; exact h1
   ·have := List.pairwise_iff_getElem.1 h (bsI l b) (bsI l b + i) hlt (by omega) (by omega)
    rw [he] at this
    exact bkLt_trans h1 this
  rw [List.append_assoc]
  refine List.pairwise_append.2 ⟨p1,?_,fun a ha c hc => ?_⟩
  ·exact List.pairwise_cons.2 ⟨fun a ha => f2 a ha,p2⟩
  ·rcases List.mem_cons.1 hc with rfl | hc
   ·exact f1 a ha
   ·exact p3 a ha c hc
 ·unfold insB
  rw [List.mem_append,List.mem_append,List.mem_singleton,hmem]
  constructor
  ·rintro ((h | h) | h)
   ·exact .inl (.inl h)
   ·exact .inr h
   ·exact .inl (.inr h)
  ·rintro ((h | h) | h)
   ·exact .inl (.inl h)
   ·exact .inr h
   ·exact .inl (.inr h)

theorem delB_spec {l : List BK} (h : Srt l) {b : BK} (hb : b ∈ l) : Srt (delB l b) ∧ ∀ x,x ∈ delB l b ↔ x ∈ l ∧ x ≠ b := by
 obtain ⟨hi,he⟩ := bsI_mem h hb
 have e : delB l b = l.eraseIdx (bsI l b) := by unfold delB; rw [List.eraseIdx_eq_take_drop_succ]
 refine ⟨?_,fun x => ?_⟩
 ·rw [e]; exact h.sublist (List.eraseIdx_sublist ..)
 ·rw [e,List.mem_eraseIdx_iff_getElem]
  constructor
  ·rintro ⟨i,hil,hne,hx⟩
   refine ⟨hx ▸ List.getElem_mem _,?_⟩
   rintro rfl
   exact hne (srt_ne h hil hi (hx.trans he.symm))
  ·rintro ⟨hx,hne⟩
   obtain ⟨i,hil,hxe⟩ := List.getElem_of_mem hx
   refine ⟨i,hil,?_,hxe⟩
   rintro rfl
   exact hne (hxe.symm.trans he)

theorem nodup_lt : ∀ (n : Nat) (l : List Nat),l.Nodup → (∀ x ∈ l,x < n) → l.length ≤ n
 | 0,l,_,h => by
  cases l with
  | nil => exact Nat.le_refl _
  | cons a l => exact absurd (h a (List.mem_cons_self ..)) (Nat.not_lt_zero _)
 | n + 1,l,hd,h => by
  by_cases hm : n ∈ l
  ·have h1 := nodup_lt n (l.erase n) (hd.erase n) (fun x hx => by
    have := (hd.mem_erase_iff).1 hx
    have := h x this.2
    omega)
   have := List.length_erase_of_mem hm
   have := List.length_pos_of_mem hm
   omega
  ·have := nodup_lt n l hd (fun x hx => by
    have h2 := h x hx
    have : x ≠ n := fun e => hm (e ▸ hx)
    omega)
   omega

theorem mfind_iff : ∀ {E : List (Int × Int)},(E.map (·.1)).Nodup → ∀ {a p : Int},mfind (eqI a) E = some p ↔ (a,p) ∈ E
 | [],_,a,p => by simp [mfind]
 | (x,y) :: E,hd,a,p => by
  rw [List.map_cons,List.nodup_cons] at hd
  have ih := mfind_iff hd.2 (a := a) (p := p)
  by_cases e : a = x
  ·subst e
   have : mfind (eqI a) ((a,y) :: E) = some y := by simp [mfind,eqI,Cd.keq]
   rw [this]
   constructor
   ·rintro h; cases h; exact List.mem_cons_self ..
   ·intro h
    rcases List.mem_cons.1 h with h | h
    ·cases h; rfl
    ·exact absurd (List.mem_map.2 ⟨_,h,rfl⟩) hd.1
  ·have : mfind (eqI a) ((x,y) :: E) = mfind (eqI a) E := by simp [mfind,eqI,Cd.keq,e]
   rw [this,ih]
   constructor
   ·exact fun h => List.mem_cons_of_mem _ h
   ·intro h
    rcases List.mem_cons.1 h with h | h
    ·cases h; exact absurd rfl e
    ·exact h

theorem mfind_none_iff {E : List (Int × Int)} (hd : (E.map (·.1)).Nodup) {a : Int} : mfind (eqI a) E = none ↔ ∀ p,(a,p) ∉ E := by
 constructor
 ·intro h p hp
  rw [(mfind_iff hd).2 hp] at h; cases h
 ·intro h
  cases hf : mfind (eqI a) E with
  | none => rfl
  | some p => exact absurd ((mfind_iff hd).1 hf) (h p)

theorem mset_new {E : List (Int × Int)} {a p : Int} (h : ∀ q,(a,q) ∉ E) : mset (eqI a) a p E = E ++ [(a,p)] := by
 refine mset_none fun e he => ?_
 have : a ≠ e.1 := by
  rintro rfl
  exact h e.2 he
 simpa [eqI,Cd.keq] using this

theorem mset_new_nodup {E : List (Int × Int)} (hd : (E.map (·.1)).Nodup) {a p : Int} (h : ∀ q,(a,q) ∉ E) : ((mset (eqI a) a p E).map (·.1)).Nodup := by
 rw [mset_new h,List.map_append,List.nodup_append]
 refine ⟨hd,by simp,fun x hx y hy => ?_⟩
 simp only [List.map_cons,List.map_nil,List.mem_singleton] at hy
 subst hy
 rintro rfl
 obtain ⟨e,he,rfl⟩ := List.mem_map.1 hx
 exact h e.2 he

theorem mdel_spec : ∀ {E : List (Int × Int)},(E.map (·.1)).Nodup → ∀ {a : Int},((mdel (eqI a) E).map (·.1)).Nodup ∧ ∀ x,x ∈ mdel (eqI a) E ↔ x ∈ E ∧ x.1 ≠ a
 | [],_,a => by simp [mdel]
 | (y,z) :: E,hd,a => by
  rw [List.map_cons,List.nodup_cons] at hd
  have ih := mdel_spec hd.2 (a := a)
  by_cases e : a = y
  ·subst e
   have : mdel (eqI a) ((a,z) :: E) = E := by simp [mdel,eqI,Cd.keq]
   rw [this]
   refine ⟨hd.2,fun x => ⟨fun h => ⟨List.mem_cons_of_mem _ h,?_⟩,fun h => ?_⟩⟩
   ·intro e
    exact hd.1 (List.mem_map.2 ⟨x,h,e⟩)
   ·rcases List.mem_cons.1 h.1 with h1 | h1
    ·rw [h1] at h; exact absurd rfl h.2
    ·exact h1
  ·have : mdel (eqI a) ((y,z) :: E) = (y,z) :: mdel (eqI a) E := by simp [mdel,eqI,Cd.keq,e]
   rw [this]
   refine ⟨?_,fun x => ?_⟩
   ·rw [List.map_cons,List.nodup_cons]
    refine ⟨fun h => ?_,ih.1⟩
    obtain ⟨x,hx,he⟩ := List.mem_map.1 h
    exact hd.1 (List.mem_map.2 ⟨x,((ih.2 x).1 hx).1,he⟩)
   ·rw [List.mem_cons,List.mem_cons,ih.2]
    constructor
    ·rintro (rfl | h)
     ·exact ⟨.inl rfl,fun q => e q.symm⟩
     ·exact ⟨.inr h.1,h.2⟩
    ·rintro ⟨rfl | h,h2⟩
     ·exact .inl rfl
     ·exact .inr ⟨h,h2⟩

structure IX (L : Nat → List BK) (E : List (Int × Int)) (F : BK → Prop) : Prop where
 bd : ∀ b,F b → ∃ p s : Nat,b = ((p : Int),(s : Int)) ∧ 1 ≤ p ∧ 2 ≤ s ∧ p + s ≤ 1048576
 inj : ∀ b b',F b → F b' → b.1 = b'.1 → b = b'
 einj : ∀ b b',F b → F b' → b.1 + b.2 = b'.1 + b'.2 → b = b'
 srt : ∀ k,k < 22 → Srt (L k)
 mem : ∀ k,k < 22 → ∀ b,b ∈ L k ↔ F b ∧ bl b.2.toNat = k
 nd : (E.map (·.1)).Nodup
 e : ∀ a p,(a,p) ∈ E ↔ ∃ b,F b ∧ b.1 = p ∧ b.1 + b.2 = a

variable {L : Nat → List BK} {E : List (Int × Int)} {F : BK → Prop}

theorem IX.bok (h : IX L E F) {b : BK} (hb : F b) : bok b := by
 obtain ⟨p,s,rfl,h1,h2,h3⟩ := h.bd b hb
 unfold AB.bok
 simp only
 omega

theorem IX.lok (h : IX L E F) : LOK L := by
 refine ⟨h.srt,fun k hk b hb => h.bok ((h.mem k hk b).1 hb).1,fun k hk => ?_⟩
 have h1 : ((L k).map fun b => b.1.toNat).Nodup := by
  rw [List.Nodup,List.pairwise_map]
  refine List.Pairwise.imp_of_mem (fun {a b} ha hb hab e => ?_) (h.srt k hk)
  have fa := ((h.mem k hk a).1 ha).1
  have fb := ((h.mem k hk b).1 hb).1
  obtain ⟨p,s,rfl,-⟩ := h.bd a fa
  obtain ⟨p',s',rfl,-⟩ := h.bd b fb
  simp only [Int.toNat_natCast] at e
  have := h.inj _ _ fa fb (by simp only; omega)
  rw [this] at hab
  exact bkLt_irrefl _ hab
 have h2 := nodup_lt 1048577 _ h1 (fun x hx => by
  obtain ⟨b,hb,rfl⟩ := List.mem_map.1 hx
  obtain ⟨p,s,rfl,q1,q2,q3⟩ := h.bd b ((h.mem k hk b).1 hb).1
  simp only [Int.toNat_natCast]
  omega)
 rw [List.length_map] at h2
 omega

theorem IX.congr (h : IX L E F) {F' : BK → Prop} (e : ∀ b,F' b ↔ F b) : IX L E F' := by
 have : F' = F := funext fun b => propext (e b)
 rw [this]; exact h

theorem IX.lay (h : IX L E F) {p s : Nat} (h1 : 1 ≤ p) (h2 : 2 ≤ s) (h3 : p + s ≤ 1048576) (hn : ∀ b',F b' → b'.1 ≠ (p : Int) ∧ b'.1 + b'.2 ≠ (p : Int) + (s : Int)) :
  IX (updL L (bl s) (insB (L (bl s)) ((p : Int),(s : Int)))) (mset (eqI ((p : Int) + (s : Int))) ((p : Int) + (s : Int)) (p : Int) E) fun x => F x ∨ x = ((p : Int),(s : Int)) := by
 have hk : bl s < 22 := bl_lt (by omega)
 have hnb : ((p : Int),(s : Int)) ∉ L (bl s) := fun q => (hn _ ((h.mem _ hk _).1 q).1).1 rfl
 have hnE : ∀ q,((p : Int) + (s : Int),q) ∉ E := by
  intro q hq
  obtain ⟨b,hb,-,hb2⟩ := (h.e _ _).1 hq
  exact (hn b hb).2 hb2
 obtain ⟨i1,i2⟩ := insB_spec (h.srt _ hk) hnb
 refine ⟨?_,?_,?_,?_,?_,mset_new_nodup h.nd hnE,?_⟩
 ·rintro b (hb | rfl)
  ·exact h.bd b hb
  ·exact ⟨p,s,rfl,h1,h2,h3⟩
 ·rintro b b' (hb | rfl) (hb' | rfl) e
  ·exact h.inj _ _ hb hb' e
  ·exact absurd e (hn b hb).1
  ·exact absurd e.symm (hn b' hb').1
  ·rfl
 ·rintro b b' (hb | rfl) (hb' | rfl) e
  ·exact h.einj _ _ hb hb' e
  ·exact absurd e (hn b hb).2
  ·exact absurd e.symm (hn b' hb').2
  ·rfl
 ·intro k hk'
  unfold updL
  split
  ·exact i1
  ·exact h.srt k hk'
 ·intro k hk' b
  unfold updL
  split
  ·rename_i e
   subst e
   rw [i2,h.mem _ hk]
   constructor
   ·rintro (h | rfl)
    ·exact ⟨.inl h.1,h.2⟩
    ·exact ⟨.inr rfl,by simp⟩
   ·rintro ⟨h | h,h'⟩
    ·exact .inl ⟨h,h'⟩
    ·exact .inr h
  ·rename_i e
   rw [h.mem k hk']
   constructor
   ·rintro ⟨h,h'⟩; exact ⟨.inl h,h'⟩
   ·rintro ⟨h | rfl,h'⟩
    ·exact ⟨h,h'⟩
    ·simp only [Int.toNat_natCast] at h'
     exact absurd h'.symm e
 ·intro a q
  rw [mset_new hnE,List.mem_append,List.mem_singleton,h.e]
  constructor
  ·rintro (⟨b,hb,hb1,hb2⟩ | he)
   ·exact ⟨b,.inl hb,hb1,hb2⟩
   ·cases he
    exact ⟨_,.inr rfl,rfl,rfl⟩
  ·rintro ⟨b,hb | rfl,hb1,hb2⟩
   ·exact .inl ⟨b,hb,hb1,hb2⟩
   ·simp only at hb1 hb2
    rw [← hb1,← hb2]; exact .inr rfl

theorem IX.lift (h : IX L E F) {p s : Nat} (hb : F ((p : Int),(s : Int))) :
  IX (updL L (bl s) (delB (L (bl s)) ((p : Int),(s : Int)))) (mdel (eqI ((p : Int) + (s : Int))) E) (fun x => F x ∧ x ≠ ((p : Int),(s : Int))) ∧ ((p : Int),(s : Int)) ∈ L (bl s) := by
 obtain ⟨p',s',hps,b1,b2,b3⟩ := h.bd _ hb
 have hs : s < 2097152 := by
  have := congrArg Prod.snd hps
  simp only at this
  omega
 have hk := bl_lt hs
 have hm : ((p : Int),(s : Int)) ∈ L (bl s) := (h.mem _ hk _).2 ⟨hb,by simp⟩
 obtain ⟨i1,i2⟩ := delB_spec (h.srt _ hk) hm
 obtain ⟨e1,e2⟩ := mdel_spec h.nd (a := (p : Int) + (s : Int))
 refine ⟨⟨fun b q => h.bd b q.1,fun b b' q q' => h.inj b b' q.1 q'.1,fun b b' q q' => h.einj b b' q.1 q'.1,?_,?_,e1,?_⟩,hm⟩
 ·intro k hk'
  unfold updL
  split
  ·exact i1
  ·exact h.srt k hk'
 ·intro k hk' b
  unfold updL
  split
  ·rename_i e
   subst e
   rw [i2,h.mem _ hk]
   constructor
   ·rintro ⟨⟨q1,q2⟩,q3⟩; exact ⟨⟨q1,q3⟩,q2⟩
   ·rintro ⟨⟨q1,q3⟩,q2⟩; exact ⟨⟨q1,q2⟩,q3⟩
  ·rename_i e
   rw [h.mem k hk']
   constructor
   ·rintro ⟨q1,q2⟩
    refine ⟨⟨q1,?_⟩,q2⟩
    rintro rfl
    simp only [Int.toNat_natCast] at q2
    exact e q2.symm
   ·rintro ⟨⟨q1,_⟩,q2⟩; exact ⟨q1,q2⟩
 ·intro a q
  rw [e2,h.e]
  constructor
  ·rintro ⟨⟨b,hb',hb1,hb2⟩,hne⟩
   refine ⟨b,⟨hb',?_⟩,hb1,hb2⟩
   rintro rfl
   exact hne hb2.symm
  ·rintro ⟨b,⟨hb',hne⟩,hb1,hb2⟩
   refine ⟨⟨b,hb',hb1,hb2⟩,?_⟩
   simp only
   intro e
   exact hne (h.einj _ _ hb' hb (by simp only; omega))

def bestGo (L : Nat → List BK) (t : BK) : Nat → Nat → BK × Bool
 | 0,_ => ((0,0),false)
 | f + 1,k => if bsI (L k) t < (L k).length then ((L k).getD (bsI (L k) t) (0,0),true) else bestGo L t f (k + 1)

def bestR (L : Nat → List BK) (n : Int) : BK × Bool :=
 if n < 1 then ((0,0),false) else if 1048576 < n then ((0,0),false) else bestGo L (0,n + 1) (22 - bl (n + 1).toNat) (bl (n + 1).toNat)

theorem c50 {X : XH} {t : Nat} {d : AD} (h : Rep X t d) (hL : LOK d.L) (n : Int) (hn : -9223372036854775808 ≤ n ∧ n ≤ 9223372036854775807) :
  RC Tryd.prog 50 [.pure cBK,.pure .bool] [.ref (some t) cA 0 [],.v (.int .i64 n)] X (bestR d.L n) := by
 refine xcOf (X := X50) rfl FN50 (by kernel_rfl) (by decide) (E50 X t n ⟨fun e => ?_,fun e => ⟨fun e2 => ?_,fun e2 => ?_⟩⟩)
 ·have e := of_decide_eq_true e
  unfold bestR; rw [if_pos e]; exact ⟨rfl,rfl⟩
 ·have e := of_decide_eq_false e
  have e2 := of_decide_eq_true e2
  unfold bestR; rw [if_neg e,if_pos e2]; exact ⟨rfl,rfl⟩
 have e := of_decide_eq_false e
 have e2 := of_decide_eq_false e2
 obtain ⟨m,rfl⟩ : ∃ m : Nat,n = m := ⟨n.toNat,by omega⟩
 have hw : IntKind.wrap .i64 ((m : Int) + 1) = ((m + 1 : Nat) : Int) := by rw [wrap64 (by omega) (by omega)]; omega
 rw [hw,wrapu64 (by omega) (by omega)]
 have hb : bestR d.L (m : Int) = bestGo d.L (0,((m + 1 : Nat) : Int)) (22 - bl (m + 1)) (bl (m + 1)) := by
  unfold bestR; rw [if_neg e,if_neg e2]; rfl
 have hbl := bl_lt (n := m + 1) (by omega)
 rw [hb]
 refine ⟨_,p54 (m + 1) (by omega),?_⟩
 obtain ⟨tb,htb⟩ : ∃ tb : BK,tb = (0,((m + 1 : Nat) : Int)) := ⟨_,rfl⟩
 rw [← htb]
 have hok : bok tb := by rw [htb]; unfold bok; simp only; omega
 refine Loops.intro (fun k : Nat => S50_0 t m k X 0 0 ⟨0,[]⟩) (fun k => k ≤ 22 ∧ bestGo d.L tb (22 - bl (m + 1)) (bl (m + 1)) = bestGo d.L tb (22 - k) k) (fun k => 22 - k) (bl (m + 1)) rfl ⟨by omega,rfl⟩ ?_
 rintro k ⟨hk,hg⟩
 refine L50_0 t m k X 0 0 ⟨0,[]⟩ ⟨fun q => ?_,fun q => ?_⟩
 ·have q := of_decide_eq_true q
  have hk : k < 22 := by omega
  have hgo : bestGo d.L tb (22 - k) k = if bsI (d.L k) tb < (d.L k).length then ((d.L k).getD (bsI (d.L k) tb) (0,0),true) else bestGo d.L tb (22 - (k + 1)) (k + 1) := by
   rw [show 22 - k = (22 - (k + 1)) + 1 by omega]; rfl
  rw [hgo] at hg
  rw [hw,Int.toNat_natCast]
  have hx := c55 (t := tb) (h.l k hk) (hL.srt k hk) (hL.ok k hk) hok (hL.len k hk)
  rw [htb] at hx
  refine ⟨by omega,by omega,d.val,h.el,_,hx,?_⟩
  rw [← htb]
  have hlen : slN (d.val.2.1 k) = (d.L k).length := (h.l k hk).len
  rw [hlen]
  have hle := hL.len k hk
  refine ⟨fun q2 => ?_,fun q2 => ?_⟩
  ·have q2 := of_decide_eq_true q2
   have q2' : bsI (d.L k) tb < (d.L k).length := by simp only at q2; omega
   rw [if_pos q2'] at hg
   have hs := h.l k hk
   have hv : d.val.2.1 k = d.ls k := rfl
   rw [hv]
   cases hls : d.ls k with
   | none => rw [hls] at hs; simp only [SlAt] at hs; rw [hs] at q2'; simp at q2'
   | some s =>
    rw [hls] at hs
    have hsl : s.len = (d.L k).length := hs.len
    refine ⟨s,rfl,Int.natCast_nonneg _,by rw [hsl]; exact Int.ofNat_lt.2 q2',(d.L k).getD (bsI (d.L k) tb) (0,0),?_,?_,rfl⟩
    ·simp only [Int.toNat_natCast]
     rw [hs.el q2']
     simp [List.getD,List.getElem?_eq_getElem q2']
    ·rw [hg]
  ·have q2 := of_decide_eq_false q2
   rw [if_neg (by simp only at q2; omega)] at hg
   rw [wrap64 (by omega) (by omega)]
   exact Again.mk (k + 1) rfl ⟨by omega,hg⟩ (by omega)
 ·have q := of_decide_eq_false q
  have : k = 22 := by omega
  subst this
  rw [hg]
  exact ⟨rfl,rfl⟩

def isBest (F : BK → Prop) (n : Nat) (r : BK × Bool) : Prop :=
 (r.2 = true ∧ F r.1 ∧ (n : Int) + 1 ≤ r.1.2 ∧ ∀ b,F b → (n : Int) + 1 ≤ b.2 → ¬ bkLt b r.1) ∨ (r = ((0,0),false) ∧ ∀ b,F b → ¬ (n : Int) + 1 ≤ b.2)

theorem bestGo_spec (h : IX L E F) {n : Nat} (hn : n ≤ 1048576) : ∀ (f k : Nat),f = 22 - k → bl (n + 1) ≤ k → k ≤ 22 → (∀ b,F b → (n : Int) + 1 ≤ b.2 → k ≤ bl b.2.toNat) → isBest F n (bestGo L (0,((n + 1 : Nat) : Int)) f k)
 | 0,k,hf,hk0,hk,hall => by
  refine .inr ⟨rfl,fun b hb hbs => ?_⟩
  obtain ⟨p,s,rfl,q1,q2,q3⟩ := h.bd b hb
  have := hall _ hb hbs
  simp only [Int.toNat_natCast] at this
  have := bl_lt (n := s) (by omega)
  omega
 | f + 1,k,hf,hk0,hk,hall => by
  have hk : k < 22 := by omega
  unfold bestGo
  obtain ⟨t,ht⟩ : ∃ t : BK,t = (0,((n + 1 : Nat) : Int)) := ⟨_,rfl⟩
  rw [← ht]
  have big : ∀ b,F b → ((n : Int) + 1 ≤ b.2 ↔ ¬ bkLt b t) := by
   intro b hb
   obtain ⟨p,s,rfl,q1,q2,q3⟩ := h.bd b hb
   rw [ht]; unfold bkLt; simp only; omega
  split
  ·rename_i hi
   have hge := bsI_ge hi
   have hmem : (L k)[bsI (L k) t] ∈ L k := List.getElem_mem hi
   have hF := (h.mem k hk _).1 hmem
   have e : (L k).getD (bsI (L k) t) (0,0) = (L k)[bsI (L k) t] := by simp [List.getD,List.getElem?_eq_getElem hi]
   refine .inl ⟨rfl,by simp only [e]; exact hF.1,by simp only [e]; exact (big _ hF.1).2 hge,fun b hb hbs hlt => ?_⟩
   simp only [e] at hlt
   have hbl := hall b hb hbs
   by_cases hbk : bl b.2.toNat = k
   ·obtain ⟨j,hj,hje⟩ := List.getElem_of_mem ((h.mem k hk b).2 ⟨hb,hbk⟩)
    rcases Nat.lt_trichotomy j (bsI (L k) t) with c | c | c
    ·have := bsI_lt c
     simp only [List.getD,List.getElem?_eq_getElem hj,Option.getD_some,hje] at this
     exact (big b hb).1 hbs this
    ·subst c
     rw [hje] at hlt; exact bkLt_irrefl _ hlt
    ·have := List.pairwise_iff_getElem.1 (h.srt k hk) _ j hi hj c
     rw [hje] at this
     exact bkLt_irrefl _ (bkLt_trans hlt this)
   ·have hgt : k < bl b.2.toNat := by omega
    obtain ⟨p,s,hps,q1,q2,q3⟩ := h.bd _ hF.1
    obtain ⟨p',s',rfl,r1,r2,r3⟩ := h.bd b hb
    have hk2 := hF.2
    rw [hps] at hlt hk2
    simp only [Int.toNat_natCast] at hk2 hgt
    have := bl_inv (a := s) (b := s') (by omega) (by omega)
    unfold bkLt at hlt
    simp only at hlt
    omega
  ·rename_i hi
   have := bestGo_spec h hn f (k + 1) (by omega) (by omega) (by omega) (fun b hb hbs => by
    have hbl := hall b hb hbs
    rcases Nat.lt_or_ge k (bl b.2.toNat) with c | c
    ·exact c
    ·exfalso
     have hbk : bl b.2.toNat = k := by omega
     obtain ⟨j,hj,hje⟩ := List.getElem_of_mem ((h.mem k hk b).2 ⟨hb,hbk⟩)
     have hle := bsI_le (L k) t
     have := bsI_lt (l := L k) (t := t) (k := j) (by omega)
     simp only [List.getD,List.getElem?_eq_getElem hj,Option.getD_some,hje] at this
     exact (big b hb).1 hbs this)
   rw [← ht] at this
   exact this

theorem bestR_spec (h : IX L E F) {n : Nat} (h1 : 1 ≤ n) (hn : n ≤ 1048576) : isBest F n (bestR L n) := by
 unfold bestR
 rw [if_neg (by omega),if_neg (by omega)]
 have e : ((n : Int) + 1).toNat = n + 1 := by omega
 rw [e,show (n : Int) + 1 = ((n + 1 : Nat) : Int) by omega]
 refine bestGo_spec h hn _ _ rfl (Nat.le_refl _) (by have := bl_lt (n := n + 1) (by omega); omega) (fun b hb hbs => ?_)
 obtain ⟨p,s,rfl,q1,q2,q3⟩ := h.bd b hb
 simp only [Int.toNat_natCast] at hbs ⊢
 exact bl_mono (by omega) (by omega)

end Go.Proofs.YtdcljlafookliaaDoor.AB

namespace Go.Proofs.YtdcljlafookliaaDoor.AB
open Go

abbrev Bl := Nat × Bool

def sumS : List Bl → Nat
 | [] => 0
 | b :: r => b.1 + sumS r

def walk : Nat → List Bl → List (Nat × Nat × Bool)
 | _,[] => []
 | p,b :: r => (p,b.1,b.2) :: walk (p + b.1) r

theorem sumS_app (a b : List Bl) : sumS (a ++ b) = sumS a + sumS b := by
 induction a with
 | nil => simp [sumS]
 | cons x a ih => simp [sumS,ih]; omega

theorem walk_app (p : Nat) (a b : List Bl) : walk p (a ++ b) = walk p a ++ walk (p + sumS a) b := by
 induction a generalizing p with
 | nil => simp [walk,sumS]
 | cons x a ih => simp [walk,sumS,ih,Nat.add_assoc]

def sz2 (bs : List Bl) : Prop := ∀ b ∈ bs,2 ≤ b.1

theorem walk_bd {p : Nat} {bs : List Bl} (h : sz2 bs) {q s : Nat} {u : Bool} (hm : (q,s,u) ∈ walk p bs) : p ≤ q ∧ 2 ≤ s ∧ q + s ≤ p + sumS bs := by
 induction bs generalizing p with
 | nil => simp [walk] at hm
 | cons b r ih =>
  simp only [walk,List.mem_cons] at hm
  rcases hm with hm | hm
  ·cases hm
   have := h b (List.mem_cons_self ..)
   simp only [sumS]; omega
  ·have := ih (fun x hx => h x (List.mem_cons_of_mem _ hx)) hm
   simp only [sumS]; omega

theorem walk_split {p : Nat} {bs : List Bl} {q s : Nat} {u : Bool} (hm : (q,s,u) ∈ walk p bs) : ∃ pre post,bs = pre ++ (s,u) :: post ∧ q = p + sumS pre := by
 induction bs generalizing p with
 | nil => simp [walk] at hm
 | cons b r ih =>
  simp only [walk,List.mem_cons] at hm
  rcases hm with hm | hm
  ·cases hm
   exact ⟨[],r,rfl,by simp [sumS]⟩
  ·obtain ⟨pre,post,rfl,rfl⟩ := ih hm
   exact ⟨b :: pre,post,rfl,by simp [sumS]; omega⟩

theorem walk_three {p : Nat} {pre post : List Bl} {b : Bl} {x : Nat × Nat × Bool} : x ∈ walk p (pre ++ b :: post) ↔ x ∈ walk p pre ∨ x = (p + sumS pre,b.1,b.2) ∨ x ∈ walk (p + sumS pre + b.1) post := by
 rw [walk_app,List.mem_append]
 simp only [walk,List.mem_cons]

theorem sz2_app {a b : List Bl} : sz2 (a ++ b) ↔ sz2 a ∧ sz2 b := by
 simp only [sz2,List.mem_append]
 exact ⟨fun h => ⟨fun x hx => h x (.inl hx),fun x hx => h x (.inr hx)⟩,fun h x hx => hx.elim (h.1 x) (h.2 x)⟩

theorem sz2_cons {a : Bl} {b : List Bl} : sz2 (a :: b) ↔ 2 ≤ a.1 ∧ sz2 b := by
 simp only [sz2,List.mem_cons]
 exact ⟨fun h => ⟨h _ (.inl rfl),fun x hx => h x (.inr hx)⟩,fun h x hx => hx.elim (fun e => e ▸ h.1) (h.2 x)⟩

theorem walk_inj {p : Nat} {bs : List Bl} (h : sz2 bs) {q s s' : Nat} {u u' : Bool} (h1 : (q,s,u) ∈ walk p bs) (h2 : (q,s',u') ∈ walk p bs) : s = s' ∧ u = u' := by
 obtain ⟨pre,post,rfl,rfl⟩ := walk_split h1
 obtain ⟨z1,z2⟩ := sz2_app.1 h
 obtain ⟨z2,z3⟩ := sz2_cons.1 z2
 rcases walk_three.1 h2 with h2 | h2 | h2
 ·have := walk_bd z1 h2; omega
 ·cases h2; exact ⟨rfl,rfl⟩
 ·have := walk_bd z3 h2
  simp only at z2
  omega

theorem walk_einj {p : Nat} {bs : List Bl} (h : sz2 bs) {q q' s s' : Nat} {u u' : Bool} (h1 : (q,s,u) ∈ walk p bs) (h2 : (q',s',u') ∈ walk p bs) (he : q + s = q' + s') : q = q' := by
 obtain ⟨pre,post,rfl,rfl⟩ := walk_split h1
 obtain ⟨z1,z2⟩ := sz2_app.1 h
 obtain ⟨z2,z3⟩ := sz2_cons.1 z2
 rcases walk_three.1 h2 with h2 | h2 | h2
 ·have := walk_bd z1 h2
  simp only at z2
  omega
 ·cases h2; rfl
 ·have := walk_bd z3 h2
  simp only at z2 this
  omega

def FF (bs : List Bl) (b : BK) : Prop := ∃ p s : Nat,b = ((p : Int),(s : Int)) ∧ (p,s,false) ∈ walk 1 bs

def usedSum : List Bl → Nat
 | [] => 0
 | b :: r => (if b.2 then b.1 else 0) + usedSum r

theorem usedSum_app (a b : List Bl) : usedSum (a ++ b) = usedSum a + usedSum b := by
 induction a with
 | nil => simp [usedSum]
 | cons x a ih => simp [usedSum,ih]; omega

theorem usedSum_le (bs : List Bl) : usedSum bs ≤ sumS bs := by
 induction bs with
 | nil => exact Nat.le_refl _
 | cons x a ih => simp only [usedSum,sumS]; split <;> omega

def apart : List Bl → Prop
 | a :: b :: r => ¬ (a.2 = false ∧ b.2 = false) ∧ apart (b :: r)
 | _ => True

theorem apart_app {a b : List Bl} : apart (a ++ b) ↔ apart a ∧ apart b ∧ ∀ x y,a.getLast? = some x → b.head? = some y → ¬ (x.2 = false ∧ y.2 = false) := by
 induction a with
 | nil => simp [apart]
 | cons x a ih =>
  cases a with
  | nil =>
   cases b with
   | nil => simp [apart]
   | cons y b => simp [apart]; exact And.comm
  | cons z a =>
   simp only [List.cons_append,apart] at ih ⊢
   rw [ih]
   simp only [List.getLast?_cons_cons]
   constructor
   ·rintro ⟨h1,h2,h3,h4⟩; exact ⟨⟨h1,h2⟩,h3,h4⟩
   ·rintro ⟨⟨h1,h2⟩,h3,h4⟩; exact ⟨h1,h2,h3,h4⟩

def hd (s : Nat) (u : Bool) : Int := 2 * (s : Int) + (if u then 1 else 0)

structure WOK (W : List Int) (bs : List Bl) : Prop where
 len : W.length = 1 + sumS bs
 le : W.length ≤ 1048576
 z : W[0]? = some 0
 sz : sz2 bs
 ap : apart bs
 h : ∀ p s u,(p,s,u) ∈ walk 1 bs → W[p]? = some (hd s u)
 f : ∀ p s,(p,s,false) ∈ walk 1 bs → ∀ i,p < i → i < p + s → W[i]? = some poisonW

structure DOK (d : AD) (bs : List Bl) : Prop where
 w : WOK d.W bs
 ix : IX d.L d.E (FF bs)
 nd : (d.T.map (·.1)).Nodup
 t : ∀ a v,(a,v) ∈ d.T ↔ ∃ p s : Nat,a = (p : Int) ∧ v = (s : Int) ∧ (p,s,true) ∈ walk 1 bs
 n : d.n = (usedSum bs : Nat)

theorem WOK.bd {W : List Int} {bs : List Bl} (h : WOK W bs) {p s : Nat} {u : Bool} (hm : (p,s,u) ∈ walk 1 bs) : 1 ≤ p ∧ 2 ≤ s ∧ p + s ≤ W.length := by
 have := walk_bd h.sz hm
 rw [h.len]; omega

structure BestAt (bs : List Bl) (n : Nat) (pre : List Bl) (s : Nat) (post : List Bl) : Prop where
 e : bs = pre ++ (s,false) :: post
 le : n + 1 ≤ s
 min : ∀ p' s',(p',s',false) ∈ walk 1 bs → n + 1 ≤ s' → s < s' ∨ s = s' ∧ 1 + sumS pre ≤ p'

def noFit (bs : List Bl) (n : Nat) : Prop := ∀ p s,(p,s,false) ∈ walk 1 bs → ¬ n + 1 ≤ s

def allocB (pre : List Bl) (n s : Nat) (post : List Bl) : List Bl :=
 if 2 ≤ s - (n + 1) then pre ++ (n + 1,true) :: (s - (n + 1),false) :: post else pre ++ (s,true) :: post

def allocS (n s : Nat) : Nat := if 2 ≤ s - (n + 1) then n + 1 else s

def allocW (W : List Int) (at' n s : Nat) : List Int :=
 over ((if 2 ≤ s - (n + 1) then W.set (at' + (n + 1)) (2 * ((s - (n + 1) : Nat) : Int)) else W).set at' (hd (allocS n s) true)) (at' + 1) (List.replicate (allocS n s - 1) 0)

theorem allocW_len {W : List Int} {at' n s : Nat} (h : at' + s ≤ W.length) (hn : n + 1 ≤ s) (h2 : 2 ≤ s) : (allocW W at' n s).length = W.length := by
 unfold allocW
 have h1 : at' + 1 + (allocS n s - 1) ≤ W.length := by unfold allocS; split <;> omega
 split
 ·rw [over_length (by simp; omega)]; simp
 ·rw [over_length (by simp; omega)]; simp

theorem allocW_get {W : List Int} {at' n s : Nat} (h : at' + s ≤ W.length) (hn : n + 1 ≤ s) (h2 : 2 ≤ s) (i : Nat) :
  (allocW W at' n s)[i]? = if i = at' then some (hd (allocS n s) true) else if at' < i ∧ i < at' + allocS n s then some 0 else if 2 ≤ s - (n + 1) ∧ i = at' + (n + 1) then some (2 * ((s - (n + 1) : Nat) : Int)) else W[i]? := by
 have h1 : at' + 1 + (allocS n s - 1) ≤ W.length := by unfold allocS; split <;> omega
 have hS : allocS n s ≤ s ∧ 1 ≤ allocS n s := by unfold allocS; split <;> omega
 unfold allocW
 by_cases c : 2 ≤ s - (n + 1)
 ·have hSS : allocS n s = n + 1 := by unfold allocS; rw [if_pos c]
  rw [if_pos c,over_get (by simp; omega),List.getElem?_set,List.length_set,List.getElem?_set]
  simp only [List.length_replicate]
  by_cases e1 : i = at'
  ·subst e1
   rw [if_neg (by omega),if_pos rfl,if_pos rfl,if_pos (by omega)]
  ·rw [if_neg e1]
   by_cases e2 : at' < i ∧ i < at' + allocS n s
   ·rw [if_pos (by omega),if_pos e2,List.getElem?_replicate,if_pos (by omega)]
   ·rw [if_neg (by omega),if_neg (by omega),if_neg e2]
    by_cases e3 : i = at' + (n + 1)
    ·subst e3
     rw [if_pos rfl,if_pos (by omega),if_pos ⟨c,rfl⟩]
    ·rw [if_neg (fun q => e3 q.symm),if_neg (fun q => e3 q.2)]
 ·rw [if_neg c,over_get (by simp; omega),List.getElem?_set]
  simp only [List.length_replicate]
  by_cases e1 : i = at'
  ·subst e1
   rw [if_neg (by omega),if_pos rfl,if_pos rfl,if_pos (by omega)]
  ·rw [if_neg e1]
   by_cases e2 : at' < i ∧ i < at' + allocS n s
   ·rw [if_pos (by omega),if_pos e2,List.getElem?_replicate,if_pos (by omega)]
   ·rw [if_neg (by omega),if_neg (by omega),if_neg e2,if_neg (fun q => c q.1)]

theorem apart_head {x : Bl} {l : List Bl} : apart (x :: l) ↔ apart l ∧ ∀ y,l.head? = some y → ¬ (x.2 = false ∧ y.2 = false) := by
 cases l with
 | nil => simp [apart]
 | cons y l => simp [apart]; exact And.comm

theorem WOK.alloc {W : List Int} {bs pre post : List Bl} {n s : Nat} (h : WOK W bs) (hb : BestAt bs n pre s post) (hn : 1 ≤ n) : WOK (allocW W (1 + sumS pre) n s) (allocB pre n s post) ∧ sumS (allocB pre n s post) = sumS bs := by
 have hbs := hb.e
 subst hbs
 have hin : (1 + sumS pre,s,false) ∈ walk 1 (pre ++ (s,false) :: post) := walk_three.2 (.inr (.inl rfl))
 obtain ⟨b1,b2,b3⟩ := h.bd hin
 have hle := hb.le
 obtain ⟨z1,z2⟩ := sz2_app.1 h.sz
 obtain ⟨z2,z3⟩ := sz2_cons.1 z2
 obtain ⟨p1,p2,p3⟩ := apart_app.1 h.ap
 obtain ⟨p4,p5⟩ := apart_head.1 p2
 have hlen := allocW_len (W := W) b3 hle b2
 have hget := allocW_get (W := W) b3 hle b2
 have hsum : sumS (allocB pre n s post) = sumS (pre ++ (s,false) :: post) := by
  unfold allocB
  split <;> simp only [sumS_app,sumS] <;> omega
 have hS : allocS n s ≤ s ∧ 1 ≤ allocS n s := by unfold allocS; split <;> omega
 -- a block that stands elsewhere
 have other : ∀ q s' u,(q,s',u) ∈ walk 1 pre ∨ (q,s',u) ∈ walk (1 + sumS pre + s) post → (q,s',u) ∈ walk 1 (pre ++ (s,false) :: post) ∧ (q + s' ≤ 1 + sumS pre ∨ 1 + sumS pre + s ≤ q) := by
  rintro q s' u (hq | hq)
  ·exact ⟨walk_three.2 (.inl hq),.inl (walk_bd z1 hq).2.2⟩
  ·exact ⟨walk_three.2 (.inr (.inr hq)),.inr (walk_bd z3 hq).1⟩
 have otherW : ∀ q s' u,(q,s',u) ∈ walk 1 pre ∨ (q,s',u) ∈ walk (1 + sumS pre + s) post → ∀ i,q ≤ i → i < q + s' → (allocW W (1 + sumS pre) n s)[i]? = W[i]? := by
  intro q s' u hq i h1 h2
  obtain ⟨q1,q2⟩ := other q s' u hq
  rw [hget,if_neg (by omega),if_neg (by omega),if_neg (by omega)]
 have hmem : ∀ q s' u,(q,s',u) ∈ walk 1 (allocB pre n s post) → ((q,s',u) ∈ walk 1 pre ∨ (q,s',u) ∈ walk (1 + sumS pre + s) post) ∨ (q = 1 + sumS pre ∧ s' = allocS n s ∧ u = true) ∨ (2 ≤ s - (n + 1) ∧ q = 1 + sumS pre + (n + 1) ∧ s' = s - (n + 1) ∧ u = false) := by
  intro q s' u hq
  unfold allocB at hq
  split at hq
  ·rename_i c
   rcases walk_three.1 hq with h1 | h1 | h1
   ·exact .inl (.inl h1)
   ·cases h1; exact .inr (.inl ⟨rfl,by unfold allocS; rw [if_pos c],rfl⟩)
   ·simp only [walk,List.mem_cons] at h1
    rcases h1 with h1 | h1
    ·cases h1; exact .inr (.inr ⟨c,rfl,rfl,rfl⟩)
    ·rw [show 1 + sumS pre + (n + 1) + (s - (n + 1)) = 1 + sumS pre + s by omega] at h1
     exact .inl (.inr h1)
  ·rename_i c
   rcases walk_three.1 hq with h1 | h1 | h1
   ·exact .inl (.inl h1)
   ·cases h1; exact .inr (.inl ⟨rfl,by unfold allocS; rw [if_neg c],rfl⟩)
   ·exact .inl (.inr h1)
 refine ⟨⟨by rw [hlen,hsum]; exact h.len,by rw [hlen]; exact h.le,?_,?_,?_,?_,?_⟩,hsum⟩
 ·rw [hget,if_neg (by omega),if_neg (by omega),if_neg (by omega)]; exact h.z
 ·unfold allocB
  split
  ·rename_i c
   refine sz2_app.2 ⟨z1,sz2_cons.2 ⟨?_,sz2_cons.2 ⟨c,z3⟩⟩⟩
   show 2 ≤ n + 1
   omega
  ·exact sz2_app.2 ⟨z1,sz2_cons.2 ⟨z2,z3⟩⟩
 ·unfold allocB
  split
  ·refine apart_app.2 ⟨p1,apart_head.2 ⟨apart_head.2 ⟨p4,p5⟩,fun y hy => ?_⟩,fun x y hx hy => ?_⟩
   ·simp
   ·simp only [List.head?_cons,Option.some.injEq] at hy; subst hy; simp
  ·refine apart_app.2 ⟨p1,apart_head.2 ⟨p4,fun y hy => ?_⟩,fun x y hx hy => ?_⟩
   ·simp
   ·simp only [List.head?_cons,Option.some.injEq] at hy; subst hy; simp
 ·intro q s' u hq
  rcases hmem q s' u hq with h1 | ⟨rfl,rfl,rfl⟩ | ⟨c,rfl,rfl,rfl⟩
  ·obtain ⟨h2,_⟩ := other q s' u h1
   have := walk_bd h.sz h2
   rw [otherW q s' u h1 q (Nat.le_refl _) (by omega)]
   exact h.h q s' u h2
  ·rw [hget,if_pos rfl]
  ·have hSS : allocS n s = n + 1 := by unfold allocS; rw [if_pos c]
   rw [hget,if_neg (by omega),if_neg (by omega),if_pos ⟨c,rfl⟩]
   simp [hd]
 ·intro q s' hq i h1 h2
  rcases hmem q s' false hq with h3 | ⟨_,_,h3⟩ | ⟨c,rfl,rfl,-⟩
  ·rw [otherW q s' false h3 i (by omega) h2]
   exact h.f q s' (other q s' false h3).1 i h1 h2
  ·cases h3
  ·have hSS : allocS n s = n + 1 := by unfold allocS; rw [if_pos c]
   rw [hget,if_neg (by omega),if_neg (by omega),if_neg (by omega)]
   exact h.f _ _ hin i (by omega) (by omega)


def nextS : List Bl → Nat
 | (s,false) :: _ => s
 | _ => 0

def restR : List Bl → List Bl
 | (_,false) :: r => r
 | r => r

def prevS (pre : List Bl) : Nat :=
 match pre.getLast? with
 | some (s,false) => s
 | _ => 0

def restL (pre : List Bl) : List Bl :=
 match pre.getLast? with
 | some (_,false) => pre.dropLast
 | _ => pre

theorem post_split (post : List Bl) : ((∃ s,post = (s,false) :: restR post ∧ nextS post = s) ∨ (restR post = post ∧ nextS post = 0 ∧ ∀ y,post.head? = some y → y.2 = true)) := by
 match post with
 | [] => exact .inr ⟨rfl,rfl,fun y h => by cases h⟩
 | (s,false) :: r => exact .inl ⟨s,rfl,rfl⟩
 | (s,true) :: r => exact .inr ⟨rfl,rfl,fun y h => by cases h; rfl⟩

theorem pre_split (pre : List Bl) : ((∃ s,pre = restL pre ++ [(s,false)] ∧ prevS pre = s) ∨ (restL pre = pre ∧ prevS pre = 0 ∧ ∀ y,pre.getLast? = some y → y.2 = true)) := by
 unfold restL prevS
 cases h : pre.getLast? with
 | none => exact .inr ⟨rfl,rfl,fun y h => by cases h⟩
 | some b =>
  obtain ⟨s,u⟩ := b
  cases u with
  | true => exact .inr ⟨rfl,rfl,fun y h => by cases h; rfl⟩
  | false =>
   refine .inl ⟨s,?_,rfl⟩
   have hne : pre ≠ [] := by rintro rfl; cases h
   have := List.dropLast_concat_getLast hne
   rw [List.getLast?_eq_some_getLast hne] at h
   have h := Option.some.inj h
   rw [h] at this
   exact this.symm

def freeB (pre : List Bl) (s : Nat) (post : List Bl) : List Bl := restL pre ++ (prevS pre + s + nextS post,false) :: restR post

def freeW (W : List Int) (at' s : Nat) : List Int := over (W.set at' (2 * (s : Int))) (at' + 1) (List.replicate (s - 1) poisonW)

theorem freeW_len {W : List Int} {at' s : Nat} (h : at' + s ≤ W.length) (h1 : 1 ≤ s) : (freeW W at' s).length = W.length := by
 unfold freeW
 rw [over_length (by simp; omega)]; simp

theorem freeW_get {W : List Int} {at' s : Nat} (h : at' + s ≤ W.length) (h1 : 1 ≤ s) (i : Nat) :
  (freeW W at' s)[i]? = if i = at' then some (2 * (s : Int)) else if at' < i ∧ i < at' + s then some poisonW else W[i]? := by
 unfold freeW
 rw [over_get (by simp; omega),List.getElem?_set]
 simp only [List.length_replicate]
 by_cases e1 : i = at'
 ·subst e1
  rw [if_neg (by omega),if_pos rfl,if_pos (by omega),if_pos rfl]
 ·rw [if_neg e1]
  by_cases e2 : at' < i ∧ i < at' + s
  ·rw [if_pos (by omega),if_pos e2,List.getElem?_replicate,if_pos (by omega)]
  ·rw [if_neg (by omega),if_neg (by omega),if_neg e2]

theorem restL_sum (pre : List Bl) : sumS (restL pre) + prevS pre = sumS pre := by
 rcases pre_split pre with ⟨s,h1,h2⟩ | ⟨h1,h2,_⟩
 ·rw [h2]; conv => rhs; rw [h1,sumS_app]
  simp [sumS]
 ·rw [h1,h2]; rfl

theorem restR_sum (post : List Bl) : nextS post + sumS (restR post) = sumS post := by
 rcases post_split post with ⟨s,h1,h2⟩ | ⟨h1,h2,_⟩
 ·rw [h2]; conv => rhs; rw [h1]
  simp [sumS]
 ·rw [h1,h2]; simp

theorem freeB_sum (pre : List Bl) (s : Nat) (post : List Bl) : sumS (freeB pre s post) = sumS (pre ++ (s,true) :: post) := by
 have := restL_sum pre
 have := restR_sum post
 unfold freeB
 simp only [sumS_app,sumS]
 omega

theorem restL_mem {p : Nat} {pre : List Bl} {x : Nat × Nat × Bool} (h : x ∈ walk p (restL pre)) : x ∈ walk p pre := by
 rcases pre_split pre with ⟨s,h1,h2⟩ | ⟨h1,h2,_⟩
 ·rw [h1,walk_app,List.mem_append]; exact .inl h
 ·rw [h1] at h; exact h

theorem restR_mem {p : Nat} {post : List Bl} {x : Nat × Nat × Bool} (h : x ∈ walk (p + nextS post) (restR post)) : x ∈ walk p post := by
 rcases post_split post with ⟨s,h1,h2⟩ | ⟨h1,h2,_⟩
 ·rw [h2] at h
  rw [h1]
  simp only [walk,List.mem_cons]
  exact .inr h
 ·rw [h1,h2] at h; exact h

theorem freeB_mem {pre post : List Bl} {s q s' : Nat} {u : Bool} (h : (q,s',u) ∈ walk 1 (freeB pre s post)) :
  (q,s',u) ∈ walk 1 (restL pre) ∨ (q = 1 + sumS pre - prevS pre ∧ s' = prevS pre + s + nextS post ∧ u = false) ∨ (q,s',u) ∈ walk (1 + sumS pre + s + nextS post) (restR post) := by
 have := restL_sum pre
 rcases walk_three.1 h with h1 | h1 | h1
 ·exact .inl h1
 ·cases h1
  exact .inr (.inl ⟨by omega,rfl,rfl⟩)
 ·rw [show 1 + sumS (restL pre) + (prevS pre + s + nextS post) = 1 + sumS pre + s + nextS post by omega] at h1
  exact .inr (.inr h1)

theorem WOK.free {W : List Int} {pre post : List Bl} {s : Nat} (h : WOK W (pre ++ (s,true) :: post)) :
  WOK (freeW W (1 + sumS pre - prevS pre) (prevS pre + s + nextS post)) (freeB pre s post) := by
 have hin : (1 + sumS pre,s,true) ∈ walk 1 (pre ++ (s,true) :: post) := walk_three.2 (.inr (.inl rfl))
 obtain ⟨b1,b2,b3⟩ := h.bd hin
 have hl := restL_sum pre
 have hr := restR_sum post
 have hlen0 := h.len
 simp only [sumS_app,sumS] at hlen0
 obtain ⟨z1,z2⟩ := sz2_app.1 h.sz
 obtain ⟨z2,z3⟩ := sz2_cons.1 z2
 obtain ⟨p1,p2,p3⟩ := apart_app.1 h.ap
 obtain ⟨p4,p5⟩ := apart_head.1 p2
 have zl : sz2 (restL pre) := by
  rcases pre_split pre with ⟨s0,h1,h2⟩ | ⟨h1,h2,_⟩
  ·rw [h1] at z1; exact (sz2_app.1 z1).1
  ·rw [h1]; exact z1
 have zr : sz2 (restR post) := by
  rcases post_split post with ⟨s0,h1,h2⟩ | ⟨h1,h2,_⟩
  ·rw [h1] at z3; exact (sz2_cons.1 z3).2
  ·rw [h1]; exact z3
 have hfit : 1 + sumS pre - prevS pre + (prevS pre + s + nextS post) ≤ W.length := by omega
 have hlen := freeW_len (W := W) (at' := 1 + sumS pre - prevS pre) (s := prevS pre + s + nextS post) hfit (by omega)
 have hget := freeW_get (W := W) (at' := 1 + sumS pre - prevS pre) (s := prevS pre + s + nextS post) hfit (by omega)
 refine ⟨by rw [hlen,freeB_sum]; exact h.len,by rw [hlen]; exact h.le,?_,?_,?_,?_,?_⟩
 ·rw [hget,if_neg (by omega),if_neg (by omega)]; exact h.z
 ·exact sz2_app.2 ⟨zl,sz2_cons.2 ⟨by simp only; omega,zr⟩⟩
 ·unfold freeB
  refine apart_app.2 ⟨?_,apart_head.2 ⟨?_,fun y hy => ?_⟩,fun x y hx hy => ?_⟩
  ·rcases pre_split pre with ⟨s0,h1,h2⟩ | ⟨h1,h2,_⟩
   ·rw [h1] at p1; exact (apart_app.1 p1).1
   ·rw [h1]; exact p1
  ·rcases post_split post with ⟨s0,h1,h2⟩ | ⟨h1,h2,_⟩
   ·rw [h1] at p4; exact (apart_head.1 p4).1
   ·rw [h1]; exact p4
  ·rcases post_split post with ⟨s0,h1,h2⟩ | ⟨h1,h2,h3⟩
   ·rw [h1] at p4
    have := (apart_head.1 p4).2 y hy
    rintro ⟨_,q⟩
    exact this ⟨rfl,q⟩
   ·rw [h1] at hy
    have := h3 y hy
    rintro ⟨_,q⟩
    rw [this] at q; cases q
  ·simp only [List.head?_cons,Option.some.injEq] at hy
   subst hy
   rcases pre_split pre with ⟨s0,h1,h2⟩ | ⟨h1,h2,h3⟩
   ·rw [h1] at p1
    have := (apart_app.1 p1).2.2 x _ hx rfl
    rintro ⟨q,_⟩
    exact this ⟨q,rfl⟩
   ·rw [h1] at hx
    have := h3 x hx
    rintro ⟨q,_⟩
    rw [this] at q; cases q
 ·intro q s' u hq
  rcases freeB_mem hq with h1 | ⟨rfl,rfl,rfl⟩ | h1
  ·have h2 := walk_bd zl h1
   rw [hget,if_neg (by omega),if_neg (by omega)]
   exact h.h q s' u (walk_three.2 (.inl (restL_mem h1)))
  ·rw [hget,if_pos rfl]
   simp [hd]
  ·have h2 := walk_bd zr h1
   rw [hget,if_neg (by omega),if_neg (by omega)]
   exact h.h q s' u (walk_three.2 (.inr (.inr (restR_mem h1))))
 ·intro q s' hq i hi1 hi2
  rcases freeB_mem hq with h1 | ⟨rfl,rfl,-⟩ | h1
  ·have h2 := walk_bd zl h1
   rw [hget,if_neg (by omega),if_neg (by omega)]
   exact h.f q s' (walk_three.2 (.inl (restL_mem h1))) i hi1 hi2
  ·rw [hget,if_neg (by omega),if_pos (by omega)]
  ·have h2 := walk_bd zr h1
   rw [hget,if_neg (by omega),if_neg (by omega)]
   exact h.f q s' (walk_three.2 (.inr (.inr (restR_mem h1)))) i hi1 hi2

end Go.Proofs.YtdcljlafookliaaDoor.AB

set_option maxRecDepth 100000
set_option maxHeartbeats 2000000
namespace Go.Proofs.YtdcljlafookliaaDoor.AB
open Go
noncomputable def X39 : Cx := ⟨tt,[],[(45,[]),(50,[(.pure (.pair (.int .i64) (.int .i64))),(.pure .bool)]),(51,[])],[(39,[(3,2,.rd),(6,2,.xc),(10,8,.xc)])],[],[]⟩
theorem FN39 : fnsB Tryd.prog X39.fns := (show True from trivial)
theorem E39 (X : XH) (a0 : Nat) (n1 : Int) {R : (Int × Int) → XH → Prop} (h : (((decide (n1 < (1:Int))) = true → R ((0:Int),(1:Int)) X) ∧ ((decide (n1 < (1:Int))) = false → (((decide (n1 > (1048576:Int))) = true → R ((0:Int),(1:Int)) X) ∧
 ((decide (n1 > (1048576:Int))) = false → (∃ (p1 : (Int × Int) × Bool),RC Tryd.prog 50 [(.pure (.pair (.int .i64) (.int .i64))),(.pure .bool)] [(.ref (some a0) yZ0 0 []),(.v (.int .i64 n1))] X p1 ∧ (((!p1.2) = true → R ((0:Int),(23:Int)) X) ∧
 ((!p1.2) = false → (XC Tryd.prog 51 [] [(.ref (some a0) yZ0 0 []),(.v (.agg [(.int .i64 p1.1.1),(.int .i64 p1.1.2)]))] X (fun (p2 : Unit) (X3 : XH) => (((decide ((IntKind.wrap .i64 ((IntKind.wrap .i64 (p1.1.2 - n1)) - (1:Int))) ≥ (2:Int))) = true → (XC Tryd.prog 45 [] [(.ref (some a0) yZ0 0 []),(.v (.agg [(.int .i64 ((IntKind.wrap .i64 (p1.1.1 + (IntKind.wrap .i64 (n1 + (1:Int))))))),(.int .i64 ((IntKind.wrap .i64 ((IntKind.wrap .i64 (p1.1.2 - n1)) - (1:Int)))))]))] X3 (fun (p4 : Unit) (X5 : XH) => (∃ (a6 : ((Option SlH) × ((Nat → (Option SlH)) × ((Option Nat) × ((Option Nat) × Int))))),XH.el X5 yZ0 a0 0 = some a6 ∧ (∃ (u7 : SlH),a6.1 = some u7 ∧ 0 ≤ p1.1.1 ∧ p1.1.1 < ((u7.len : Nat) : Int) ∧ (∃ (a8 : Int),XH.el X5 (.pure (.int .i64)) u7.h ((u7.off + (p1.1.1).toNat)) = some a8 ∧ (∀ (X9 : XH),X9 = (XH.setEl X5 (.pure (.int .i64)) u7.h ((u7.off + (p1.1.1).toNat)) ((IntKind.wrap .i64 ((IntKind.wrap .i64 ((2:Int) * (IntKind.wrap .i64 (n1 + (1:Int))))) + (1:Int))))) → (∃ (a10 : ((Option SlH) × ((Nat → (Option SlH)) × ((Option Nat) × ((Option Nat) × Int))))),XH.el X9 yZ0 a0 0 = some a10 ∧ (0 ≤ (IntKind.wrap .i64 (p1.1.1 + (1:Int))) ∧ (IntKind.wrap .i64 (p1.1.1 + (1:Int))) ≤ (IntKind.wrap .i64 (p1.1.1 + (IntKind.wrap .i64 (n1 + (1:Int))))) ∧ (IntKind.wrap .i64 (p1.1.1 + (IntKind.wrap .i64 (n1 + (1:Int))))) ≤ (((slC a10.1) : Nat) : Int) ∧ (∃ (d11 : List Int),XH.view X9 (.pure (.int .i64)) (slCut a10.1 (((IntKind.wrap .i64 (p1.1.1 + (1:Int)))).toNat) (((IntKind.wrap .i64 (p1.1.1 + (IntKind.wrap .i64 (n1 + (1:Int)))))).toNat) (slC a10.1)) = some d11 ∧ (∀ (X12 : XH),X12 = (XH.over X9 (.pure (.int .i64)) (slCut a10.1 (((IntKind.wrap .i64 (p1.1.1 + (1:Int)))).toNat) (((IntKind.wrap .i64 (p1.1.1 + (IntKind.wrap .i64 (n1 + (1:Int)))))).toNat) (slC a10.1)) 0 (List.replicate (slN ((slCut a10.1 (((IntKind.wrap .i64 (p1.1.1 + (1:Int)))).toNat) (((IntKind.wrap .i64 (p1.1.1 + (IntKind.wrap .i64 (n1 + (1:Int)))))).toNat) (slC a10.1)))) (0:Int))) → (∃ (a13 : ((Option SlH) × ((Nat → (Option SlH)) × ((Option Nat) × ((Option Nat) × Int))))),XH.el X12 yZ0 a0 0 = some a13 ∧ (∃ (h14 : Nat) (es15 : List (Int × Int)),a13.2.2.2.1 = some h14 ∧ XH.mp X12 (.int .i64) (.pure (.int .i64)) h14 = some es15 ∧ (∀ (X16 : XH),X16 = (XH.set X12 h14 (.map (.int .i64) (.pure (.int .i64)) (mset (Cd.keq (.int .i64) p1.1.1) p1.1.1 ((IntKind.wrap .i64 (n1 + (1:Int)))) es15))) → (∃ (a17 : ((Option SlH) × ((Nat → (Option SlH)) × ((Option Nat) × ((Option Nat) × Int))))),XH.el X16 yZ0 a0 0 = some a17 ∧ (∃ (a18 : ((Option SlH) × ((Nat → (Option SlH)) × ((Option Nat) × ((Option Nat) × Int))))),XH.el X16 yZ0 a0 0 = some a18 ∧ (∀ (X19 : XH),X19 = (XH.setEl X16 yZ0 a0 0 ((a18.1,(a18.2.1,(a18.2.2.1,(a18.2.2.2.1,(IntKind.wrap .i64 (a17.2.2.2.2 + (IntKind.wrap .i64 (n1 + (1:Int))))))))))) → R (p1.1.1,(0:Int)) X19))))))))))))))))) ∧
 ((decide ((IntKind.wrap .i64 ((IntKind.wrap .i64 (p1.1.2 - n1)) - (1:Int))) ≥ (2:Int))) = false → (∃ (a20 : ((Option SlH) × ((Nat → (Option SlH)) × ((Option Nat) × ((Option Nat) × Int))))),XH.el X3 yZ0 a0 0 = some a20 ∧ (∃ (u21 : SlH),a20.1 = some u21 ∧ 0 ≤ p1.1.1 ∧ p1.1.1 < ((u21.len : Nat) : Int) ∧ (∃ (a22 : Int),XH.el X3 (.pure (.int .i64)) u21.h ((u21.off + (p1.1.1).toNat)) = some a22 ∧ (∀ (X23 : XH),X23 = (XH.setEl X3 (.pure (.int .i64)) u21.h ((u21.off + (p1.1.1).toNat)) ((IntKind.wrap .i64 ((IntKind.wrap .i64 ((2:Int) * p1.1.2)) + (1:Int))))) → (∃ (a24 : ((Option SlH) × ((Nat → (Option SlH)) × ((Option Nat) × ((Option Nat) × Int))))),XH.el X23 yZ0 a0 0 = some a24 ∧ (0 ≤ (IntKind.wrap .i64 (p1.1.1 + (1:Int))) ∧ (IntKind.wrap .i64 (p1.1.1 + (1:Int))) ≤ (IntKind.wrap .i64 (p1.1.1 + p1.1.2)) ∧ (IntKind.wrap .i64 (p1.1.1 + p1.1.2)) ≤ (((slC a24.1) : Nat) : Int) ∧ (∃ (d25 : List Int),XH.view X23 (.pure (.int .i64)) (slCut a24.1 (((IntKind.wrap .i64 (p1.1.1 + (1:Int)))).toNat) (((IntKind.wrap .i64 (p1.1.1 + p1.1.2))).toNat) (slC a24.1)) = some d25 ∧ (∀ (X26 : XH),X26 = (XH.over X23 (.pure (.int .i64)) (slCut a24.1 (((IntKind.wrap .i64 (p1.1.1 + (1:Int)))).toNat) (((IntKind.wrap .i64 (p1.1.1 + p1.1.2))).toNat) (slC a24.1)) 0 (List.replicate (slN ((slCut a24.1 (((IntKind.wrap .i64 (p1.1.1 + (1:Int)))).toNat) (((IntKind.wrap .i64 (p1.1.1 + p1.1.2))).toNat) (slC a24.1)))) (0:Int))) → (∃ (a27 : ((Option SlH) × ((Nat → (Option SlH)) × ((Option Nat) × ((Option Nat) × Int))))),XH.el X26 yZ0 a0 0 = some a27 ∧ (∃ (h28 : Nat) (es29 : List (Int × Int)),a27.2.2.2.1 = some h28 ∧ XH.mp X26 (.int .i64) (.pure (.int .i64)) h28 = some es29 ∧ (∀ (X30 : XH),X30 = (XH.set X26 h28 (.map (.int .i64) (.pure (.int .i64)) (mset (Cd.keq (.int .i64) p1.1.1) p1.1.1 p1.1.2 es29))) → (∃ (a31 : ((Option SlH) × ((Nat → (Option SlH)) × ((Option Nat) × ((Option Nat) × Int))))),XH.el X30 yZ0 a0 0 = some a31 ∧ (∃ (a32 : ((Option SlH) × ((Nat → (Option SlH)) × ((Option Nat) × ((Option Nat) × Int))))),XH.el X30 yZ0 a0 0 = some a32 ∧ (∀ (X33 : XH),X33 = (XH.setEl X30 yZ0 a0 0 ((a32.1,(a32.2.1,(a32.2.2.1,(a32.2.2.2.1,(IntKind.wrap .i64 (a31.2.2.2.2 + p1.1.2)))))))) → R (p1.1.1,(0:Int)) X33)))))))))))))))))))))))))) :
  fnK X39.tt (callN Tryd.prog X39 0) (X39.md 39) (X39.mk1 39) Tryd.f39 [(.ref (some a0) yZ0 0 []),(.v (.int .i64 n1))] ⟨[],[some (.heap X)],⟨0,[]⟩⟩ (xfin [(.pure (.int .i64)),(.pure (.int .i64))] R) := Eq.mp (by kernel_rfl) h
end Go.Proofs.YtdcljlafookliaaDoor.AB

set_option maxRecDepth 100000
set_option maxHeartbeats 2000000
namespace Go.Proofs.YtdcljlafookliaaDoor.AB
open Go
noncomputable def X27 : Cx := ⟨tt,[],[(45,[]),(46,[])],[(27,[(3,1,.x (.pure (.int .i64))),(3,2,.x (.mp (.int .i64) (.pure (.int .i64)))),(3,3,.x (.mp (.int .i64) (.pure (.int .i64)))),(3,4,.x yZ0),(3,5,.x yZ0),(4,4,.xc),(5,2,.xc)])],[],[]⟩
theorem FN27 : fnsB Tryd.prog X27.fns := (show True from trivial)
theorem E27 (X : XH) (words0 : Int) {R : ((Option Nat) × Int) → XH → Prop} (h : (((decide (words0 < (16:Int))) = true → R (none,(1:Int)) X) ∧ ((decide (words0 < (16:Int))) = false → (((decide (words0 > (1048576:Int))) = true → R (none,(1:Int)) X) ∧
 ((decide (words0 > (1048576:Int))) = false → (0 ≤ words0 ∧ words0 ≤ words0 ∧ words0 * (8:Int) ≤ (room : Int) ∧ words0 ≤ 9223372036854775807 ∧ (∀ (X1 : XH),X1 = (XH.add X (.arr (.pure (.int .i64)) (List.replicate (words0).toNat (0:Int)))) → (∀ (X2 : XH),X2 = (XH.add X1 (.map (.int .i64) (.pure (.int .i64)) [])) → (∀ (X3 : XH),X3 = (XH.add X2 (.map (.int .i64) (.pure (.int .i64)) [])) → (∀ (X4 : XH),X4 = (XH.add X3 (.arr yZ0 [((some ⟨X.n,0,(words0).toNat,(words0).toNat⟩),((fun i => ([none,none,none,none,none,none,none,none,none,none,none,none,none,none,none,none,none,none,none,none,none,none] : List (Option SlH)).getD i none),((some X1.n),((some X2.n),(0:Int)))))])) → (XC Tryd.prog 45 [] [(.ref (some X3.n) yZ0 0 []),(.v (.agg [(.int .i64 (1:Int)),(.int .i64 ((IntKind.wrap .i64 (words0 - (1:Int)))))]))] X4 (fun (p5 : Unit) (X6 : XH) => (XC Tryd.prog 46 [] [(.ref (some X3.n) yZ0 0 []),(.v (.int .i64 (2:Int))),(.v (.int .i64 words0))] X6 (fun (p7 : Unit) (X8 : XH) => R ((some X3.n),(0:Int)) X8)))))))))))))) :
  fnK X27.tt (callN Tryd.prog X27 0) (X27.md 27) (X27.mk1 27) Tryd.f27 [(.v (.int .i64 words0))] ⟨[],[some (.heap X)],⟨0,[]⟩⟩ (xfin [(.ref yZ0),(.pure (.int .i64))] R) := Eq.mp (by kernel_rfl) h
end Go.Proofs.YtdcljlafookliaaDoor.AB

namespace Go.Proofs.YtdcljlafookliaaDoor.AB
open Go

variable {X X' : XH} {t : Nat} {d : AD}

def allocTail (X : XH) (t : Nat) (a s : Int) (R : XH → Prop) : Prop :=
  ∃ a6 : cA.T,X.el cA t 0 = some a6 ∧ ∃ u7 : SlH,a6.1 = some u7 ∧ 0 ≤ a ∧ a < ((u7.len : Nat) : Int) ∧ ∃ a8 : Int,X.el cI u7.h (u7.off + a.toNat) = some a8 ∧ ∀ X9 : XH,X9 = X.setEl cI u7.h (u7.off + a.toNat) (IntKind.wrap .i64 (IntKind.wrap .i64 (2 * s) + 1)) →
    ∃ a10 : cA.T,X9.el cA t 0 = some a10 ∧ (0 ≤ IntKind.wrap .i64 (a + 1) ∧ IntKind.wrap .i64 (a + 1) ≤ IntKind.wrap .i64 (a + s) ∧ IntKind.wrap .i64 (a + s) ≤ ((slC a10.1 : Nat) : Int) ∧ ∃ d11 : List Int,X9.view cI (slCut a10.1 (IntKind.wrap .i64 (a + 1)).toNat (IntKind.wrap .i64 (a + s)).toNat (slC a10.1)) = some d11 ∧
      ∀ X7 : XH,X7 = X9.over cI (slCut a10.1 (IntKind.wrap .i64 (a + 1)).toNat (IntKind.wrap .i64 (a + s)).toNat (slC a10.1)) 0 (List.replicate (slN (slCut a10.1 (IntKind.wrap .i64 (a + 1)).toNat (IntKind.wrap .i64 (a + s)).toNat (slC a10.1))) (0:Int)) →
      ∃ a13 : cA.T,X7.el cA t 0 = some a13 ∧ ∃ (h14 : Nat) (es15 : List (Int × Int)),a13.2.2.2.1 = some h14 ∧ X7.mp (.int .i64) cI h14 = some es15 ∧ ∀ X40 : XH,X40 = X7.set h14 (.map (.int .i64) cI (mset (eqI a) a s es15)) →
        ∃ a17 : cA.T,X40.el cA t 0 = some a17 ∧ ∃ a18 : cA.T,X40.el cA t 0 = some a18 ∧ ∀ X43 : XH,X43 = X40.setEl cA t 0 (a18.1,(a18.2.1,(a18.2.2.1,(a18.2.2.2.1,IntKind.wrap .i64 (a17.2.2.2.2 + s))))) → R X43)

theorem alloc_tail (h : Rep X t d) {a s : Nat} (ha : a + s ≤ d.W.length) (hs : 1 ≤ s) (hw : d.W.length ≤ 1048576) (hn : 0 ≤ d.n ∧ d.n ≤ 1048576) {R : XH → Prop}
    (hR : ∀ X' d',Rep X' t d' → Mv X (d.hs t) X' (d'.hs t) → d' = { d with W := over (d.W.set a (hd s true)) (a + 1) (List.replicate (s - 1) 0),T := mset (eqI (a : Int)) (a : Int) (s : Int) d.T,n := d.n + (s : Int) } → R X') : allocTail X t a s R := by
  unfold allocTail
  rw [wrap64 (x := 2 * (s : Int)) (by omega) (by omega),wrap64 (x := 2 * (s : Int) + 1) (by omega) (by omega),wrap64 (x := (a : Int) + 1) (by omega) (by omega),wrap64 (x := (a : Int) + (s : Int)) (by omega) (by omega)]
  have e1 : ((a : Int) + 1).toNat = a + 1 := by omega
  have e2 : ((a : Int) + (s : Int)).toNat = a + s := by omega
  have e3 : 2 * (s : Int) + 1 = hd s true := rfl
  rw [e1,e2,e3,Int.toNat_natCast]
  refine ⟨d.val,h.el,⟨d.hw,0,d.W.length,d.W.length⟩,rfl,by omega,by show (a : Int) < ((d.W.length : Nat) : Int); omega,d.W.getD a 0,by rw [Nat.zero_add]; exact at_arr_el h.w (by omega),fun X9 e9 => ?_⟩
  rw [Nat.zero_add] at e9
  have e9 := e9.trans (at_arr_setEl h.w a (hd s true))
  obtain ⟨h9,m9⟩ := h.setW (W' := d.W.set a (hd s true)) (by simp)
  obtain ⟨d1,hd1⟩ : ∃ d1 : AD,d1 = { d with W := d.W.set a (hd s true) } := ⟨_,rfl⟩
  rw [← e9,← hd1] at h9 m9
  have hW1 : d1.W = d.W.set a (hd s true) := by rw [hd1]
  have hl1 : d1.W.length = d.W.length := by rw [hW1]; simp
  have hsl : SlAt X9 cI (some ⟨d1.hw,0,d1.W.length,d1.W.length⟩) d1.W := ⟨d1.W,h9.w,by simp,Nat.le_refl _,by simp⟩
  have hc := hsl.cut (p := a + 1) (q := a + s) (m := d1.W.length) (by omega) (by omega) (Nat.le_refl _) (by show a + s ≤ d1.W.length; omega)
  refine ⟨d1.val,h9.el,by omega,by omega,by show (a : Int) + (s : Int) ≤ ((d1.W.length : Nat) : Int); omega,_,hc.view,fun X7 e12 => ?_⟩
  have hv : d1.val.1 = some ⟨d1.hw,0,d1.W.length,d1.W.length⟩ := rfl
  rw [hv] at e12
  rw [over_cut,Nat.add_zero] at e12
  have e4 : slN (slCut (some ⟨d1.hw,0,d1.W.length,d1.W.length⟩) (a + 1) (a + s) (slC (some ⟨d1.hw,0,d1.W.length,d1.W.length⟩))) = s - 1 := by simp only [slCut,slN]; omega
  rw [e4] at e12
  have e12 := e12.trans (XH.over_eq h9.w _ _)
  rw [Nat.zero_add] at e12
  obtain ⟨h12,m12⟩ := h9.setW (W' := over d1.W (a + 1) (List.replicate (s - 1) 0)) (over_length (by simp; omega))
  obtain ⟨d2,hd2⟩ : ∃ d2 : AD,d2 = { d1 with W := over d1.W (a + 1) (List.replicate (s - 1) 0) } := ⟨_,rfl⟩
  rw [← e12,← hd2] at h12 m12
  refine ⟨d2.val,h12.el,d2.ht,d2.T,rfl,mp_at.2 h12.tk,fun X40 e16 => ?_⟩
  obtain ⟨h16,m16⟩ := h12.setT (mset (eqI (a : Int)) (a : Int) (s : Int) d2.T)
  obtain ⟨d3,hd3⟩ : ∃ d3 : AD,d3 = { d2 with T := mset (eqI (a : Int)) (a : Int) (s : Int) d2.T } := ⟨_,rfl⟩
  rw [← e16,← hd3] at h16 m16
  have hn3 : d3.n = d.n := by rw [hd3,hd2,hd1]
  refine ⟨d3.val,h16.el,d3.val,h16.el,fun X43 e19 => ?_⟩
  have e19 := e19.trans (h16.setEl _)
  have hv3 : d3.val.2.2.2.2 = d3.n := rfl
  rw [hv3,hn3,wrap64 (by omega) (by omega)] at e19
  obtain ⟨h19,m19⟩ := h16.setN (d.n + (s : Int))
  have e19 : X43 = X40.set t (.arr cA [AD.val { d3 with n := d.n + (s : Int) }]) := e19
  rw [← e19] at h19 m19
  refine hR X43 _ h19 (((m9.trans m12).trans m16).trans m19) ?_
  rw [hd3,hd2,hd1]

theorem FF_bd {W : List Int} {bs : List Bl} (h : WOK W bs) {p s : Nat} (hf : FF bs ((p : Int),(s : Int))) : (p,s,false) ∈ walk 1 bs := by
  obtain ⟨p',s',e,hm⟩ := hf
  have e1 := congrArg Prod.fst e
  have e2 := congrArg Prod.snd e
  simp only at e1 e2
  have : p = p' ∧ s = s' := by omega
  rw [this.1,this.2]; exact hm

theorem best_split {bs : List Bl} {n : Nat} (hz : sz2 bs) {r : BK × Bool} (hb : isBest (FF bs) n r) : (∃ pre s post,BestAt bs n pre s post ∧ r = ((((1 + sumS pre : Nat) : Int),(s : Int)),true)) ∨ (r = ((0,0),false) ∧ noFit bs n) := by
  rcases hb with ⟨h1,⟨p,s,h2,hm⟩,h3,h4⟩ | ⟨h1,h2⟩
  · obtain ⟨pre,post,rfl,rfl⟩ := walk_split hm
    refine .inl ⟨pre,s,post,⟨rfl,?_,fun p' s' hm' hs' => ?_⟩,?_⟩
    · rw [h2] at h3; simp only at h3; omega
    · have := h4 ((p' : Int),(s' : Int)) ⟨p',s',rfl,hm'⟩ (by simp only; omega)
      rw [h2] at this
      unfold bkLt at this
      simp only at this
      omega
    · obtain ⟨r1,r2⟩ := r
      simp only at h1 h2
      rw [h1,h2]
  · refine .inr ⟨h1,fun p s hm hs => h2 ((p : Int),(s : Int)) ⟨p,s,rfl,hm⟩ (by simp only; omega)⟩

theorem FF_alloc {bs pre post : List Bl} {n s : Nat} (hz : sz2 bs) (hb : BestAt bs n pre s post) (b : BK) :
    FF (allocB pre n s post) b ↔ (FF bs b ∧ b ≠ (((1 + sumS pre : Nat) : Int),(s : Int))) ∨ (2 ≤ s - (n + 1) ∧ b = (((1 + sumS pre + (n + 1) : Nat) : Int),((s - (n + 1) : Nat) : Int))) := by
  have hbs := hb.e
  have hle := hb.le
  subst hbs
  obtain ⟨z1,z2⟩ := sz2_app.1 hz
  obtain ⟨z2,z3⟩ := sz2_cons.1 z2
  have old : (FF (pre ++ (s,false) :: post) b ∧ b ≠ (((1 + sumS pre : Nat) : Int),(s : Int))) ↔ ∃ p s' : Nat,b = ((p : Int),(s' : Int)) ∧ ((p,s',false) ∈ walk 1 pre ∨ (p,s',false) ∈ walk (1 + sumS pre + s) post) := by
    constructor
    · rintro ⟨⟨p,s',rfl,hm⟩,hne⟩
      refine ⟨p,s',rfl,?_⟩
      rcases walk_three.1 hm with h | h | h
      · exact .inl h
      · cases h; exact absurd rfl hne
      · exact .inr h
    · rintro ⟨p,s',rfl,h | h⟩
      · refine ⟨⟨p,s',rfl,walk_three.2 (.inl h)⟩,fun e => ?_⟩
        have := walk_bd z1 h
        have := congrArg Prod.fst e
        simp only at this
        omega
      · refine ⟨⟨p,s',rfl,walk_three.2 (.inr (.inr h))⟩,fun e => ?_⟩
        have := walk_bd z3 h
        have := congrArg Prod.fst e
        simp only at this z2
        omega
  rw [old]
  unfold allocB
  split
  · rename_i c
    constructor
    · rintro ⟨p,s',rfl,hm⟩
      rcases walk_three.1 hm with h | h | h
      · exact .inl ⟨p,s',rfl,.inl h⟩
      · cases h
      · simp only [walk,List.mem_cons] at h
        rcases h with h | h
        · cases h; exact .inr ⟨c,rfl⟩
        · rw [show 1 + sumS pre + (n + 1) + (s - (n + 1)) = 1 + sumS pre + s by omega] at h
          exact .inl ⟨p,s',rfl,.inr h⟩
    · rintro (⟨p,s',rfl,h | h⟩ | ⟨_,rfl⟩)
      · exact ⟨p,s',rfl,walk_three.2 (.inl h)⟩
      · refine ⟨p,s',rfl,walk_three.2 (.inr (.inr ?_))⟩
        simp only [walk,List.mem_cons]
        rw [show 1 + sumS pre + (n + 1) + (s - (n + 1)) = 1 + sumS pre + s by omega]
        exact .inr h
      · refine ⟨_,_,rfl,walk_three.2 (.inr (.inr ?_))⟩
        simp [walk]
  · rename_i c
    constructor
    · rintro ⟨p,s',rfl,hm⟩
      rcases walk_three.1 hm with h | h | h
      · exact .inl ⟨p,s',rfl,.inl h⟩
      · cases h
      · exact .inl ⟨p,s',rfl,.inr h⟩
    · rintro (⟨p,s',rfl,h | h⟩ | ⟨c',_⟩)
      · exact ⟨p,s',rfl,walk_three.2 (.inl h)⟩
      · exact ⟨p,s',rfl,walk_three.2 (.inr (.inr h))⟩
      · exact absurd c' c

theorem used_alloc {bs pre post : List Bl} {n s : Nat} (hb : BestAt bs n pre s post) (p s' : Nat) :
    (p,s',true) ∈ walk 1 (allocB pre n s post) ↔ (p,s',true) ∈ walk 1 bs ∨ (p = 1 + sumS pre ∧ s' = allocS n s) := by
  have hbs := hb.e
  have hle := hb.le
  subst hbs
  unfold allocB allocS
  split
  · rename_i c
    rw [walk_three,walk_three]
    simp only [walk,List.mem_cons]
    rw [show 1 + sumS pre + (n + 1) + (s - (n + 1)) = 1 + sumS pre + s by omega]
    constructor
    · rintro (h | h | h | h)
      · exact .inl (.inl h)
      · cases h; exact .inr ⟨rfl,rfl⟩
      · cases h
      · exact .inl (.inr (.inr h))
    · rintro ((h | h | h) | ⟨rfl,rfl⟩)
      · exact .inl h
      · cases h
      · exact .inr (.inr (.inr h))
      · exact .inr (.inl rfl)
  · rw [walk_three,walk_three]
    constructor
    · rintro (h | h | h)
      · exact .inl (.inl h)
      · cases h; exact .inr ⟨rfl,rfl⟩
      · exact .inl (.inr (.inr h))
    · rintro ((h | h | h) | ⟨rfl,rfl⟩)
      · exact .inl h
      · cases h
      · exact .inr (.inr h)
      · exact .inr (.inl rfl)

theorem usedSum_alloc {bs pre post : List Bl} {n s : Nat} (hb : BestAt bs n pre s post) : usedSum (allocB pre n s post) = usedSum bs + allocS n s := by
  have hbs := hb.e
  subst hbs
  unfold allocB allocS
  split <;> simp [usedSum_app,usedSum] <;> omega

theorem DOK.nb {bs : List Bl} (h : DOK d bs) : 0 ≤ d.n ∧ d.n ≤ 1048576 := by
  have := usedSum_le bs
  have := h.w.len
  have := h.w.le
  rw [h.n]; omega

def AllocQ (X : XH) (t : Nat) (d : AD) (bs : List Bl) (n : Int) (p : Int × Int) (X' : XH) : Prop :=
  ∃ d',Rep X' t d' ∧ Mv X (d.hs t) X' (d'.hs t) ∧
    ((¬ (1 ≤ n ∧ n ≤ 1048576) ∧ p = (0,1) ∧ d' = d) ∨
     (∃ m : Nat,n = m ∧ 1 ≤ m ∧ m ≤ 1048576 ∧
       ((noFit bs m ∧ p = (0,23) ∧ d' = d) ∨
        ∃ pre s post,BestAt bs m pre s post ∧ p = (((1 + sumS pre : Nat) : Int),0) ∧ d'.W = allocW d.W (1 + sumS pre) m s ∧ DOK d' (allocB pre m s post))))

theorem c39 (h : Rep X t d) {bs : List Bl} (hd : DOK d bs) (n : Int) (hn : -9223372036854775808 ≤ n ∧ n ≤ 9223372036854775807) :
    XC Tryd.prog 39 [.pure (.int .i64),.pure (.int .i64)] [.ref (some t) cA 0 [],.v (.int .i64 n)] X (AllocQ X t d bs n) := by
  have hL := hd.ix.lok
  refine xcOf (X := X39) rfl FN39 (by kernel_rfl) (by decide) (E39 X t n ⟨fun e => ?_,fun e => ⟨fun e2 => ?_,fun e2 => ?_⟩⟩)
  · have e := of_decide_eq_true e
    exact ⟨d,h,.refl _ _,.inl ⟨by omega,rfl,rfl⟩⟩
  · have e2 := of_decide_eq_true e2
    exact ⟨d,h,.refl _ _,.inl ⟨by omega,rfl,rfl⟩⟩
  have e := of_decide_eq_false e
  have e2 := of_decide_eq_false e2
  obtain ⟨m,rfl⟩ : ∃ m : Nat,n = m := ⟨n.toNat,by omega⟩
  have hm1 : 1 ≤ m := by omega
  have hm2 : m ≤ 1048576 := by omega
  refine ⟨_,c50 h hL m hn,?_⟩
  rcases best_split hd.w.sz (bestR_spec hd.ix hm1 hm2) with ⟨pre,s,post,hb,hr⟩ | ⟨hr,hno⟩
  rotate_left
  · rw [hr]
    exact ⟨fun _ => ⟨d,h,.refl _ _,.inr ⟨m,rfl,hm1,hm2,.inl ⟨hno,rfl,rfl⟩⟩⟩,fun q => by cases q⟩
  rw [hr]
  refine ⟨fun q => (by cases q),fun _ => ?_⟩
  have hbs := hb.e
  have hle := hb.le
  have hin : (1 + sumS pre,s,false) ∈ walk 1 bs := by rw [hbs]; exact walk_three.2 (.inr (.inl rfl))
  obtain ⟨b1,b2,b3⟩ := hd.w.bd hin
  have hwle := hd.w.le
  obtain ⟨a,ha⟩ : ∃ a,a = 1 + sumS pre := ⟨_,rfl⟩
  rw [← ha] at b1 b3 hin ⊢
  have hF : FF bs ((a : Int),(s : Int)) := ⟨a,s,rfl,hin⟩
  obtain ⟨ix1,hmem⟩ := hd.ix.lift hF
  have hbok := hd.ix.bok hF
  refine (c51 h hL (a := a) (s := s) (by omega) hbok hmem).mono ?_
  rintro _ X3 ⟨d1,h1,m1,w1,l1,ee1,t1,n1⟩
  have w1' : IntKind.wrap .i64 (IntKind.wrap .i64 ((s : Int) - (m : Int)) - 1) = (((s : Int) - (m : Int)) - 1) := by rw [wrap64 (x := (s : Int) - (m : Int)) (by omega) (by omega),wrap64 (by omega) (by omega)]
  have w2' : IntKind.wrap .i64 ((m : Int) + 1) = ((m + 1 : Nat) : Int) := by rw [wrap64 (by omega) (by omega)]; omega
  have hn1 : 0 ≤ d1.n ∧ d1.n ≤ 1048576 := by rw [n1]; exact hd.nb
  -- the end,in both cases
  have fin : ∀ (X' : XH) (d' : AD),Rep X' t d' → Mv X (d.hs t) X' (d'.hs t) → d'.W = allocW d.W a m s → IX d'.L d'.E (FF (allocB pre m s post)) → d'.T = mset (eqI (a : Int)) (a : Int) ((allocS m s : Nat) : Int) d.T → d'.n = d.n + ((allocS m s : Nat) : Int) →
      AllocQ X t d bs (m : Int) ((a : Int),0) X' := by
    intro X' d' r1 r2 r3 r4 r5 r6
    refine ⟨d',r1,r2,.inr ⟨m,rfl,hm1,hm2,.inr ⟨pre,s,post,hb,by rw [ha],by rw [r3,ha],⟨?_,r4,?_,?_,?_⟩⟩⟩⟩
    · rw [r3,ha]; exact (hd.w.alloc hb hm1).1
    · rw [r5]
      refine mset_new_nodup hd.nd fun q hq => ?_
      obtain ⟨p,s',h1,h2,h3⟩ := (hd.t _ _).1 hq
      have : a = p := by omega
      subst this
      have := walk_inj hd.w.sz hin h3
      exact absurd this.2 (by simp)
    · intro x v
      rw [r5,mset_new (fun q hq => by
        obtain ⟨p,s',h1,h2,h3⟩ := (hd.t _ _).1 hq
        have : a = p := by omega
        subst this
        have := walk_inj hd.w.sz hin h3
        exact absurd this.2 (by simp)),List.mem_append,List.mem_singleton,hd.t]
      constructor
      · rintro (⟨p,s',h1,h2,h3⟩ | h1)
        · exact ⟨p,s',h1,h2,(used_alloc hb p s').2 (.inl h3)⟩
        · cases h1
          exact ⟨a,allocS m s,rfl,rfl,(used_alloc hb _ _).2 (.inr ⟨ha,rfl⟩)⟩
      · rintro ⟨p,s',h1,h2,h3⟩
        rcases (used_alloc hb p s').1 h3 with h4 | ⟨rfl,rfl⟩
        · exact .inl ⟨p,s',h1,h2,h4⟩
        · rw [h1,h2,← ha]; exact .inr rfl
    · rw [r6,hd.n,usedSum_alloc hb]; omega
  refine ⟨fun q => ?_,fun q => ?_⟩
  · have q : decide (IntKind.wrap .i64 (IntKind.wrap .i64 ((s : Int) - (m : Int)) - 1) ≥ 2) = true := q
    rw [w1'] at q
    have q := of_decide_eq_true q
    have c : 2 ≤ s - (m + 1) := by omega
    have hS : allocS m s = m + 1 := by unfold allocS; rw [if_pos c]
    show XC Tryd.prog 45 [] [_,.v (.agg [.int .i64 (IntKind.wrap .i64 ((a : Int) + IntKind.wrap .i64 ((m : Int) + 1))),.int .i64 (IntKind.wrap .i64 (IntKind.wrap .i64 ((s : Int) - (m : Int)) - 1))])] X3 (fun _ X5 => allocTail X5 t (a : Int) (IntKind.wrap .i64 ((m : Int) + 1)) (AllocQ X t d bs (m : Int) ((a : Int),0)))
    have w3' : IntKind.wrap .i64 ((a : Int) + ((m + 1 : Nat) : Int)) = ((a + (m + 1) : Nat) : Int) := by rw [wrap64 (by omega) (by omega)]; omega
    have w4' : ((s : Int) - (m : Int)) - 1 = ((s - (m + 1) : Nat) : Int) := by omega
    rw [w1',w2',w3',w4']
    have hno : ∀ b',(FF bs b' ∧ b' ≠ ((a : Int),(s : Int))) → b'.1 ≠ ((a + (m + 1) : Nat) : Int) ∧ b'.1 + b'.2 ≠ ((a + (m + 1) : Nat) : Int) + ((s - (m + 1) : Nat) : Int) := by
      rintro b' ⟨⟨p,s',rfl,hm'⟩,hne⟩
      rw [hbs] at hm'
      have hz := hd.w.sz
      rw [hbs] at hz
      obtain ⟨z1,z2⟩ := sz2_app.1 hz
      obtain ⟨z2,z3⟩ := sz2_cons.1 z2
      simp only
      rcases walk_three.1 hm' with g | g | g
      · have := walk_bd z1 g
        omega
      · cases g; exact absurd (by rw [ha]) hne
      · have := walk_bd z3 g
        simp only at this
        omega
    have ix2 := ix1.lay (p := a + (m + 1)) (s := s - (m + 1)) (by omega) c (by omega) hno
    have ix1' : IX d1.L d1.E (fun x => FF bs x ∧ x ≠ ((a : Int),(s : Int))) := by rw [l1,ee1]; exact ix1
    refine (c45 h1 ix1'.lok (a := a + (m + 1)) (s := s - (m + 1)) (by rw [w1]; omega) (by omega) (by rw [w1]; omega) (by unfold bok; simp only; omega)).mono ?_
    rintro _ X5 ⟨d2,h2,m2,w2,l2,ee2,t2,n2⟩
    refine alloc_tail h2 (a := a) (s := m + 1) (by rw [w2,w1]; simp; omega) (by omega) (by rw [w2,w1]; simp; omega) (by rw [n2]; exact hn1) ?_
    rintro X' d' r1 r2 rfl
    refine fin X' _ r1 ((m1.trans m2).trans r2) ?_ ?_ ?_ ?_
    · show over (d2.W.set a (AB.hd (m + 1) true)) (a + 1) (List.replicate (m + 1 - 1) 0) = _
      unfold allocW
      rw [w2,w1,hS,if_pos c]
    · show IX d2.L d2.E _
      rw [l2,ee2,l1,ee1]
      refine ix2.congr fun b => ?_
      rw [FF_alloc hd.w.sz hb,← ha]
      constructor
      · rintro (h | ⟨_,h⟩)
        · exact .inl h
        · exact .inr h
      · rintro (h | h)
        · exact .inl h
        · exact .inr ⟨c,h⟩
    · show mset _ _ _ d2.T = _
      rw [t2,t1,hS]
    · show d2.n + _ = _
      rw [n2,n1,hS]
  · have q : decide (IntKind.wrap .i64 (IntKind.wrap .i64 ((s : Int) - (m : Int)) - 1) ≥ 2) = false := q
    rw [w1'] at q
    have q := of_decide_eq_false q
    have c : ¬ 2 ≤ s - (m + 1) := by omega
    have hS : allocS m s = s := by unfold allocS; rw [if_neg c]
    show allocTail X3 t (a : Int) (s : Int) (AllocQ X t d bs (m : Int) ((a : Int),0))
    refine alloc_tail h1 (a := a) (s := s) (by rw [w1]; omega) (by omega) (by rw [w1]; omega) hn1 ?_
    rintro X' d' r1 r2 rfl
    refine fin X' _ r1 (m1.trans r2) ?_ ?_ ?_ ?_
    · show over (d1.W.set a (AB.hd s true)) (a + 1) (List.replicate (s - 1) 0) = _
      unfold allocW
      rw [w1,hS,if_neg c]
    · show IX d1.L d1.E _
      rw [l1,ee1]
      refine ix1.congr fun b => ?_
      rw [FF_alloc hd.w.sz hb,← ha]
      constructor
      · rintro (h | ⟨h,_⟩)
        · exact h
        · exact absurd h c
      · exact fun h => .inl h
    · show mset _ _ _ d1.T = _
      rw [t1,hS]
    · show d1.n + _ = _
      rw [n1,hS]

end Go.Proofs.YtdcljlafookliaaDoor.AB

set_option maxRecDepth 100000
set_option maxHeartbeats 2000000
namespace Go.Proofs.YtdcljlafookliaaDoor.AB
open Go
noncomputable def X40 : Cx := ⟨tt,[],[(45,[]),(46,[]),(51,[])],[(40,[(10,2,.xc),(14,6,.xc),(16,2,.xc),(17,9,.xc)])],[],[]⟩
theorem FN40 : fnsB Tryd.prog X40.fns := (show True from trivial)
theorem E40 (X : XH) (a0 : Nat) (at1 : Int) {R : (Int) → XH → Prop} (h : (∃ (a1 : ((Option SlH) × ((Nat → (Option SlH)) × ((Option Nat) × ((Option Nat) × Int))))),XH.el X yZ0 a0 0 = some a1 ∧ (∃ (es2 : List (Int × Int)),XH.vmp X (.int .i64) (.pure (.int .i64)) a1.2.2.2.1 = some es2 ∧ (∀ (v3 : Int),mfind (Cd.keq (.int .i64) at1) es2 = some v3 → (((!true) = true → R (24:Int) X) ∧
 ((!true) = false → (∃ (a4 : ((Option SlH) × ((Nat → (Option SlH)) × ((Option Nat) × ((Option Nat) × Int))))),XH.el X yZ0 a0 0 = some a4 ∧ (∃ (h5 : Nat) (es6 : List (Int × Int)),a4.2.2.2.1 = some h5 ∧ XH.mp X (.int .i64) (.pure (.int .i64)) h5 = some es6 ∧ (∀ (X7 : XH),X7 = (XH.set X h5 (.map (.int .i64) (.pure (.int .i64)) (mdel (Cd.keq (.int .i64) at1) es6))) → (∃ (a8 : ((Option SlH) × ((Nat → (Option SlH)) × ((Option Nat) × ((Option Nat) × Int))))),XH.el X7 yZ0 a0 0 = some a8 ∧ (∃ (a9 : ((Option SlH) × ((Nat → (Option SlH)) × ((Option Nat) × ((Option Nat) × Int))))),XH.el X7 yZ0 a0 0 = some a9 ∧ (∀ (X10 : XH),X10 = (XH.setEl X7 yZ0 a0 0 ((a9.1,(a9.2.1,(a9.2.2.1,(a9.2.2.2.1,(IntKind.wrap .i64 (a8.2.2.2.2 - v3)))))))) → (∃ (a11 : ((Option SlH) × ((Nat → (Option SlH)) × ((Option Nat) × ((Option Nat) × Int))))),XH.el X10 yZ0 a0 0 = some a11 ∧ (((decide ((IntKind.wrap .i64 (at1 + v3)) < (((slN a11.1) : Nat) : Int))) = true → (∃ (a12 : ((Option SlH) × ((Nat → (Option SlH)) × ((Option Nat) × ((Option Nat) × Int))))),XH.el X10 yZ0 a0 0 = some a12 ∧ (∃ (u13 : SlH),a12.1 = some u13 ∧ 0 ≤ (IntKind.wrap .i64 (at1 + v3)) ∧ (IntKind.wrap .i64 (at1 + v3)) < ((u13.len : Nat) : Int) ∧ (∃ (a14 : Int),XH.el X10 (.pure (.int .i64)) u13.h ((u13.off + ((IntKind.wrap .i64 (at1 + v3))).toNat)) = some a14 ∧ ((2:Int) ≠ 0 ∧ ((((Int.tmod a14 (2:Int)) == (0:Int)) = true → (∃ (a15 : ((Option SlH) × ((Nat → (Option SlH)) × ((Option Nat) × ((Option Nat) × Int))))),XH.el X10 yZ0 a0 0 = some a15 ∧ (∃ (u16 : SlH),a15.1 = some u16 ∧ 0 ≤ (IntKind.wrap .i64 (at1 + v3)) ∧ (IntKind.wrap .i64 (at1 + v3)) < ((u16.len : Nat) : Int) ∧ (∃ (a17 : Int),XH.el X10 (.pure (.int .i64)) u16.h ((u16.off + ((IntKind.wrap .i64 (at1 + v3))).toNat)) = some a17 ∧ ((2:Int) ≠ 0 ∧ (XC Tryd.prog 51 [] [(.ref (some a0) yZ0 0 []),(.v (.agg [(.int .i64 ((IntKind.wrap .i64 (at1 + v3)))),(.int .i64 ((IntKind.wrap .i64 (Int.tdiv a17 (2:Int)))))]))] X10 (fun (p18 : Unit) (X19 : XH) => (∃ (a20 : ((Option SlH) × ((Nat → (Option SlH)) × ((Option Nat) × ((Option Nat) × Int))))),XH.el X19 yZ0 a0 0 = some a20 ∧ (∃ (es21 : List (Int × Int)),XH.vmp X19 (.int .i64) (.pure (.int .i64)) a20.2.2.1 = some es21 ∧ (∀ (v22 : Int),mfind (Cd.keq (.int .i64) at1) es21 = some v22 → ((true = true → (XC Tryd.prog 51 [] [(.ref (some a0) yZ0 0 []),(.v (.agg [(.int .i64 v22),(.int .i64 ((IntKind.wrap .i64 (at1 - v22))))]))] X19 (fun (p23 : Unit) (X24 : XH) => (XC Tryd.prog 45 [] [(.ref (some a0) yZ0 0 []),(.v (.agg [(.int .i64 v22),(.int .i64 ((IntKind.wrap .i64 ((IntKind.wrap .i64 ((IntKind.wrap .i64 (v3 + (IntKind.wrap .i64 (Int.tdiv a17 (2:Int))))) + at1)) - v22))))]))] X24 (fun (p25 : Unit) (X26 : XH) => (XC Tryd.prog 46 [] [(.ref (some a0) yZ0 0 []),(.v (.int .i64 ((IntKind.wrap .i64 (v22 + (1:Int)))))),(.v (.int .i64 ((IntKind.wrap .i64 (v22 + (IntKind.wrap .i64 ((IntKind.wrap .i64 ((IntKind.wrap .i64 (v3 + (IntKind.wrap .i64 (Int.tdiv a17 (2:Int))))) + at1)) - v22)))))))] X26 (fun (p27 : Unit) (X28 : XH) => R (0:Int) X28))))))) ∧
 (true = false → (XC Tryd.prog 45 [] [(.ref (some a0) yZ0 0 []),(.v (.agg [(.int .i64 at1),(.int .i64 ((IntKind.wrap .i64 (v3 + (IntKind.wrap .i64 (Int.tdiv a17 (2:Int)))))))]))] X19 (fun (p29 : Unit) (X30 : XH) => (XC Tryd.prog 46 [] [(.ref (some a0) yZ0 0 []),(.v (.int .i64 ((IntKind.wrap .i64 (at1 + (1:Int)))))),(.v (.int .i64 ((IntKind.wrap .i64 (at1 + (IntKind.wrap .i64 (v3 + (IntKind.wrap .i64 (Int.tdiv a17 (2:Int))))))))))] X30 (fun (p31 : Unit) (X32 : XH) => R (0:Int) X32))))))) ∧ (mfind (Cd.keq (.int .i64) at1) es21 = none → ((false = true → (XC Tryd.prog 51 [] [(.ref (some a0) yZ0 0 []),(.v (.agg [(.int .i64 (0:Int)),(.int .i64 ((IntKind.wrap .i64 (at1 - (0:Int)))))]))] X19 (fun (p33 : Unit) (X34 : XH) => (XC Tryd.prog 45 [] [(.ref (some a0) yZ0 0 []),(.v (.agg [(.int .i64 (0:Int)),(.int .i64 ((IntKind.wrap .i64 ((IntKind.wrap .i64 ((IntKind.wrap .i64 (v3 + (IntKind.wrap .i64 (Int.tdiv a17 (2:Int))))) + at1)) - (0:Int)))))]))] X34 (fun (p35 : Unit) (X36 : XH) => (XC Tryd.prog 46 [] [(.ref (some a0) yZ0 0 []),(.v (.int .i64 ((IntKind.wrap .i64 ((0:Int) + (1:Int)))))),(.v (.int .i64 ((IntKind.wrap .i64 ((0:Int) + (IntKind.wrap .i64 ((IntKind.wrap .i64 ((IntKind.wrap .i64 (v3 + (IntKind.wrap .i64 (Int.tdiv a17 (2:Int))))) + at1)) - (0:Int))))))))] X36 (fun (p37 : Unit) (X38 : XH) => R (0:Int) X38))))))) ∧
 (false = false → (XC Tryd.prog 45 [] [(.ref (some a0) yZ0 0 []),(.v (.agg [(.int .i64 at1),(.int .i64 ((IntKind.wrap .i64 (v3 + (IntKind.wrap .i64 (Int.tdiv a17 (2:Int)))))))]))] X19 (fun (p39 : Unit) (X40 : XH) => (XC Tryd.prog 46 [] [(.ref (some a0) yZ0 0 []),(.v (.int .i64 ((IntKind.wrap .i64 (at1 + (1:Int)))))),(.v (.int .i64 ((IntKind.wrap .i64 (at1 + (IntKind.wrap .i64 (v3 + (IntKind.wrap .i64 (Int.tdiv a17 (2:Int))))))))))] X40 (fun (p41 : Unit) (X42 : XH) => R (0:Int) X42)))))))))))))))) ∧
 (((Int.tmod a14 (2:Int)) == (0:Int)) = false → (∃ (a43 : ((Option SlH) × ((Nat → (Option SlH)) × ((Option Nat) × ((Option Nat) × Int))))),XH.el X10 yZ0 a0 0 = some a43 ∧ (∃ (es44 : List (Int × Int)),XH.vmp X10 (.int .i64) (.pure (.int .i64)) a43.2.2.1 = some es44 ∧ (∀ (v45 : Int),mfind (Cd.keq (.int .i64) at1) es44 = some v45 → ((true = true → (XC Tryd.prog 51 [] [(.ref (some a0) yZ0 0 []),(.v (.agg [(.int .i64 v45),(.int .i64 ((IntKind.wrap .i64 (at1 - v45))))]))] X10 (fun (p46 : Unit) (X47 : XH) => (XC Tryd.prog 45 [] [(.ref (some a0) yZ0 0 []),(.v (.agg [(.int .i64 v45),(.int .i64 ((IntKind.wrap .i64 ((IntKind.wrap .i64 (v3 + at1)) - v45))))]))] X47 (fun (p48 : Unit) (X49 : XH) => (XC Tryd.prog 46 [] [(.ref (some a0) yZ0 0 []),(.v (.int .i64 ((IntKind.wrap .i64 (v45 + (1:Int)))))),(.v (.int .i64 ((IntKind.wrap .i64 (v45 + (IntKind.wrap .i64 ((IntKind.wrap .i64 (v3 + at1)) - v45)))))))] X49 (fun (p50 : Unit) (X51 : XH) => R (0:Int) X51))))))) ∧
 (true = false → (XC Tryd.prog 45 [] [(.ref (some a0) yZ0 0 []),(.v (.agg [(.int .i64 at1),(.int .i64 v3)]))] X10 (fun (p52 : Unit) (X53 : XH) => (XC Tryd.prog 46 [] [(.ref (some a0) yZ0 0 []),(.v (.int .i64 ((IntKind.wrap .i64 (at1 + (1:Int)))))),(.v (.int .i64 ((IntKind.wrap .i64 (at1 + v3)))))] X53 (fun (p54 : Unit) (X55 : XH) => R (0:Int) X55))))))) ∧ (mfind (Cd.keq (.int .i64) at1) es44 = none → ((false = true → (XC Tryd.prog 51 [] [(.ref (some a0) yZ0 0 []),(.v (.agg [(.int .i64 (0:Int)),(.int .i64 ((IntKind.wrap .i64 (at1 - (0:Int)))))]))] X10 (fun (p56 : Unit) (X57 : XH) => (XC Tryd.prog 45 [] [(.ref (some a0) yZ0 0 []),(.v (.agg [(.int .i64 (0:Int)),(.int .i64 ((IntKind.wrap .i64 ((IntKind.wrap .i64 (v3 + at1)) - (0:Int)))))]))] X57 (fun (p58 : Unit) (X59 : XH) => (XC Tryd.prog 46 [] [(.ref (some a0) yZ0 0 []),(.v (.int .i64 ((IntKind.wrap .i64 ((0:Int) + (1:Int)))))),(.v (.int .i64 ((IntKind.wrap .i64 ((0:Int) + (IntKind.wrap .i64 ((IntKind.wrap .i64 (v3 + at1)) - (0:Int))))))))] X59 (fun (p60 : Unit) (X61 : XH) => R (0:Int) X61))))))) ∧
 (false = false → (XC Tryd.prog 45 [] [(.ref (some a0) yZ0 0 []),(.v (.agg [(.int .i64 at1),(.int .i64 v3)]))] X10 (fun (p62 : Unit) (X63 : XH) => (XC Tryd.prog 46 [] [(.ref (some a0) yZ0 0 []),(.v (.int .i64 ((IntKind.wrap .i64 (at1 + (1:Int)))))),(.v (.int .i64 ((IntKind.wrap .i64 (at1 + v3)))))] X63 (fun (p64 : Unit) (X65 : XH) => R (0:Int) X65)))))))))))))))) ∧ ((decide ((IntKind.wrap .i64 (at1 + v3)) < (((slN a11.1) : Nat) : Int))) = false → (∃ (a66 : ((Option SlH) × ((Nat → (Option SlH)) × ((Option Nat) × ((Option Nat) × Int))))),XH.el X10 yZ0 a0 0 = some a66 ∧ (∃ (es67 : List (Int × Int)),XH.vmp X10 (.int .i64) (.pure (.int .i64)) a66.2.2.1 = some es67 ∧ (∀ (v68 : Int),mfind (Cd.keq (.int .i64) at1) es67 = some v68 → ((true = true → (XC Tryd.prog 51 [] [(.ref (some a0) yZ0 0 []),(.v (.agg [(.int .i64 v68),(.int .i64 ((IntKind.wrap .i64 (at1 - v68))))]))] X10 (fun (p69 : Unit) (X70 : XH) => (XC Tryd.prog 45 [] [(.ref (some a0) yZ0 0 []),(.v (.agg [(.int .i64 v68),(.int .i64 ((IntKind.wrap .i64 ((IntKind.wrap .i64 (v3 + at1)) - v68))))]))] X70 (fun (p71 : Unit) (X72 : XH) => (XC Tryd.prog 46 [] [(.ref (some a0) yZ0 0 []),(.v (.int .i64 ((IntKind.wrap .i64 (v68 + (1:Int)))))),(.v (.int .i64 ((IntKind.wrap .i64 (v68 + (IntKind.wrap .i64 ((IntKind.wrap .i64 (v3 + at1)) - v68)))))))] X72 (fun (p73 : Unit) (X74 : XH) => R (0:Int) X74))))))) ∧
 (true = false → (XC Tryd.prog 45 [] [(.ref (some a0) yZ0 0 []),(.v (.agg [(.int .i64 at1),(.int .i64 v3)]))] X10 (fun (p75 : Unit) (X76 : XH) => (XC Tryd.prog 46 [] [(.ref (some a0) yZ0 0 []),(.v (.int .i64 ((IntKind.wrap .i64 (at1 + (1:Int)))))),(.v (.int .i64 ((IntKind.wrap .i64 (at1 + v3)))))] X76 (fun (p77 : Unit) (X78 : XH) => R (0:Int) X78))))))) ∧ (mfind (Cd.keq (.int .i64) at1) es67 = none → ((false = true → (XC Tryd.prog 51 [] [(.ref (some a0) yZ0 0 []),(.v (.agg [(.int .i64 (0:Int)),(.int .i64 ((IntKind.wrap .i64 (at1 - (0:Int)))))]))] X10 (fun (p79 : Unit) (X80 : XH) => (XC Tryd.prog 45 [] [(.ref (some a0) yZ0 0 []),(.v (.agg [(.int .i64 (0:Int)),(.int .i64 ((IntKind.wrap .i64 ((IntKind.wrap .i64 (v3 + at1)) - (0:Int)))))]))] X80 (fun (p81 : Unit) (X82 : XH) => (XC Tryd.prog 46 [] [(.ref (some a0) yZ0 0 []),(.v (.int .i64 ((IntKind.wrap .i64 ((0:Int) + (1:Int)))))),(.v (.int .i64 ((IntKind.wrap .i64 ((0:Int) + (IntKind.wrap .i64 ((IntKind.wrap .i64 (v3 + at1)) - (0:Int))))))))] X82 (fun (p83 : Unit) (X84 : XH) => R (0:Int) X84))))))) ∧
 (false = false → (XC Tryd.prog 45 [] [(.ref (some a0) yZ0 0 []),(.v (.agg [(.int .i64 at1),(.int .i64 v3)]))] X10 (fun (p85 : Unit) (X86 : XH) => (XC Tryd.prog 46 [] [(.ref (some a0) yZ0 0 []),(.v (.int .i64 ((IntKind.wrap .i64 (at1 + (1:Int)))))),(.v (.int .i64 ((IntKind.wrap .i64 (at1 + v3)))))] X86 (fun (p87 : Unit) (X88 : XH) => R (0:Int) X88))))))))))))))))))))) ∧ (mfind (Cd.keq (.int .i64) at1) es2 = none → (((!false) = true → R (24:Int) X) ∧
 ((!false) = false → (∃ (a89 : ((Option SlH) × ((Nat → (Option SlH)) × ((Option Nat) × ((Option Nat) × Int))))),XH.el X yZ0 a0 0 = some a89 ∧ (∃ (h90 : Nat) (es91 : List (Int × Int)),a89.2.2.2.1 = some h90 ∧ XH.mp X (.int .i64) (.pure (.int .i64)) h90 = some es91 ∧ (∀ (X92 : XH),X92 = (XH.set X h90 (.map (.int .i64) (.pure (.int .i64)) (mdel (Cd.keq (.int .i64) at1) es91))) → (∃ (a93 : ((Option SlH) × ((Nat → (Option SlH)) × ((Option Nat) × ((Option Nat) × Int))))),XH.el X92 yZ0 a0 0 = some a93 ∧ (∃ (a94 : ((Option SlH) × ((Nat → (Option SlH)) × ((Option Nat) × ((Option Nat) × Int))))),XH.el X92 yZ0 a0 0 = some a94 ∧ (∀ (X95 : XH),X95 = (XH.setEl X92 yZ0 a0 0 ((a94.1,(a94.2.1,(a94.2.2.1,(a94.2.2.2.1,(IntKind.wrap .i64 (a93.2.2.2.2 - (0:Int))))))))) → (∃ (a96 : ((Option SlH) × ((Nat → (Option SlH)) × ((Option Nat) × ((Option Nat) × Int))))),XH.el X95 yZ0 a0 0 = some a96 ∧ (((decide ((IntKind.wrap .i64 (at1 + (0:Int))) < (((slN a96.1) : Nat) : Int))) = true → (∃ (a97 : ((Option SlH) × ((Nat → (Option SlH)) × ((Option Nat) × ((Option Nat) × Int))))),XH.el X95 yZ0 a0 0 = some a97 ∧ (∃ (u98 : SlH),a97.1 = some u98 ∧ 0 ≤ (IntKind.wrap .i64 (at1 + (0:Int))) ∧ (IntKind.wrap .i64 (at1 + (0:Int))) < ((u98.len : Nat) : Int) ∧ (∃ (a99 : Int),XH.el X95 (.pure (.int .i64)) u98.h ((u98.off + ((IntKind.wrap .i64 (at1 + (0:Int)))).toNat)) = some a99 ∧ ((2:Int) ≠ 0 ∧ ((((Int.tmod a99 (2:Int)) == (0:Int)) = true → (∃ (a100 : ((Option SlH) × ((Nat → (Option SlH)) × ((Option Nat) × ((Option Nat) × Int))))),XH.el X95 yZ0 a0 0 = some a100 ∧ (∃ (u101 : SlH),a100.1 = some u101 ∧ 0 ≤ (IntKind.wrap .i64 (at1 + (0:Int))) ∧ (IntKind.wrap .i64 (at1 + (0:Int))) < ((u101.len : Nat) : Int) ∧ (∃ (a102 : Int),XH.el X95 (.pure (.int .i64)) u101.h ((u101.off + ((IntKind.wrap .i64 (at1 + (0:Int)))).toNat)) = some a102 ∧ ((2:Int) ≠ 0 ∧ (XC Tryd.prog 51 [] [(.ref (some a0) yZ0 0 []),(.v (.agg [(.int .i64 ((IntKind.wrap .i64 (at1 + (0:Int))))),(.int .i64 ((IntKind.wrap .i64 (Int.tdiv a102 (2:Int)))))]))] X95 (fun (p103 : Unit) (X104 : XH) => (∃ (a105 : ((Option SlH) × ((Nat → (Option SlH)) × ((Option Nat) × ((Option Nat) × Int))))),XH.el X104 yZ0 a0 0 = some a105 ∧ (∃ (es106 : List (Int × Int)),XH.vmp X104 (.int .i64) (.pure (.int .i64)) a105.2.2.1 = some es106 ∧ (∀ (v107 : Int),mfind (Cd.keq (.int .i64) at1) es106 = some v107 → ((true = true → (XC Tryd.prog 51 [] [(.ref (some a0) yZ0 0 []),(.v (.agg [(.int .i64 v107),(.int .i64 ((IntKind.wrap .i64 (at1 - v107))))]))] X104 (fun (p108 : Unit) (X109 : XH) => (XC Tryd.prog 45 [] [(.ref (some a0) yZ0 0 []),(.v (.agg [(.int .i64 v107),(.int .i64 ((IntKind.wrap .i64 ((IntKind.wrap .i64 ((IntKind.wrap .i64 ((0:Int) + (IntKind.wrap .i64 (Int.tdiv a102 (2:Int))))) + at1)) - v107))))]))] X109 (fun (p110 : Unit) (X111 : XH) => (XC Tryd.prog 46 [] [(.ref (some a0) yZ0 0 []),(.v (.int .i64 ((IntKind.wrap .i64 (v107 + (1:Int)))))),(.v (.int .i64 ((IntKind.wrap .i64 (v107 + (IntKind.wrap .i64 ((IntKind.wrap .i64 ((IntKind.wrap .i64 ((0:Int) + (IntKind.wrap .i64 (Int.tdiv a102 (2:Int))))) + at1)) - v107)))))))] X111 (fun (p112 : Unit) (X113 : XH) => R (0:Int) X113))))))) ∧
 (true = false → (XC Tryd.prog 45 [] [(.ref (some a0) yZ0 0 []),(.v (.agg [(.int .i64 at1),(.int .i64 ((IntKind.wrap .i64 ((0:Int) + (IntKind.wrap .i64 (Int.tdiv a102 (2:Int)))))))]))] X104 (fun (p114 : Unit) (X115 : XH) => (XC Tryd.prog 46 [] [(.ref (some a0) yZ0 0 []),(.v (.int .i64 ((IntKind.wrap .i64 (at1 + (1:Int)))))),(.v (.int .i64 ((IntKind.wrap .i64 (at1 + (IntKind.wrap .i64 ((0:Int) + (IntKind.wrap .i64 (Int.tdiv a102 (2:Int))))))))))] X115 (fun (p116 : Unit) (X117 : XH) => R (0:Int) X117))))))) ∧ (mfind (Cd.keq (.int .i64) at1) es106 = none → ((false = true → (XC Tryd.prog 51 [] [(.ref (some a0) yZ0 0 []),(.v (.agg [(.int .i64 (0:Int)),(.int .i64 ((IntKind.wrap .i64 (at1 - (0:Int)))))]))] X104 (fun (p118 : Unit) (X119 : XH) => (XC Tryd.prog 45 [] [(.ref (some a0) yZ0 0 []),(.v (.agg [(.int .i64 (0:Int)),(.int .i64 ((IntKind.wrap .i64 ((IntKind.wrap .i64 ((IntKind.wrap .i64 ((0:Int) + (IntKind.wrap .i64 (Int.tdiv a102 (2:Int))))) + at1)) - (0:Int)))))]))] X119 (fun (p120 : Unit) (X121 : XH) => (XC Tryd.prog 46 [] [(.ref (some a0) yZ0 0 []),(.v (.int .i64 ((IntKind.wrap .i64 ((0:Int) + (1:Int)))))),(.v (.int .i64 ((IntKind.wrap .i64 ((0:Int) + (IntKind.wrap .i64 ((IntKind.wrap .i64 ((IntKind.wrap .i64 ((0:Int) + (IntKind.wrap .i64 (Int.tdiv a102 (2:Int))))) + at1)) - (0:Int))))))))] X121 (fun (p122 : Unit) (X123 : XH) => R (0:Int) X123))))))) ∧
 (false = false → (XC Tryd.prog 45 [] [(.ref (some a0) yZ0 0 []),(.v (.agg [(.int .i64 at1),(.int .i64 ((IntKind.wrap .i64 ((0:Int) + (IntKind.wrap .i64 (Int.tdiv a102 (2:Int)))))))]))] X104 (fun (p124 : Unit) (X125 : XH) => (XC Tryd.prog 46 [] [(.ref (some a0) yZ0 0 []),(.v (.int .i64 ((IntKind.wrap .i64 (at1 + (1:Int)))))),(.v (.int .i64 ((IntKind.wrap .i64 (at1 + (IntKind.wrap .i64 ((0:Int) + (IntKind.wrap .i64 (Int.tdiv a102 (2:Int))))))))))] X125 (fun (p126 : Unit) (X127 : XH) => R (0:Int) X127)))))))))))))))) ∧
 (((Int.tmod a99 (2:Int)) == (0:Int)) = false → (∃ (a128 : ((Option SlH) × ((Nat → (Option SlH)) × ((Option Nat) × ((Option Nat) × Int))))),XH.el X95 yZ0 a0 0 = some a128 ∧ (∃ (es129 : List (Int × Int)),XH.vmp X95 (.int .i64) (.pure (.int .i64)) a128.2.2.1 = some es129 ∧ (∀ (v130 : Int),mfind (Cd.keq (.int .i64) at1) es129 = some v130 → ((true = true → (XC Tryd.prog 51 [] [(.ref (some a0) yZ0 0 []),(.v (.agg [(.int .i64 v130),(.int .i64 ((IntKind.wrap .i64 (at1 - v130))))]))] X95 (fun (p131 : Unit) (X132 : XH) => (XC Tryd.prog 45 [] [(.ref (some a0) yZ0 0 []),(.v (.agg [(.int .i64 v130),(.int .i64 ((IntKind.wrap .i64 ((IntKind.wrap .i64 ((0:Int) + at1)) - v130))))]))] X132 (fun (p133 : Unit) (X134 : XH) => (XC Tryd.prog 46 [] [(.ref (some a0) yZ0 0 []),(.v (.int .i64 ((IntKind.wrap .i64 (v130 + (1:Int)))))),(.v (.int .i64 ((IntKind.wrap .i64 (v130 + (IntKind.wrap .i64 ((IntKind.wrap .i64 ((0:Int) + at1)) - v130)))))))] X134 (fun (p135 : Unit) (X136 : XH) => R (0:Int) X136))))))) ∧
 (true = false → (XC Tryd.prog 45 [] [(.ref (some a0) yZ0 0 []),(.v (.agg [(.int .i64 at1),(.int .i64 (0:Int))]))] X95 (fun (p137 : Unit) (X138 : XH) => (XC Tryd.prog 46 [] [(.ref (some a0) yZ0 0 []),(.v (.int .i64 ((IntKind.wrap .i64 (at1 + (1:Int)))))),(.v (.int .i64 ((IntKind.wrap .i64 (at1 + (0:Int))))))] X138 (fun (p139 : Unit) (X140 : XH) => R (0:Int) X140))))))) ∧ (mfind (Cd.keq (.int .i64) at1) es129 = none → ((false = true → (XC Tryd.prog 51 [] [(.ref (some a0) yZ0 0 []),(.v (.agg [(.int .i64 (0:Int)),(.int .i64 ((IntKind.wrap .i64 (at1 - (0:Int)))))]))] X95 (fun (p141 : Unit) (X142 : XH) => (XC Tryd.prog 45 [] [(.ref (some a0) yZ0 0 []),(.v (.agg [(.int .i64 (0:Int)),(.int .i64 ((IntKind.wrap .i64 ((IntKind.wrap .i64 ((0:Int) + at1)) - (0:Int)))))]))] X142 (fun (p143 : Unit) (X144 : XH) => (XC Tryd.prog 46 [] [(.ref (some a0) yZ0 0 []),(.v (.int .i64 ((IntKind.wrap .i64 ((0:Int) + (1:Int)))))),(.v (.int .i64 ((IntKind.wrap .i64 ((0:Int) + (IntKind.wrap .i64 ((IntKind.wrap .i64 ((0:Int) + at1)) - (0:Int))))))))] X144 (fun (p145 : Unit) (X146 : XH) => R (0:Int) X146))))))) ∧
 (false = false → (XC Tryd.prog 45 [] [(.ref (some a0) yZ0 0 []),(.v (.agg [(.int .i64 at1),(.int .i64 (0:Int))]))] X95 (fun (p147 : Unit) (X148 : XH) => (XC Tryd.prog 46 [] [(.ref (some a0) yZ0 0 []),(.v (.int .i64 ((IntKind.wrap .i64 (at1 + (1:Int)))))),(.v (.int .i64 ((IntKind.wrap .i64 (at1 + (0:Int))))))] X148 (fun (p149 : Unit) (X150 : XH) => R (0:Int) X150)))))))))))))))) ∧ ((decide ((IntKind.wrap .i64 (at1 + (0:Int))) < (((slN a96.1) : Nat) : Int))) = false → (∃ (a151 : ((Option SlH) × ((Nat → (Option SlH)) × ((Option Nat) × ((Option Nat) × Int))))),XH.el X95 yZ0 a0 0 = some a151 ∧ (∃ (es152 : List (Int × Int)),XH.vmp X95 (.int .i64) (.pure (.int .i64)) a151.2.2.1 = some es152 ∧ (∀ (v153 : Int),mfind (Cd.keq (.int .i64) at1) es152 = some v153 → ((true = true → (XC Tryd.prog 51 [] [(.ref (some a0) yZ0 0 []),(.v (.agg [(.int .i64 v153),(.int .i64 ((IntKind.wrap .i64 (at1 - v153))))]))] X95 (fun (p154 : Unit) (X155 : XH) => (XC Tryd.prog 45 [] [(.ref (some a0) yZ0 0 []),(.v (.agg [(.int .i64 v153),(.int .i64 ((IntKind.wrap .i64 ((IntKind.wrap .i64 ((0:Int) + at1)) - v153))))]))] X155 (fun (p156 : Unit) (X157 : XH) => (XC Tryd.prog 46 [] [(.ref (some a0) yZ0 0 []),(.v (.int .i64 ((IntKind.wrap .i64 (v153 + (1:Int)))))),(.v (.int .i64 ((IntKind.wrap .i64 (v153 + (IntKind.wrap .i64 ((IntKind.wrap .i64 ((0:Int) + at1)) - v153)))))))] X157 (fun (p158 : Unit) (X159 : XH) => R (0:Int) X159))))))) ∧
 (true = false → (XC Tryd.prog 45 [] [(.ref (some a0) yZ0 0 []),(.v (.agg [(.int .i64 at1),(.int .i64 (0:Int))]))] X95 (fun (p160 : Unit) (X161 : XH) => (XC Tryd.prog 46 [] [(.ref (some a0) yZ0 0 []),(.v (.int .i64 ((IntKind.wrap .i64 (at1 + (1:Int)))))),(.v (.int .i64 ((IntKind.wrap .i64 (at1 + (0:Int))))))] X161 (fun (p162 : Unit) (X163 : XH) => R (0:Int) X163))))))) ∧ (mfind (Cd.keq (.int .i64) at1) es152 = none → ((false = true → (XC Tryd.prog 51 [] [(.ref (some a0) yZ0 0 []),(.v (.agg [(.int .i64 (0:Int)),(.int .i64 ((IntKind.wrap .i64 (at1 - (0:Int)))))]))] X95 (fun (p164 : Unit) (X165 : XH) => (XC Tryd.prog 45 [] [(.ref (some a0) yZ0 0 []),(.v (.agg [(.int .i64 (0:Int)),(.int .i64 ((IntKind.wrap .i64 ((IntKind.wrap .i64 ((0:Int) + at1)) - (0:Int)))))]))] X165 (fun (p166 : Unit) (X167 : XH) => (XC Tryd.prog 46 [] [(.ref (some a0) yZ0 0 []),(.v (.int .i64 ((IntKind.wrap .i64 ((0:Int) + (1:Int)))))),(.v (.int .i64 ((IntKind.wrap .i64 ((0:Int) + (IntKind.wrap .i64 ((IntKind.wrap .i64 ((0:Int) + at1)) - (0:Int))))))))] X167 (fun (p168 : Unit) (X169 : XH) => R (0:Int) X169))))))) ∧
 (false = false → (XC Tryd.prog 45 [] [(.ref (some a0) yZ0 0 []),(.v (.agg [(.int .i64 at1),(.int .i64 (0:Int))]))] X95 (fun (p170 : Unit) (X171 : XH) => (XC Tryd.prog 46 [] [(.ref (some a0) yZ0 0 []),(.v (.int .i64 ((IntKind.wrap .i64 (at1 + (1:Int)))))),(.v (.int .i64 ((IntKind.wrap .i64 (at1 + (0:Int))))))] X171 (fun (p172 : Unit) (X173 : XH) => R (0:Int) X173)))))))))))))))))))))))) :
  fnK X40.tt (callN Tryd.prog X40 0) (X40.md 40) (X40.mk1 40) Tryd.f40 [(.ref (some a0) yZ0 0 []),(.v (.int .i64 at1))] ⟨[],[some (.heap X)],⟨0,[]⟩⟩ (xfin [(.pure (.int .i64))] R) := Eq.mp (by kernel_rfl) h
end Go.Proofs.YtdcljlafookliaaDoor.AB

namespace Go.Proofs.YtdcljlafookliaaDoor.AB
open Go

variable {X X' : XH} {t : Nat} {d : AD}

abbrev W64 (x : Int) : Int := IntKind.wrap .i64 x

def freeEnd (X : XH) (t : Nat) (a s : Int) (R : XH → Prop) : Prop :=
  XC Tryd.prog 45 [] [.ref (some t) cA 0 [],.v (.agg [.int .i64 a,.int .i64 s])] X fun _ X1 => XC Tryd.prog 46 [] [.ref (some t) cA 0 [],.v (.int .i64 (W64 (a + 1))),.v (.int .i64 (W64 (a + s)))] X1 fun _ X2 => R X2

def freeAhead (X : XH) (t : Nat) (a s : Int) (R : XH → Prop) : Prop :=
  ∃ a1 : cA.T,X.el cA t 0 = some a1 ∧ ∃ es : List (Int × Int),X.vmp (.int .i64) cI a1.2.2.1 = some es ∧
    (∀ v : Int,mfind (eqI a) es = some v → ((true = true → XC Tryd.prog 51 [] [.ref (some t) cA 0 [],.v (.agg [.int .i64 v,.int .i64 (W64 (a - v))])] X fun _ X1 => freeEnd X1 t v (W64 (W64 (s + a) - v)) R) ∧ (true = false → freeEnd X t a s R))) ∧
    (mfind (eqI a) es = none → ((false = true → XC Tryd.prog 51 [] [.ref (some t) cA 0 [],.v (.agg [.int .i64 (0:Int),.int .i64 (W64 (a - 0))])] X fun _ X1 => freeEnd X1 t 0 (W64 (W64 (s + a) - 0)) R) ∧ (false = false → freeEnd X t a s R)))

theorem free_end (h : Rep X t d) {F : BK → Prop} (ix : IX d.L d.E F) {a s : Nat} (ha : a + s ≤ d.W.length) (h1 : 1 ≤ a) (hs : 2 ≤ s) (hw : d.W.length ≤ 1048576) (hno : ∀ b',F b' → b'.1 ≠ (a : Int) ∧ b'.1 + b'.2 ≠ (a : Int) + (s : Int)) {R : XH → Prop}
    (hR : ∀ X' d',Rep X' t d' → Mv X (d.hs t) X' (d'.hs t) → d'.W = freeW d.W a s → IX d'.L d'.E (fun x => F x ∨ x = ((a : Int),(s : Int))) → d'.T = d.T → d'.n = d.n → R X') : freeEnd X t a s R := by
  unfold freeEnd
  refine (c45 h ix.lok (a := a) (s := s) (by omega) (by omega) (by omega) (by unfold bok; simp only; omega)).mono ?_
  rintro _ X1 ⟨d1,r1,m1,w1,l1,e1,t1,n1⟩
  have q1 : W64 ((a : Int) + 1) = ((a + 1 : Nat) : Int) := by unfold W64; rw [wrap64 (by omega) (by omega)]; omega
  have q2 : W64 ((a : Int) + (s : Int)) = ((a + s : Nat) : Int) := by unfold W64; rw [wrap64 (by omega) (by omega)]; omega
  rw [q1,q2]
  have hl1 : d1.W.length = d.W.length := by rw [w1]; simp
  refine (c46 r1 (a := a + 1) (b := a + s) (by omega) (by omega) (by omega)).mono ?_
  rintro _ X2 ⟨d2,r2,m2,e2⟩
  refine hR X2 d2 r2 (m1.trans m2) ?_ ?_ ?_ ?_
  · rw [e2]
    show over d1.W (a + 1) (List.replicate (a + s - (a + 1)) poisonW) = _
    unfold freeW
    rw [w1,show a + s - (a + 1) = s - 1 by omega]
  · rw [e2]
    show IX d1.L d1.E _
    rw [l1,e1]
    exact ix.lay h1 hs (by omega) hno
  · rw [e2]; exact t1
  · rw [e2]; exact n1

theorem free_ahead (h : Rep X t d) {F : BK → Prop} (ix : IX d.L d.E F) {a s q : Nat} (hq : (q = 0 ∧ ∀ b',F b' → b'.1 + b'.2 ≠ (a : Int)) ∨ (2 ≤ q ∧ q < a ∧ F (((a - q : Nat) : Int),(q : Int)))) (ha : a + s ≤ d.W.length) (h1 : 1 ≤ a) (hs : 2 ≤ s) (hw : d.W.length ≤ 1048576)
    (hno : ∀ b',F b' → b'.1 ≠ (a : Int) ∧ b'.1 + b'.2 ≠ (a : Int) + (s : Int)) {R : XH → Prop}
    (hR : ∀ X' d',Rep X' t d' → Mv X (d.hs t) X' (d'.hs t) → d'.W = freeW d.W (a - q) (q + s) → IX d'.L d'.E (fun x => (F x ∧ x ≠ (((a - q : Nat) : Int),(q : Int))) ∨ x = (((a - q : Nat) : Int),((q + s : Nat) : Int))) → d'.T = d.T → d'.n = d.n → R X') : freeAhead X t a s R := by
  unfold freeAhead
  refine ⟨d.val,h.el,d.E,mp_at.2 h.e,fun v hv => ⟨fun _ => ?_,fun e => by cases e⟩,fun hv => ⟨fun e => (by cases e),fun _ => ?_⟩⟩
  · obtain ⟨b,hb,hb1,hb2⟩ := (ix.e _ _).1 ((mfind_iff ix.nd).1 hv)
    rcases hq with ⟨rfl,hq⟩ | ⟨q1,q2,q3⟩
    · exact absurd hb2 (hq b hb)
    have hbe : b = (((a - q : Nat) : Int),(q : Int)) := ix.einj _ _ hb q3 (by simp only; omega)
    subst hbe
    simp only at hb1
    subst hb1
    have w1 : W64 ((a : Int) - ((a - q : Nat) : Int)) = (q : Int) := by unfold W64; rw [wrap64 (by omega) (by omega)]; omega
    have w2 : W64 (W64 ((s : Int) + (a : Int)) - ((a - q : Nat) : Int)) = ((q + s : Nat) : Int) := by unfold W64; rw [wrap64 (x := (s : Int) + (a : Int)) (by omega) (by omega),wrap64 (by omega) (by omega)]; omega
    rw [w1,w2]
    obtain ⟨ix1,hm⟩ := ix.lift hb
    refine (c51 h ix.lok (a := a - q) (s := q) (by omega) (ix.bok hb) hm).mono ?_
    rintro _ X1 ⟨d1,r1,m1,e1,l1,ee1,t1,n1⟩
    have ix1' : IX d1.L d1.E (fun x => F x ∧ x ≠ (((a - q : Nat) : Int),(q : Int))) := by rw [l1,ee1]; exact ix1
    refine free_end r1 ix1' (a := a - q) (s := q + s) (by rw [e1]; omega) (by omega) (by omega) (by rw [e1]; exact hw) (fun b' hb' => ⟨fun e => ?_,?_⟩) ?_
    · exact hb'.2 (ix.inj _ _ hb'.1 hb e)
    · have := (hno b' hb'.1).2
      omega
    · intro X' d' r2 m2 w3 ix3 t3 n3
      exact hR X' d' r2 (m1.trans m2) (by rw [w3,e1]) ix3 (by rw [t3,t1]) (by rw [n3,n1])
  · have hq0 : q = 0 := by
      rcases hq with ⟨h,_⟩ | ⟨q1,q2,q3⟩
      · exact h
      · exfalso
        exact (mfind_none_iff ix.nd).1 hv _ ((ix.e _ _).2 ⟨_,q3,rfl,by simp only; omega⟩)
    subst hq0
    refine free_end h ix ha h1 hs hw hno ?_
    intro X' d' r1 m1 w1 ix1 t1 n1
    refine hR X' d' r1 m1 (by rw [w1,Nat.sub_zero,Nat.zero_add]) (ix1.congr fun b => ?_) t1 n1
    rw [Nat.sub_zero,Nat.zero_add]
    constructor
    · rintro (h | h)
      · exact .inl h.1
      · exact .inr h
    · rintro (h | h)
      · refine .inl ⟨h,?_⟩
        rintro rfl
        obtain ⟨p,s',e,_,e2,_⟩ := ix.bd _ h
        have := congrArg Prod.snd e
        simp only at this
        omega
      · exact .inr h

theorem FF_free {pre post : List Bl} {s : Nat} (hz : sz2 (pre ++ (s,true) :: post)) (b : BK) :
    FF (freeB pre s post) b ↔ ((FF (pre ++ (s,true) :: post) b ∧ b ≠ (((1 + sumS pre + s : Nat) : Int),(nextS post : Int))) ∧ b ≠ (((1 + sumS pre - prevS pre : Nat) : Int),(prevS pre : Int))) ∨
      b = (((1 + sumS pre - prevS pre : Nat) : Int),((prevS pre + (s + nextS post) : Nat) : Int)) := by
  obtain ⟨z1,z2⟩ := sz2_app.1 hz
  obtain ⟨z2,z3⟩ := sz2_cons.1 z2
  have hls := restL_sum pre
  have hrs := restR_sum post
  constructor
  · rintro ⟨p,s',rfl,hm⟩
    rcases freeB_mem hm with h | ⟨h1,h2,-⟩ | h
    · have hb := walk_bd (by
        rcases pre_split pre with ⟨s0,h1,h2⟩ | ⟨h1,h2,_⟩
        · rw [h1] at z1; exact (sz2_app.1 z1).1
        · rw [h1]; exact z1) h
      refine .inl ⟨⟨⟨p,s',rfl,walk_three.2 (.inl (restL_mem h))⟩,fun e => ?_⟩,fun e => ?_⟩
      · have := congrArg Prod.fst e; simp only at this z2; omega
      · have := congrArg Prod.fst e; simp only at this z2; omega
    · refine .inr ?_
      rw [h1,h2,show prevS pre + s + nextS post = prevS pre + (s + nextS post) by omega]
    · have hb := walk_bd (by
        rcases post_split post with ⟨s0,h1,h2⟩ | ⟨h1,h2,_⟩
        · rw [h1] at z3; exact (sz2_cons.1 z3).2
        · rw [h1]; exact z3) h
      refine .inl ⟨⟨⟨p,s',rfl,walk_three.2 (.inr (.inr (restR_mem h)))⟩,fun e => ?_⟩,fun e => ?_⟩
      · have e1 := congrArg Prod.fst e
        have e2 := congrArg Prod.snd e
        simp only at e1 e2 z2; omega
      · have := congrArg Prod.fst e; simp only at this z2; omega
  · rintro (⟨⟨⟨p,s',rfl,hm⟩,n1⟩,n2⟩ | rfl)
    · refine ⟨p,s',rfl,?_⟩
      unfold freeB
      rcases walk_three.1 hm with h | h | h
      · -- ahead of it
        refine walk_three.2 (.inl ?_)
        rcases pre_split pre with ⟨s0,h1,h2⟩ | ⟨h1,h2,_⟩
        · rw [h1,walk_app,List.mem_append] at h
          rcases h with h | h
          · exact h
          · simp only [walk,List.mem_singleton] at h
            cases h
            exact absurd (Prod.ext (by simp only; omega) (by simp only; omega)) n2
        · rw [h1]; exact h
      · cases h
      · refine walk_three.2 (.inr (.inr ?_))
        rw [show 1 + sumS (restL pre) + (prevS pre + s + nextS post,false).1 = 1 + sumS pre + s + nextS post by simp only; omega]
        rcases post_split post with ⟨s0,h1,h2⟩ | ⟨h1,h2,_⟩
        · rw [h1] at h
          simp only [walk,List.mem_cons] at h
          rcases h with h | h
          · cases h
            exact absurd (by rw [h2]) n1
          · rw [h2]; exact h
        · rw [h1,h2]; exact h
    · refine ⟨_,_,rfl,?_⟩
      unfold freeB
      refine walk_three.2 (.inr (.inl ?_))
      rw [show 1 + sumS pre - prevS pre = 1 + sumS (restL pre) by omega,show prevS pre + (s + nextS post) = prevS pre + s + nextS post by omega]

theorem used_free {pre post : List Bl} {s : Nat} (hz : sz2 (pre ++ (s,true) :: post)) (p s' : Nat) :
    (p,s',true) ∈ walk 1 (freeB pre s post) ↔ (p,s',true) ∈ walk 1 (pre ++ (s,true) :: post) ∧ p ≠ 1 + sumS pre := by
  obtain ⟨z1,z2⟩ := sz2_app.1 hz
  obtain ⟨z2,z3⟩ := sz2_cons.1 z2
  have hls := restL_sum pre
  have hrs := restR_sum post
  constructor
  · intro hm
    rcases freeB_mem hm with h | ⟨h1,h2,h3⟩ | h
    · have := walk_bd z1 (restL_mem h)
      exact ⟨walk_three.2 (.inl (restL_mem h)),by omega⟩
    · cases h3
    · have := walk_bd z3 (restR_mem h)
      simp only at z2
      exact ⟨walk_three.2 (.inr (.inr (restR_mem h))),by omega⟩
  · rintro ⟨hm,hne⟩
    unfold freeB
    rcases walk_three.1 hm with h | h | h
    · refine walk_three.2 (.inl ?_)
      rcases pre_split pre with ⟨s0,h1,h2⟩ | ⟨h1,h2,_⟩
      · rw [h1,walk_app,List.mem_append] at h
        rcases h with h | h
        · exact h
        · simp only [walk,List.mem_singleton] at h
          cases h
      · rw [h1]; exact h
    · cases h; exact absurd rfl hne
    · refine walk_three.2 (.inr (.inr ?_))
      rw [show 1 + sumS (restL pre) + (prevS pre + s + nextS post,false).1 = 1 + sumS pre + s + nextS post by simp only; omega]
      rcases post_split post with ⟨s0,h1,h2⟩ | ⟨h1,h2,_⟩
      · rw [h1] at h
        simp only [walk,List.mem_cons] at h
        rcases h with h | h
        · cases h
        · rw [h2]; exact h
      · rw [h1,h2]; exact h

theorem usedSum_free (pre : List Bl) (s : Nat) (post : List Bl) : usedSum (freeB pre s post) + s = usedSum (pre ++ (s,true) :: post) := by
  have hl : usedSum (restL pre) = usedSum pre := by
    rcases pre_split pre with ⟨s0,h1,h2⟩ | ⟨h1,h2,_⟩
    · conv => rhs; rw [h1,usedSum_app]
      simp [usedSum]
    · rw [h1]
  have hr : usedSum (restR post) = usedSum post := by
    rcases post_split post with ⟨s0,h1,h2⟩ | ⟨h1,h2,_⟩
    · conv => rhs; rw [h1]
      simp [usedSum]
    · rw [h1]
  unfold freeB
  simp only [usedSum_app,usedSum,hl,hr]
  simp; omega

def FreeQ (X : XH) (t : Nat) (d : AD) (bs : List Bl) (a : Int) (p : Int) (X' : XH) : Prop :=
  ∃ d',Rep X' t d' ∧ Mv X (d.hs t) X' (d'.hs t) ∧
    (((∀ q s : Nat,(q,s,true) ∈ walk 1 bs → a ≠ (q : Int)) ∧ p = 24 ∧ d' = d) ∨
     ∃ pre s post,bs = pre ++ (s,true) :: post ∧ a = ((1 + sumS pre : Nat) : Int) ∧ p = 0 ∧ d'.W = freeW d.W (1 + sumS pre - prevS pre) (prevS pre + s + nextS post) ∧ DOK d' (freeB pre s post))

theorem c40 (h : Rep X t d) {bs : List Bl} (hd : DOK d bs) (a : Int) :
    XC Tryd.prog 40 [.pure (.int .i64)] [.ref (some t) cA 0 [],.v (.int .i64 a)] X (FreeQ X t d bs a) := by
  refine xcOf (X := X40) rfl FN40 (by kernel_rfl) (by decide) (E40 X t a ⟨d.val,h.el,d.T,mp_at.2 h.tk,fun v hv => ⟨fun e => (by cases e),fun _ => ?_⟩,fun hv => ⟨fun _ => ?_,fun e => by cases e⟩⟩)
  rotate_left
  · refine ⟨d,h,.refl _ _,.inl ⟨fun q s hm e => ?_,rfl,rfl⟩⟩
    exact (mfind_none_iff hd.nd).1 hv _ ((hd.t _ _).2 ⟨q,s,e,rfl,hm⟩)
  obtain ⟨p,s,rfl,rfl,hm⟩ := (hd.t _ _).1 ((mfind_iff hd.nd).1 hv)
  obtain ⟨pre,post,hbs,hp⟩ := walk_split hm
  have hz := hd.w.sz
  have hwle := hd.w.le
  have hlen := hd.w.len
  obtain ⟨b1,b2,b3⟩ := hd.w.bd hm
  have hnb := hd.nb
  have hz' := hz
  rw [hbs] at hz'
  obtain ⟨z1,z2⟩ := sz2_app.1 hz'
  obtain ⟨z2,z3⟩ := sz2_cons.1 z2
  have hls := restL_sum pre
  have hrs := restR_sum post
  have hsum : sumS bs = sumS pre + (s + sumS post) := by rw [hbs,sumS_app]; rfl
  -- taken out of the used ones
  refine ⟨d.val,h.el,d.ht,d.T,rfl,mp_at.2 h.tk,fun X7 e7 => ?_⟩
  obtain ⟨h7,m7⟩ := h.setT (mdel (eqI (p : Int)) d.T)
  rw [← e7] at h7 m7
  refine ⟨_,h7.el,_,h7.el,fun X10 e10 => ?_⟩
  have e10 := e10.trans (h7.setEl _)
  have hw1 : IntKind.wrap .i64 (d.n - (s : Int)) = d.n - (s : Int) := wrap64 (by omega) (by omega)
  obtain ⟨h10,m10⟩ := h7.setN (d.n - (s : Int))
  have e10 : X10 = X7.set t (.arr cA [AD.val { d with T := mdel (eqI (p : Int)) d.T,n := IntKind.wrap .i64 (d.n - (s : Int)) }]) := e10
  rw [hw1] at e10
  rw [← e10] at h10 m10
  obtain ⟨d1,hd1⟩ : ∃ d1 : AD,d1 = { d with T := mdel (eqI (p : Int)) d.T,n := d.n - (s : Int) } := ⟨_,rfl⟩
  rw [show ({ ({ d with T := mdel (eqI (p : Int)) d.T } : AD) with n := d.n - (s : Int) } : AD) = d1 from hd1.symm] at h10 m10
  have W1 : d1.W = d.W := by rw [hd1]
  have L1 : d1.L = d.L := by rw [hd1]
  have E1 : d1.E = d.E := by rw [hd1]
  have ix1 : IX d1.L d1.E (FF bs) := by rw [L1,E1]; exact hd.ix
  have m1 := m7.trans m10
  refine ⟨d1.val,h10.el,?_⟩
  have hv1 : slN d1.val.1 = d.W.length := by show d1.W.length = _; rw [W1]
  rw [hv1]
  have w2 : IntKind.wrap .i64 ((p : Int) + (s : Int)) = ((p + s : Nat) : Int) := by rw [wrap64 (by omega) (by omega)]; omega
  rw [w2]
  -- the end
  have fin : ∀ X' d',Rep X' t d' → Mv X10 (d1.hs t) X' (d'.hs t) → d'.W = freeW d1.W (p - prevS pre) (prevS pre + (s + nextS post)) →
      IX d'.L d'.E (fun x => ((FF bs x ∧ x ≠ (((p + s : Nat) : Int),(nextS post : Int))) ∧ x ≠ (((p - prevS pre : Nat) : Int),(prevS pre : Int))) ∨ x = (((p - prevS pre : Nat) : Int),((prevS pre + (s + nextS post) : Nat) : Int))) → d'.T = d1.T → d'.n = d1.n →
      FreeQ X t d bs (p : Int) 0 X' := by
    intro X' d' r1 r2 r3 r4 r5 r6
    obtain ⟨t1,t2⟩ := mdel_spec hd.nd (a := (p : Int))
    refine ⟨d',r1,m1.trans r2,.inr ⟨pre,s,post,hbs,by rw [hp],rfl,by rw [r3,W1,hp,Nat.add_assoc (prevS pre)],⟨?_,?_,?_,?_,?_⟩⟩⟩
    · rw [r3,W1,hp,← Nat.add_assoc (prevS pre)]
      have := hd.w
      rw [hbs] at this
      exact this.free
    · refine r4.congr fun b => ?_
      rw [FF_free hz',hbs,hp]
    · rw [r5,hd1]; exact t1
    · intro x v
      rw [r5,hd1]
      show (x,v) ∈ mdel (eqI (p : Int)) d.T ↔ _
      rw [t2,hd.t]
      constructor
      · rintro ⟨⟨p',s',h1,h2,h3⟩,h4⟩
        refine ⟨p',s',h1,h2,(used_free hz' p' s').2 ⟨by rw [hbs] at h3; exact h3,fun e => h4 ?_⟩⟩
        simp only; rw [h1,hp,e]
      · rintro ⟨p',s',h1,h2,h3⟩
        obtain ⟨h4,h5⟩ := (used_free hz' p' s').1 h3
        refine ⟨⟨p',s',h1,h2,by rw [hbs]; exact h4⟩,fun e => ?_⟩
        simp only at e
        rw [h1] at e
        omega
    · rw [r6,hd1]
      show d.n - (s : Int) = _
      rw [hd.n]
      have := usedSum_free pre s post
      rw [hbs]; omega
  -- who ends there
  have prevq : ∀ F : BK → Prop,(∀ b,F b ↔ FF bs b ∧ b ≠ (((p + s : Nat) : Int),(nextS post : Int))) →
      (prevS pre = 0 ∧ ∀ b',F b' → b'.1 + b'.2 ≠ (p : Int)) ∨ (2 ≤ prevS pre ∧ prevS pre < p ∧ F (((p - prevS pre : Nat) : Int),(prevS pre : Int))) := by
    intro F hF
    rcases pre_split pre with ⟨s0,h1,h2⟩ | ⟨h1,h2,h3⟩
    · refine .inr ?_
      have hs0 : 2 ≤ s0 := z1 (s0,false) (by rw [h1]; simp)
      have hm0 : (1 + sumS (restL pre),s0,false) ∈ walk 1 bs := by
        rw [hbs]
        refine walk_three.2 (.inl ?_)
        rw [h1,walk_app,List.mem_append]
        exact .inr (by simp [walk,← h1])
      rw [h2]
      refine ⟨hs0,by omega,(hF _).2 ⟨⟨p - s0,s0,rfl,by rw [show p - s0 = 1 + sumS (restL pre) by omega]; exact hm0⟩,fun e => ?_⟩⟩
      have := congrArg Prod.fst e
      simp only at this
      omega
    · refine .inl ⟨h2,fun b' hb' e => ?_⟩
      obtain ⟨⟨q,s',rfl,hm'⟩,-⟩ := (hF _).1 hb'
      simp only at e
      rw [hbs] at hm'
      rcases walk_three.1 hm' with g | g | g
      · obtain ⟨pr,po,hpre,hq⟩ := walk_split g
        have hs' : sumS po = 0 := by
          have : sumS pre = sumS pr + (s' + sumS po) := by rw [hpre,sumS_app]; rfl
          omega
        have hpo : po = [] := by
          cases po with
          | nil => rfl
          | cons c po =>
            have := z1 c (by rw [hpre]; simp)
            simp only [sumS] at hs'
            omega
        have := h3 (s',false) (by rw [hpre,hpo]; simp)
        cases this
      · cases g
      · have := walk_bd z3 g
        simp only at this z2
        omega
  -- who lies there,behind it
  have noc : ∀ F : BK → Prop,(∀ b,F b ↔ FF bs b ∧ b ≠ (((p + s : Nat) : Int),(nextS post : Int))) → ∀ b',F b' → b'.1 ≠ (p : Int) ∧ b'.1 + b'.2 ≠ (p : Int) + ((s + nextS post : Nat) : Int) := by
    intro F hF b' hb'
    obtain ⟨⟨q,s',rfl,hm'⟩,hne⟩ := (hF _).1 hb'
    simp only
    refine ⟨fun e => ?_,fun e => ?_⟩
    · have e : q = p := by omega
      subst e
      have := walk_inj hz hm hm'
      exact absurd this.2 (by simp)
    · rcases post_split post with ⟨s0,g1,g2⟩ | ⟨g1,g2,g3⟩
      · have hm2 : (p + s,s0,false) ∈ walk 1 bs := by
          rw [hbs,hp]
          refine walk_three.2 (.inr (.inr ?_))
          rw [g1]
          simp [walk]
        have e2 := walk_einj hz hm' hm2 (by rw [g2] at e; omega)
        subst e2
        have := walk_inj hz hm' hm2
        exact hne (by rw [g2,this.1])
      · have e2 := walk_einj hz hm' hm (by rw [g2] at e; omega)
        subst e2
        have := walk_inj hz hm hm'
        exact absurd this.2 (by simp)
  -- nothing behind it that is free
  have none2 : nextS post = 0 → freeAhead X10 t (p : Int) (s : Int) (FreeQ X t d bs (p : Int) 0) := by
    intro h0
    have hF : ∀ b,FF bs b ↔ FF bs b ∧ b ≠ (((p + s : Nat) : Int),(nextS post : Int)) := by
      intro b
      refine ⟨fun hb => ⟨hb,?_⟩,fun hb => hb.1⟩
      rintro rfl
      obtain ⟨q,s',e,hm'⟩ := hb
      have := walk_bd hz hm'
      have := congrArg Prod.snd e
      simp only at this
      omega
    have hno := noc _ hF
    rw [h0] at hno
    refine free_ahead h10 ix1 (prevq _ hF) (by rw [W1]; exact b3) b1 b2 (by rw [W1]; exact hwle) hno ?_
    intro X' d' r1 r2 r3 r4 r5 r6
    refine fin X' d' r1 r2 (by rw [r3,h0,Nat.add_zero]) (r4.congr fun b => ?_) r5 r6
    rw [← hF b,h0,Nat.add_zero]
  refine ⟨fun hlt => ?_,fun hge => ?_⟩
  · have hlt := of_decide_eq_true hlt
    -- there is a block behind it
    obtain ⟨c,po,hpo⟩ : ∃ c po,post = c :: po := by
      cases post with
      | nil => simp only [sumS] at hsum; omega
      | cons c po => exact ⟨c,po,rfl⟩
    have hmc : (p + s,c.1,c.2) ∈ walk 1 bs := by
      rw [hbs,hp]
      refine walk_three.2 (.inr (.inr ?_))
      rw [hpo]
      simp [walk]
    have hh := hd.w.h _ _ _ hmc
    have hgd : d1.W.getD (p + s) 0 = AB.hd c.1 c.2 := by rw [W1]; simp [List.getD,hh]
    have hl := hd.w.bd hmc
    have hat : X10.el cI d1.hw (0 + (((p + s : Nat) : Int)).toNat) = some (AB.hd c.1 c.2) := by
      rw [Nat.zero_add,Int.toNat_natCast,at_arr_el h10.w (by rw [W1]; omega),hgd]
    have hlt2 : ((p + s : Nat) : Int) < (((⟨d1.hw,0,d1.W.length,d1.W.length⟩ : SlH).len : Nat) : Int) := by
      show _ < ((d1.W.length : Nat) : Int)
      rw [W1]; omega
    refine ⟨d1.val,h10.el,⟨d1.hw,0,d1.W.length,d1.W.length⟩,rfl,by omega,hlt2,_,hat,by decide,fun hev => ?_,fun hod => ?_⟩
    · have hc2 : c.2 = false := by
        cases hc : c.2 with
        | false => rfl
        | true =>
          exfalso
          rw [hc] at hev
          have hev : Int.tmod (2 * (c.1 : Int) + 1) 2 = 0 := by simpa [AB.hd] using hev
          rw [Int.tmod_eq_emod_of_nonneg (by omega)] at hev
          omega
      have hns : nextS post = c.1 := by
        rw [hpo]
        obtain ⟨c1,c2⟩ := c
        simp only at hc2
        subst hc2
        rfl
      refine ⟨d1.val,h10.el,⟨d1.hw,0,d1.W.length,d1.W.length⟩,rfl,by omega,hlt2,_,hat,by decide,?_⟩
      have w3 : IntKind.wrap .i64 (Int.tdiv (AB.hd c.1 c.2) 2) = (c.1 : Int) := by
        rw [hc2]
        have : AB.hd c.1 false = 2 * (c.1 : Int) := by simp [AB.hd]
        rw [this,Int.tdiv_eq_ediv_of_nonneg (by omega),wrap64 (by omega) (by omega)]; omega
      have w4 : IntKind.wrap .i64 ((s : Int) + (c.1 : Int)) = ((s + nextS post : Nat) : Int) := by rw [hns,wrap64 (by omega) (by omega)]; omega
      rw [w3,w4]
      rw [hc2] at hmc
      have hFc : FF bs (((p + s : Nat) : Int),(c.1 : Int)) := ⟨_,_,rfl,hmc⟩
      obtain ⟨ix2,hm2⟩ := ix1.lift hFc
      refine (c51 h10 ix1.lok (a := p + s) (s := c.1) (by omega) (ix1.bok hFc) hm2).mono ?_
      rintro _ X43 ⟨d2,r2,m2,e2,l2,ee2,t2,n2⟩
      show freeAhead X43 t (p : Int) ((s + nextS post : Nat) : Int) (FreeQ X t d bs (p : Int) 0)
      have ix2' : IX d2.L d2.E (fun x => FF bs x ∧ x ≠ (((p + s : Nat) : Int),(nextS post : Int))) := by rw [l2,ee2,hns]; exact ix2
      refine free_ahead r2 ix2' (prevq _ fun b => Iff.rfl) (by rw [e2,W1,hns]; omega) b1 (by omega) (by rw [e2,W1]; exact hwle) (noc _ fun b => Iff.rfl) ?_
      intro X' d' q1 q2 q3 q4 q5 q6
      exact fin X' d' q1 (m2.trans q2) (by rw [q3,e2]) q4 (by rw [q5,t2]) (by rw [q6,n2])
    · have hc2 : c.2 = true := by
        cases hc : c.2 with
        | true => rfl
        | false =>
          exfalso
          rw [hc] at hod
          simp [AB.hd] at hod
      have q := none2 (by
        rw [hpo]
        obtain ⟨c1,c2⟩ := c
        simp only at hc2
        subst hc2
        rfl)
      unfold freeAhead freeEnd at q
      rw [show W64 ((p : Int) + (s : Int)) = ((p + s : Nat) : Int) from w2] at q
      exact q
  · have hge := of_decide_eq_false hge
    have h0 : sumS post = 0 := by omega
    have q := none2 (by omega)
    unfold freeAhead freeEnd at q
    rw [show W64 ((p : Int) + (s : Int)) = ((p + s : Nat) : Int) from w2] at q
    exact q

end Go.Proofs.YtdcljlafookliaaDoor.AB

set_option maxRecDepth 100000
set_option maxHeartbeats 2000000
namespace Go.Proofs.YtdcljlafookliaaDoor.AB
open Go
noncomputable def X48 : Cx := ⟨tt,[],[],[],[],[]⟩
theorem FN48 : fnsB Tryd.prog X48.fns := (show True from trivial)
theorem E48 (X : XH) (a0 : Nat) (at1 : Int) (i2 : Int) {R : (Int × Int) → XH → Prop} (h : (∃ (a1 : ((Option SlH) × ((Nat → (Option SlH)) × ((Option Nat) × ((Option Nat) × Int))))),XH.el X yZ0 a0 0 = some a1 ∧ (∃ (es2 : List (Int × Int)),XH.vmp X (.int .i64) (.pure (.int .i64)) a1.2.2.2.1 = some es2 ∧ (∀ (v3 : Int),mfind (Cd.keq (.int .i64) at1) es2 = some v3 → (((!true) = true → R ((0:Int),(24:Int)) X) ∧
 ((!true) = false → (((decide (i2 < (0:Int))) = true → R ((0:Int),(1:Int)) X) ∧ ((decide (i2 < (0:Int))) = false → (((decide (i2 ≥ (IntKind.wrap .i64 (v3 - (1:Int))))) = true → R ((0:Int),(1:Int)) X) ∧
 ((decide (i2 ≥ (IntKind.wrap .i64 (v3 - (1:Int))))) = false → R ((IntKind.wrap .i64 ((IntKind.wrap .i64 (at1 + (1:Int))) + i2)),(0:Int)) X))))))) ∧ (mfind (Cd.keq (.int .i64) at1) es2 = none → (((!false) = true → R ((0:Int),(24:Int)) X) ∧
 ((!false) = false → (((decide (i2 < (0:Int))) = true → R ((0:Int),(1:Int)) X) ∧ ((decide (i2 < (0:Int))) = false → (((decide (i2 ≥ (IntKind.wrap .i64 ((0:Int) - (1:Int))))) = true → R ((0:Int),(1:Int)) X) ∧
 ((decide (i2 ≥ (IntKind.wrap .i64 ((0:Int) - (1:Int))))) = false → R ((IntKind.wrap .i64 ((IntKind.wrap .i64 (at1 + (1:Int))) + i2)),(0:Int)) X)))))))))) :
  fnK X48.tt (callN Tryd.prog X48 0) (X48.md 48) (X48.mk1 48) Tryd.f48 [(.ref (some a0) yZ0 0 []),(.v (.int .i64 at1)),(.v (.int .i64 i2))] ⟨[],[some (.heap X)],⟨0,[]⟩⟩ (xfin [(.pure (.int .i64)),(.pure (.int .i64))] R) := Eq.mp (by kernel_rfl) h
end Go.Proofs.YtdcljlafookliaaDoor.AB

set_option maxRecDepth 100000
set_option maxHeartbeats 2000000
namespace Go.Proofs.YtdcljlafookliaaDoor.AB
open Go
noncomputable def X35 : Cx := ⟨tt,[],[(48,[(.pure (.int .i64)),(.pure (.int .i64))])],[(35,[(1,3,.rd)])],[],[]⟩
theorem FN35 : fnsB Tryd.prog X35.fns := (show True from trivial)
theorem E35 (X : XH) (a0 : Nat) (at1 : Int) (i2 : Int) {R : (Int × Int) → XH → Prop} (h : (∃ (p1 : Int × Int),RC Tryd.prog 48 [(.pure (.int .i64)),(.pure (.int .i64))] [(.ref (some a0) yZ0 0 []),(.v (.int .i64 at1)),(.v (.int .i64 i2))] X p1 ∧ (∃ (a2 : ((Option SlH) × ((Nat → (Option SlH)) × ((Option Nat) × ((Option Nat) × Int))))),XH.el X yZ0 a0 0 = some a2 ∧ (∃ (u3 : SlH),a2.1 = some u3 ∧ 0 ≤ p1.1 ∧ p1.1 < ((u3.len : Nat) : Int) ∧ (∃ (a4 : Int),XH.el X (.pure (.int .i64)) u3.h ((u3.off + (p1.1).toNat)) = some a4 ∧ R (a4,p1.2) X))))) :
 fnK X35.tt (callN Tryd.prog X35 0) (X35.md 35) (X35.mk1 35) Tryd.f35 [(.ref (some a0) yZ0 0 []),(.v (.int .i64 at1)),(.v (.int .i64 i2))] ⟨[],[some (.heap X)],⟨0,[]⟩⟩ (xfin [(.pure (.int .i64)),(.pure (.int .i64))] R) := Eq.mp (by kernel_rfl) h
end Go.Proofs.YtdcljlafookliaaDoor.AB

set_option maxRecDepth 100000
set_option maxHeartbeats 2000000
namespace Go.Proofs.YtdcljlafookliaaDoor.AB
open Go
noncomputable def X31 : Cx := ⟨tt,[],[(48,[(.pure (.int .i64)),(.pure (.int .i64))])],[(31,[(1,3,.rd)])],[],[]⟩
theorem FN31 : fnsB Tryd.prog X31.fns := (show True from trivial)
theorem E31 (X : XH) (a0 : Nat) (at1 : Int) (i2 : Int) (v3 : Int) {R : (Int) → XH → Prop} (h : (∃ (p1 : Int × Int),RC Tryd.prog 48 [(.pure (.int .i64)),(.pure (.int .i64))] [(.ref (some a0) yZ0 0 []),(.v (.int .i64 at1)),(.v (.int .i64 i2))] X p1 ∧ (((p1.2 == (0:Int)) = true → (∃ (a2 : ((Option SlH) × ((Nat → (Option SlH)) × ((Option Nat) × ((Option Nat) × Int))))),XH.el X yZ0 a0 0 = some a2 ∧ (∃ (u3 : SlH),a2.1 = some u3 ∧ 0 ≤ p1.1 ∧ p1.1 < ((u3.len : Nat) : Int) ∧ (∃ (a4 : Int),XH.el X (.pure (.int .i64)) u3.h ((u3.off + (p1.1).toNat)) = some a4 ∧ (∀ (X5 : XH),X5 = (XH.setEl X (.pure (.int .i64)) u3.h ((u3.off + (p1.1).toNat)) v3) → R p1.2 X5))))) ∧
 ((p1.2 == (0:Int)) = false → R p1.2 X)))) :
  fnK X31.tt (callN Tryd.prog X31 0) (X31.md 31) (X31.mk1 31) Tryd.f31 [(.ref (some a0) yZ0 0 []),(.v (.int .i64 at1)),(.v (.int .i64 i2)),(.v (.int .i64 v3))] ⟨[],[some (.heap X)],⟨0,[]⟩⟩ (xfin [(.pure (.int .i64))] R) := Eq.mp (by kernel_rfl) h
end Go.Proofs.YtdcljlafookliaaDoor.AB

set_option maxRecDepth 100000
set_option maxHeartbeats 2000000
namespace Go.Proofs.YtdcljlafookliaaDoor.AB
open Go
noncomputable def X41 : Cx := ⟨tt,[],[],[],[],[]⟩
theorem FN41 : fnsB Tryd.prog X41.fns := (show True from trivial)
theorem E41 (X : XH) (a0 : Nat) {R : (Int × Int) → XH → Prop} (h : (∃ (a1 : ((Option SlH) × ((Nat → (Option SlH)) × ((Option Nat) × ((Option Nat) × Int))))),XH.el X yZ0 a0 0 = some a1 ∧ (∃ (a2 : ((Option SlH) × ((Nat → (Option SlH)) × ((Option Nat) × ((Option Nat) × Int))))),XH.el X yZ0 a0 0 = some a2 ∧ (∃ (a3 : ((Option SlH) × ((Nat → (Option SlH)) × ((Option Nat) × ((Option Nat) × Int))))),XH.el X yZ0 a0 0 = some a3 ∧ R (a1.2.2.2.2,(IntKind.wrap .i64 ((IntKind.wrap .i64 ((((slN a2.1) : Nat) : Int) - (1:Int))) - a3.2.2.2.2))) X)))) :
 fnK X41.tt (callN Tryd.prog X41 0) (X41.md 41) (X41.mk1 41) Tryd.f41 [(.ref (some a0) yZ0 0 [])] ⟨[],[some (.heap X)],⟨0,[]⟩⟩ (xfin [(.pure (.int .i64)),(.pure (.int .i64))] R) := Eq.mp (by kernel_rfl) h
end Go.Proofs.YtdcljlafookliaaDoor.AB

set_option maxRecDepth 100000
set_option maxHeartbeats 2000000
namespace Go.Proofs.YtdcljlafookliaaDoor.AB
open Go
noncomputable def X44 : Cx := ⟨tt,[],[],[],[],[]⟩
theorem FN44 : fnsB Tryd.prog X44.fns := (show True from trivial)
theorem E44 (X : XH) (a0 : Nat) (i1 : Int) {R : (Int × Bool) → XH → Prop} (h : (((decide (i1 < (0:Int))) = true → R ((0:Int),false) X) ∧ ((decide (i1 < (0:Int))) = false → (∃ (a1 : ((Option SlH) × ((Nat → (Option SlH)) × ((Option Nat) × ((Option Nat) × Int))))),XH.el X yZ0 a0 0 = some a1 ∧ (((decide (i1 ≥ (((slN a1.1) : Nat) : Int))) = true → R ((0:Int),false) X) ∧
 ((decide (i1 ≥ (((slN a1.1) : Nat) : Int))) = false → (∃ (a2 : ((Option SlH) × ((Nat → (Option SlH)) × ((Option Nat) × ((Option Nat) × Int))))),XH.el X yZ0 a0 0 = some a2 ∧ (∃ (u3 : SlH),a2.1 = some u3 ∧ 0 ≤ i1 ∧ i1 < ((u3.len : Nat) : Int) ∧ (∃ (a4 : Int),XH.el X (.pure (.int .i64)) u3.h ((u3.off + (i1).toNat)) = some a4 ∧ R (a4,true) X))))))))) :
  fnK X44.tt (callN Tryd.prog X44 0) (X44.md 44) (X44.mk1 44) Tryd.f44 [(.ref (some a0) yZ0 0 []),(.v (.int .i64 i1))] ⟨[],[some (.heap X)],⟨0,[]⟩⟩ (xfin [(.pure (.int .i64)),(.pure .bool)] R) := Eq.mp (by kernel_rfl) h
end Go.Proofs.YtdcljlafookliaaDoor.AB

set_option maxRecDepth 100000
set_option maxHeartbeats 2000000
namespace Go.Proofs.YtdcljlafookliaaDoor.AB
open Go
noncomputable def X38 : Cx := ⟨tt,[],[(50,[(.pure (.pair (.int .i64) (.int .i64))),(.pure .bool)])],[(38,[(1,2,.rd)])],[],[]⟩
theorem FN38 : fnsB Tryd.prog X38.fns := (show True from trivial)
theorem E38 (X : XH) (a0 : Nat) (n1 : Int) {R : (Bool) → XH → Prop} (h : (∃ (p1 : (Int × Int) × Bool),RC Tryd.prog 50 [(.pure (.pair (.int .i64) (.int .i64))),(.pure .bool)] [(.ref (some a0) yZ0 0 []),(.v (.int .i64 n1))] X p1 ∧ R p1.2 X)) :
 fnK X38.tt (callN Tryd.prog X38 0) (X38.md 38) (X38.mk1 38) Tryd.f38 [(.ref (some a0) yZ0 0 []),(.v (.int .i64 n1))] ⟨[],[some (.heap X)],⟨0,[]⟩⟩ (xfin [(.pure .bool)] R) := Eq.mp (by kernel_rfl) h
end Go.Proofs.YtdcljlafookliaaDoor.AB

