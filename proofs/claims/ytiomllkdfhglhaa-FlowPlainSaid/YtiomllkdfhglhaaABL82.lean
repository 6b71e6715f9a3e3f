/- Parts of the proof: what functions of the program compute, on plain values. -/
import Derived.Test.YtiomllkdfhglhaaABL81
import Derived.Test.YtiomllkdfhglhaaProg
import Derived.KernelRfl
import Derived.Test.YtiomllkdfhglhaaABc2
set_option linter.unusedVariables false
set_option linter.unusedSimpArgs false
namespace Go.Proofs.Ytiomllkdfhglhaa.AB
open Go

/-! crucible/cruciblelaw8.FlowCovers -/
noncomputable def X3 : Cx := ⟨tt, [(12, [.cd .bool]), (13, [.cd (.slice (.pair (.int .i64) (.pair (.int .i64) (.pair (.int .i64) (.pair (.slice (.int .i64)) (.slice (.int .i64))))))), .cd (.int .i64)]), (14, [.cd (.slice (.slice (.int .i64))), .cd (.int .i64)]), (15, [.cd (.slice (.int .i64))])], [], [(3, [(0, mkM 166 0 [1, 5, 6, 8, 10, 11], 0), (2, mkM 166 0 [1, 5, 6, 8, 10, 11, 12], 0), (4, mkM 166 0 [1, 5, 6, 8, 10, 11, 12, 13, 14], 0)])], []⟩
theorem FN3 : fnsB Try.prog X3.fns := (show True from trivial)
def M3_0 : List Bool × Nat := (mkM 166 0 [1, 5, 6, 8, 10, 11], 0)
def S3_0 (handlers1 : List (Int × (Int × (Int × Int)))) (head5 : Bool) (l6 : List (Int × (Int × (Int × ((List Int) × (List Int)))))) (cover8 : List (List Int)) (at10 : List Int) (k11 : Int) (T : Toks) : St :=
  mkS 166 [(1, (.v (.list (.pair (.int .i64) (.pair (.int .i64) (.pair (.int .i64) (.int .i64)))) handlers1 .no))), (5, (.v (.bool head5))), (6, (.v (.list (.pair (.int .i64) (.pair (.int .i64) (.pair (.int .i64) (.pair (.slice (.int .i64)) (.slice (.int .i64)))))) l6 .no))), (8, (.v (.list (.slice (.int .i64)) cover8 .no))), (10, (.v (.list (.int .i64) at10 .no))), (11, (.v (.int .i64 k11)))] [] T
noncomputable def B3_0 : (Exit → St → Prop) → St → Prop := (awp X3.tt (callN Try.prog X3 0) (X3.md 3) 0 (X3.mk1 3) 0 (codeAt [1, 1, 1, 1, 1, 1, 1, 1, 0, 1, 0, 0] (bd Try.f3)))
def M3_2 : List Bool × Nat := (mkM 166 0 [1, 5, 6, 8, 10, 11, 12], 0)
def S3_2 (handlers1 : List (Int × (Int × (Int × Int)))) (head5 : Bool) (l6 : List (Int × (Int × (Int × ((List Int) × (List Int)))))) (cover8 : List (List Int)) (at10 : List Int) (k11 : Int) (i12 : Int) (T : Toks) : St :=
  mkS 166 [(1, (.v (.list (.pair (.int .i64) (.pair (.int .i64) (.pair (.int .i64) (.int .i64)))) handlers1 .no))), (5, (.v (.bool head5))), (6, (.v (.list (.pair (.int .i64) (.pair (.int .i64) (.pair (.int .i64) (.pair (.slice (.int .i64)) (.slice (.int .i64)))))) l6 .no))), (8, (.v (.list (.slice (.int .i64)) cover8 .no))), (10, (.v (.list (.int .i64) at10 .no))), (11, (.v (.int .i64 k11))), (12, (.v (.int .i64 i12)))] [] T
noncomputable def B3_2 : (Exit → St → Prop) → St → Prop := (awp X3.tt (callN Try.prog X3 0) (X3.md 3) 0 (X3.mk1 3) 2 (codeAt [1, 1, 1, 1, 1, 1, 1, 1, 0, 1, 0, 0, 1, 0, 0, 1, 1, 0, 0] (bd Try.f3)))
def M3_4 : List Bool × Nat := (mkM 166 0 [1, 5, 6, 8, 10, 11, 12, 13, 14], 0)
def S3_4 (handlers1 : List (Int × (Int × (Int × Int)))) (head5 : Bool) (l6 : List (Int × (Int × (Int × ((List Int) × (List Int)))))) (cover8 : List (List Int)) (at10 : List Int) (k11 : Int) (i12 : Int) (n13 : Int) (j14 : Int) (T : Toks) : St :=
  mkS 166 [(1, (.v (.list (.pair (.int .i64) (.pair (.int .i64) (.pair (.int .i64) (.int .i64)))) handlers1 .no))), (5, (.v (.bool head5))), (6, (.v (.list (.pair (.int .i64) (.pair (.int .i64) (.pair (.int .i64) (.pair (.slice (.int .i64)) (.slice (.int .i64)))))) l6 .no))), (8, (.v (.list (.slice (.int .i64)) cover8 .no))), (10, (.v (.list (.int .i64) at10 .no))), (11, (.v (.int .i64 k11))), (12, (.v (.int .i64 i12))), (13, (.v (.int .i64 n13))), (14, (.v (.int .i64 j14)))] [] T
noncomputable def B3_4 : (Exit → St → Prop) → St → Prop := (awp X3.tt (callN Try.prog X3 0) (X3.md 3) 0 (X3.mk1 3) 4 (codeAt [1, 1, 1, 1, 1, 1, 1, 1, 0, 1, 0, 0, 1, 0, 0, 1, 1, 0, 0, 1, 0, 0, 1, 0, 1, 0, 0] (bd Try.f3)))
noncomputable def K3_0 (R : V → Prop) : Exit → St → Prop := seqK ((awp X3.tt (callN Try.prog X3 0) (X3.md 3) 0 (X3.mk1 3) 0 (codeAt [1, 1, 1, 1, 1, 1, 1, 1, 1] (bd Try.f3))) (retK tt Try.f3.results.toList fun x s' => topK R x ⟨[], s'.hp, s'.T⟩)) (retK tt Try.f3.results.toList fun x s' => topK R x ⟨[], s'.hp, s'.T⟩)
noncomputable def Q3_0 (R : V → Prop) : Exit → St → Prop := (blockK 0 (K3_0 R))
noncomputable def K3_1 (R : V → Prop) (k0 : St → Prop) : Exit → St → Prop := seqK ((awp X3.tt (callN Try.prog X3 0) (X3.md 3) 0 (X3.mk1 3) 0 (codeAt [1, 1, 1, 1, 1, 1, 1, 1, 0, 1, 0, 0, 1, 1] (bd Try.f3))) (loopQ M3_0 k0 (blockK 0 (K3_0 R)))) (loopQ M3_0 k0 (blockK 0 (K3_0 R)))
noncomputable def Q3_2 (R : V → Prop) (k0 : St → Prop) : Exit → St → Prop := (blockK 2 (blockK 1 (K3_1 R k0)))
noncomputable def K3_2 (R : V → Prop) (k0 : St → Prop) (k2 : St → Prop) : Exit → St → Prop := seqK ((awp X3.tt (callN Try.prog X3 0) (X3.md 3) 0 (X3.mk1 3) 2 (codeAt [1, 1, 1, 1, 1, 1, 1, 1, 0, 1, 0, 0, 1, 0, 0, 1, 1, 0, 0, 1, 1] (bd Try.f3))) (loopQ M3_2 k2 (blockK 2 (blockK 1 (K3_1 R k0))))) (loopQ M3_2 k2 (blockK 2 (blockK 1 (K3_1 R k0))))
noncomputable def K3_3 (R : V → Prop) (k0 : St → Prop) (k2 : St → Prop) : Exit → St → Prop := seqK ((awp X3.tt (callN Try.prog X3 0) (X3.md 3) 0 (X3.mk1 3) 3 (codeAt [1, 1, 1, 1, 1, 1, 1, 1, 0, 1, 0, 0, 1, 0, 0, 1, 1, 0, 0, 1, 0, 0, 1, 1] (bd Try.f3))) (blockK 3 (K3_2 R k0 k2))) (blockK 3 (K3_2 R k0 k2))
noncomputable def Q3_4 (R : V → Prop) (k0 : St → Prop) (k2 : St → Prop) : Exit → St → Prop := (blockK 4 (K3_3 R k0 k2))
theorem E3 (s0 : (List UInt8)) (handlers1 : (List (Int × (Int × (Int × Int))))) {R : V → Prop} (h : (∃ p1 : Bool, PC Try.prog 12 [] (.bool p1) ∧ (((!p1) = true → R (.bool false)) ∧
 ((!p1) = false → (∃ p2 : (List (Int × (Int × (Int × ((List Int) × (List Int)))))) × Int, PC Try.prog 13 [(.str s0)] ((.tup [(.list (.pair (.int .i64) (.pair (.int .i64) (.pair (.int .i64) (.pair (.slice (.int .i64)) (.slice (.int .i64)))))) p2.1 .no), (.int .i64 p2.2)])) ∧ (((p2.2 != (0 : Int)) = true → R (.bool p1)) ∧ ((p2.2 != (0 : Int)) = false → (((decide (((p2.1).length : Int) > (600 : Int))) = true → R (.bool p1)) ∧ ((decide (((p2.1).length : Int) > (600 : Int))) = false → (((decide (((handlers1).length : Int) > (40 : Int))) = true → R (.bool p1)) ∧
 ((decide (((handlers1).length : Int) > (40 : Int))) = false → (∃ p3 : (List (List Int)) × Int, PC Try.prog 14 [(.list (.pair (.int .i64) (.pair (.int .i64) (.pair (.int .i64) (.pair (.slice (.int .i64)) (.slice (.int .i64)))))) p2.1 .no), (.int .i64 (((s0).length : Int))), (.list (.pair (.int .i64) (.pair (.int .i64) (.pair (.int .i64) (.int .i64)))) handlers1 .no)] ((.tup [(.list (.slice (.int .i64)) p3.1 .no), (.int .i64 p3.2)])) ∧ (∃ p4 : (List Int), PC Try.prog 15 [(.list (.pair (.int .i64) (.pair (.int .i64) (.pair (.int .i64) (.pair (.slice (.int .i64)) (.slice (.int .i64)))))) p2.1 .no), (.list (.pair (.int .i64) (.pair (.int .i64) (.pair (.int .i64) (.int .i64)))) handlers1 .no)] ((.list (.int .i64) p4 .no)) ∧ (((p3.2 != (0 : Int)) = true → ((p1 = true → R (.bool ((((p3.1).length : Int) == (0 : Int))))) ∧ (p1 = false → R (.bool false)))) ∧
 ((p3.2 != (0 : Int)) = false → (Loops B3_0 M3_0 (Q3_0 R)
  (S3_0 handlers1 p1 p2.1 p3.1 p4 (0 : Int) ⟨0, []⟩))))))))))))))))) :
  fnK X3.tt (callN Try.prog X3 0) (X3.md 3) (X3.mk1 3) Try.f3 [(.v (.str s0)), (.v (.list (.pair (.int .i64) (.pair (.int .i64) (.pair (.int .i64) (.int .i64)))) handlers1 .no))] ⟨[], [], ⟨0, []⟩⟩ (topK R) := Eq.mp (by kernel_rfl) h
theorem L3_0 (handlers1 : List (Int × (Int × (Int × Int)))) (head5 : Bool) (l6 : List (Int × (Int × (Int × ((List Int) × (List Int)))))) (cover8 : List (List Int)) (at10 : List Int) (k11 : Int) (T : Toks) {R : V → Prop} {k0 : St → Prop}
 (h : (((decide (k11 < ((handlers1).length : Int))) = true → (0 ≤ k11 ∧ k11 < ((at10).length : Int) ∧ (((decide ((at10.getD (k11).toNat 0) < (0 : Int))) = true → R (.bool false)) ∧ ((decide ((at10.getD (k11).toNat 0) < (0 : Int))) = false → (0 ≤ k11 ∧ k11 < ((at10).length : Int) ∧ (((decide ((at10.getD (k11).toNat 0) ≥ ((l6).length : Int))) = true → R (.bool false)) ∧ ((decide ((at10.getD (k11).toNat 0) ≥ ((l6).length : Int))) = false → (0 ≤ k11 ∧ k11 < ((at10).length : Int) ∧ (0 ≤ (at10.getD (k11).toNat 0) ∧ (at10.getD (k11).toNat 0) < ((l6).length : Int) ∧ (0 ≤ k11 ∧ k11 < ((handlers1).length : Int) ∧ ((((l6.getD ((at10.getD (k11).toNat 0)).toNat (0, (0, (0, ([], []))))).1 != (handlers1.getD (k11).toNat (0, (0, (0, 0)))).2.2.1) = true → R (.bool false)) ∧
 (((l6.getD ((at10.getD (k11).toNat 0)).toNat (0, (0, (0, ([], []))))).1 != (handlers1.getD (k11).toNat (0, (0, (0, 0)))).2.2.1) = false → (Loops B3_2 M3_2 (Q3_2 R k0)
  (S3_2 handlers1 head5 l6 cover8 at10 k11 (0 : Int) T)))))))))))))) ∧
 ((decide (k11 < ((handlers1).length : Int))) = false → R (.bool head5)))) :
  B3_0 (loopQ M3_0 k0 (Q3_0 R)) (S3_0 handlers1 head5 l6 cover8 at10 k11 T) := Eq.mp (by kernel_rfl) h
theorem L3_2 (handlers1 : List (Int × (Int × (Int × Int)))) (head5 : Bool) (l6 : List (Int × (Int × (Int × ((List Int) × (List Int)))))) (cover8 : List (List Int)) (at10 : List Int) (k11 : Int) (i12 : Int) (T : Toks) {R : V → Prop} {k0 : St → Prop} {k2 : St → Prop}
 (h : (((decide (i12 < ((l6).length : Int))) = true → (Loops B3_4 M3_4 (Q3_4 R k0 k2)
  (S3_4 handlers1 head5 l6 cover8 at10 k11 i12 (0 : Int) (0 : Int) T))) ∧
 ((decide (i12 < ((l6).length : Int))) = false → k0 (S3_0 handlers1 head5 l6 cover8 at10 ((IntKind.wrap .i64 (k11 + (1 : Int)))) T)))) :
  B3_2 (loopQ M3_2 k2 (Q3_2 R k0)) (S3_2 handlers1 head5 l6 cover8 at10 k11 i12 T) := Eq.mp (by kernel_rfl) h
theorem L3_4 (handlers1 : List (Int × (Int × (Int × Int)))) (head5 : Bool) (l6 : List (Int × (Int × (Int × ((List Int) × (List Int)))))) (cover8 : List (List Int)) (at10 : List Int) (k11 : Int) (i12 : Int) (n13 : Int) (j14 : Int) (T : Toks) {R : V → Prop} {k0 : St → Prop} {k2 : St → Prop} {k4 : St → Prop}
 (h : (0 ≤ i12 ∧ i12 < ((cover8).length : Int) ∧ (((decide (j14 < (((cover8.getD (i12).toNat [])).length : Int))) = true → (0 ≤ i12 ∧ i12 < ((cover8).length : Int) ∧ (0 ≤ j14 ∧ j14 < (((cover8.getD (i12).toNat [])).length : Int) ∧ ((((((cover8.getD (i12).toNat [])).getD (j14).toNat 0) == k11) = true → (((decide (j14 > (0 : Int))) = true → (0 ≤ i12 ∧ i12 < ((cover8).length : Int) ∧ (0 ≤ j14 ∧ j14 < (((cover8.getD (i12).toNat [])).length : Int) ∧ (0 ≤ i12 ∧ i12 < ((cover8).length : Int) ∧ (0 ≤ (IntKind.wrap .i64 (j14 - (1 : Int))) ∧ (IntKind.wrap .i64 (j14 - (1 : Int))) < (((cover8.getD (i12).toNat [])).length : Int) ∧ (((decide ((((cover8.getD (i12).toNat [])).getD (j14).toNat 0) ≤ (((cover8.getD (i12).toNat [])).getD ((IntKind.wrap .i64 (j14 - (1 : Int)))).toNat 0))) = true → R (.bool false)) ∧
 ((decide ((((cover8.getD (i12).toNat [])).getD (j14).toNat 0) ≤ (((cover8.getD (i12).toNat [])).getD ((IntKind.wrap .i64 (j14 - (1 : Int)))).toNat 0))) = false → k4 (S3_4 handlers1 head5 l6 cover8 at10 k11 i12 ((IntKind.wrap .i64 (n13 + (1 : Int)))) ((IntKind.wrap .i64 (j14 + (1 : Int)))) T)))))))) ∧ ((decide (j14 > (0 : Int))) = false → k4 (S3_4 handlers1 head5 l6 cover8 at10 k11 i12 ((IntKind.wrap .i64 (n13 + (1 : Int)))) ((IntKind.wrap .i64 (j14 + (1 : Int)))) T)))) ∧
 (((((cover8.getD (i12).toNat [])).getD (j14).toNat 0) == k11) = false → (((decide (j14 > (0 : Int))) = true → (0 ≤ i12 ∧ i12 < ((cover8).length : Int) ∧ (0 ≤ j14 ∧ j14 < (((cover8.getD (i12).toNat [])).length : Int) ∧ (0 ≤ i12 ∧ i12 < ((cover8).length : Int) ∧ (0 ≤ (IntKind.wrap .i64 (j14 - (1 : Int))) ∧ (IntKind.wrap .i64 (j14 - (1 : Int))) < (((cover8.getD (i12).toNat [])).length : Int) ∧ (((decide ((((cover8.getD (i12).toNat [])).getD (j14).toNat 0) ≤ (((cover8.getD (i12).toNat [])).getD ((IntKind.wrap .i64 (j14 - (1 : Int)))).toNat 0))) = true → R (.bool false)) ∧
 ((decide ((((cover8.getD (i12).toNat [])).getD (j14).toNat 0) ≤ (((cover8.getD (i12).toNat [])).getD ((IntKind.wrap .i64 (j14 - (1 : Int)))).toNat 0))) = false → k4 (S3_4 handlers1 head5 l6 cover8 at10 k11 i12 n13 ((IntKind.wrap .i64 (j14 + (1 : Int)))) T)))))))) ∧ ((decide (j14 > (0 : Int))) = false → k4 (S3_4 handlers1 head5 l6 cover8 at10 k11 i12 n13 ((IntKind.wrap .i64 (j14 + (1 : Int)))) T)))))))) ∧
 ((decide (j14 < (((cover8.getD (i12).toNat [])).length : Int))) = false → (0 ≤ i12 ∧ i12 < ((l6).length : Int) ∧ (0 ≤ k11 ∧ k11 < ((handlers1).length : Int) ∧ (((decide ((l6.getD (i12).toNat (0, (0, (0, ([], []))))).1 ≥ (handlers1.getD (k11).toNat (0, (0, (0, 0)))).1)) = true → (0 ≤ i12 ∧ i12 < ((l6).length : Int) ∧ (0 ≤ k11 ∧ k11 < ((handlers1).length : Int) ∧ (((decide ((l6.getD (i12).toNat (0, (0, (0, ([], []))))).1 < (handlers1.getD (k11).toNat (0, (0, (0, 0)))).2.1)) = true → (((n13 != (1 : Int)) = true → R (.bool false)) ∧
 ((n13 != (1 : Int)) = false → k2 (S3_2 handlers1 head5 l6 cover8 at10 k11 ((IntKind.wrap .i64 (i12 + (1 : Int)))) T)))) ∧
 ((decide ((l6.getD (i12).toNat (0, (0, (0, ([], []))))).1 < (handlers1.getD (k11).toNat (0, (0, (0, 0)))).2.1)) = false → (((n13 != (0 : Int)) = true → R (.bool false)) ∧
 ((n13 != (0 : Int)) = false → k2 (S3_2 handlers1 head5 l6 cover8 at10 k11 ((IntKind.wrap .i64 (i12 + (1 : Int)))) T)))))))) ∧ ((decide ((l6.getD (i12).toNat (0, (0, (0, ([], []))))).1 ≥ (handlers1.getD (k11).toNat (0, (0, (0, 0)))).1)) = false → (((n13 != (0 : Int)) = true → R (.bool false)) ∧
 ((n13 != (0 : Int)) = false → k2 (S3_2 handlers1 head5 l6 cover8 at10 k11 ((IntKind.wrap .i64 (i12 + (1 : Int)))) T))))))))))) :
  B3_4 (loopQ M3_4 k4 (Q3_4 R k0 k2)) (S3_4 handlers1 head5 l6 cover8 at10 k11 i12 n13 j14 T) := Eq.mp (by kernel_rfl) h

end Go.Proofs.Ytiomllkdfhglhaa.AB

set_option linter.unusedVariables false
set_option linter.unusedSimpArgs false
namespace Go.Proofs.Ytiomllkdfhglhaa.AB
open Go

def L12 : List Ins := [(0, (4, (0, ([], [])))), (2, (21, (0, ([], [6])))), (5, (44, (0, ([], [])))), (6, (20, (0, ([], [0]))))]

theorem p12 : PC Try.prog 12 [] (.bool true) := by
  have hdec : decodeI [4, 0, 21, 0, 4, 44, 20, 255, 250] = (L12, 0) := by kernel_rfl
  have hsucc : succL L12 = [[1], [2, 3], [], [0]] := by kernel_rfl
  have hback : backI L12 = [false, false, false, true] := by kernel_rfl
  have c1 : coverAll L12 9 [(0, (5, (5, 0)))] = ([[0], [0], [], []], 0) := by kernel_rfl
  have c2 : coverAll L12 9 [(1, (5, (5, 0)))] = ([], 12) := by kernel_rfl
  have c3 : (coverAll L12 9 [(0, (9, (5, 0)))]).2 = 0 := by kernel_rfl
  have c4 : (coverAll L12 9 [(0, (8, (5, 0)))]).2 = 12 := by kernel_rfl
  have hd : L12.Pairwise (fun a b => a.1 < b.1) := by decide
  have ht : ∀ x ∈ L12, x.2.2.2.2.length ≤ 1000000 := by decide
  have hl : L12.length = 4 := rfl
  refine pcOf (X := X12) (d := 0) rfl trivial (by kernel_rfl) (by decide) (E12 ⟨decodeI _, p13 _, ?_⟩)
  rw [hdec]
  simp only [Bool.not_true, Bool.not_false, Bool.true_eq_false, Bool.false_eq_true, forall_const, false_implies, true_implies, and_true, true_and, eq_self, implies_true, Nat.zero_add, Int.toNat_natCast, List.take_length, decide_eq_true_eq, decide_eq_false_iff_not, beq_iff_eq, beq_eq_false_iff_ne, bne_iff_ne, bne_eq_false_iff_eq, ne_eq, Bool.not_eq_true', Bool.not_eq_false', Int.not_le, Int.not_lt, List.length_cons, List.length_nil, List.length_append, Nat.add_zero, List.drop_zero, hl, not_true_eq_false]
  refine ⟨fun h => absurd rfl h, fun _ => ⟨_, p26 L12 (by omega) ht hd, _, p25 _ _ (by rw [hsucc]; decide) (by rw [hsucc]; decide), _, p34 L12 (by omega) ht, _, p33 _ _ (by rw [hback]; decide), coverAll L12 9 [(0, (5, (5, 0)))], p14 _ _ _ (by omega) (by decide) hd, ?_⟩⟩
  rw [c1, hsucc, hback]
  refine ⟨_, p25 _ _ (by decide) (by decide), coverAll L12 9 [(1, (5, (5, 0)))], p14 _ _ _ (by omega) (by decide) hd, coverAll L12 9 [(0, (9, (5, 0)))], p14 _ _ _ (by omega) (by decide) hd, coverAll L12 9 [(0, (8, (5, 0)))], p14 _ _ _ (by omega) (by decide) hd, ?_⟩
  rw [c2, c3, c4]
  simp
  exact ⟨rfl, rfl⟩

theorem coverI_pw (hs : List Hd) (pc : Int) : (coverI hs pc).Pairwise (· < ·) := by
  unfold coverI coverN
  rw [List.pairwise_map]
  refine List.Pairwise.imp (fun {a b} h => by omega) ((List.pairwise_lt_range).filter _)

theorem coverI_mem (hs : List Hd) (pc : Int) (k : Nat) : (k : Int) ∈ coverI hs pc ↔ k < hs.length ∧ (hs.getD k (0, (0, (0, 0)))).1 ≤ pc ∧ pc < (hs.getD k (0, (0, (0, 0)))).2.1 := by
  unfold coverI coverN
  simp only [List.mem_map, List.mem_filter, List.mem_range, Bool.and_eq_true, decide_eq_true_eq]
  constructor
  · rintro ⟨a, h, e⟩
    have : a = k := by omega
    subst this; exact h
  · intro h; exact ⟨k, h, rfl⟩

theorem count_pw {l : List Int} (h : l.Pairwise (· < ·)) {x : Int} (hx : x ∈ l) : l.count x = 1 := by
  induction l with
  | nil => cases hx
  | cons a l ih =>
    rw [List.pairwise_cons] at h
    rw [List.count_cons]
    by_cases e : a = x
    · subst e
      have : l.count a = 0 := List.count_eq_zero.2 fun h' => by have := h.1 a h'; omega
      rw [this]; simp
    · rcases List.mem_cons.1 hx with rfl | hx
      · exact absurd rfl e
      · rw [ih h.2 hx]; simp [e]

theorem coverI_count (hs : List Hd) (pc : Int) (k : Nat) (hk : k < hs.length) : (coverI hs pc).count (k : Int) = if hs[k].1 ≤ pc ∧ pc < hs[k].2.1 then 1 else 0 := by
  have hm := coverI_mem hs pc k
  rw [getD_lt hk] at hm
  split
  · rename_i h
    exact count_pw (coverI_pw hs pc) (hm.2 ⟨hk, h⟩)
  · rename_i h
    exact List.count_eq_zero.2 fun h' => h (hm.1 h').2

theorem p3 (s : List UInt8) (hs : List Hd) : PC Try.prog 3 [.str s, .list cH hs .no] (.bool true) := by
  refine pcOf (X := X3) (d := 0) rfl trivial (by kernel_rfl) (by decide) (E3 s hs ⟨_, p12, ?_⟩)
  simp only [Bool.not_true, Bool.not_false, Bool.true_eq_false, Bool.false_eq_true, forall_const, false_implies, true_implies, and_true, true_and, eq_self, implies_true, Nat.zero_add, Int.toNat_natCast, List.take_length, decide_eq_true_eq, decide_eq_false_iff_not, beq_iff_eq, beq_eq_false_iff_ne, bne_iff_ne, bne_eq_false_iff_eq, ne_eq, Bool.not_eq_true', Bool.not_eq_false', Int.not_le, Int.not_lt, List.length_cons, List.length_nil, List.length_append, Nat.add_zero, List.drop_zero]
  refine ⟨decodeI s, p13 s, fun h => retB rfl, fun h0 => ⟨fun h => retB rfl, fun h1 => ⟨fun h => retB rfl, fun h2 => ?_⟩⟩⟩
  generalize hdec : decodeI s = q at *
  obtain ⟨l, e⟩ := q
  have h0 : e = 0 := by simpa using h0
  subst h0
  simp only at h1 ⊢
  have C := decodeI_ok hdec
  have hl : l.length ≤ 1000000 := by omega
  have hh : hs.length ≤ 1000000 := by omega
  have ht : ∀ x ∈ l, x.2.2.2.2.length ≤ 1000000 := fun x hx => by have := C.tos x hx; omega
  refine ⟨_, p14 l _ hs hl hh C.inc, _, p15 l hs (by omega) hh, ?_⟩
  by_cases hbad : hs.any (badH l s.length) = true
  · have : coverAll l s.length hs = ([], 12) := by unfold coverAll; rw [if_pos hbad]
    rw [this]
    exact ⟨fun h => retB rfl, fun h => absurd h (by simp)⟩
  have hcov : coverAll l s.length hs = (coverL l hs, 0) := by unfold coverAll; rw [if_neg hbad]
  rw [hcov]
  refine ⟨fun h => absurd rfl h, fun _ => ?_⟩
  refine Loops.intro (fun k : Nat => S3_0 hs true l (coverL l hs) (startsI l hs) k ⟨0, []⟩) (fun k => k ≤ hs.length) (fun k => hs.length - k) 0 rfl (Nat.zero_le _) ?_
  intro k hk
  have hk : k ≤ hs.length := hk
  refine L3_0 hs true l (coverL l hs) (startsI l hs) k ⟨0, []⟩ ?_
  have hsl : (startsI l hs).length = hs.length := by simp [startsI]
  simp only [Bool.not_true, Bool.not_false, Bool.true_eq_false, Bool.false_eq_true, forall_const, false_implies, true_implies, and_true, true_and, eq_self, implies_true, Nat.zero_add, Int.toNat_natCast, List.take_length, decide_eq_true_eq, decide_eq_false_iff_not, beq_iff_eq, beq_eq_false_iff_ne, bne_iff_ne, bne_eq_false_iff_eq, ne_eq, Bool.not_eq_true', Bool.not_eq_false', Int.not_le, Int.not_lt, List.length_cons, List.length_nil, List.length_append, Nat.add_zero, List.drop_zero, hsl]
  refine ⟨fun h => ?_, fun h => retB rfl⟩
  have hklt : k < hs.length := by omega
  have hgood : badH l s.length hs[k] = false := by
    cases hb : badH l s.length hs[k] with
    | false => rfl
    | true => exact absurd (List.any_eq_true.2 ⟨_, List.getElem_mem hklt, hb⟩) hbad
  have hat : isPc l hs[k].2.2.1 = true := by
    unfold badH at hgood
    simp only [Bool.or_eq_false_iff, Bool.not_eq_false'] at hgood
    exact hgood.1.2
  obtain ⟨i0, hi0, e1, e2⟩ := idx_pos hat
  have e0 : (startsI l hs).getD k 0 = i0 := by rw [← e1]; simp [startsI, List.getD, hklt]
  simp only [e0, Bool.not_true, Bool.not_false, Bool.true_eq_false, Bool.false_eq_true, forall_const, false_implies, true_implies, and_true, true_and, eq_self, implies_true, Nat.zero_add, Int.toNat_natCast, List.take_length, decide_eq_true_eq, decide_eq_false_iff_not, beq_iff_eq, beq_eq_false_iff_ne, bne_iff_ne, bne_eq_false_iff_eq, ne_eq, Bool.not_eq_true', Bool.not_eq_false', Int.not_le, Int.not_lt, List.length_cons, List.length_nil, List.length_append, Nat.add_zero, List.drop_zero, getD_lt hi0, getD_lt hklt]
  refine ⟨by omega, by omega, fun h => by omega, fun _ => ⟨by omega, by omega, fun h => by omega, fun _ => ⟨by omega, by omega, by omega, by omega, by omega, by omega, fun h => absurd e2 h, fun _ => ?_⟩⟩⟩
  refine Loops.intro (fun i : Nat => S3_2 hs true l (coverL l hs) (startsI l hs) k i ⟨0, []⟩) (fun i => i ≤ l.length) (fun i => l.length - i) 0 rfl (Nat.zero_le _) ?_
  intro i hi
  have hi : i ≤ l.length := hi
  refine L3_2 hs true l (coverL l hs) (startsI l hs) k i ⟨0, []⟩ ?_
  simp only [Bool.not_true, Bool.not_false, Bool.true_eq_false, Bool.false_eq_true, forall_const, false_implies, true_implies, and_true, true_and, eq_self, implies_true, Nat.zero_add, Int.toNat_natCast, List.take_length, decide_eq_true_eq, decide_eq_false_iff_not, beq_iff_eq, beq_eq_false_iff_ne, bne_iff_ne, bne_eq_false_iff_eq, ne_eq, Bool.not_eq_true', Bool.not_eq_false', Int.not_le, Int.not_lt, List.length_cons, List.length_nil, List.length_append, Nat.add_zero, List.drop_zero]
  refine ⟨fun h => ?_, fun h => ?_⟩
  rotate_left
  · rw [wrap64 (by omega) (by omega)]
    exact Again.mk (k + 1) rfl hklt (by omega)
  have hilt : i < l.length := by omega
  have hcl : (coverL l hs).length = l.length := by simp [coverL]
  have ec : (coverL l hs).getD i [] = coverI hs l[i].1 := by simp [coverL, List.getD, hilt]
  have hcn := coverN_len hs l[i].1 hs.length
  have hpw := coverI_pw hs l[i].1
  have hcount := coverI_count hs l[i].1 k hklt
  generalize hc : coverI hs l[i].1 = c at *
  have hcn : c.length ≤ hs.length := by rw [← hc]; exact hcn
  refine Loops.intro (fun j : Nat => S3_4 hs true l (coverL l hs) (startsI l hs) k i (((c.take j).count (k : Int) : Nat) : Int) j ⟨0, []⟩) (fun j => j ≤ c.length) (fun j => c.length - j) 0 rfl (Nat.zero_le _) ?_
  intro j hj
  have hj : j ≤ c.length := hj
  have hcj : (c.take j).count (k : Int) ≤ j := by
    have := List.count_le_length (a := (k : Int)) (l := c.take j)
    rw [List.length_take] at this; omega
  refine L3_4 hs true l (coverL l hs) (startsI l hs) k i (((c.take j).count (k : Int) : Nat) : Int) j ⟨0, []⟩ ?_
  simp only [Bool.not_true, Bool.not_false, Bool.true_eq_false, Bool.false_eq_true, forall_const, false_implies, true_implies, and_true, true_and, eq_self, implies_true, Nat.zero_add, Int.toNat_natCast, List.take_length, decide_eq_true_eq, decide_eq_false_iff_not, beq_iff_eq, beq_eq_false_iff_ne, bne_iff_ne, bne_eq_false_iff_eq, ne_eq, Bool.not_eq_true', Bool.not_eq_false', Int.not_le, Int.not_lt, List.length_cons, List.length_nil, List.length_append, Nat.add_zero, List.drop_zero, ec, hcl, getD_lt hilt, getD_lt hklt]
  refine ⟨by omega, by omega, fun h => ?_, fun h => ?_⟩
  · have hjlt : j < c.length := by omega
    have w1 : IntKind.wrap .i64 ((j : Int) + 1) = ((j + 1 : Nat) : Int) := by rw [wrap64 (by omega) (by omega)]; omega
    have inc : j > 0 → c.getD (IntKind.wrap .i64 ((j : Int) - 1)).toNat 0 < c.getD j 0 := by
      intro hj0
      have : (IntKind.wrap .i64 ((j : Int) - 1)).toNat = j - 1 := by rw [wrap64 (by omega) (by omega)]; omega
      rw [this, getD_lt hjlt, getD_lt (by omega)]
      exact List.pairwise_iff_getElem.1 hpw (j - 1) j (by omega) hjlt (by omega)
    have w2 : 0 < j → IntKind.wrap .i64 ((j : Int) - 1) = (j : Int) - 1 := fun _ => wrap64 (by omega) (by omega)
    have step : ∀ n : Int, n = ((c.take (j + 1)).count (k : Int) : Nat) → Again (fun j : Nat => S3_4 hs true l (coverL l hs) (startsI l hs) k i (((c.take j).count (k : Int) : Nat) : Int) j ⟨0, []⟩) (fun j => j ≤ c.length) (fun j => c.length - j) (c.length - j)
        (S3_4 hs true l (coverL l hs) (startsI l hs) k i n (IntKind.wrap .i64 ((j : Int) + 1)) ⟨0, []⟩) := by
      rintro n rfl
      rw [w1]
      exact Again.mk (j + 1) rfl hjlt (by omega)
    have hct : (c.take (j + 1)).count (k : Int) = (c.take j).count (k : Int) + if c[j] = (k : Int) then 1 else 0 := by
      rw [List.take_succ_eq_append_getElem hjlt, List.count_append]
      congr 1
      simp only [List.count_singleton, beq_iff_eq]
    rw [getD_lt hjlt] at inc ⊢
    refine ⟨by omega, by omega, by omega, by omega, fun h1 => ⟨fun h2 => ?_, fun h2 => ?_⟩, fun h1 => ⟨fun h2 => ?_, fun h2 => ?_⟩⟩
    · have := inc (by omega)
      have := w2 (by omega)
      refine ⟨by omega, by omega, by omega, by omega, by omega, by omega, by omega, by omega, fun h => by omega, fun h => step _ ?_⟩
      rw [hct, if_pos h1, wrap64 (by omega) (by omega)]; omega
    · refine step _ ?_
      rw [hct, if_pos h1, wrap64 (by omega) (by omega)]; omega
    · have := inc (by omega)
      have := w2 (by omega)
      refine ⟨by omega, by omega, by omega, by omega, by omega, by omega, by omega, by omega, fun h => by omega, fun h => step _ ?_⟩
      rw [hct, if_neg h1]; omega
    · refine step _ ?_
      rw [hct, if_neg h1]; omega
  · have hjj : j = c.length := by omega
    rw [hjj, List.take_length, hcount]
    have next : Again (fun i : Nat => S3_2 hs true l (coverL l hs) (startsI l hs) k i ⟨0, []⟩) (fun i => i ≤ l.length) (fun i => l.length - i) (l.length - i) (S3_2 hs true l (coverL l hs) (startsI l hs) k (IntKind.wrap .i64 ((i : Int) + 1)) ⟨0, []⟩) := by
      rw [wrap64 (by omega) (by omega)]
      exact Again.mk (i + 1) rfl hilt (by omega)
    refine ⟨by omega, by omega, by omega, by omega, fun h1 => ⟨by omega, by omega, by omega, by omega, fun h2 => ⟨fun h3 => ?_, fun h3 => next⟩, fun h2 => ⟨fun h3 => ?_, fun h3 => next⟩⟩, fun h1 => ⟨fun h3 => ?_, fun h3 => next⟩⟩
    · exact absurd (by rw [if_pos ⟨by omega, h2⟩]; rfl) h3
    · exact absurd (by rw [if_neg (by omega)]; rfl) h3
    · exact absurd (by rw [if_neg (by omega)]; rfl) h3

end Go.Proofs.Ytiomllkdfhglhaa.AB

set_option linter.unusedVariables false
set_option linter.unusedSimpArgs false
namespace Go.Proofs.Ytiomllkdfhglhaa.AB
open Go

/-- what can be come to from the first -/
inductive Rch (nx : Nat → List Int) : Nat → Prop where
  | zero : Rch nx 0
  | step {i j : Nat} : Rch nx i → (j : Int) ∈ nx i → Rch nx j

open Classical in
noncomputable def reachB (nx : Nat → List Int) (n : Nat) : List Bool := (List.range n).map fun j => decide (Rch nx j)

theorem reachB_len (nx : Nat → List Int) (n : Nat) : (reachB nx n).length = n := by simp [reachB]

theorem reachB_get (nx : Nat → List Int) {n j : Nat} (h : j < n) : (reachB nx n).getD j false = true ↔ Rch nx j := by
  simp [reachB, List.getD, h]

theorem reach_closed {nx : Nat → List Int} {n : Nat} (hv : ∀ i, i < n → ∀ y ∈ nx i, 0 ≤ y ∧ y < n) (h0 : 0 < n) {P : Nat → Prop} (hz : P 0) (hs : ∀ i, i < n → P i → ∀ j : Nat, (j : Int) ∈ nx i → P j) {j : Nat} (h : Rch nx j) : j < n ∧ P j := by
  induction h with
  | zero => exact ⟨h0, hz⟩
  | step h1 h2 ih =>
    obtain ⟨k1, k2⟩ := ih
    have := hv _ k1 _ h2
    exact ⟨by omega, hs _ k1 k2 _ h2⟩

theorem out_eq {nx : Nat → List Int} {n : Nat} (hv : ∀ i, i < n → ∀ y ∈ nx i, 0 ≤ y ∧ y < n) (h0 : 0 < n) {out : List Bool} (hl : out.length = n) (hz : out.getD 0 false = true)
    (hs : ∀ j, j < n → out.getD j false = true → Rch nx j) (hc : ∀ i, i < n → out.getD i false = true → ∀ y ∈ nx i, out.getD y.toNat false = true) : out = reachB nx n := by
  refine eq_of_getD false (by rw [hl, reachB_len]) fun j hj => ?_
  rw [reachB_len] at hj
  rw [Bool.eq_iff_iff, reachB_get nx hj]
  refine ⟨hs j hj, fun h => ?_⟩
  exact (reach_closed hv h0 (P := fun j => out.getD j false = true) hz (fun i hi hp k hk => by have := hc i hi hp _ hk; rwa [Int.toNat_natCast] at this) h).2

/-- how many are not marked -/
def cf (out : List Bool) : Nat := out.count false

theorem cf_set {out : List Bool} {k : Nat} (hk : k < out.length) (h : out.getD k false = false) : cf (out.set k true) + 1 = cf out := by
  unfold cf
  rw [List.count_set hk]
  rw [getD_lt hk] at h
  have : 0 < out.count false := List.count_pos_iff.2 (h ▸ List.getElem_mem hk)
  rw [h]
  simp
  omega

theorem cf_le (out : List Bool) : cf out ≤ out.length := List.count_le_length

/-- what is known while i is looked at: those of d are marked -/
structure RI (nx : Nat → List Int) (n : Nat) (out : List Bool) (todo : List Int) (cur : Nat → Prop) : Prop where
  len : out.length = n
  sound : ∀ j, j < n → out.getD j false = true → Rch nx j
  tin : ∀ x ∈ todo, 0 ≤ x ∧ x < n ∧ out.getD x.toNat false = true
  closed : ∀ j, j < n → out.getD j false = true → (j : Int) ∉ todo → ¬ cur j → ∀ y ∈ nx j, out.getD y.toNat false = true
  zero : out.getD 0 false = true

theorem RI.mark {nx : Nat → List Int} {n : Nat} {out : List Bool} {todo : List Int} {cur : Nat → Prop} (h : RI nx n out todo cur) {k : Int} (h0 : 0 ≤ k) (hk : k < n) (hr : Rch nx k.toNat) :
    RI nx n (out.set k.toNat true) (todo ++ [k]) cur := by
  have hkl : k.toNat < out.length := by have := h.len; omega
  have mono : ∀ j, out.getD j false = true → (out.set k.toNat true).getD j false = true := fun j hj => by
    rw [getD_set' hkl, hj]; rfl
  refine ⟨by rw [List.length_set]; exact h.len, fun j hj ht => ?_, fun x hx => ?_, fun j hj ht hn hc y hy => ?_, mono _ h.zero⟩
  · rw [getD_set' hkl, Bool.or_eq_true, beq_iff_eq] at ht
    rcases ht with ht | rfl
    · exact h.sound j hj ht
    · exact hr
  · rcases List.mem_append.1 hx with hx | hx
    · obtain ⟨k1, k2, k3⟩ := h.tin x hx
      exact ⟨k1, k2, mono _ k3⟩
    · rw [List.mem_singleton] at hx
      subst hx
      exact ⟨h0, hk, by rw [getD_set' hkl]; simp⟩
  · rw [List.mem_append, not_or, List.mem_singleton] at hn
    rw [getD_set' hkl, Bool.or_eq_true, beq_iff_eq] at ht
    rcases ht with ht | ht
    · exact mono _ (h.closed j hj ht hn.1 hc y hy)
    · exact absurd (by omega) hn.2

/-- what may be done behind an instruction, jumps, the next, and handlers -/
def nxI (l : List Ins) (hs : List Hd) (i : Nat) : List Int := succI l i ++ (coverI hs (l.getD i (0, (0, (0, ([], []))))).1).map fun k => (startsI l hs).getD k.toNat 0

theorem mem_addTo {l : List Ins} {y : Int} : ∀ (tos : List Int) (s : List Int), y ∈ tos.foldl (addTo l) s → y ∈ s ∨ ∃ t ∈ tos, y = idx l t
  | [], s, h => .inl h
  | t :: tos, s, h => by
    rcases mem_addTo tos _ h with h | ⟨t', ht, e⟩
    · unfold addTo at h
      split at h
      · exact .inl h
      · rcases List.mem_append.1 h with h | h
        · exact .inl h
        · exact .inr ⟨t, List.mem_cons_self .., by simpa using h⟩
    · exact .inr ⟨t', List.mem_cons_of_mem _ ht, e⟩

theorem nx_ok {s : List UInt8} {l : List Ins} {hs : List Hd} (C : Code4 s l) (hb : hs.any (badH l s.length) = false) : ∀ i, i < l.length → ∀ y ∈ nxI l hs i, 0 ≤ y ∧ y < l.length := by
  intro i hi y hy
  have hg : l.getD i (0, (0, (0, ([], [])))) = l[i] := getD_lt hi
  unfold nxI at hy
  rw [List.mem_append] at hy
  rcases hy with hy | hy
  · unfold succI at hy
    rcases mem_addTo _ _ hy with hy | ⟨t, ht, rfl⟩
    · unfold succ0 at hy
      split at hy
      · rename_i h
        rw [List.mem_singleton] at hy
        simp only [Bool.and_eq_true, decide_eq_true_eq] at h
        omega
      · cases hy
    · rw [hg] at ht
      obtain ⟨j, hj, e, _⟩ := idx_pos (C.lands _ (List.getElem_mem hi) t ht)
      omega
  · rw [List.mem_map] at hy
    obtain ⟨k, hk, rfl⟩ := hy
    unfold coverI coverN at hk
    rw [List.mem_map] at hk
    obtain ⟨a, ha, rfl⟩ := hk
    rw [List.mem_filter, List.mem_range] at ha
    have hat : isPc l hs[a].2.2.1 = true := by
      rw [List.any_eq_false] at hb
      have := hb _ (List.getElem_mem ha.1)
      unfold badH at this
      simp only [Bool.or_eq_true, not_or, Bool.not_eq_true', Bool.not_eq_false] at this
      exact this.1.2
    obtain ⟨j, hj, e, _⟩ := idx_pos hat
    have : (startsI l hs).getD ((a : Int)).toNat 0 = j := by rw [← e]; simp [startsI, List.getD, ha.1]
    omega

/-- what Reach answers -/
noncomputable def reachAll (l : List Ins) (size : Int) (hs : List Hd) : List Bool × Int :=
  if hs.any (badH l size) then ([], 12) else (reachB (nxI l hs) l.length, 0)

abbrev rchV (p : List Bool × Int) : V := .tup [.list .bool p.1 .no, .int .i64 p.2]

end Go.Proofs.Ytiomllkdfhglhaa.AB

set_option linter.unusedVariables false
set_option linter.unusedSimpArgs false
namespace Go.Proofs.Ytiomllkdfhglhaa.AB
open Go

/-! crucible/flow.Reach -/
noncomputable def X31 : Cx := ⟨tt, [(14, [.cd (.slice (.slice (.int .i64))), .cd (.int .i64)]), (15, [.cd (.slice (.int .i64))]), (26, [.cd (.slice (.slice (.int .i64)))])], [(31, [(6, 0, .«mut»), (8, 1, .inl), (15, 2, .inl), (20, 5, .inl)])], [(31, [(0, mkM 85 0 [8, 10, 11, 12, 13, 14], 5), (2, mkM 85 0 [8, 10, 11, 12, 13, 14, 15, 58, 59, 60], 5), (4, mkM 85 0 [8, 10, 11, 12, 13, 14, 71, 72, 73], 5)])], [(57, Try.f57)]⟩
theorem FN31 : fnsB Try.prog X31.fns := (show (Try.prog.funcs[57]? = some Try.f57 ∧ Try.f57.name ≠ "runtime.NumGoroutine" ∧ True) from ⟨by kernel_rfl, by decide, trivial⟩)
def M31_0 : List Bool × Nat := (mkM 85 0 [8, 10, 11, 12, 13, 14], 5)
def S31_0 (cover8 : List (List Int)) (succ10 : List (List Int)) (at11 : List Int) (hq0 : List (Int × (Int × (Int × ((List Int) × (List Int)))))) (hq0k : Tok) (hq1 : List Bool) (hq1s : Nat → Tok) (hq1g : Nat) (hq2g : Nat) (hq2n : Nat) (hq3 : List Int) (hq3s : Nat → Tok) (hq3g : Nat) (hq4g : Nat) (hq4n : Nat) (T : Toks) : St :=
  mkS 85 [(8, (.v (.list (.slice (.int .i64)) cover8 .no))), (10, (.v (.list (.slice (.int .i64)) succ10 .no))), (11, (.v (.list (.int .i64) at11 .no))), (12, (.ptr 2 0 0 0)), (13, (.ptr 4 0 0 0)), (14, (.clo 57 [(.ptr 0 0 0 0), (.ptr 2 0 0 0), (.ptr 4 0 0 0)]))] [(some (.box (.v (.list (.pair (.int .i64) (.pair (.int .i64) (.pair (.int .i64) (.pair (.slice (.int .i64)) (.slice (.int .i64)))))) hq0 hq0k)))), (some (.arr hq1g .bool hq1 hq1s)), (some (.box (.arr 1 hq2g 0 hq2n))), (some (.arr hq3g (.int .i64) hq3 hq3s)), (some (.box (.arr 3 hq4g 0 hq4n)))] T
noncomputable def B31_0 : (Exit → St → Prop) → St → Prop := (awp X31.tt (callN Try.prog X31 1) (X31.md 31) 0 (X31.mk1 31) 0 (codeAt [1, 1, 1, 1, 1, 1, 1, 0, 1, 0, 0] (bd Try.f31)))
def M31_2 : List Bool × Nat := (mkM 85 0 [8, 10, 11, 12, 13, 14, 15, 58, 59, 60], 5)
def S31_2 (cover8 : List (List Int)) (succ10 : List (List Int)) (at11 : List Int) (i15 : Int) (t58 : List Int) (t59 : Int) (t60 : Int) (hq0 : List (Int × (Int × (Int × ((List Int) × (List Int)))))) (hq0k : Tok) (hq1 : List Bool) (hq1s : Nat → Tok) (hq1g : Nat) (hq2g : Nat) (hq2n : Nat) (hq3 : List Int) (hq3s : Nat → Tok) (hq3g : Nat) (hq4g : Nat) (hq4n : Nat) (T : Toks) : St :=
  mkS 85 [(8, (.v (.list (.slice (.int .i64)) cover8 .no))), (10, (.v (.list (.slice (.int .i64)) succ10 .no))), (11, (.v (.list (.int .i64) at11 .no))), (12, (.ptr 2 0 0 0)), (13, (.ptr 4 0 0 0)), (14, (.clo 57 [(.ptr 0 0 0 0), (.ptr 2 0 0 0), (.ptr 4 0 0 0)])), (15, (.v (.int .i64 i15))), (58, (.v (.list (.int .i64) t58 .no))), (59, (.v (.int .i64 t59))), (60, (.v (.int .i64 t60)))] [(some (.box (.v (.list (.pair (.int .i64) (.pair (.int .i64) (.pair (.int .i64) (.pair (.slice (.int .i64)) (.slice (.int .i64)))))) hq0 hq0k)))), (some (.arr hq1g .bool hq1 hq1s)), (some (.box (.arr 1 hq2g 0 hq2n))), (some (.arr hq3g (.int .i64) hq3 hq3s)), (some (.box (.arr 3 hq4g 0 hq4n)))] T
noncomputable def B31_2 : (Exit → St → Prop) → St → Prop := (awp X31.tt (callN Try.prog X31 1) (X31.md 31) 0 (X31.mk1 31) 2 (codeAt [1, 1, 1, 1, 1, 1, 1, 0, 1, 0, 0, 1, 0, 1, 1, 0, 1, 0, 0] (bd Try.f31)))
def M31_4 : List Bool × Nat := (mkM 85 0 [8, 10, 11, 12, 13, 14, 71, 72, 73], 5)
def S31_4 (cover8 : List (List Int)) (succ10 : List (List Int)) (at11 : List Int) (t71 : List Int) (t72 : Int) (t73 : Int) (hq0 : List (Int × (Int × (Int × ((List Int) × (List Int)))))) (hq0k : Tok) (hq1 : List Bool) (hq1s : Nat → Tok) (hq1g : Nat) (hq2g : Nat) (hq2n : Nat) (hq3 : List Int) (hq3s : Nat → Tok) (hq3g : Nat) (hq4g : Nat) (hq4n : Nat) (T : Toks) : St :=
  mkS 85 [(8, (.v (.list (.slice (.int .i64)) cover8 .no))), (10, (.v (.list (.slice (.int .i64)) succ10 .no))), (11, (.v (.list (.int .i64) at11 .no))), (12, (.ptr 2 0 0 0)), (13, (.ptr 4 0 0 0)), (14, (.clo 57 [(.ptr 0 0 0 0), (.ptr 2 0 0 0), (.ptr 4 0 0 0)])), (71, (.v (.list (.int .i64) t71 .no))), (72, (.v (.int .i64 t72))), (73, (.v (.int .i64 t73)))] [(some (.box (.v (.list (.pair (.int .i64) (.pair (.int .i64) (.pair (.int .i64) (.pair (.slice (.int .i64)) (.slice (.int .i64)))))) hq0 hq0k)))), (some (.arr hq1g .bool hq1 hq1s)), (some (.box (.arr 1 hq2g 0 hq2n))), (some (.arr hq3g (.int .i64) hq3 hq3s)), (some (.box (.arr 3 hq4g 0 hq4n)))] T
noncomputable def B31_4 : (Exit → St → Prop) → St → Prop := (awp X31.tt (callN Try.prog X31 1) (X31.md 31) 0 (X31.mk1 31) 4 (codeAt [1, 1, 1, 1, 1, 1, 1, 0, 1, 0, 0, 1, 0, 1, 1, 1, 1, 0, 0] (bd Try.f31)))
noncomputable def K31_0 (R : V → Prop) : Exit → St → Prop := seqK ((awp X31.tt (callN Try.prog X31 1) (X31.md 31) 0 (X31.mk1 31) 0 (codeAt [1, 1, 1, 1, 1, 1, 1, 1] (bd Try.f31))) (retK tt Try.f31.results.toList fun x s' => topK R x ⟨[], s'.hp, s'.T⟩)) (retK tt Try.f31.results.toList fun x s' => topK R x ⟨[], s'.hp, s'.T⟩)
noncomputable def Q31_0 (R : V → Prop) : Exit → St → Prop := (blockK 0 (K31_0 R))
noncomputable def K31_1 (R : V → Prop) (k0 : St → Prop) : Exit → St → Prop := seqK ((awp X31.tt (callN Try.prog X31 1) (X31.md 31) 0 (X31.mk1 31) 1 (codeAt [1, 1, 1, 1, 1, 1, 1, 0, 1, 0, 0, 1, 0, 1, 1, 1] (bd Try.f31))) (blockK 1 (loopQ M31_0 k0 (blockK 0 (K31_0 R))))) (blockK 1 (loopQ M31_0 k0 (blockK 0 (K31_0 R))))
noncomputable def Q31_2 (R : V → Prop) (k0 : St → Prop) : Exit → St → Prop := (blockK 2 (K31_1 R k0))
noncomputable def Q31_4 (R : V → Prop) (k0 : St → Prop) : Exit → St → Prop := (blockK 4 (blockK 1 (loopQ M31_0 k0 (blockK 0 (K31_0 R)))))
theorem E31 (l0 : (List (Int × (Int × (Int × ((List Int) × (List Int))))))) (size1 : Int) (handlers2 : (List (Int × (Int × (Int × Int))))) {R : V → Prop} (h : (∃ p1 : (List (List Int)) × Int, PC Try.prog 14 [(.list (.pair (.int .i64) (.pair (.int .i64) (.pair (.int .i64) (.pair (.slice (.int .i64)) (.slice (.int .i64)))))) l0 .no), (.int .i64 size1), (.list (.pair (.int .i64) (.pair (.int .i64) (.pair (.int .i64) (.int .i64)))) handlers2 .no)] ((.tup [(.list (.slice (.int .i64)) p1.1 .no), (.int .i64 p1.2)])) ∧ (((p1.2 != (0 : Int)) = true → R (.tup [(.list .bool ([] : List Bool) .no), (.int .i64 p1.2)])) ∧
 ((p1.2 != (0 : Int)) = false → (∃ p2 : (List (List Int)), PC Try.prog 26 [(.list (.pair (.int .i64) (.pair (.int .i64) (.pair (.int .i64) (.pair (.slice (.int .i64)) (.slice (.int .i64)))))) l0 .no)] ((.list (.slice (.int .i64)) p2 .no)) ∧ (∃ p3 : (List Int), PC Try.prog 15 [(.list (.pair (.int .i64) (.pair (.int .i64) (.pair (.int .i64) (.pair (.slice (.int .i64)) (.slice (.int .i64)))))) l0 .no), (.list (.pair (.int .i64) (.pair (.int .i64) (.pair (.int .i64) (.int .i64)))) handlers2 .no)] ((.list (.int .i64) p3 .no)) ∧ (0 ≤ ((l0).length : Int) ∧ ((l0).length : Int) ≤ ((l0).length : Int) ∧ ((l0).length : Int) * (1 : Int) ≤ (room : Int) ∧ ((l0).length : Int) ≤ 9223372036854775807 ∧ (((decide ((0 : Int) ≥ (0 : Int))) = true → (((decide ((0 : Int) < ((l0).length : Int))) = true → (0 = 0 ∧ 0 ≤ (0 : Int) ∧ (0 : Int) < (((((l0).length : Int)).toNat : Nat) : Int) ∧ (0 = 0 ∧ (0 + ((0 : Int)).toNat) < ((List.replicate (((l0).length : Int)).toNat false)).length ∧ (((!((((List.replicate (((l0).length : Int)).toNat false)).getD ((0 + ((0 : Int)).toNat)) false))) = true → (0 = 0 ∧ 0 ≤ (0 : Int) ∧ (0 : Int) < (((((l0).length : Int)).toNat : Nat) : Int) ∧ (0 = 0 ∧ (0 + ((0 : Int)).toNat) < ((List.replicate (((l0).length : Int)).toNat false)).length ∧ (0 = 0 ∧ 0 ≤ (([] : List Int)).length ∧ (0 + (([(0 : Int)] : List Int)).length) * 8 ≤ room ∧ (Loops B31_0 M31_0 (Q31_0 R)
  (S31_0 p1.1 p2 p3 l0 .no ((((List.replicate (((l0).length : Int)).toNat false)).set ((0 + ((0 : Int)).toNat)) true)) ((fun j => if j = (0 + ((0 : Int)).toNat) then .no else (fun _ => .no) j)) 0 0 ((((l0).length : Int)).toNat) ((([] : List Int).take 0 ++ ([(0 : Int)] : List Int))) (fun _ => .no) 1 1 ((0 + (([(0 : Int)] : List Int)).length)) ⟨0, []⟩)))))) ∧
 ((!((((List.replicate (((l0).length : Int)).toNat false)).getD ((0 + ((0 : Int)).toNat)) false))) = false → (Loops B31_0 M31_0 (Q31_0 R)
  (S31_0 p1.1 p2 p3 l0 .no ((List.replicate (((l0).length : Int)).toNat false)) (fun _ => .no) 0 0 ((((l0).length : Int)).toNat) ([] : List Int) (fun _ => .no) 0 0 0 ⟨0, []⟩))))))) ∧ ((decide ((0 : Int) < ((l0).length : Int))) = false → (Loops B31_0 M31_0 (Q31_0 R)
  (S31_0 p1.1 p2 p3 l0 .no ((List.replicate (((l0).length : Int)).toNat false)) (fun _ => .no) 0 0 ((((l0).length : Int)).toNat) ([] : List Int) (fun _ => .no) 0 0 0 ⟨0, []⟩))))) ∧ ((decide ((0 : Int) ≥ (0 : Int))) = false → (Loops B31_0 M31_0 (Q31_0 R)
  (S31_0 p1.1 p2 p3 l0 .no ((List.replicate (((l0).length : Int)).toNat false)) (fun _ => .no) 0 0 ((((l0).length : Int)).toNat) ([] : List Int) (fun _ => .no) 0 0 0 ⟨0, []⟩))))))))))) :
  fnK X31.tt (callN Try.prog X31 1) (X31.md 31) (X31.mk1 31) Try.f31 [(.v (.list (.pair (.int .i64) (.pair (.int .i64) (.pair (.int .i64) (.pair (.slice (.int .i64)) (.slice (.int .i64)))))) l0 .no)), (.v (.int .i64 size1)), (.v (.list (.pair (.int .i64) (.pair (.int .i64) (.pair (.int .i64) (.int .i64)))) handlers2 .no))] ⟨[], [], ⟨0, []⟩⟩ (topK R) := Eq.mp (by kernel_rfl) h
theorem L31_0 (cover8 : List (List Int)) (succ10 : List (List Int)) (at11 : List Int) (hq0 : List (Int × (Int × (Int × ((List Int) × (List Int)))))) (hq0k : Tok) (hq1 : List Bool) (hq1s : Nat → Tok) (hq1g : Nat) (hq2g : Nat) (hq2n : Nat) (hq3 : List Int) (hq3s : Nat → Tok) (hq3g : Nat) (hq4g : Nat) (hq4n : Nat) (T : Toks) {R : V → Prop} {k0 : St → Prop}
 (h : (((decide (((hq4n : Nat) : Int) > (0 : Int))) = true → (hq4g = hq3g ∧ 0 ≤ (IntKind.wrap .i64 (((hq4n : Nat) : Int) - (1 : Int))) ∧ (IntKind.wrap .i64 (((hq4n : Nat) : Int) - (1 : Int))) < ((hq4n : Nat) : Int) ∧ (hq4g = hq3g ∧ (0 + ((IntKind.wrap .i64 (((hq4n : Nat) : Int) - (1 : Int)))).toNat) < (hq3).length ∧ (hq4g = hq3g ∧ (0 ≤ (IntKind.wrap .i64 (((hq4n : Nat) : Int) - (1 : Int))) ∧ (IntKind.wrap .i64 (((hq4n : Nat) : Int) - (1 : Int))) ≤ (hq4n : Int) ∧ (0 ≤ (hq3.getD ((0 + ((IntKind.wrap .i64 (((hq4n : Nat) : Int) - (1 : Int)))).toNat)) 0) ∧ (hq3.getD ((0 + ((IntKind.wrap .i64 (((hq4n : Nat) : Int) - (1 : Int)))).toNat)) 0) < ((succ10).length : Int) ∧ (Loops B31_2 M31_2 (Q31_2 R k0)
  (S31_2 cover8 succ10 at11 ((hq3.getD ((0 + ((IntKind.wrap .i64 (((hq4n : Nat) : Int) - (1 : Int)))).toNat)) 0)) ((succ10.getD ((hq3.getD ((0 + ((IntKind.wrap .i64 (((hq4n : Nat) : Int) - (1 : Int)))).toNat)) 0)).toNat [])) ((((succ10.getD ((hq3.getD ((0 + ((IntKind.wrap .i64 (((hq4n : Nat) : Int) - (1 : Int)))).toNat)) 0)).toNat [])).length : Int)) (0 : Int) hq0 hq0k hq1 hq1s hq1g hq2g hq2n hq3 hq3s hq3g hq4g ((((IntKind.wrap .i64 (((hq4n : Nat) : Int) - (1 : Int)))).toNat - 0)) T)))))))) ∧
 ((decide (((hq4n : Nat) : Int) > (0 : Int))) = false → (hq2g = hq1g ∧ 0 + hq2n ≤ (hq1).length ∧ R (.tup [(.list .bool (((hq1.drop 0).take hq2n)) .no), (.int .i64 (0 : Int))]))))) :
  B31_0 (loopQ M31_0 k0 (Q31_0 R)) (S31_0 cover8 succ10 at11 hq0 hq0k hq1 hq1s hq1g hq2g hq2n hq3 hq3s hq3g hq4g hq4n T) := Eq.mp (by kernel_rfl) h
theorem L31_2 (cover8 : List (List Int)) (succ10 : List (List Int)) (at11 : List Int) (i15 : Int) (t58 : List Int) (t59 : Int) (t60 : Int) (hq0 : List (Int × (Int × (Int × ((List Int) × (List Int)))))) (hq0k : Tok) (hq1 : List Bool) (hq1s : Nat → Tok) (hq1g : Nat) (hq2g : Nat) (hq2n : Nat) (hq3 : List Int) (hq3s : Nat → Tok) (hq3g : Nat) (hq4g : Nat) (hq4n : Nat) (T : Toks) {R : V → Prop} {k0 : St → Prop} {k2 : St → Prop}
 (h : (((decide (t60 < t59)) = true → (0 ≤ t60 ∧ t60 < ((t58).length : Int) ∧ (((decide ((t58.getD (t60).toNat 0) ≥ (0 : Int))) = true → (((decide ((t58.getD (t60).toNat 0) < ((hq0).length : Int))) = true → (hq2g = hq1g ∧ 0 ≤ (t58.getD (t60).toNat 0) ∧ (t58.getD (t60).toNat 0) < ((hq2n : Nat) : Int) ∧ (hq2g = hq1g ∧ (0 + ((t58.getD (t60).toNat 0)).toNat) < (hq1).length ∧ (((!((hq1.getD ((0 + ((t58.getD (t60).toNat 0)).toNat)) false))) = true → (hq2g = hq1g ∧ 0 ≤ (t58.getD (t60).toNat 0) ∧ (t58.getD (t60).toNat 0) < ((hq2n : Nat) : Int) ∧ (hq2g = hq1g ∧ (0 + ((t58.getD (t60).toNat 0)).toNat) < (hq1).length ∧ (hq4g = hq3g ∧ hq4n ≤ (hq3).length ∧ (hq4n + (([(t58.getD (t60).toNat 0)] : List Int)).length) * 8 ≤ room ∧ k2 (S31_2 cover8 succ10 at11 i15 t58 t59 ((IntKind.wrap .i64 (t60 + (1 : Int)))) hq0 hq0k ((hq1.set ((0 + ((t58.getD (t60).toNat 0)).toNat)) true)) ((fun j => if j = (0 + ((t58.getD (t60).toNat 0)).toNat) then .no else hq1s j)) hq1g hq2g hq2n ((hq3.take hq4n ++ ([(t58.getD (t60).toNat 0)] : List Int))) (fun _ => .no) (hq4g + 1) (hq4g + 1) ((hq4n + (([(t58.getD (t60).toNat 0)] : List Int)).length)) T))))) ∧
 ((!((hq1.getD ((0 + ((t58.getD (t60).toNat 0)).toNat)) false))) = false → k2 (S31_2 cover8 succ10 at11 i15 t58 t59 ((IntKind.wrap .i64 (t60 + (1 : Int)))) hq0 hq0k hq1 hq1s hq1g hq2g hq2n hq3 hq3s hq3g hq4g hq4n T)))))) ∧ ((decide ((t58.getD (t60).toNat 0) < ((hq0).length : Int))) = false → k2 (S31_2 cover8 succ10 at11 i15 t58 t59 ((IntKind.wrap .i64 (t60 + (1 : Int)))) hq0 hq0k hq1 hq1s hq1g hq2g hq2n hq3 hq3s hq3g hq4g hq4n T)))) ∧ ((decide ((t58.getD (t60).toNat 0) ≥ (0 : Int))) = false → k2 (S31_2 cover8 succ10 at11 i15 t58 t59 ((IntKind.wrap .i64 (t60 + (1 : Int)))) hq0 hq0k hq1 hq1s hq1g hq2g hq2n hq3 hq3s hq3g hq4g hq4n T))))) ∧
 ((decide (t60 < t59)) = false → (0 ≤ i15 ∧ i15 < ((cover8).length : Int) ∧ (Loops B31_4 M31_4 (Q31_4 R k0)
  (S31_4 cover8 succ10 at11 ((cover8.getD (i15).toNat [])) ((((cover8.getD (i15).toNat [])).length : Int)) (0 : Int) hq0 hq0k hq1 hq1s hq1g hq2g hq2n hq3 hq3s hq3g hq4g hq4n T)))))) :
  B31_2 (loopQ M31_2 k2 (Q31_2 R k0)) (S31_2 cover8 succ10 at11 i15 t58 t59 t60 hq0 hq0k hq1 hq1s hq1g hq2g hq2n hq3 hq3s hq3g hq4g hq4n T) := Eq.mp (by kernel_rfl) h
theorem L31_4 (cover8 : List (List Int)) (succ10 : List (List Int)) (at11 : List Int) (t71 : List Int) (t72 : Int) (t73 : Int) (hq0 : List (Int × (Int × (Int × ((List Int) × (List Int)))))) (hq0k : Tok) (hq1 : List Bool) (hq1s : Nat → Tok) (hq1g : Nat) (hq2g : Nat) (hq2n : Nat) (hq3 : List Int) (hq3s : Nat → Tok) (hq3g : Nat) (hq4g : Nat) (hq4n : Nat) (T : Toks) {R : V → Prop} {k0 : St → Prop} {k4 : St → Prop}
 (h : (((decide (t73 < t72)) = true → (0 ≤ t73 ∧ t73 < ((t71).length : Int) ∧ (0 ≤ (t71.getD (t73).toNat 0) ∧ (t71.getD (t73).toNat 0) < ((at11).length : Int) ∧ (((decide ((at11.getD ((t71.getD (t73).toNat 0)).toNat 0) ≥ (0 : Int))) = true → (((decide ((at11.getD ((t71.getD (t73).toNat 0)).toNat 0) < ((hq0).length : Int))) = true → (hq2g = hq1g ∧ 0 ≤ (at11.getD ((t71.getD (t73).toNat 0)).toNat 0) ∧ (at11.getD ((t71.getD (t73).toNat 0)).toNat 0) < ((hq2n : Nat) : Int) ∧ (hq2g = hq1g ∧ (0 + ((at11.getD ((t71.getD (t73).toNat 0)).toNat 0)).toNat) < (hq1).length ∧ (((!((hq1.getD ((0 + ((at11.getD ((t71.getD (t73).toNat 0)).toNat 0)).toNat)) false))) = true → (hq2g = hq1g ∧ 0 ≤ (at11.getD ((t71.getD (t73).toNat 0)).toNat 0) ∧ (at11.getD ((t71.getD (t73).toNat 0)).toNat 0) < ((hq2n : Nat) : Int) ∧ (hq2g = hq1g ∧ (0 + ((at11.getD ((t71.getD (t73).toNat 0)).toNat 0)).toNat) < (hq1).length ∧ (hq4g = hq3g ∧ hq4n ≤ (hq3).length ∧ (hq4n + (([(at11.getD ((t71.getD (t73).toNat 0)).toNat 0)] : List Int)).length) * 8 ≤ room ∧ k4 (S31_4 cover8 succ10 at11 t71 t72 ((IntKind.wrap .i64 (t73 + (1 : Int)))) hq0 hq0k ((hq1.set ((0 + ((at11.getD ((t71.getD (t73).toNat 0)).toNat 0)).toNat)) true)) ((fun j => if j = (0 + ((at11.getD ((t71.getD (t73).toNat 0)).toNat 0)).toNat) then .no else hq1s j)) hq1g hq2g hq2n ((hq3.take hq4n ++ ([(at11.getD ((t71.getD (t73).toNat 0)).toNat 0)] : List Int))) (fun _ => .no) (hq4g + 1) (hq4g + 1) ((hq4n + (([(at11.getD ((t71.getD (t73).toNat 0)).toNat 0)] : List Int)).length)) T))))) ∧
 ((!((hq1.getD ((0 + ((at11.getD ((t71.getD (t73).toNat 0)).toNat 0)).toNat)) false))) = false → k4 (S31_4 cover8 succ10 at11 t71 t72 ((IntKind.wrap .i64 (t73 + (1 : Int)))) hq0 hq0k hq1 hq1s hq1g hq2g hq2n hq3 hq3s hq3g hq4g hq4n T)))))) ∧ ((decide ((at11.getD ((t71.getD (t73).toNat 0)).toNat 0) < ((hq0).length : Int))) = false → k4 (S31_4 cover8 succ10 at11 t71 t72 ((IntKind.wrap .i64 (t73 + (1 : Int)))) hq0 hq0k hq1 hq1s hq1g hq2g hq2n hq3 hq3s hq3g hq4g hq4n T)))) ∧ ((decide ((at11.getD ((t71.getD (t73).toNat 0)).toNat 0) ≥ (0 : Int))) = false → k4 (S31_4 cover8 succ10 at11 t71 t72 ((IntKind.wrap .i64 (t73 + (1 : Int)))) hq0 hq0k hq1 hq1s hq1g hq2g hq2n hq3 hq3s hq3g hq4g hq4n T)))))) ∧
 ((decide (t73 < t72)) = false → k0 (S31_0 cover8 succ10 at11 hq0 hq0k hq1 hq1s hq1g hq2g hq2n hq3 hq3s hq3g hq4g hq4n T)))) :
  B31_4 (loopQ M31_4 k4 (Q31_4 R k0)) (S31_4 cover8 succ10 at11 t71 t72 t73 hq0 hq0k hq1 hq1s hq1g hq2g hq2n hq3 hq3s hq3g hq4g hq4n T) := Eq.mp (by kernel_rfl) h

end Go.Proofs.Ytiomllkdfhglhaa.AB

set_option linter.unusedVariables false
set_option linter.unusedSimpArgs false
namespace Go.Proofs.Ytiomllkdfhglhaa.AB
open Go

/-! crucible/crucibleref8.Reach -/
noncomputable def X32 : Cx := ⟨tt, [(27, [.cd (.slice (.slice (.int .i64)))]), (28, [.cd (.slice (.slice (.int .i64))), .cd (.int .i64)]), (30, [.cd (.slice (.int .i64))])], [], [(32, [(0, mkM 118 0 [0, 8, 10, 11, 12, 13, 14], 1), (2, mkM 118 0 [0, 8, 10, 11, 12, 13, 14, 15], 1), (4, mkM 118 0 [0, 8, 10, 11, 12, 13, 14, 15, 16, 17], 1), (6, mkM 118 0 [0, 8, 10, 11, 12, 13, 14, 15, 16, 18], 1)])], []⟩
theorem FN32 : fnsB Try.prog X32.fns := (show True from trivial)
def M32_0 : List Bool × Nat := (mkM 118 0 [0, 8, 10, 11, 12, 13, 14], 1)
def S32_0 (l0 : List (Int × (Int × (Int × ((List Int) × (List Int)))))) (cover8 : List (List Int)) (succ10 : List (List Int)) (at11 : List Int) (out12n : Nat) (more13 : Bool) (turn14 : Int) (hq0 : List Bool) (hq0s : Nat → Tok) (T : Toks) : St :=
  mkS 118 [(0, (.v (.list (.pair (.int .i64) (.pair (.int .i64) (.pair (.int .i64) (.pair (.slice (.int .i64)) (.slice (.int .i64)))))) l0 .no))), (8, (.v (.list (.slice (.int .i64)) cover8 .no))), (10, (.v (.list (.slice (.int .i64)) succ10 .no))), (11, (.v (.list (.int .i64) at11 .no))), (12, (.arr 0 0 0 out12n)), (13, (.v (.bool more13))), (14, (.v (.int .i64 turn14)))] [(some (.arr 0 .bool hq0 hq0s))] T
noncomputable def B32_0 : (Exit → St → Prop) → St → Prop := (awp X32.tt (callN Try.prog X32 0) (X32.md 32) 0 (X32.mk1 32) 0 (codeAt [1, 1, 1, 1, 1, 1, 1, 1, 0, 1, 0, 0] (bd Try.f32)))
def M32_2 : List Bool × Nat := (mkM 118 0 [0, 8, 10, 11, 12, 13, 14, 15], 1)
def S32_2 (l0 : List (Int × (Int × (Int × ((List Int) × (List Int)))))) (cover8 : List (List Int)) (succ10 : List (List Int)) (at11 : List Int) (out12n : Nat) (more13 : Bool) (turn14 : Int) (i15 : Int) (hq0 : List Bool) (hq0s : Nat → Tok) (T : Toks) : St :=
  mkS 118 [(0, (.v (.list (.pair (.int .i64) (.pair (.int .i64) (.pair (.int .i64) (.pair (.slice (.int .i64)) (.slice (.int .i64)))))) l0 .no))), (8, (.v (.list (.slice (.int .i64)) cover8 .no))), (10, (.v (.list (.slice (.int .i64)) succ10 .no))), (11, (.v (.list (.int .i64) at11 .no))), (12, (.arr 0 0 0 out12n)), (13, (.v (.bool more13))), (14, (.v (.int .i64 turn14))), (15, (.v (.int .i64 i15)))] [(some (.arr 0 .bool hq0 hq0s))] T
noncomputable def B32_2 : (Exit → St → Prop) → St → Prop := (awp X32.tt (callN Try.prog X32 0) (X32.md 32) 0 (X32.mk1 32) 2 (codeAt [1, 1, 1, 1, 1, 1, 1, 1, 0, 1, 0, 0, 1, 0, 0, 1, 1, 0, 0] (bd Try.f32)))
def M32_4 : List Bool × Nat := (mkM 118 0 [0, 8, 10, 11, 12, 13, 14, 15, 16, 17], 1)
def S32_4 (l0 : List (Int × (Int × (Int × ((List Int) × (List Int)))))) (cover8 : List (List Int)) (succ10 : List (List Int)) (at11 : List Int) (out12n : Nat) (more13 : Bool) (turn14 : Int) (i15 : Int) (next16 : List Int) (next16k : Tok) (k17 : Int) (hq0 : List Bool) (hq0s : Nat → Tok) (T : Toks) : St :=
  mkS 118 [(0, (.v (.list (.pair (.int .i64) (.pair (.int .i64) (.pair (.int .i64) (.pair (.slice (.int .i64)) (.slice (.int .i64)))))) l0 .no))), (8, (.v (.list (.slice (.int .i64)) cover8 .no))), (10, (.v (.list (.slice (.int .i64)) succ10 .no))), (11, (.v (.list (.int .i64) at11 .no))), (12, (.arr 0 0 0 out12n)), (13, (.v (.bool more13))), (14, (.v (.int .i64 turn14))), (15, (.v (.int .i64 i15))), (16, (.v (.list (.int .i64) next16 next16k))), (17, (.v (.int .i64 k17)))] [(some (.arr 0 .bool hq0 hq0s))] T
noncomputable def B32_4 : (Exit → St → Prop) → St → Prop := (awp X32.tt (callN Try.prog X32 0) (X32.md 32) 0 (X32.mk1 32) 4 (codeAt [1, 1, 1, 1, 1, 1, 1, 1, 0, 1, 0, 0, 1, 0, 0, 1, 1, 0, 0, 1, 0, 0, 1, 1, 0, 1, 0, 0] (bd Try.f32)))
def M32_6 : List Bool × Nat := (mkM 118 0 [0, 8, 10, 11, 12, 13, 14, 15, 16, 18], 1)
def S32_6 (l0 : List (Int × (Int × (Int × ((List Int) × (List Int)))))) (cover8 : List (List Int)) (succ10 : List (List Int)) (at11 : List Int) (out12n : Nat) (more13 : Bool) (turn14 : Int) (i15 : Int) (next16 : List Int) (next16k : Tok) (k18 : Int) (hq0 : List Bool) (hq0s : Nat → Tok) (T : Toks) : St :=
  mkS 118 [(0, (.v (.list (.pair (.int .i64) (.pair (.int .i64) (.pair (.int .i64) (.pair (.slice (.int .i64)) (.slice (.int .i64)))))) l0 .no))), (8, (.v (.list (.slice (.int .i64)) cover8 .no))), (10, (.v (.list (.slice (.int .i64)) succ10 .no))), (11, (.v (.list (.int .i64) at11 .no))), (12, (.arr 0 0 0 out12n)), (13, (.v (.bool more13))), (14, (.v (.int .i64 turn14))), (15, (.v (.int .i64 i15))), (16, (.v (.list (.int .i64) next16 next16k))), (18, (.v (.int .i64 k18)))] [(some (.arr 0 .bool hq0 hq0s))] T
noncomputable def B32_6 : (Exit → St → Prop) → St → Prop := (awp X32.tt (callN Try.prog X32 0) (X32.md 32) 0 (X32.mk1 32) 6 (codeAt [1, 1, 1, 1, 1, 1, 1, 1, 0, 1, 0, 0, 1, 0, 0, 1, 1, 0, 0, 1, 0, 0, 1, 1, 1, 1, 0, 0] (bd Try.f32)))
noncomputable def K32_0 (R : V → Prop) : Exit → St → Prop := seqK ((awp X32.tt (callN Try.prog X32 0) (X32.md 32) 0 (X32.mk1 32) 0 (codeAt [1, 1, 1, 1, 1, 1, 1, 1, 1] (bd Try.f32))) (retK tt Try.f32.results.toList fun x s' => topK R x ⟨[], s'.hp, s'.T⟩)) (retK tt Try.f32.results.toList fun x s' => topK R x ⟨[], s'.hp, s'.T⟩)
noncomputable def Q32_0 (R : V → Prop) : Exit → St → Prop := (blockK 0 (K32_0 R))
noncomputable def K32_1 (R : V → Prop) (k0 : St → Prop) : Exit → St → Prop := seqK ((awp X32.tt (callN Try.prog X32 0) (X32.md 32) 0 (X32.mk1 32) 0 (codeAt [1, 1, 1, 1, 1, 1, 1, 1, 0, 1, 0, 0, 1, 1] (bd Try.f32))) (loopQ M32_0 k0 (blockK 0 (K32_0 R)))) (loopQ M32_0 k0 (blockK 0 (K32_0 R)))
noncomputable def Q32_2 (R : V → Prop) (k0 : St → Prop) : Exit → St → Prop := (blockK 2 (blockK 1 (K32_1 R k0)))
noncomputable def K32_2 (R : V → Prop) (k0 : St → Prop) (k2 : St → Prop) : Exit → St → Prop := seqK ((awp X32.tt (callN Try.prog X32 0) (X32.md 32) 0 (X32.mk1 32) 2 (codeAt [1, 1, 1, 1, 1, 1, 1, 1, 0, 1, 0, 0, 1, 0, 0, 1, 1, 0, 0, 1, 1] (bd Try.f32))) (loopQ M32_2 k2 (blockK 2 (blockK 1 (K32_1 R k0))))) (loopQ M32_2 k2 (blockK 2 (blockK 1 (K32_1 R k0))))
noncomputable def K32_3 (R : V → Prop) (k0 : St → Prop) (k2 : St → Prop) : Exit → St → Prop := seqK ((awp X32.tt (callN Try.prog X32 0) (X32.md 32) 0 (X32.mk1 32) 3 (codeAt [1, 1, 1, 1, 1, 1, 1, 1, 0, 1, 0, 0, 1, 0, 0, 1, 1, 0, 0, 1, 0, 0, 1, 1, 1] (bd Try.f32))) (blockK 3 (K32_2 R k0 k2))) (blockK 3 (K32_2 R k0 k2))
noncomputable def Q32_4 (R : V → Prop) (k0 : St → Prop) (k2 : St → Prop) : Exit → St → Prop := (blockK 4 (K32_3 R k0 k2))
noncomputable def Q32_6 (R : V → Prop) (k0 : St → Prop) (k2 : St → Prop) : Exit → St → Prop := (blockK 6 (blockK 3 (K32_2 R k0 k2)))
theorem E32 (l0 : (List (Int × (Int × (Int × ((List Int) × (List Int))))))) (size1 : Int) (handlers2 : (List (Int × (Int × (Int × Int))))) {R : V → Prop} (h : (∃ p1 : (List (List Int)) × Int, PC Try.prog 28 [(.list (.pair (.int .i64) (.pair (.int .i64) (.pair (.int .i64) (.pair (.slice (.int .i64)) (.slice (.int .i64)))))) l0 .no), (.int .i64 size1), (.list (.pair (.int .i64) (.pair (.int .i64) (.pair (.int .i64) (.int .i64)))) handlers2 .no)] ((.tup [(.list (.slice (.int .i64)) p1.1 .no), (.int .i64 p1.2)])) ∧ (((p1.2 != (0 : Int)) = true → R (.tup [(.list .bool ([] : List Bool) .no), (.int .i64 p1.2)])) ∧
 ((p1.2 != (0 : Int)) = false → (∃ p2 : (List (List Int)), PC Try.prog 27 [(.list (.pair (.int .i64) (.pair (.int .i64) (.pair (.int .i64) (.pair (.slice (.int .i64)) (.slice (.int .i64)))))) l0 .no)] ((.list (.slice (.int .i64)) p2 .no)) ∧ (∃ p3 : (List Int), PC Try.prog 30 [(.list (.pair (.int .i64) (.pair (.int .i64) (.pair (.int .i64) (.pair (.slice (.int .i64)) (.slice (.int .i64)))))) l0 .no), (.list (.pair (.int .i64) (.pair (.int .i64) (.pair (.int .i64) (.int .i64)))) handlers2 .no)] ((.list (.int .i64) p3 .no)) ∧ (0 ≤ ((l0).length : Int) ∧ ((l0).length : Int) ≤ ((l0).length : Int) ∧ ((l0).length : Int) * (1 : Int) ≤ (room : Int) ∧ ((l0).length : Int) ≤ 9223372036854775807 ∧ (((decide (((l0).length : Int) > (0 : Int))) = true → (0 = 0 ∧ 0 ≤ (0 : Int) ∧ (0 : Int) < (((((l0).length : Int)).toNat : Nat) : Int) ∧ (0 = 0 ∧ (0 + ((0 : Int)).toNat) < ((List.replicate (((l0).length : Int)).toNat false)).length ∧ (Loops B32_0 M32_0 (Q32_0 R)
  (S32_0 l0 p1.1 p2 p3 ((((l0).length : Int)).toNat) true (0 : Int) ((((List.replicate (((l0).length : Int)).toNat false)).set ((0 + ((0 : Int)).toNat)) true)) ((fun j => if j = (0 + ((0 : Int)).toNat) then .no else (fun _ => .no) j)) ⟨0, []⟩))))) ∧
 ((decide (((l0).length : Int) > (0 : Int))) = false → (Loops B32_0 M32_0 (Q32_0 R)
  (S32_0 l0 p1.1 p2 p3 ((((l0).length : Int)).toNat) true (0 : Int) ((List.replicate (((l0).length : Int)).toNat false)) (fun _ => .no) ⟨0, []⟩))))))))))) :
  fnK X32.tt (callN Try.prog X32 0) (X32.md 32) (X32.mk1 32) Try.f32 [(.v (.list (.pair (.int .i64) (.pair (.int .i64) (.pair (.int .i64) (.pair (.slice (.int .i64)) (.slice (.int .i64)))))) l0 .no)), (.v (.int .i64 size1)), (.v (.list (.pair (.int .i64) (.pair (.int .i64) (.pair (.int .i64) (.int .i64)))) handlers2 .no))] ⟨[], [], ⟨0, []⟩⟩ (topK R) := Eq.mp (by kernel_rfl) h
theorem L32_0 (l0 : List (Int × (Int × (Int × ((List Int) × (List Int)))))) (cover8 : List (List Int)) (succ10 : List (List Int)) (at11 : List Int) (out12n : Nat) (more13 : Bool) (turn14 : Int) (hq0 : List Bool) (hq0s : Nat → Tok) (T : Toks) {R : V → Prop} {k0 : St → Prop}
 (h : ((more13 = true → (((decide (turn14 ≤ ((l0).length : Int))) = true → (Loops B32_2 M32_2 (Q32_2 R k0)
  (S32_2 l0 cover8 succ10 at11 out12n false turn14 (0 : Int) hq0 hq0s T))) ∧
 ((decide (turn14 ≤ ((l0).length : Int))) = false → (0 = 0 ∧ 0 + out12n ≤ (hq0).length ∧ R (.tup [(.list .bool (((hq0.drop 0).take out12n)) .no), (.int .i64 (0 : Int))]))))) ∧ (more13 = false → (0 = 0 ∧ 0 + out12n ≤ (hq0).length ∧ R (.tup [(.list .bool (((hq0.drop 0).take out12n)) .no), (.int .i64 (0 : Int))]))))) :
  B32_0 (loopQ M32_0 k0 (Q32_0 R)) (S32_0 l0 cover8 succ10 at11 out12n more13 turn14 hq0 hq0s T) := Eq.mp (by kernel_rfl) h
theorem L32_2 (l0 : List (Int × (Int × (Int × ((List Int) × (List Int)))))) (cover8 : List (List Int)) (succ10 : List (List Int)) (at11 : List Int) (out12n : Nat) (more13 : Bool) (turn14 : Int) (i15 : Int) (hq0 : List Bool) (hq0s : Nat → Tok) (T : Toks) {R : V → Prop} {k0 : St → Prop} {k2 : St → Prop}
 (h : (((decide (i15 < ((l0).length : Int))) = true → (0 = 0 ∧ 0 ≤ i15 ∧ i15 < ((out12n : Nat) : Int) ∧ (0 = 0 ∧ (0 + (i15).toNat) < (hq0).length ∧ (((!((hq0.getD ((0 + (i15).toNat)) false))) = true → k2 (S32_2 l0 cover8 succ10 at11 out12n more13 turn14 ((IntKind.wrap .i64 (i15 + (1 : Int)))) hq0 hq0s T)) ∧
 ((!((hq0.getD ((0 + (i15).toNat)) false))) = false → (0 ≤ i15 ∧ i15 < ((succ10).length : Int) ∧ (Tok.own .exact T.l ∧ ((([] : List Int)).length + ((succ10.getD (i15).toNat [])).length) * 8 ≤ room ∧ (Loops B32_4 M32_4 (Q32_4 R k0 k2)
  (S32_4 l0 cover8 succ10 at11 out12n more13 turn14 i15 ((([] : List Int) ++ (succ10.getD (i15).toNat []))) (.tk T.n) (0 : Int) hq0 hq0s ⟨(T.n + 1), (T.n :: T.l)⟩))))))))) ∧
 ((decide (i15 < ((l0).length : Int))) = false → k0 (S32_0 l0 cover8 succ10 at11 out12n more13 ((IntKind.wrap .i64 (turn14 + (1 : Int)))) hq0 hq0s T)))) :
  B32_2 (loopQ M32_2 k2 (Q32_2 R k0)) (S32_2 l0 cover8 succ10 at11 out12n more13 turn14 i15 hq0 hq0s T) := Eq.mp (by kernel_rfl) h
theorem L32_4 (l0 : List (Int × (Int × (Int × ((List Int) × (List Int)))))) (cover8 : List (List Int)) (succ10 : List (List Int)) (at11 : List Int) (out12n : Nat) (more13 : Bool) (turn14 : Int) (i15 : Int) (next16 : List Int) (next16k : Tok) (k17 : Int) (hq0 : List Bool) (hq0s : Nat → Tok) (T : Toks) {R : V → Prop} {k0 : St → Prop} {k2 : St → Prop} {k4 : St → Prop}
 (h : (0 ≤ i15 ∧ i15 < ((cover8).length : Int) ∧ (((decide (k17 < (((cover8.getD (i15).toNat [])).length : Int))) = true → (0 ≤ i15 ∧ i15 < ((cover8).length : Int) ∧ (0 ≤ k17 ∧ k17 < (((cover8.getD (i15).toNat [])).length : Int) ∧ (0 ≤ (((cover8.getD (i15).toNat [])).getD (k17).toNat 0) ∧ (((cover8.getD (i15).toNat [])).getD (k17).toNat 0) < ((at11).length : Int) ∧ (Tok.own next16k T.l ∧ ((next16).length + (([(at11.getD ((((cover8.getD (i15).toNat [])).getD (k17).toNat 0)).toNat 0)] : List Int)).length) * 8 ≤ room ∧ k4 (S32_4 l0 cover8 succ10 at11 out12n more13 turn14 i15 ((next16 ++ ([(at11.getD ((((cover8.getD (i15).toNat [])).getD (k17).toNat 0)).toNat 0)] : List Int))) (.tk T.n) ((IntKind.wrap .i64 (k17 + (1 : Int)))) hq0 hq0s ⟨(T.n + 1), (T.n :: Tok.drop next16k T.l)⟩)))))) ∧
 ((decide (k17 < (((cover8.getD (i15).toNat [])).length : Int))) = false → (Loops B32_6 M32_6 (Q32_6 R k0 k2)
  (S32_6 l0 cover8 succ10 at11 out12n more13 turn14 i15 next16 next16k (0 : Int) hq0 hq0s T)))))) :
  B32_4 (loopQ M32_4 k4 (Q32_4 R k0 k2)) (S32_4 l0 cover8 succ10 at11 out12n more13 turn14 i15 next16 next16k k17 hq0 hq0s T) := Eq.mp (by kernel_rfl) h
theorem L32_6 (l0 : List (Int × (Int × (Int × ((List Int) × (List Int)))))) (cover8 : List (List Int)) (succ10 : List (List Int)) (at11 : List Int) (out12n : Nat) (more13 : Bool) (turn14 : Int) (i15 : Int) (next16 : List Int) (next16k : Tok) (k18 : Int) (hq0 : List Bool) (hq0s : Nat → Tok) (T : Toks) {R : V → Prop} {k0 : St → Prop} {k2 : St → Prop} {k6 : St → Prop}
 (h : (((decide (k18 < ((next16).length : Int))) = true → (0 ≤ k18 ∧ k18 < ((next16).length : Int) ∧ (((decide ((next16.getD (k18).toNat 0) ≥ (0 : Int))) = true → (0 ≤ k18 ∧ k18 < ((next16).length : Int) ∧ (0 = 0 ∧ 0 ≤ (next16.getD (k18).toNat 0) ∧ (next16.getD (k18).toNat 0) < ((out12n : Nat) : Int) ∧ (0 = 0 ∧ (0 + ((next16.getD (k18).toNat 0)).toNat) < (hq0).length ∧ (((!((hq0.getD ((0 + ((next16.getD (k18).toNat 0)).toNat)) false))) = true → (0 ≤ k18 ∧ k18 < ((next16).length : Int) ∧ (0 = 0 ∧ 0 ≤ (next16.getD (k18).toNat 0) ∧ (next16.getD (k18).toNat 0) < ((out12n : Nat) : Int) ∧ (0 = 0 ∧ (0 + ((next16.getD (k18).toNat 0)).toNat) < (hq0).length ∧ k6 (S32_6 l0 cover8 succ10 at11 out12n true turn14 i15 next16 next16k ((IntKind.wrap .i64 (k18 + (1 : Int)))) ((hq0.set ((0 + ((next16.getD (k18).toNat 0)).toNat)) true)) ((fun j => if j = (0 + ((next16.getD (k18).toNat 0)).toNat) then .no else hq0s j)) T))))) ∧
 ((!((hq0.getD ((0 + ((next16.getD (k18).toNat 0)).toNat)) false))) = false → k6 (S32_6 l0 cover8 succ10 at11 out12n more13 turn14 i15 next16 next16k ((IntKind.wrap .i64 (k18 + (1 : Int)))) hq0 hq0s T))))))) ∧ ((decide ((next16.getD (k18).toNat 0) ≥ (0 : Int))) = false → k6 (S32_6 l0 cover8 succ10 at11 out12n more13 turn14 i15 next16 next16k ((IntKind.wrap .i64 (k18 + (1 : Int)))) hq0 hq0s T))))) ∧
 ((decide (k18 < ((next16).length : Int))) = false → k2 (S32_2 l0 cover8 succ10 at11 out12n more13 turn14 ((IntKind.wrap .i64 (i15 + (1 : Int)))) hq0 hq0s T)))) :
  B32_6 (loopQ M32_6 k6 (Q32_6 R k0 k2)) (S32_6 l0 cover8 succ10 at11 out12n more13 turn14 i15 next16 next16k k18 hq0 hq0s T) := Eq.mp (by kernel_rfl) h

end Go.Proofs.Ytiomllkdfhglhaa.AB

set_option linter.unusedVariables false
set_option linter.unusedSimpArgs false
namespace Go.Proofs.Ytiomllkdfhglhaa.AB
open Go

/-- one more that is come to -/
theorem RI.come {nx : Nat → List Int} {n : Nat} {out : List Bool} {todo : List Int} {cur : Nat → Prop} (h : RI nx n out todo cur) {k : Int} (h0 : 0 ≤ k) (hk : k < n) (hr : Rch nx k.toNat)
    {d : List Int} (hd : ∀ y ∈ d, out.getD y.toNat false = true) :
    (out.getD k.toNat false = false → RI nx n (out.set k.toNat true) (todo ++ [k]) cur ∧ (∀ y ∈ d ++ [k], (out.set k.toNat true).getD y.toNat false = true) ∧ cf (out.set k.toNat true) + 1 = cf out) ∧
    (out.getD k.toNat false = true → ∀ y ∈ d ++ [k], out.getD y.toNat false = true) := by
  have hkl : k.toNat < out.length := by have := h.len; omega
  refine ⟨fun hf => ⟨h.mark h0 hk hr, fun y hy => ?_, cf_set hkl hf⟩, fun ht y hy => ?_⟩
  · rw [getD_set' hkl, Bool.or_eq_true, beq_iff_eq]
    rcases List.mem_append.1 hy with hy | hy
    · exact .inl (hd y hy)
    · rw [List.mem_singleton] at hy; subst hy; exact .inr rfl
  · rcases List.mem_append.1 hy with hy | hy
    · exact hd y hy
    · rw [List.mem_singleton] at hy; subst hy; exact ht

theorem p31 {s : List UInt8} {l : List Ins} (C : Code4 s l) (hs : List Hd) (hh : hs.length ≤ 1000000) :
    PC Try.prog 31 [.list cIns l .no, .int .i64 s.length, .list cH hs .no] (rchV (reachAll l s.length hs)) := by
  have hroom : room = 140737488355328 := rfl
  have hl : l.length ≤ 1000000 := by have := C.len; have := C.size; omega
  have ht : ∀ x ∈ l, x.2.2.2.2.length ≤ 1000000 := fun x hx => by have := C.tos x hx; omega
  have hpos : 0 < l.length := by obtain ⟨x, r, e, _⟩ := C.first; rw [e]; simp
  have fin : ∀ p, reachAll l s.length hs = p → (rchV p).norm = rchV (reachAll l s.length hs) ∧ (rchV (reachAll l s.length hs)).nt = true := fun p h => by rw [h]; exact ⟨rfl, rfl⟩
  refine pcOf (X := X31) (d := 1) rfl FN31 (by kernel_rfl) (by decide) (E31 l s.length hs ⟨_, p14 l _ hs hl hh C.inc, ?_⟩)
  by_cases hbad : hs.any (badH l s.length) = true
  · have e1 : coverAll l s.length hs = ([], 12) := by unfold coverAll; rw [if_pos hbad]
    have e2 : reachAll l s.length hs = ([], 12) := by unfold reachAll; rw [if_pos hbad]
    rw [e1]
    exact ⟨fun _ => fin ([], 12) e2, fun h => absurd h (by simp)⟩
  have hgood : hs.any (badH l s.length) = false := by simpa using hbad
  have e1 : coverAll l s.length hs = (coverL l hs, 0) := by unfold coverAll; rw [if_neg hbad]
  have e2 : reachAll l s.length hs = (reachB (nxI l hs) l.length, 0) := by unfold reachAll; rw [if_neg hbad]
  rw [e1]
  refine ⟨fun h => absurd h (by simp), fun _ => ⟨_, p26 l hl ht C.inc, _, p15 l hs (by omega) hh, ?_⟩⟩
  have hv := nx_ok C hgood
  have hcl : (coverL l hs).length = l.length := by simp [coverL]
  have hsl : (succL l).length = l.length := by simp [succL]
  have hal : (startsI l hs).length = hs.length := by simp [startsI]
  generalize hnx : nxI l hs = nx at *
  simp only [Int.toNat_natCast, Nat.zero_add]
  refine ⟨by omega, by omega, by omega, by omega, fun _ => ⟨fun _ => ⟨trivial, by omega, by simpa using hpos, trivial, by simpa using hpos, fun _ => ⟨trivial, by omega, by simpa using hpos, trivial, by simpa using hpos, trivial, by simp, by simp; omega, ?_⟩, fun h => ?_⟩, fun h => by simp at h; rw [h] at hpos; exact absurd hpos (by simp)⟩, fun h => by simp at h⟩
  rotate_left
  · simp [List.getD, List.getElem?_replicate, hpos] at h
  refine Loops.intro (fun a : List Bool × (Nat → Tok) × List Int × (Nat → Tok) × Nat × Nat => S31_0 (coverL l hs) (succL l) (startsI l hs) l .no a.1 a.2.1 0 0 l.length a.2.2.1 a.2.2.2.1 a.2.2.2.2.1 a.2.2.2.2.1 a.2.2.2.2.2 ⟨0, []⟩)
    (fun a => RI nx l.length a.1 (a.2.2.1.take a.2.2.2.2.2) (fun _ => False) ∧ 2 * cf a.1 + a.2.2.2.2.2 ≤ 2 * l.length + 1 ∧ a.2.2.2.2.2 ≤ a.2.2.1.length) (fun a => 2 * cf a.1 + a.2.2.2.2.2)
    ((List.replicate l.length false).set 0 true, fun j => if j = 0 then .no else .no, [0], fun _ => .no, 1, 1) rfl ⟨⟨by simp, fun j hj hjt => ?_, fun x hx => ?_, fun j hj hjt hn _ => ?_, ?_⟩, ?_, by simp⟩ ?_
  · rw [getD_set' (by simpa using hpos)] at hjt
    have : j = 0 := by
      simp only [Bool.or_eq_true, beq_iff_eq] at hjt
      rcases hjt with h | h
      · simp [List.getD, List.getElem?_replicate, hj] at h
      · exact h.symm
    subst this; exact .zero
  · have hx : x = 0 := by simpa using hx
    subst hx
    exact ⟨by omega, by omega, by rw [show (0 : Int).toNat = 0 from rfl, getD_set' (by simpa using hpos)]; simp⟩
  · rw [getD_set' (by simpa using hpos)] at hjt
    simp only [Bool.or_eq_true, beq_iff_eq] at hjt
    rcases hjt with h | h
    · simp [List.getD, List.getElem?_replicate, hj] at h
    · subst h; simp at hn
  · rw [getD_set' (by simpa using hpos)]; simp
  · have := cf_le ((List.replicate l.length false).set 0 true)
    simp only [List.length_set, List.length_replicate] at this
    simp only
    omega
  rintro ⟨out, ts, ar, sa, g, n⟩ ⟨hI, hm, hn⟩
  simp only at hI hm hn
  refine L31_0 (coverL l hs) (succL l) (startsI l hs) l .no out ts 0 0 l.length ar sa g g n ⟨0, []⟩ ?_
  simp only [Bool.not_true, Bool.not_false, Bool.true_eq_false, Bool.false_eq_true, forall_const, false_implies, true_implies, and_true, true_and, eq_self, implies_true, Nat.zero_add, Int.toNat_natCast, List.take_length, decide_eq_true_eq, decide_eq_false_iff_not, beq_iff_eq, beq_eq_false_iff_ne, bne_iff_ne, bne_eq_false_iff_eq, ne_eq, Bool.not_eq_true', Bool.not_eq_false', Int.not_le, Int.not_lt, List.length_cons, List.length_nil, List.length_append, Nat.add_zero, List.drop_zero]
  refine ⟨fun h => ?_, fun h => ⟨by have := hI.len; omega, ?_⟩⟩
  rotate_left
  · have he : n = 0 := by omega
    subst he
    have : out = reachB nx l.length := out_eq hv hpos hI.len hI.zero hI.sound fun i hi hit y hy => hI.closed i hi hit (by simp) (by simp) y hy
    rw [← hI.len, List.take_length, this]
    exact fin _ e2
  have hlt : 0 < n := by omega
  have w : IntKind.wrap .i64 ((n : Int) - 1) = ((n - 1 : Nat) : Int) := by rw [wrap64 (by omega) (by omega)]; omega
  simp only [w, Bool.not_true, Bool.not_false, Bool.true_eq_false, Bool.false_eq_true, forall_const, false_implies, true_implies, and_true, true_and, eq_self, implies_true, Nat.zero_add, Int.toNat_natCast, List.take_length, decide_eq_true_eq, decide_eq_false_iff_not, beq_iff_eq, beq_eq_false_iff_ne, bne_iff_ne, bne_eq_false_iff_eq, ne_eq, Bool.not_eq_true', Bool.not_eq_false', Int.not_le, Int.not_lt, List.length_cons, List.length_nil, List.length_append, Nat.add_zero, List.drop_zero]
  have htake : ar.take n = ar.take (n - 1) ++ [ar.getD (n - 1) 0] := by
    have : n = (n - 1) + 1 := by omega
    conv => lhs; rw [this]
    rw [List.take_succ_eq_append_getElem (by omega), getD_lt (by omega)]
  have hx := hI.tin (ar.getD (n - 1) 0) (by rw [htake]; simp)
  generalize hq : ar.getD (n - 1) 0 = i at *
  obtain ⟨i, rfl⟩ : ∃ k : Nat, i = k := ⟨i.toNat, by omega⟩
  have hi : i < l.length := by omega
  simp only [Int.toNat_natCast] at hx ⊢
  have hsi : (succL l).getD i [] = succI l i := by simp [succL, List.getD, hi]
  have hci : (coverL l hs).getD i [] = coverI hs (l.getD i (0, (0, (0, ([], []))))).1 := by simp [coverL, List.getD, hi]
  have hnxi : nx i = succI l i ++ (coverI hs (l.getD i (0, (0, (0, ([], []))))).1).map fun k => (startsI l hs).getD k.toNat 0 := by rw [← hnx]; rfl
  have hri : Rch nx i := hI.sound i hi hx.2.2
  rw [hsi]
  refine ⟨by omega, by omega, by omega, by omega, by omega, by omega, by omega, ?_⟩
  have hslen : (succI l i).length ≤ 1000001 := by
    have h1 := foldl_len l (l.getD i (0, (0, (0, ([], []))))).2.2.2.2 (succ0 l i)
    have h2 := succ0_len l i
    have h3 := ht _ (List.getElem_mem hi)
    unfold succI
    rw [getD_lt hi] at h1 ⊢
    omega
  have hI1 : RI nx l.length out (ar.take (n - 1)) (fun j => j = i) := by
    refine ⟨hI.len, hI.sound, fun x hx => hI.tin x (by rw [htake]; exact List.mem_append_left _ hx), fun j hj hjt hn' hc y hy => hI.closed j hj hjt (fun h => ?_) (by simp) y hy, hI.zero⟩
    rw [htake, List.mem_append, List.mem_singleton] at h
    rcases h with h | h
    · exact hn' h
    · exact hc (by omega)
  have hvi := hv i hi
  refine Loops.intro (fun a : Nat × List Bool × (Nat → Tok) × List Int × (Nat → Tok) × Nat × Nat => S31_2 (coverL l hs) (succL l) (startsI l hs) i (succI l i) (succI l i).length a.1 l .no a.2.1 a.2.2.1 0 0 l.length a.2.2.2.1 a.2.2.2.2.1 a.2.2.2.2.2.1 a.2.2.2.2.2.1 a.2.2.2.2.2.2 ⟨0, []⟩)
    (fun a => a.1 ≤ (succI l i).length ∧ RI nx l.length a.2.1 (a.2.2.2.1.take a.2.2.2.2.2.2) (fun j => j = i) ∧ 2 * cf a.2.1 + a.2.2.2.2.2.2 + 1 ≤ 2 * cf out + n ∧ a.2.2.2.2.2.2 ≤ a.2.2.2.1.length ∧ ∀ y ∈ (succI l i).take a.1, a.2.1.getD y.toNat false = true)
    (fun a => (succI l i).length - a.1) (0, out, ts, ar, sa, g, n - 1) rfl ⟨Nat.zero_le _, hI1, by simp only; omega, by simp only; omega, fun y hy => by simp at hy⟩ ?_
  rintro ⟨k, out2, ts2, ar2, sa2, g2, n2⟩ ⟨hk, hI2, hm2, hn2, hd2⟩
  simp only at hk hI2 hm2 hn2 hd2
  refine L31_2 (coverL l hs) (succL l) (startsI l hs) i (succI l i) (succI l i).length k l .no out2 ts2 0 0 l.length ar2 sa2 g2 g2 n2 ⟨0, []⟩ ?_
  simp only [Bool.not_true, Bool.not_false, Bool.true_eq_false, Bool.false_eq_true, forall_const, false_implies, true_implies, and_true, true_and, eq_self, implies_true, Nat.zero_add, Int.toNat_natCast, List.take_length, decide_eq_true_eq, decide_eq_false_iff_not, beq_iff_eq, beq_eq_false_iff_ne, bne_iff_ne, bne_eq_false_iff_eq, ne_eq, Bool.not_eq_true', Bool.not_eq_false', Int.not_le, Int.not_lt, List.length_cons, List.length_nil, List.length_append, Nat.add_zero, List.drop_zero]
  refine ⟨fun h => ?_, fun h => ?_⟩
  · have hklt : k < (succI l i).length := by omega
    rw [wrap64 (by omega) (by omega)]
    have hy : (succI l i).getD k 0 ∈ nx i := by rw [hnxi, getD_lt hklt]; exact List.mem_append_left _ (List.getElem_mem hklt)
    have hyv := hvi _ hy
    have hyr : Rch nx ((succI l i).getD k 0).toNat := .step hri (by rw [Int.toNat_of_nonneg hyv.1]; exact hy)
    obtain ⟨c1, c2⟩ := hI2.come hyv.1 hyv.2 hyr hd2
    have htk : (succI l i).take (k + 1) = (succI l i).take k ++ [(succI l i).getD k 0] := by rw [List.take_succ_eq_append_getElem hklt, getD_lt hklt]
    have hlen2 := hI2.len
    refine ⟨by omega, by omega, fun h1 => ⟨fun h2 => ⟨by omega, by omega, by omega, fun hf => ⟨by omega, by omega, by omega, by omega, by omega, ?_⟩, fun hf => ?_⟩, fun h2 => by omega⟩, fun h1 => by omega⟩
    · obtain ⟨d1, d2, d3⟩ := c1 hf
      refine Again.mk (k + 1, out2.set ((succI l i).getD k 0).toNat true, _, ar2.take n2 ++ [(succI l i).getD k 0], _, g2 + 1, n2 + 1) rfl ⟨by simp only; omega, ?_, by simp only; omega, by simp; omega, by rw [htk]; exact d2⟩ (by simp only; omega)
      simp only
      rw [show n2 + 1 = (ar2.take n2 ++ [(succI l i).getD k 0]).length by simp; omega, List.take_length]
      exact d1
    · exact Again.mk (k + 1, out2, ts2, ar2, sa2, g2, n2) rfl ⟨by simp only; omega, hI2, hm2, hn2, by rw [htk]; exact c2 hf⟩ (by simp only; omega)
  · have hkk : k = (succI l i).length := by omega
    subst hkk
    rw [List.take_length] at hd2
    rw [hci]
    refine ⟨by omega, by omega, ?_⟩
    generalize hpc : (l.getD i (0, (0, (0, ([], []))))).1 = pc at *
    have hcn := coverN_len hs pc hs.length
    have hcm : ∀ k ∈ coverI hs pc, 0 ≤ k ∧ k < hs.length := by
      intro k hk
      have hk' := hk
      unfold coverI coverN at hk'
      rw [List.mem_map] at hk'
      obtain ⟨a, ha, rfl⟩ := hk'
      rw [List.mem_filter, List.mem_range] at ha
      omega
    generalize hcc : coverI hs pc = c at *
    have hcn : c.length ≤ hs.length := by rw [← hcc]; exact hcn
    refine Loops.intro (fun a : Nat × List Bool × (Nat → Tok) × List Int × (Nat → Tok) × Nat × Nat => S31_4 (coverL l hs) (succL l) (startsI l hs) c c.length a.1 l .no a.2.1 a.2.2.1 0 0 l.length a.2.2.2.1 a.2.2.2.2.1 a.2.2.2.2.2.1 a.2.2.2.2.2.1 a.2.2.2.2.2.2 ⟨0, []⟩)
      (fun a => a.1 ≤ c.length ∧ RI nx l.length a.2.1 (a.2.2.2.1.take a.2.2.2.2.2.2) (fun j => j = i) ∧ 2 * cf a.2.1 + a.2.2.2.2.2.2 + 1 ≤ 2 * cf out + n ∧ a.2.2.2.2.2.2 ≤ a.2.2.2.1.length ∧ ∀ y ∈ succI l i ++ (c.take a.1).map (fun k => (startsI l hs).getD k.toNat 0), a.2.1.getD y.toNat false = true)
      (fun a => c.length - a.1) (0, out2, ts2, ar2, sa2, g2, n2) rfl ⟨Nat.zero_le _, hI2, hm2, hn2, fun y hy => hd2 y (by simpa using hy)⟩ ?_
    rintro ⟨k, out3, ts3, ar3, sa3, g3, n3⟩ ⟨hk, hI3, hm3, hn3, hd3⟩
    simp only at hk hI3 hm3 hn3 hd3
    refine L31_4 (coverL l hs) (succL l) (startsI l hs) c c.length k l .no out3 ts3 0 0 l.length ar3 sa3 g3 g3 n3 ⟨0, []⟩ ?_
    simp only [Bool.not_true, Bool.not_false, Bool.true_eq_false, Bool.false_eq_true, forall_const, false_implies, true_implies, and_true, true_and, eq_self, implies_true, Nat.zero_add, Int.toNat_natCast, List.take_length, decide_eq_true_eq, decide_eq_false_iff_not, beq_iff_eq, beq_eq_false_iff_ne, bne_iff_ne, bne_eq_false_iff_eq, ne_eq, Bool.not_eq_true', Bool.not_eq_false', Int.not_le, Int.not_lt, List.length_cons, List.length_nil, List.length_append, Nat.add_zero, List.drop_zero]
    refine ⟨fun h => ?_, fun h => ?_⟩
    · have hklt : k < c.length := by omega
      have hck := hcm _ (List.getElem_mem hklt)
      rw [wrap64 (by omega) (by omega), getD_lt hklt]
      have hy : (startsI l hs).getD (c[k]).toNat 0 ∈ nx i := by rw [hnxi]; exact List.mem_append_right _ (List.mem_map.2 ⟨_, List.getElem_mem hklt, rfl⟩)
      have hyv := hvi _ hy
      have hyr : Rch nx ((startsI l hs).getD (c[k]).toNat 0).toNat := .step hri (by rw [Int.toNat_of_nonneg hyv.1]; exact hy)
      obtain ⟨c1, c2⟩ := hI3.come hyv.1 hyv.2 hyr hd3
      have htk : succI l i ++ (c.take (k + 1)).map (fun k => (startsI l hs).getD k.toNat 0) = (succI l i ++ (c.take k).map (fun k => (startsI l hs).getD k.toNat 0)) ++ [(startsI l hs).getD (c[k]).toNat 0] := by
        rw [List.take_succ_eq_append_getElem hklt, List.map_append, List.append_assoc]; rfl
      have hlen3 := hI3.len
      refine ⟨by omega, by omega, by omega, by omega, fun h1 => ⟨fun h2 => ⟨by omega, by omega, by omega, fun hf => ⟨by omega, by omega, by omega, by omega, by omega, ?_⟩, fun hf => ?_⟩, fun h2 => by omega⟩, fun h1 => by omega⟩
      · obtain ⟨d1, d2, d3⟩ := c1 hf
        refine Again.mk (k + 1, out3.set ((startsI l hs).getD (c[k]).toNat 0).toNat true, _, ar3.take n3 ++ [(startsI l hs).getD (c[k]).toNat 0], _, g3 + 1, n3 + 1) rfl ⟨by simp only; omega, ?_, by simp only; omega, by simp; omega, by rw [htk]; exact d2⟩ (by simp only; omega)
        simp only
        rw [show n3 + 1 = (ar3.take n3 ++ [(startsI l hs).getD (c[k]).toNat 0]).length by simp; omega, List.take_length]
        exact d1
      · exact Again.mk (k + 1, out3, ts3, ar3, sa3, g3, n3) rfl ⟨by simp only; omega, hI3, hm3, hn3, by rw [htk]; exact c2 hf⟩ (by simp only; omega)
    · have hkk : k = c.length := by omega
      subst hkk
      rw [List.take_length, ← hnxi] at hd3
      refine Again.mk (out3, ts3, ar3, sa3, g3, n3) rfl ⟨⟨hI3.len, hI3.sound, hI3.tin, fun j hj hjt hn' _ y hy => ?_, hI3.zero⟩, by simp only; omega, hn3⟩ (by simp only; omega)
      by_cases hji : j = i
      · subst hji; exact hd3 y hy
      · exact hI3.closed j hj hjt hn' hji y hy

end Go.Proofs.Ytiomllkdfhglhaa.AB

set_option linter.unusedVariables false
set_option linter.unusedSimpArgs false
namespace Go.Proofs.Ytiomllkdfhglhaa.AB
open Go

/-- what is known of the marks of a turn -/
structure RT (nx : Nat → List Int) (n : Nat) (out : List Bool) (b : Nat) (more : Bool) (cl : Nat → Prop) : Prop where
  len : out.length = n
  sound : ∀ j, j < n → out.getD j false = true → Rch nx j
  zero : out.getD 0 false = true
  le : cf out ≤ b
  lt : more = true → cf out + 1 ≤ b
  closed : more = false → ∀ i, i < n → cl i → out.getD i false = true → ∀ y ∈ nx i, out.getD y.toNat false = true

theorem RT.mark {nx : Nat → List Int} {n : Nat} {out : List Bool} {b : Nat} {more : Bool} {cl : Nat → Prop} (h : RT nx n out b more cl) {k : Int} (h0 : 0 ≤ k) (hk : k < n) (hr : Rch nx k.toNat)
    (hf : out.getD k.toNat false = false) : RT nx n (out.set k.toNat true) b true cl := by
  have hkl : k.toNat < out.length := by have := h.len; omega
  have := cf_set hkl hf
  have := h.le
  refine ⟨by rw [List.length_set]; exact h.len, fun j hj ht => ?_, by rw [getD_set' hkl, h.zero]; rfl, by omega, fun _ => by omega, fun e => by cases e⟩
  rw [getD_set' hkl, Bool.or_eq_true, beq_iff_eq] at ht
  rcases ht with ht | rfl
  · exact h.sound j hj ht
  · exact hr

theorem p32 {s : List UInt8} {l : List Ins} (C : Code4 s l) (hs : List Hd) (hh : hs.length ≤ 1000000) :
    PC Try.prog 32 [.list cIns l .no, .int .i64 s.length, .list cH hs .no] (rchV (reachAll l s.length hs)) := by
  have hroom : room = 140737488355328 := rfl
  have hl : l.length ≤ 1000000 := by have := C.len; have := C.size; omega
  have ht : ∀ x ∈ l, x.2.2.2.2.length ≤ 1000000 := fun x hx => by have := C.tos x hx; omega
  have hpos : 0 < l.length := by obtain ⟨x, r, e, _⟩ := C.first; rw [e]; simp
  have fin : ∀ p, reachAll l s.length hs = p → (rchV p).norm = rchV (reachAll l s.length hs) ∧ (rchV (reachAll l s.length hs)).nt = true := fun p h => by rw [h]; exact ⟨rfl, rfl⟩
  refine pcOf (X := X32) (d := 0) rfl trivial (by kernel_rfl) (by decide) (E32 l s.length hs ⟨_, p28 l _ hs hl hh, ?_⟩)
  by_cases hbad : hs.any (badH l s.length) = true
  · have e1 : coverAll l s.length hs = ([], 12) := by unfold coverAll; rw [if_pos hbad]
    have e2 : reachAll l s.length hs = ([], 12) := by unfold reachAll; rw [if_pos hbad]
    rw [e1]
    exact ⟨fun _ => fin ([], 12) e2, fun h => absurd h (by simp)⟩
  have hgood : hs.any (badH l s.length) = false := by simpa using hbad
  have e1 : coverAll l s.length hs = (coverL l hs, 0) := by unfold coverAll; rw [if_neg hbad]
  have e2 : reachAll l s.length hs = (reachB (nxI l hs) l.length, 0) := by unfold reachAll; rw [if_neg hbad]
  rw [e1]
  refine ⟨fun h => absurd h (by simp), fun _ => ⟨_, p27 l hl ht, _, p30 l hs (by omega) hh, ?_⟩⟩
  have hv := nx_ok C hgood
  have hcl : (coverL l hs).length = l.length := by simp [coverL]
  have hsl : (succL l).length = l.length := by simp [succL]
  have hal : (startsI l hs).length = hs.length := by simp [startsI]
  generalize hnx : nxI l hs = nx at *
  simp only [Int.toNat_natCast, Nat.zero_add]
  refine ⟨by omega, by omega, by omega, by omega, fun _ => ⟨trivial, by omega, by simpa using hpos, trivial, by simpa using hpos, ?_⟩, fun h => by simp at h; rw [h] at hpos; exact absurd hpos (by simp)⟩
  refine Loops.intro (fun a : List Bool × (Nat → Tok) × Bool × Nat × Toks => S32_0 l (coverL l hs) (succL l) (startsI l hs) l.length a.2.2.1 a.2.2.2.1 a.1 a.2.1 a.2.2.2.2)
    (fun a => RT nx l.length a.1 l.length a.2.2.1 (fun _ => True) ∧ (a.2.2.1 = true → cf a.1 + a.2.2.2.1 + 1 ≤ l.length)) (fun a => if a.2.2.1 then l.length + 2 - a.2.2.2.1 else 0)
    ((List.replicate l.length false).set 0 true, fun j => if j = 0 then .no else .no, true, 0, ⟨0, []⟩) rfl ?_ ?_
  · have hc := cf_set (out := List.replicate l.length false) (k := 0) (by simpa using hpos) (by simp [List.getD, List.getElem?_replicate, hpos])
    have hc2 := cf_le (List.replicate l.length false)
    rw [List.length_replicate] at hc2
    refine ⟨⟨by simp, fun j hj hjt => ?_, ?_, by simp only; omega, fun _ => by simp only; omega, fun e => by cases e⟩, fun _ => by simp only; omega⟩
    · rw [getD_set' (by simpa using hpos)] at hjt
      have : j = 0 := by
        simp only [Bool.or_eq_true, beq_iff_eq] at hjt
        rcases hjt with h | h
        · simp [List.getD, List.getElem?_replicate, hj] at h
        · exact h.symm
      subst this; exact .zero
    · rw [getD_set' (by simpa using hpos)]; simp
  rintro ⟨outb, tsb, more, turn, Tb⟩ ⟨hB, hBm⟩
  simp only at hB hBm
  refine L32_0 l (coverL l hs) (succL l) (startsI l hs) l.length more turn outb tsb Tb ?_
  simp only [Bool.not_true, Bool.not_false, Bool.true_eq_false, Bool.false_eq_true, forall_const, false_implies, true_implies, and_true, true_and, eq_self, implies_true, Nat.zero_add, Int.toNat_natCast, List.take_length, decide_eq_true_eq, decide_eq_false_iff_not, beq_iff_eq, beq_eq_false_iff_ne, bne_iff_ne, bne_eq_false_iff_eq, ne_eq, Bool.not_eq_true', Bool.not_eq_false', Int.not_le, Int.not_lt, List.length_cons, List.length_nil, List.length_append, Nat.add_zero, List.drop_zero]
  refine ⟨fun hmore => ⟨fun hturn => ?_, fun hturn => ?_⟩, fun hmore => ⟨by have := hB.len; omega, ?_⟩⟩
  rotate_left
  · have := hBm hmore; omega
  · have : outb = reachB nx l.length := out_eq hv hpos hB.len hB.zero hB.sound fun i hi hit y hy => hB.closed hmore i hi trivial hit y hy
    rw [← hB.len, List.take_length, this]
    exact fin _ e2
  subst hmore
  have hBm := hBm rfl
  refine Loops.intro (fun a : Nat × List Bool × (Nat → Tok) × Bool × Toks => S32_2 l (coverL l hs) (succL l) (startsI l hs) l.length a.2.2.2.1 turn a.1 a.2.1 a.2.2.1 a.2.2.2.2)
    (fun a => a.1 ≤ l.length ∧ RT nx l.length a.2.1 (cf outb) a.2.2.2.1 (fun i => i < a.1)) (fun a => l.length - a.1) (0, outb, tsb, false, Tb) rfl
    ⟨Nat.zero_le _, hB.len, hB.sound, hB.zero, Nat.le_refl _, fun e => (by cases e), fun _ i _ hi => absurd hi (Nat.not_lt_zero _)⟩ ?_
  rintro ⟨i, out, ts, more, T⟩ ⟨hi, hR⟩
  simp only at hi hR
  refine L32_2 l (coverL l hs) (succL l) (startsI l hs) l.length more turn i out ts T ?_
  simp only [Bool.not_true, Bool.not_false, Bool.true_eq_false, Bool.false_eq_true, forall_const, false_implies, true_implies, and_true, true_and, eq_self, implies_true, Nat.zero_add, Int.toNat_natCast, List.take_length, decide_eq_true_eq, decide_eq_false_iff_not, beq_iff_eq, beq_eq_false_iff_ne, bne_iff_ne, bne_eq_false_iff_eq, ne_eq, Bool.not_eq_true', Bool.not_eq_false', Int.not_le, Int.not_lt, List.length_cons, List.length_nil, List.length_append, Nat.add_zero, List.drop_zero]
  refine ⟨fun h => ?_, fun h => ?_⟩
  rotate_left
  · have hii : i = l.length := by omega
    subst hii
    rw [wrap64 (by omega) (by omega)]
    have hb := cf_le outb
    rw [hB.len] at hb
    have := hR.le
    refine Again.mk (out, ts, more, turn + 1, T) rfl ⟨⟨hR.len, hR.sound, hR.zero, show cf out ≤ l.length by omega, fun e => show cf out + 1 ≤ l.length by have := hR.lt e; omega, fun e j hj _ => hR.closed e j hj hj⟩, fun e => by have := hR.lt e; simp only; omega⟩ ?_
    simp only [if_true]
    split <;> omega
  have hilt : i < l.length := by omega
  have hRl := hR.len
  have hsi : (succL l).getD i [] = succI l i := by simp [succL, List.getD, hilt]
  have hci : (coverL l hs).getD i [] = coverI hs (l.getD i (0, (0, (0, ([], []))))).1 := by simp [coverL, List.getD, hilt]
  have hnxi : nx i = succI l i ++ (coverI hs (l.getD i (0, (0, (0, ([], []))))).1).map fun k => (startsI l hs).getD k.toNat 0 := by rw [← hnx]; rfl
  have hslen : (succI l i).length ≤ 1000001 := by
    have h1 := foldl_len l (l.getD i (0, (0, (0, ([], []))))).2.2.2.2 (succ0 l i)
    have h2 := succ0_len l i
    have h3 := ht _ (List.getElem_mem hilt)
    unfold succI
    rw [getD_lt hilt] at h1 ⊢
    omega
  have w : IntKind.wrap .i64 ((i : Int) + 1) = ((i + 1 : Nat) : Int) := by rw [wrap64 (by omega) (by omega)]; omega
  rw [hsi, w]
  refine ⟨by omega, by omega, by omega, fun hf => ?_, fun hit => ⟨by omega, by omega, trivial, by omega, ?_⟩⟩
  · refine Again.mk (i + 1, out, ts, more, T) rfl ⟨by simp only; omega, hR.len, hR.sound, hR.zero, hR.le, hR.lt, fun e j hj hji hjt y hy => ?_⟩ (by simp only; omega)
    rcases Nat.lt_or_ge j i with h' | h'
    · exact hR.closed e j hj h' hjt y hy
    · have : j = i := by omega
      subst this
      rw [hf] at hjt; cases hjt
  have hri : Rch nx i := hR.sound i hilt hit
  have hvi := hv i hilt
  generalize hpc : (l.getD i (0, (0, (0, ([], []))))).1 = pc at *
  have hcn := coverN_len hs pc hs.length
  have hcm : ∀ k ∈ coverI hs pc, 0 ≤ k ∧ k < hs.length := by
    intro k hk
    have hk' := hk
    unfold coverI coverN at hk'
    rw [List.mem_map] at hk'
    obtain ⟨a, ha, rfl⟩ := hk'
    rw [List.mem_filter, List.mem_range] at ha
    omega
  generalize hcc : coverI hs pc = c at *
  have hcn : c.length ≤ hs.length := by rw [← hcc]; exact hcn
  refine Loops.intro (fun a : Nat × Tok × Toks => S32_4 l (coverL l hs) (succL l) (startsI l hs) l.length more turn i (succI l i ++ (c.take a.1).map fun k => (startsI l hs).getD k.toNat 0) a.2.1 a.1 out ts a.2.2)
    (fun a => a.1 ≤ c.length ∧ a.2.1.fresh a.2.2) (fun a => c.length - a.1) (0, .tk T.n, ⟨T.n + 1, T.n :: T.l⟩) (by simp) ⟨Nat.zero_le _, Tok.fresh_new _ _⟩ ?_
  rintro ⟨k, tk, U⟩ ⟨hk, hU⟩
  simp only at hk hU
  refine L32_4 l (coverL l hs) (succL l) (startsI l hs) l.length more turn i (succI l i ++ (c.take k).map fun k => (startsI l hs).getD k.toNat 0) tk k out ts U ?_
  simp only [Bool.not_true, Bool.not_false, Bool.true_eq_false, Bool.false_eq_true, forall_const, false_implies, true_implies, and_true, true_and, eq_self, implies_true, Nat.zero_add, Int.toNat_natCast, List.take_length, decide_eq_true_eq, decide_eq_false_iff_not, beq_iff_eq, beq_eq_false_iff_ne, bne_iff_ne, bne_eq_false_iff_eq, ne_eq, Bool.not_eq_true', Bool.not_eq_false', Int.not_le, Int.not_lt, List.length_cons, List.length_nil, List.length_append, Nat.add_zero, List.drop_zero, hci]
  refine ⟨by omega, by omega, fun h => ?_, fun h => ?_⟩
  · have hklt : k < c.length := by omega
    have hck := hcm _ (List.getElem_mem hklt)
    rw [wrap64 (by omega) (by omega), getD_lt hklt]
    refine ⟨by omega, by omega, by omega, by omega, by omega, by omega, hU.own, by simp; omega, ?_⟩
    refine Again.mk (k + 1, .tk U.n, ⟨U.n + 1, U.n :: tk.drop U.l⟩) ?_ ⟨by simp only; omega, Tok.fresh_new _ _⟩ (by simp only; omega)
    simp only
    rw [List.take_succ_eq_append_getElem hklt, List.map_append, List.append_assoc]
    rfl
  have hkk : k = c.length := by omega
  subst hkk
  rw [List.take_length, ← hnxi]
  have hnl : (nx i).length ≤ 3000000 := by rw [hnxi]; simp; omega
  refine Loops.intro (fun a : Nat × List Bool × (Nat → Tok) × Bool => S32_6 l (coverL l hs) (succL l) (startsI l hs) l.length a.2.2.2 turn i (nx i) tk a.1 a.2.1 a.2.2.1 U)
    (fun a => a.1 ≤ (nx i).length ∧ RT nx l.length a.2.1 (cf outb) a.2.2.2 (fun j => j < i) ∧ (a.2.2.2 = false → ∀ y ∈ (nx i).take a.1, a.2.1.getD y.toNat false = true)) (fun a => (nx i).length - a.1) (0, out, ts, more) rfl
    ⟨Nat.zero_le _, hR, fun _ y hy => by simp at hy⟩ ?_
  rintro ⟨k, out3, ts3, more3⟩ ⟨hk, hR3, hd3⟩
  simp only at hk hR3 hd3
  refine L32_6 l (coverL l hs) (succL l) (startsI l hs) l.length more3 turn i (nx i) tk k out3 ts3 U ?_
  simp only [Bool.not_true, Bool.not_false, Bool.true_eq_false, Bool.false_eq_true, forall_const, false_implies, true_implies, and_true, true_and, eq_self, implies_true, Nat.zero_add, Int.toNat_natCast, List.take_length, decide_eq_true_eq, decide_eq_false_iff_not, beq_iff_eq, beq_eq_false_iff_ne, bne_iff_ne, bne_eq_false_iff_eq, ne_eq, Bool.not_eq_true', Bool.not_eq_false', Int.not_le, Int.not_lt, List.length_cons, List.length_nil, List.length_append, Nat.add_zero, List.drop_zero]
  refine ⟨fun h => ?_, fun h => ?_⟩
  · have hklt : k < (nx i).length := by omega
    have hy : (nx i).getD k 0 ∈ nx i := by rw [getD_lt hklt]; exact List.getElem_mem hklt
    have hyv := hvi _ hy
    have hyr : Rch nx ((nx i).getD k 0).toNat := .step hri (by rw [Int.toNat_of_nonneg hyv.1]; exact hy)
    have hl3 := hR3.len
    rw [wrap64 (by omega) (by omega)]
    refine ⟨by omega, by omega, fun h1 => ⟨by omega, by omega, by omega, by omega, by omega, fun hf => ⟨by omega, by omega, by omega, by omega, by omega, ?_⟩, fun hf => ?_⟩, fun h1 => by omega⟩
    · exact Again.mk (k + 1, out3.set ((nx i).getD k 0).toNat true, _, true) rfl ⟨by simp only; omega, hR3.mark hyv.1 hyv.2 hyr hf, fun e => (by cases e)⟩ (by simp only; omega)
    · refine Again.mk (k + 1, out3, ts3, more3) rfl ⟨by simp only; omega, hR3, fun e y hy' => ?_⟩ (by simp only; omega)
      rw [List.take_succ_eq_append_getElem hklt, List.mem_append, List.mem_singleton] at hy'
      rcases hy' with hy' | rfl
      · exact hd3 e y hy'
      · rw [getD_lt hklt] at hf; exact hf
  · have hkk : k = (nx i).length := by omega
    subst hkk
    rw [List.take_length] at hd3
    rw [w]
    refine Again.mk (i + 1, out3, ts3, more3, U) rfl ⟨by simp only; omega, hR3.len, hR3.sound, hR3.zero, hR3.le, hR3.lt, fun e j hj hji hjt y hy => ?_⟩ (by simp only; omega)
    rcases Nat.lt_or_ge j i with h' | h'
    · exact hR3.closed e j hj h' hjt y hy
    · have : j = i := by omega
      subst this
      exact hd3 e y hy

end Go.Proofs.Ytiomllkdfhglhaa.AB

set_option linter.unusedVariables false
set_option linter.unusedSimpArgs false
namespace Go.Proofs.Ytiomllkdfhglhaa.AB
open Go

/-! crucible/cruciblelaw8.FlowEdges -/
noncomputable def X7 : Cx := ⟨tt, [(12, [.cd .bool]), (13, [.cd (.slice (.pair (.int .i64) (.pair (.int .i64) (.pair (.int .i64) (.pair (.slice (.int .i64)) (.slice (.int .i64))))))), .cd (.int .i64)]), (14, [.cd (.slice (.slice (.int .i64))), .cd (.int .i64)]), (15, [.cd (.slice (.int .i64))]), (25, [.cd .bool]), (26, [.cd (.slice (.slice (.int .i64)))]), (27, [.cd (.slice (.slice (.int .i64)))]), (28, [.cd (.slice (.slice (.int .i64))), .cd (.int .i64)]), (29, [.cd .bool]), (30, [.cd (.slice (.int .i64))]), (31, [.cd (.slice .bool), .cd (.int .i64)]), (32, [.cd (.slice .bool), .cd (.int .i64)]), (33, [.cd .bool]), (34, [.cd (.slice .bool)]), (35, [.cd (.slice .bool)])], [], [], []⟩
theorem FN7 : fnsB Try.prog X7.fns := (show True from trivial)
theorem E7 (s0 : (List UInt8)) (handlers1 : (List (Int × (Int × (Int × Int))))) {R : V → Prop} (h : (∃ p1 : Bool, PC Try.prog 12 [] (.bool p1) ∧ (((!p1) = true → R (.bool false)) ∧
 ((!p1) = false → (∃ p2 : (List (Int × (Int × (Int × ((List Int) × (List Int)))))) × Int, PC Try.prog 13 [(.str s0)] ((.tup [(.list (.pair (.int .i64) (.pair (.int .i64) (.pair (.int .i64) (.pair (.slice (.int .i64)) (.slice (.int .i64)))))) p2.1 .no), (.int .i64 p2.2)])) ∧ (((p2.2 != (0 : Int)) = true → R (.bool p1)) ∧ ((p2.2 != (0 : Int)) = false → (((decide (((p2.1).length : Int) > (600 : Int))) = true → R (.bool p1)) ∧ ((decide (((p2.1).length : Int) > (600 : Int))) = false → (((decide (((handlers1).length : Int) > (40 : Int))) = true → R (.bool p1)) ∧
 ((decide (((handlers1).length : Int) > (40 : Int))) = false → (∃ p3 : (List (List Int)), PC Try.prog 26 [(.list (.pair (.int .i64) (.pair (.int .i64) (.pair (.int .i64) (.pair (.slice (.int .i64)) (.slice (.int .i64)))))) p2.1 .no)] ((.list (.slice (.int .i64)) p3 .no)) ∧ (∃ p4 : (List (List Int)), PC Try.prog 27 [(.list (.pair (.int .i64) (.pair (.int .i64) (.pair (.int .i64) (.pair (.slice (.int .i64)) (.slice (.int .i64)))))) p2.1 .no)] ((.list (.slice (.int .i64)) p4 .no)) ∧ (∃ p5 : Bool, PC Try.prog 25 [(.list (.slice (.int .i64)) p3 .no), (.list (.slice (.int .i64)) p4 .no)] (.bool p5) ∧ (∃ p6 : (List (List Int)) × Int, PC Try.prog 14 [(.list (.pair (.int .i64) (.pair (.int .i64) (.pair (.int .i64) (.pair (.slice (.int .i64)) (.slice (.int .i64)))))) p2.1 .no), (.int .i64 (((s0).length : Int))), (.list (.pair (.int .i64) (.pair (.int .i64) (.pair (.int .i64) (.int .i64)))) handlers1 .no)] ((.tup [(.list (.slice (.int .i64)) p6.1 .no), (.int .i64 p6.2)])) ∧ (∃ p7 : (List (List Int)) × Int, PC Try.prog 28 [(.list (.pair (.int .i64) (.pair (.int .i64) (.pair (.int .i64) (.pair (.slice (.int .i64)) (.slice (.int .i64)))))) p2.1 .no), (.int .i64 (((s0).length : Int))), (.list (.pair (.int .i64) (.pair (.int .i64) (.pair (.int .i64) (.int .i64)))) handlers1 .no)] ((.tup [(.list (.slice (.int .i64)) p7.1 .no), (.int .i64 p7.2)])) ∧ (∃ p8 : Bool, PC Try.prog 25 [(.list (.slice (.int .i64)) p6.1 .no), (.list (.slice (.int .i64)) p7.1 .no)] (.bool p8) ∧ (∃ p9 : (List Int), PC Try.prog 15 [(.list (.pair (.int .i64) (.pair (.int .i64) (.pair (.int .i64) (.pair (.slice (.int .i64)) (.slice (.int .i64)))))) p2.1 .no), (.list (.pair (.int .i64) (.pair (.int .i64) (.pair (.int .i64) (.int .i64)))) handlers1 .no)] ((.list (.int .i64) p9 .no)) ∧ (∃ p10 : (List Int), PC Try.prog 30 [(.list (.pair (.int .i64) (.pair (.int .i64) (.pair (.int .i64) (.pair (.slice (.int .i64)) (.slice (.int .i64)))))) p2.1 .no), (.list (.pair (.int .i64) (.pair (.int .i64) (.pair (.int .i64) (.int .i64)))) handlers1 .no)] ((.list (.int .i64) p10 .no)) ∧ (∃ p11 : Bool, PC Try.prog 29 [(.list (.int .i64) p9 .no), (.list (.int .i64) p10 .no)] (.bool p11) ∧ (∃ p12 : (List Bool) × Int, PC Try.prog 31 [(.list (.pair (.int .i64) (.pair (.int .i64) (.pair (.int .i64) (.pair (.slice (.int .i64)) (.slice (.int .i64)))))) p2.1 .no), (.int .i64 (((s0).length : Int))), (.list (.pair (.int .i64) (.pair (.int .i64) (.pair (.int .i64) (.int .i64)))) handlers1 .no)] ((.tup [(.list .bool p12.1 .no), (.int .i64 p12.2)])) ∧ (∃ p13 : (List Bool) × Int, PC Try.prog 32 [(.list (.pair (.int .i64) (.pair (.int .i64) (.pair (.int .i64) (.pair (.slice (.int .i64)) (.slice (.int .i64)))))) p2.1 .no), (.int .i64 (((s0).length : Int))), (.list (.pair (.int .i64) (.pair (.int .i64) (.pair (.int .i64) (.int .i64)))) handlers1 .no)] ((.tup [(.list .bool p13.1 .no), (.int .i64 p13.2)])) ∧ (∃ p14 : Bool, PC Try.prog 33 [(.list .bool p12.1 .no), (.list .bool p13.1 .no)] (.bool p14) ∧ (∃ p15 : (List Bool), PC Try.prog 34 [(.list (.pair (.int .i64) (.pair (.int .i64) (.pair (.int .i64) (.pair (.slice (.int .i64)) (.slice (.int .i64)))))) p2.1 .no)] (.list .bool p15 .no) ∧ (∃ p16 : (List Bool), PC Try.prog 35 [(.list (.pair (.int .i64) (.pair (.int .i64) (.pair (.int .i64) (.pair (.slice (.int .i64)) (.slice (.int .i64)))))) p2.1 .no)] (.list .bool p16 .no) ∧ (∃ p17 : Bool, PC Try.prog 33 [(.list .bool p15 .no), (.list .bool p16 .no)] (.bool p17) ∧ ((p1 = true → ((p5 = true → ((p8 = true → (((p6.2 == p7.2) = true → ((p11 = true → ((p14 = true → (((p12.2 == p13.2) = true → R (.bool p17)) ∧ ((p12.2 == p13.2) = false → R (.bool false)))) ∧ (p14 = false → R (.bool false)))) ∧ (p11 = false → R (.bool false)))) ∧ ((p6.2 == p7.2) = false → R (.bool false)))) ∧ (p8 = false → R (.bool false)))) ∧ (p5 = false → R (.bool false)))) ∧ (p1 = false → R (.bool false))))))))))))))))))))))))))))) :
  fnK X7.tt (callN Try.prog X7 0) (X7.md 7) (X7.mk1 7) Try.f7 [(.v (.str s0)), (.v (.list (.pair (.int .i64) (.pair (.int .i64) (.pair (.int .i64) (.int .i64)))) handlers1 .no))] ⟨[], [], ⟨0, []⟩⟩ (topK R) := Eq.mp (by kernel_rfl) h

end Go.Proofs.Ytiomllkdfhglhaa.AB

set_option linter.unusedVariables false
set_option linter.unusedSimpArgs false
namespace Go.Proofs.Ytiomllkdfhglhaa.AB
open Go Go.RowKit

theorem succL_len (l : List Ins) (hl : l.length ≤ 1000000) (ht : ∀ x ∈ l, x.2.2.2.2.length ≤ 1000000) : (succL l).length < 9223372036854775807 ∧ ∀ x ∈ succL l, x.length < 9223372036854775807 := by
  refine ⟨by simp [succL]; omega, fun x hx => ?_⟩
  unfold succL at hx
  rw [List.mem_map] at hx
  obtain ⟨i, hi, rfl⟩ := hx
  rw [List.mem_range] at hi
  have h1 := foldl_len l (l.getD i (0, (0, (0, ([], []))))).2.2.2.2 (succ0 l i)
  have h2 := succ0_len l i
  have h3 := ht _ (List.getElem_mem hi)
  unfold succI
  rw [getD_lt hi] at h1 ⊢
  omega

theorem coverAll_len (l : List Ins) (size : Int) (hs : List Hd) (hl : l.length ≤ 1000000) (hh : hs.length ≤ 1000000) : (coverAll l size hs).1.length < 9223372036854775807 ∧ ∀ x ∈ (coverAll l size hs).1, x.length < 9223372036854775807 := by
  unfold coverAll
  split
  · exact ⟨by simp, fun x hx => by cases hx⟩
  · refine ⟨by simp [coverL]; omega, fun x hx => ?_⟩
    simp only [coverL, List.mem_map] at hx
    obtain ⟨y, _, rfl⟩ := hx
    have : (coverI hs y.1).length ≤ hs.length := coverN_len hs y.1 hs.length
    omega

theorem reachAll_len (l : List Ins) (size : Int) (hs : List Hd) : (reachAll l size hs).1.length ≤ l.length := by
  unfold reachAll
  split
  · simp
  · simp [reachB_len]

theorem p7 (s : List UInt8) (hs : List Hd) : PC Try.prog 7 [.str s, .list cH hs .no] (.bool true) := by
  refine pcOf (X := X7) (d := 0) rfl trivial (by kernel_rfl) (by decide) (E7 s hs ⟨_, p12, ?_⟩)
  simp only [Bool.not_true, Bool.not_false, Bool.true_eq_false, Bool.false_eq_true, forall_const, false_implies, true_implies, and_true, true_and, eq_self, implies_true, Nat.zero_add, Int.toNat_natCast, List.take_length, decide_eq_true_eq, decide_eq_false_iff_not, beq_iff_eq, beq_eq_false_iff_ne, bne_iff_ne, bne_eq_false_iff_eq, ne_eq, Bool.not_eq_true', Bool.not_eq_false', Int.not_le, Int.not_lt, List.length_cons, List.length_nil, List.length_append, Nat.add_zero, List.drop_zero]
  refine ⟨decodeI s, p13 s, fun h => retB rfl, fun h0 => ⟨fun h => retB rfl, fun h1 => ⟨fun h => retB rfl, fun h2 => ?_⟩⟩⟩
  generalize hdec : decodeI s = q at *
  obtain ⟨l, e⟩ := q
  have h0 : e = 0 := by simpa using h0
  subst h0
  simp only at h1 ⊢
  have C := decodeI_ok hdec
  have hl : l.length ≤ 1000000 := by omega
  have hh : hs.length ≤ 1000000 := by omega
  have ht : ∀ x ∈ l, x.2.2.2.2.length ≤ 1000000 := fun x hx => by have := C.tos x hx; omega
  obtain ⟨a1, a2⟩ := succL_len l hl ht
  obtain ⟨b1, b2⟩ := coverAll_len l s.length hs hl hh
  have c1 := reachAll_len l s.length hs
  have st : (startsI l hs).length < 9223372036854775807 := by simp [startsI]; omega
  refine ⟨_, p26 l hl ht C.inc, _, p27 l hl ht, _, p25 _ _ a1 a2, _, p14 l _ hs hl hh C.inc, _, p28 l _ hs hl hh, _, p25 _ _ b1 b2, _, p15 l hs (by omega) hh, _, p30 l hs (by omega) hh, _, p29 _ _ st, _, p31 C hs hh, _, p32 C hs hh, _, p33 _ _ (by omega), _, p34 l hl ht, _, p35 l hl ht, _, p33 _ _ (by simp [backI]; omega), ?_⟩
  simp only [beq_self_eq_true, Bool.not_true, Bool.not_false, Bool.true_eq_false, Bool.false_eq_true, forall_const, false_implies, true_implies, and_true, true_and, eq_self, implies_true, Nat.zero_add, Int.toNat_natCast, List.take_length, decide_eq_true_eq, decide_eq_false_iff_not, beq_iff_eq, beq_eq_false_iff_ne, bne_iff_ne, bne_eq_false_iff_eq, ne_eq, Bool.not_eq_true', Bool.not_eq_false', Int.not_le, Int.not_lt, List.length_cons, List.length_nil, List.length_append, Nat.add_zero, List.drop_zero]
  exact ⟨⟨retB rfl, fun h => absurd trivial h⟩, fun h => absurd trivial h⟩

theorem law_FlowEdges (s : List UInt8) (hs : List Hd) (f0 : Cd.wf .str s) (f1 : Cd.wf (.slice cH) hs) : PC Try.prog 7 [Cd.enc .str s, Cd.enc (.slice cH) hs] (.bool true) := p7 s hs

end Go.Proofs.Ytiomllkdfhglhaa.AB

set_option linter.unusedVariables false
set_option linter.unusedSimpArgs false
namespace Go.Proofs.Ytiomllkdfhglhaa.AB
open Go

/-! crucible/cruciblelaw8.FlowPlain -/
noncomputable def X10 : Cx := ⟨tt, [(12, [.cd .bool]), (13, [.cd (.slice (.pair (.int .i64) (.pair (.int .i64) (.pair (.int .i64) (.pair (.slice (.int .i64)) (.slice (.int .i64))))))), .cd (.int .i64)]), (31, [.cd (.slice .bool), .cd (.int .i64)]), (36, [.cd .bool])], [], [(10, [(0, mkM 82 0 [0, 3, 4, 6], 0), (2, mkM 82 0 [3, 4, 7, 9, 10], 0)])], []⟩
theorem FN10 : fnsB Try.prog X10.fns := (show True from trivial)
def M10_0 : List Bool × Nat := (mkM 82 0 [0, 3, 4, 6], 0)
def S10_0 (s0 : List UInt8) (head3 : Bool) (l4 : List (Int × (Int × (Int × ((List Int) × (List Int)))))) (i6 : Int) (T : Toks) : St :=
  mkS 82 [(0, (.v (.str s0))), (3, (.v (.bool head3))), (4, (.v (.list (.pair (.int .i64) (.pair (.int .i64) (.pair (.int .i64) (.pair (.slice (.int .i64)) (.slice (.int .i64)))))) l4 .no))), (6, (.v (.int .i64 i6)))] [] T
noncomputable def B10_0 : (Exit → St → Prop) → St → Prop := (awp X10.tt (callN Try.prog X10 0) (X10.md 10) 0 (X10.mk1 10) 0 (codeAt [1, 1, 1, 1, 1, 0, 1, 0, 0] (bd Try.f10)))
def M10_2 : List Bool × Nat := (mkM 82 0 [3, 4, 7, 9, 10], 0)
def S10_2 (head3 : Bool) (l4 : List (Int × (Int × (Int × ((List Int) × (List Int)))))) (reach7 : List Bool) (on9 : Bool) (i10 : Int) (T : Toks) : St :=
  mkS 82 [(3, (.v (.bool head3))), (4, (.v (.list (.pair (.int .i64) (.pair (.int .i64) (.pair (.int .i64) (.pair (.slice (.int .i64)) (.slice (.int .i64)))))) l4 .no))), (7, (.v (.list .bool reach7 .no))), (9, (.v (.bool on9))), (10, (.v (.int .i64 i10)))] [] T
noncomputable def B10_2 : (Exit → St → Prop) → St → Prop := (awp X10.tt (callN Try.prog X10 0) (X10.md 10) 0 (X10.mk1 10) 2 (codeAt [1, 1, 1, 1, 1, 1, 1, 1, 1, 0, 1, 0, 0] (bd Try.f10)))
noncomputable def K10_0 (R : V → Prop) : Exit → St → Prop := seqK ((awp X10.tt (callN Try.prog X10 0) (X10.md 10) 0 (X10.mk1 10) 0 (codeAt [1, 1, 1, 1, 1, 1] (bd Try.f10))) (retK tt Try.f10.results.toList fun x s' => topK R x ⟨[], s'.hp, s'.T⟩)) (retK tt Try.f10.results.toList fun x s' => topK R x ⟨[], s'.hp, s'.T⟩)
noncomputable def Q10_0 (R : V → Prop) : Exit → St → Prop := (blockK 0 (K10_0 R))
noncomputable def K10_1 (R : V → Prop) : Exit → St → Prop := seqK ((awp X10.tt (callN Try.prog X10 0) (X10.md 10) 0 (X10.mk1 10) 0 (codeAt [1, 1, 1, 1, 1, 1, 1, 1, 1, 1] (bd Try.f10))) (retK tt Try.f10.results.toList fun x s' => topK R x ⟨[], s'.hp, s'.T⟩)) (retK tt Try.f10.results.toList fun x s' => topK R x ⟨[], s'.hp, s'.T⟩)
noncomputable def Q10_2 (R : V → Prop) : Exit → St → Prop := (blockK 2 (K10_1 R))
theorem E10 (s0 : (List UInt8)) {R : V → Prop} (h : (∃ p1 : Bool, PC Try.prog 12 [] (.bool p1) ∧ (((!p1) = true → R (.bool false)) ∧
 ((!p1) = false → (∃ p2 : (List (Int × (Int × (Int × ((List Int) × (List Int)))))) × Int, PC Try.prog 13 [(.str s0)] ((.tup [(.list (.pair (.int .i64) (.pair (.int .i64) (.pair (.int .i64) (.pair (.slice (.int .i64)) (.slice (.int .i64)))))) p2.1 .no), (.int .i64 p2.2)])) ∧ (((p2.2 != (0 : Int)) = true → R (.bool p1)) ∧ ((p2.2 != (0 : Int)) = false → (((decide (((p2.1).length : Int) > (600 : Int))) = true → R (.bool p1)) ∧
 ((decide (((p2.1).length : Int) > (600 : Int))) = false → (Loops B10_0 M10_0 (Q10_0 R)
  (S10_0 s0 p1 p2.1 (0 : Int) ⟨0, []⟩))))))))))) :
  fnK X10.tt (callN Try.prog X10 0) (X10.md 10) (X10.mk1 10) Try.f10 [(.v (.str s0))] ⟨[], [], ⟨0, []⟩⟩ (topK R) := Eq.mp (by kernel_rfl) h
theorem L10_0 (s0 : List UInt8) (head3 : Bool) (l4 : List (Int × (Int × (Int × ((List Int) × (List Int)))))) (i6 : Int) (T : Toks) {R : V → Prop} {k0 : St → Prop}
 (h : (((decide (i6 < ((l4).length : Int))) = true → (0 ≤ i6 ∧ i6 < ((l4).length : Int) ∧ (((decide ((((l4.getD (i6).toNat (0, (0, (0, ([], []))))).2.2.2.2).length : Int) > (0 : Int))) = true → R (.bool head3)) ∧
 ((decide ((((l4.getD (i6).toNat (0, (0, (0, ([], []))))).2.2.2.2).length : Int) > (0 : Int))) = false → k0 (S10_0 s0 head3 l4 ((IntKind.wrap .i64 (i6 + (1 : Int)))) T))))) ∧
 ((decide (i6 < ((l4).length : Int))) = false → (∃ p3 : (List Bool) × Int, PC Try.prog 31 [(.list (.pair (.int .i64) (.pair (.int .i64) (.pair (.int .i64) (.pair (.slice (.int .i64)) (.slice (.int .i64)))))) l4 .no), (.int .i64 (((s0).length : Int))), .nils] ((.tup [(.list .bool p3.1 .no), (.int .i64 p3.2)])) ∧ (((p3.2 != (0 : Int)) = true → R (.bool false)) ∧ ((p3.2 != (0 : Int)) = false → (((((p3.1).length : Int) != ((l4).length : Int)) = true → R (.bool false)) ∧
 ((((p3.1).length : Int) != ((l4).length : Int)) = false → (Loops B10_2 M10_2 (Q10_2 R)
  (S10_2 head3 l4 p3.1 true (0 : Int) T)))))))))) :
  B10_0 (loopQ M10_0 k0 (Q10_0 R)) (S10_0 s0 head3 l4 i6 T) := Eq.mp (by kernel_rfl) h
theorem L10_2 (head3 : Bool) (l4 : List (Int × (Int × (Int × ((List Int) × (List Int)))))) (reach7 : List Bool) (on9 : Bool) (i10 : Int) (T : Toks) {R : V → Prop} {k2 : St → Prop}
 (h : (((decide (i10 < ((l4).length : Int))) = true → (0 ≤ i10 ∧ i10 < ((reach7).length : Int) ∧ (((!((reach7.getD (i10).toNat false) == on9)) = true → R (.bool false)) ∧
 ((!((reach7.getD (i10).toNat false) == on9)) = false → (0 ≤ i10 ∧ i10 < ((l4).length : Int) ∧ (∃ p4 : Bool, PC Try.prog 36 [(.int .i64 ((l4.getD (i10).toNat (0, (0, (0, ([], []))))).2.1))] (.bool p4) ∧ ((on9 = true → k2 (S10_2 head3 l4 reach7 (!p4) ((IntKind.wrap .i64 (i10 + (1 : Int)))) T)) ∧ (on9 = false → k2 (S10_2 head3 l4 reach7 false ((IntKind.wrap .i64 (i10 + (1 : Int)))) T))))))))) ∧
 ((decide (i10 < ((l4).length : Int))) = false → R (.bool head3)))) :
  B10_2 (loopQ M10_2 k2 (Q10_2 R)) (S10_2 head3 l4 reach7 on9 i10 T) := Eq.mp (by kernel_rfl) h

end Go.Proofs.Ytiomllkdfhglhaa.AB

set_option linter.unusedVariables false
set_option linter.unusedSimpArgs false
namespace Go.Proofs.Ytiomllkdfhglhaa.AB
open Go

/-! crucible/cruciblelaw8.FlowGrows -/
noncomputable def X9 : Cx := ⟨tt, [(12, [.cd .bool]), (13, [.cd (.slice (.pair (.int .i64) (.pair (.int .i64) (.pair (.int .i64) (.pair (.slice (.int .i64)) (.slice (.int .i64))))))), .cd (.int .i64)]), (31, [.cd (.slice .bool), .cd (.int .i64)])], [], [(9, [(0, mkM 114 0 [7, 8, 12, 14, 16], 0)])], []⟩
theorem FN9 : fnsB Try.prog X9.fns := (show True from trivial)
def M9_0 : List Bool × Nat := (mkM 114 0 [7, 8, 12, 14, 16], 0)
def S9_0 (head7 : Bool) (l8 : List (Int × (Int × (Int × ((List Int) × (List Int)))))) (a12 : List Bool) (b14 : List Bool) (i16 : Int) (T : Toks) : St :=
  mkS 114 [(7, (.v (.bool head7))), (8, (.v (.list (.pair (.int .i64) (.pair (.int .i64) (.pair (.int .i64) (.pair (.slice (.int .i64)) (.slice (.int .i64)))))) l8 .no))), (12, (.v (.list .bool a12 .no))), (14, (.v (.list .bool b14 .no))), (16, (.v (.int .i64 i16)))] [] T
noncomputable def B9_0 : (Exit → St → Prop) → St → Prop := (awp X9.tt (callN Try.prog X9 0) (X9.md 9) 0 (X9.mk1 9) 0 (codeAt [1, 1, 1, 1, 1, 1, 1, 1, 1, 1, 1, 1, 0, 1, 0, 0] (bd Try.f9)))
noncomputable def K9_0 (R : V → Prop) : Exit → St → Prop := seqK ((awp X9.tt (callN Try.prog X9 0) (X9.md 9) 0 (X9.mk1 9) 0 (codeAt [1, 1, 1, 1, 1, 1, 1, 1, 1, 1, 1, 1, 1] (bd Try.f9))) (retK tt Try.f9.results.toList fun x s' => topK R x ⟨[], s'.hp, s'.T⟩)) (retK tt Try.f9.results.toList fun x s' => topK R x ⟨[], s'.hp, s'.T⟩)
noncomputable def Q9_0 (R : V → Prop) : Exit → St → Prop := (blockK 0 (K9_0 R))
theorem E9 (s0 : (List UInt8)) (handlers1 : (List (Int × (Int × (Int × Int))))) (which2 : Int) {R : V → Prop} (h : (∃ p1 : Bool, PC Try.prog 12 [] (.bool p1) ∧ (((!p1) = true → R (.bool false)) ∧
 ((!p1) = false → (∃ p2 : (List (Int × (Int × (Int × ((List Int) × (List Int)))))) × Int, PC Try.prog 13 [(.str s0)] ((.tup [(.list (.pair (.int .i64) (.pair (.int .i64) (.pair (.int .i64) (.pair (.slice (.int .i64)) (.slice (.int .i64)))))) p2.1 .no), (.int .i64 p2.2)])) ∧ (((p2.2 != (0 : Int)) = true → R (.bool p1)) ∧ ((p2.2 != (0 : Int)) = false → (((decide (((p2.1).length : Int) > (600 : Int))) = true → R (.bool p1)) ∧ ((decide (((p2.1).length : Int) > (600 : Int))) = false → (((decide (((handlers1).length : Int) > (40 : Int))) = true → R (.bool p1)) ∧ ((decide (((handlers1).length : Int) > (40 : Int))) = false → (((((handlers1).length : Int) == (0 : Int)) = true → R (.bool p1)) ∧
 ((((handlers1).length : Int) == (0 : Int)) = false → (((handlers1).length : Int) ≠ 0 ∧ (((decide ((Int.tmod which2 ((handlers1).length : Int)) < (0 : Int))) = true → (0 ≤ (IntKind.wrap .i64 (0 - (Int.tmod which2 ((handlers1).length : Int)))) ∧ (IntKind.wrap .i64 (0 - (Int.tmod which2 ((handlers1).length : Int)))) ≤ ((handlers1).length : Int) ∧ (Tok.own .exact ([]) ∧ ((([] : List (Int × (Int × (Int × Int))))).length + (((handlers1.take (((IntKind.wrap .i64 (0 - (Int.tmod which2 ((handlers1).length : Int))))).toNat)).drop 0)).length) * 32 ≤ room ∧ (0 ≤ (IntKind.wrap .i64 ((IntKind.wrap .i64 (0 - (Int.tmod which2 ((handlers1).length : Int)))) + (1 : Int))) ∧ (IntKind.wrap .i64 ((IntKind.wrap .i64 (0 - (Int.tmod which2 ((handlers1).length : Int)))) + (1 : Int))) ≤ ((handlers1).length : Int) ∧ (Tok.own (.tk 0) (0 :: []) ∧ (((([] : List (Int × (Int × (Int × Int)))) ++ ((handlers1.take (((IntKind.wrap .i64 (0 - (Int.tmod which2 ((handlers1).length : Int))))).toNat)).drop 0))).length + (((handlers1.take ((handlers1).length)).drop ((IntKind.wrap .i64 ((IntKind.wrap .i64 (0 - (Int.tmod which2 ((handlers1).length : Int)))) + (1 : Int)))).toNat)).length) * 32 ≤ room ∧ (∃ p3 : (List Bool) × Int, PC Try.prog 31 [(.list (.pair (.int .i64) (.pair (.int .i64) (.pair (.int .i64) (.pair (.slice (.int .i64)) (.slice (.int .i64)))))) p2.1 .no), (.int .i64 (((s0).length : Int))), (.list (.pair (.int .i64) (.pair (.int .i64) (.pair (.int .i64) (.int .i64)))) handlers1 .no)] ((.tup [(.list .bool p3.1 .no), (.int .i64 p3.2)])) ∧ (∃ p4 : (List Bool) × Int, PC Try.prog 31 [(.list (.pair (.int .i64) (.pair (.int .i64) (.pair (.int .i64) (.pair (.slice (.int .i64)) (.slice (.int .i64)))))) p2.1 .no), (.int .i64 (((s0).length : Int))), (.list (.pair (.int .i64) (.pair (.int .i64) (.pair (.int .i64) (.int .i64)))) (((([] : List (Int × (Int × (Int × Int)))) ++ ((handlers1.take (((IntKind.wrap .i64 (0 - (Int.tmod which2 ((handlers1).length : Int))))).toNat)).drop 0)) ++ ((handlers1.take ((handlers1).length)).drop ((IntKind.wrap .i64 ((IntKind.wrap .i64 (0 - (Int.tmod which2 ((handlers1).length : Int)))) + (1 : Int)))).toNat))) .no)] ((.tup [(.list .bool p4.1 .no), (.int .i64 p4.2)])) ∧ (((p3.2 != (0 : Int)) = true → R (.bool p1)) ∧
 ((p3.2 != (0 : Int)) = false → (((p4.2 != (0 : Int)) = true → R (.bool false)) ∧ ((p4.2 != (0 : Int)) = false → (((((p3.1).length : Int) != ((p2.1).length : Int)) = true → R (.bool false)) ∧ ((((p3.1).length : Int) != ((p2.1).length : Int)) = false → (((((p4.1).length : Int) != ((p2.1).length : Int)) = true → R (.bool false)) ∧
 ((((p4.1).length : Int) != ((p2.1).length : Int)) = false → (Loops B9_0 M9_0 (Q9_0 R)
  (S9_0 p1 p2.1 p3.1 p4.1 (0 : Int) ⟨2, (1 :: Tok.drop (.tk 0) (0 :: []))⟩))))))))))))))))) ∧
 ((decide ((Int.tmod which2 ((handlers1).length : Int)) < (0 : Int))) = false → (0 ≤ (Int.tmod which2 ((handlers1).length : Int)) ∧ (Int.tmod which2 ((handlers1).length : Int)) ≤ ((handlers1).length : Int) ∧ (Tok.own .exact ([]) ∧ ((([] : List (Int × (Int × (Int × Int))))).length + (((handlers1.take (((Int.tmod which2 ((handlers1).length : Int))).toNat)).drop 0)).length) * 32 ≤ room ∧ (0 ≤ (IntKind.wrap .i64 ((Int.tmod which2 ((handlers1).length : Int)) + (1 : Int))) ∧ (IntKind.wrap .i64 ((Int.tmod which2 ((handlers1).length : Int)) + (1 : Int))) ≤ ((handlers1).length : Int) ∧ (Tok.own (.tk 0) (0 :: []) ∧ (((([] : List (Int × (Int × (Int × Int)))) ++ ((handlers1.take (((Int.tmod which2 ((handlers1).length : Int))).toNat)).drop 0))).length + (((handlers1.take ((handlers1).length)).drop ((IntKind.wrap .i64 ((Int.tmod which2 ((handlers1).length : Int)) + (1 : Int)))).toNat)).length) * 32 ≤ room ∧ (∃ p5 : (List Bool) × Int, PC Try.prog 31 [(.list (.pair (.int .i64) (.pair (.int .i64) (.pair (.int .i64) (.pair (.slice (.int .i64)) (.slice (.int .i64)))))) p2.1 .no), (.int .i64 (((s0).length : Int))), (.list (.pair (.int .i64) (.pair (.int .i64) (.pair (.int .i64) (.int .i64)))) handlers1 .no)] ((.tup [(.list .bool p5.1 .no), (.int .i64 p5.2)])) ∧ (∃ p6 : (List Bool) × Int, PC Try.prog 31 [(.list (.pair (.int .i64) (.pair (.int .i64) (.pair (.int .i64) (.pair (.slice (.int .i64)) (.slice (.int .i64)))))) p2.1 .no), (.int .i64 (((s0).length : Int))), (.list (.pair (.int .i64) (.pair (.int .i64) (.pair (.int .i64) (.int .i64)))) (((([] : List (Int × (Int × (Int × Int)))) ++ ((handlers1.take (((Int.tmod which2 ((handlers1).length : Int))).toNat)).drop 0)) ++ ((handlers1.take ((handlers1).length)).drop ((IntKind.wrap .i64 ((Int.tmod which2 ((handlers1).length : Int)) + (1 : Int)))).toNat))) .no)] ((.tup [(.list .bool p6.1 .no), (.int .i64 p6.2)])) ∧ (((p5.2 != (0 : Int)) = true → R (.bool p1)) ∧
 ((p5.2 != (0 : Int)) = false → (((p6.2 != (0 : Int)) = true → R (.bool false)) ∧ ((p6.2 != (0 : Int)) = false → (((((p5.1).length : Int) != ((p2.1).length : Int)) = true → R (.bool false)) ∧ ((((p5.1).length : Int) != ((p2.1).length : Int)) = false → (((((p6.1).length : Int) != ((p2.1).length : Int)) = true → R (.bool false)) ∧
 ((((p6.1).length : Int) != ((p2.1).length : Int)) = false → (Loops B9_0 M9_0 (Q9_0 R)
  (S9_0 p1 p2.1 p5.1 p6.1 (0 : Int) ⟨2, (1 :: Tok.drop (.tk 0) (0 :: []))⟩)))))))))))))))))))))))))))))))) :
  fnK X9.tt (callN Try.prog X9 0) (X9.md 9) (X9.mk1 9) Try.f9 [(.v (.str s0)), (.v (.list (.pair (.int .i64) (.pair (.int .i64) (.pair (.int .i64) (.int .i64)))) handlers1 .no)), (.v (.int .i64 which2))] ⟨[], [], ⟨0, []⟩⟩ (topK R) := Eq.mp (by kernel_rfl) h
theorem L9_0 (head7 : Bool) (l8 : List (Int × (Int × (Int × ((List Int) × (List Int)))))) (a12 : List Bool) (b14 : List Bool) (i16 : Int) (T : Toks) {R : V → Prop} {k0 : St → Prop}
 (h : (((decide (i16 < ((l8).length : Int))) = true → (0 ≤ i16 ∧ i16 < ((b14).length : Int) ∧ (((b14.getD (i16).toNat false) = true → (0 ≤ i16 ∧ i16 < ((a12).length : Int) ∧ (((!((a12.getD (i16).toNat false))) = true → R (.bool false)) ∧
 ((!((a12.getD (i16).toNat false))) = false → k0 (S9_0 head7 l8 a12 b14 ((IntKind.wrap .i64 (i16 + (1 : Int)))) T))))) ∧ ((b14.getD (i16).toNat false) = false → k0 (S9_0 head7 l8 a12 b14 ((IntKind.wrap .i64 (i16 + (1 : Int)))) T))))) ∧
 ((decide (i16 < ((l8).length : Int))) = false → R (.bool head7)))) :
  B9_0 (loopQ M9_0 k0 (Q9_0 R)) (S9_0 head7 l8 a12 b14 i16 T) := Eq.mp (by kernel_rfl) h

end Go.Proofs.Ytiomllkdfhglhaa.AB

set_option linter.unusedVariables false
set_option linter.unusedSimpArgs false
namespace Go.Proofs.Ytiomllkdfhglhaa.AB
open Go Go.RowKit

/-- arguments that say more serve as well -/
theorem PC.mono {P : Program} {f : FuncId} {args args' : List V} {r : V} (h : PC P f args r) (hl : args.length = args'.length)
    (hm : ∀ (i : Nat) x x', args[i]? = some x → args'[i]? = some x' → ∀ G y, VR G x' y → VR G x y) : PC P f args' r := by
  intro G w vs hG hlen hr
  refine h G w vs hG (by omega) fun i x y hx hy => ?_
  have hi : i < args.length := (List.getElem?_eq_some_iff.1 hx).1
  have hx' : args'[i]? = some (args'[i]'(by omega)) := List.getElem?_eq_getElem (by omega)
  exact hm i x _ hx hx' _ _ (hr i _ y hx' hy)

theorem VR_nils {G : Gh} {c : Cd} {y : Value} (h : VR G .nils y) : VR G (.list c [] .no) y := by
  cases h with
  | nils => exact VR.list c [] .no none 0 0 0 (fun _ => Go.undef) (fun h => absurd rfl h) (Nat.le_refl _) (fun i x hx => by simp at hx) (fun i x hx => by simp at hx) (fun i x hx => by simp at hx) trivial

theorem nx_plain {l : List Ins} (hto : ∀ x ∈ l, x.2.2.2.2 = []) {j : Nat} (hj : j < l.length) : Rch (nxI l []) j ↔ (l.take j).all (fun x => !isEnd x.2.1) = true := by
  have hnx : ∀ i, i < l.length → nxI l [] i = succ0 l i := by
    intro i hi
    unfold nxI succI
    rw [getD_lt hi, hto _ (List.getElem_mem hi)]
    simp [coverN]
  have hsucc : ∀ i y, i < l.length → y ∈ nxI l [] i → y = ((i + 1 : Nat) : Int) ∧ isEnd l[i]!.2.1 = false ∧ i + 1 < l.length := by
    intro i y hi hy
    rw [hnx i hi] at hy
    unfold succ0 at hy
    rw [getD_lt hi] at hy
    split at hy
    · rename_i h
      simp only [Bool.and_eq_true, Bool.not_eq_true', decide_eq_true_eq] at h
      rw [List.mem_singleton] at hy
      rw [getElem!_pos l i hi]
      exact ⟨hy, h.1, h.2⟩
    · cases hy
  constructor
  · intro h
    have : ∀ k, Rch (nxI l []) k → k < l.length ∧ (l.take k).all (fun x => !isEnd x.2.1) = true := by
      intro k hk
      induction hk with
      | zero => exact ⟨by omega, by simp⟩
      | step h1 h2 ih =>
        rename_i i k
        obtain ⟨e1, e2, e3⟩ := hsucc i _ ih.1 h2
        have : k = i + 1 := by omega
        subst this
        rw [getElem!_pos l i ih.1] at e2
        refine ⟨e3, ?_⟩
        rw [all_take_succ _ _ ih.1, Bool.and_eq_true]
        exact ⟨ih.2, by rw [e2]; rfl⟩
    exact (this j h).2
  · intro h
    induction j with
    | zero => exact .zero
    | succ j ih =>
      have hjl : j < l.length := by omega
      rw [all_take_succ _ _ hjl, Bool.and_eq_true] at h
      refine .step (ih hjl h.1) ?_
      rw [hnx j hjl]
      unfold succ0
      rw [getD_lt hjl, if_pos (by rw [h.2]; simpa using hj)]
      exact List.mem_singleton.2 rfl

theorem p10 (s : List UInt8) : PC Try.prog 10 [.str s] (.bool true) := by
  refine pcOf (X := X10) (d := 0) rfl trivial (by kernel_rfl) (by decide) (E10 s ⟨_, p12, ?_⟩)
  simp only [Bool.not_true, Bool.not_false, Bool.true_eq_false, Bool.false_eq_true, forall_const, false_implies, true_implies, and_true, true_and, eq_self, implies_true, Nat.zero_add, Int.toNat_natCast, List.take_length, decide_eq_true_eq, decide_eq_false_iff_not, beq_iff_eq, beq_eq_false_iff_ne, bne_iff_ne, bne_eq_false_iff_eq, ne_eq, Bool.not_eq_true', Bool.not_eq_false', Int.not_le, Int.not_lt, List.length_cons, List.length_nil, List.length_append, Nat.add_zero, List.drop_zero]
  refine ⟨decodeI s, p13 s, fun h => retB rfl, fun h0 => ⟨fun h => retB rfl, fun h1 => ?_⟩⟩
  generalize hdec : decodeI s = q at *
  obtain ⟨l, e⟩ := q
  have h0 : e = 0 := by simpa using h0
  subst h0
  simp only at h1 ⊢
  have C := decodeI_ok hdec
  have hpos : 0 < l.length := by obtain ⟨x, r, e, _⟩ := C.first; rw [e]; simp
  refine Loops.intro (fun i : Nat => S10_0 s true l i ⟨0, []⟩) (fun i => i ≤ l.length ∧ ∀ x ∈ l.take i, x.2.2.2.2 = []) (fun i => l.length - i) 0 rfl ⟨Nat.zero_le _, fun x hx => by simp at hx⟩ ?_
  rintro i ⟨hi, hto⟩
  refine L10_0 s true l i ⟨0, []⟩ ?_
  simp only [Bool.not_true, Bool.not_false, Bool.true_eq_false, Bool.false_eq_true, forall_const, false_implies, true_implies, and_true, true_and, eq_self, implies_true, Nat.zero_add, Int.toNat_natCast, List.take_length, decide_eq_true_eq, decide_eq_false_iff_not, beq_iff_eq, beq_eq_false_iff_ne, bne_iff_ne, bne_eq_false_iff_eq, ne_eq, Bool.not_eq_true', Bool.not_eq_false', Int.not_le, Int.not_lt, List.length_cons, List.length_nil, List.length_append, Nat.add_zero, List.drop_zero]
  refine ⟨fun h => ?_, fun h => ?_⟩
  · have hlt : i < l.length := by omega
    rw [wrap64 (by omega) (by omega), getD_lt hlt]
    refine ⟨by omega, by omega, fun _ => retB rfl, fun h2 => Again.mk (i + 1) rfl ⟨by omega, fun x hx => ?_⟩ (by omega)⟩
    rw [List.take_succ_eq_append_getElem hlt, List.mem_append, List.mem_singleton] at hx
    rcases hx with hx | rfl
    · exact hto x hx
    · exact List.length_eq_zero_iff.1 (by omega)
  have hii : i = l.length := by omega
  subst hii
  rw [List.take_length] at hto
  have e2 : reachAll l s.length [] = (reachB (nxI l []) l.length, 0) := rfl
  have hr := p31 C [] (by simp)
  rw [e2] at hr
  refine ⟨(reachB (nxI l []) l.length, 0), hr.mono rfl fun i x x' hx hx' G y hy => ?_, fun h => absurd rfl h, fun _ => ⟨fun h => absurd (by simp [reachB_len]) h, fun _ => ?_⟩⟩
  · match i with
    | 0 => simp at hx hx'; subst hx hx'; exact hy
    | 1 => simp at hx hx'; subst hx hx'; exact hy
    | 2 => simp at hx hx'; subst hx hx'; exact VR_nils hy
    | n + 3 => simp at hx
  refine Loops.intro (fun i : Nat => S10_2 true l (reachB (nxI l []) l.length) ((l.take i).all fun x => !isEnd x.2.1) i ⟨0, []⟩) (fun i => i ≤ l.length) (fun i => l.length - i) 0 rfl (Nat.zero_le _) ?_
  intro i hi
  have hi : i ≤ l.length := hi
  refine L10_2 true l (reachB (nxI l []) l.length) ((l.take i).all fun x => !isEnd x.2.1) i ⟨0, []⟩ ?_
  simp only [Bool.not_true, Bool.not_false, Bool.true_eq_false, Bool.false_eq_true, forall_const, false_implies, true_implies, and_true, true_and, eq_self, implies_true, Nat.zero_add, Int.toNat_natCast, List.take_length, decide_eq_true_eq, decide_eq_false_iff_not, beq_iff_eq, beq_eq_false_iff_ne, bne_iff_ne, bne_eq_false_iff_eq, ne_eq, Bool.not_eq_true', Bool.not_eq_false', Int.not_le, Int.not_lt, List.length_cons, List.length_nil, List.length_append, Nat.add_zero, List.drop_zero]
  refine ⟨fun h => ?_, fun h => retB rfl⟩
  have hlt : i < l.length := by omega
  have hb : (reachB (nxI l []) l.length).getD i false = (l.take i).all fun x => !isEnd x.2.1 := by
    rw [Bool.eq_iff_iff, reachB_get _ hlt, nx_plain hto hlt]
  rw [wrap64 (by omega) (by omega), getD_lt hlt]
  refine ⟨by omega, by rw [reachB_len]; omega, fun hne => absurd hne (by rw [hb]; simp), fun _ => ⟨by omega, by omega, _, p36 _, fun hon => ?_, fun hon => ?_⟩⟩
  · refine Again.mk (i + 1) ?_ hlt (by omega)
    rw [all_take_succ _ _ hlt, hon]
    rfl
  · refine Again.mk (i + 1) ?_ hlt (by omega)
    rw [all_take_succ _ _ hlt, hon]
    rfl

theorem law_FlowPlain (s : List UInt8) (f0 : Cd.wf .str s) : PC Try.prog 10 [Cd.enc .str s] (.bool true) := p10 s

theorem mem_nxI {l : List Ins} {hs : List Hd} {i : Nat} {y : Int} : y ∈ nxI l hs i ↔ y ∈ succI l i ∨ ∃ h ∈ hs, h.1 ≤ (l.getD i (0, (0, (0, ([], []))))).1 ∧ (l.getD i (0, (0, (0, ([], []))))).1 < h.2.1 ∧ y = idx l h.2.2.1 := by
  unfold nxI
  rw [List.mem_append]
  generalize (l.getD i (0, (0, (0, ([], []))))).1 = pc
  refine or_congr Iff.rfl ?_
  rw [List.mem_map]
  unfold coverI coverN
  constructor
  · rintro ⟨k, hk, rfl⟩
    rw [List.mem_map] at hk
    obtain ⟨a, ha, rfl⟩ := hk
    simp only [List.mem_filter, List.mem_range, Bool.and_eq_true, decide_eq_true_eq] at ha
    obtain ⟨h1, h2, h3⟩ := ha
    rw [getD_lt h1] at h2 h3
    refine ⟨_, List.getElem_mem h1, h2, h3, ?_⟩
    simp [startsI, List.getD, h1]
  · rintro ⟨h, hh, h2, h3, rfl⟩
    obtain ⟨a, ha, rfl⟩ := List.getElem_of_mem hh
    refine ⟨(a : Int), List.mem_map.2 ⟨a, ?_, rfl⟩, by simp [startsI, List.getD, ha]⟩
    simp only [List.mem_filter, List.mem_range, Bool.and_eq_true, decide_eq_true_eq]
    rw [getD_lt ha]
    exact ⟨ha, h2, h3⟩

theorem Rch.mono {nx nx' : Nat → List Int} (h : ∀ i y, y ∈ nx i → y ∈ nx' i) {j : Nat} (hj : Rch nx j) : Rch nx' j := by
  induction hj with
  | zero => exact .zero
  | step _ h2 ih => exact .step ih (h _ _ h2)

theorem p9 (s : List UInt8) (hs : List Hd) (which : Int) : PC Try.prog 9 [.str s, .list cH hs .no, .int .i64 which] (.bool true) := by
  have hroom : room = 140737488355328 := rfl
  refine pcOf (X := X9) (d := 0) rfl trivial (by kernel_rfl) (by decide) (E9 s hs which ⟨_, p12, ?_⟩)
  simp only [Bool.not_true, Bool.not_false, Bool.true_eq_false, Bool.false_eq_true, forall_const, false_implies, true_implies, and_true, true_and, eq_self, implies_true, Nat.zero_add, Int.toNat_natCast, List.take_length, decide_eq_true_eq, decide_eq_false_iff_not, beq_iff_eq, beq_eq_false_iff_ne, bne_iff_ne, bne_eq_false_iff_eq, ne_eq, Bool.not_eq_true', Bool.not_eq_false', Int.not_le, Int.not_lt, List.length_cons, List.length_nil, List.length_append, Nat.add_zero, List.drop_zero]
  refine ⟨decodeI s, p13 s, fun h => retB rfl, fun h0 => ⟨fun h => retB rfl, fun h1 => ⟨fun h => retB rfl, fun h2 => ⟨fun h => retB rfl, fun h3 => ⟨h3, ?_⟩⟩⟩⟩⟩
  generalize hdec : decodeI s = q at *
  obtain ⟨l, e⟩ := q
  have h0 : e = 0 := by simpa using h0
  subst h0
  simp only at h1 ⊢
  have C := decodeI_ok hdec
  have hl : l.length ≤ 1000000 := by omega
  have hh : hs.length ≤ 1000000 := by omega
  have hpos : 0 < hs.length := by omega
  have rest : ∀ k : Nat, k < hs.length → ∃ p3 : List Bool × Int, PC Try.prog 31 [.list cIns l .no, .int .i64 s.length, .list cH hs .no] (rchV p3) ∧ ∃ p4 : List Bool × Int, PC Try.prog 31 [.list cIns l .no, .int .i64 s.length, .list cH (hs.take k ++ hs.drop (k + 1)) .no] (rchV p4) ∧
      ((¬ p3.2 = 0 → (V.bool true).norm = .bool true ∧ (V.bool true).nt = true) ∧ (p3.2 = 0 → (¬ p4.2 = 0 → (V.bool false).norm = .bool true ∧ (V.bool true).nt = true) ∧ (p4.2 = 0 → (¬ (p3.1.length : Int) = l.length → (V.bool false).norm = .bool true ∧ (V.bool true).nt = true) ∧
        ((p3.1.length : Int) = l.length → (¬ (p4.1.length : Int) = l.length → (V.bool false).norm = .bool true ∧ (V.bool true).nt = true) ∧
          ((p4.1.length : Int) = l.length → Loops B9_0 M9_0 (Q9_0 fun v => v.norm = .bool true ∧ (V.bool true).nt = true) (S9_0 true l p3.1 p4.1 0 ⟨2, [1]⟩)))))) := by
    intro k hk
    have hsub : ∀ h ∈ hs.take k ++ hs.drop (k + 1), h ∈ hs := fun h hm => by
      rcases List.mem_append.1 hm with hm | hm
      · exact List.mem_of_mem_take hm
      · exact List.mem_of_mem_drop hm
    refine ⟨_, p31 C hs hh, _, p31 C _ (by simp; omega), fun _ => retB rfl, fun hok => ?_⟩
    have hgood : hs.any (badH l s.length) = false := by
      cases hb : hs.any (badH l s.length) with
      | false => rfl
      | true =>
        unfold reachAll at hok
        rw [if_pos hb] at hok
        cases hok
    have hgood2 : (hs.take k ++ hs.drop (k + 1)).any (badH l s.length) = false := by
      rw [List.any_eq_false] at hgood ⊢
      exact fun x hx => hgood x (hsub x hx)
    have e1 : reachAll l s.length hs = (reachB (nxI l hs) l.length, 0) := by unfold reachAll; rw [if_neg (by simp [hgood])]
    have e2 : reachAll l s.length (hs.take k ++ hs.drop (k + 1)) = (reachB (nxI l (hs.take k ++ hs.drop (k + 1))) l.length, 0) := by unfold reachAll; rw [if_neg (by rw [hgood2]; simp)]
    rw [e1, e2]
    refine ⟨fun h => absurd rfl h, fun _ => ⟨fun h => absurd (by simp [reachB_len]) h, fun _ => ⟨fun h => absurd (by simp [reachB_len]) h, fun _ => ?_⟩⟩⟩
    refine Loops.intro (fun i : Nat => S9_0 true l (reachB (nxI l hs) l.length) (reachB (nxI l (hs.take k ++ hs.drop (k + 1))) l.length) i ⟨2, [1]⟩) (fun i => i ≤ l.length) (fun i => l.length - i) 0 rfl (Nat.zero_le _) ?_
    intro i hi
    have hi : i ≤ l.length := hi
    refine L9_0 true l (reachB (nxI l hs) l.length) (reachB (nxI l (hs.take k ++ hs.drop (k + 1))) l.length) i ⟨2, [1]⟩ ?_
    simp only [Bool.not_true, Bool.not_false, Bool.true_eq_false, Bool.false_eq_true, forall_const, false_implies, true_implies, and_true, true_and, eq_self, implies_true, Nat.zero_add, Int.toNat_natCast, List.take_length, decide_eq_true_eq, decide_eq_false_iff_not, beq_iff_eq, beq_eq_false_iff_ne, bne_iff_ne, bne_eq_false_iff_eq, ne_eq, Bool.not_eq_true', Bool.not_eq_false', Int.not_le, Int.not_lt, List.length_cons, List.length_nil, List.length_append, Nat.add_zero, List.drop_zero, reachB_len]
    refine ⟨fun h => ?_, fun h => retB rfl⟩
    have hlt : i < l.length := by omega
    rw [wrap64 (by omega) (by omega)]
    refine ⟨by omega, by omega, fun hb => ⟨by omega, by omega, fun ha => ?_, fun ha => Again.mk (i + 1) rfl hlt (by omega)⟩, fun _ => Again.mk (i + 1) rfl hlt (by omega)⟩
    rw [reachB_get _ hlt] at hb
    have := (reachB_get (nxI l hs) hlt).2 (hb.mono fun i y hy => by
      rw [mem_nxI] at hy ⊢
      rcases hy with hy | ⟨h, hm, h'⟩
      · exact .inl hy
      · exact .inr ⟨h, hsub h hm, h'⟩)
    rw [this] at ha
    cases ha
  have hm1 := Int.tmod_lt_of_pos which (b := (hs.length : Int)) (by omega)
  have hm2 := Int.lt_tmod_of_pos which (b := (hs.length : Int)) (by omega)
  generalize hk : Int.tmod which (hs.length : Int) = m at *
  refine ⟨fun hneg => ?_, fun hneg => ?_⟩
  · have w1 : IntKind.wrap .i64 (0 - m) = ((-m).toNat : Int) := by rw [wrap64 (by omega) (by omega)]; omega
    have w2 : IntKind.wrap .i64 (((-m).toNat : Int) + 1) = (((-m).toNat + 1 : Nat) : Int) := by rw [wrap64 (by omega) (by omega)]; omega
    rw [w1, w2]
    simp only [Int.toNat_natCast]
    refine ⟨by omega, by omega, trivial, by simp; omega, by omega, by omega, by simp [Tok.own], by simp; omega, ?_⟩
    exact rest (-m).toNat (by omega)
  · have w2 : IntKind.wrap .i64 (m + 1) = ((m.toNat + 1 : Nat) : Int) := by rw [wrap64 (by omega) (by omega)]; omega
    rw [w2]
    simp only [Int.toNat_natCast]
    refine ⟨by omega, by omega, trivial, by simp; omega, by omega, by omega, by simp [Tok.own], by simp; omega, ?_⟩
    exact rest m.toNat (by omega)

theorem law_FlowGrows (s : List UInt8) (hs : List Hd) (n : Int) (f0 : Cd.wf .str s) (f1 : Cd.wf (.slice cH) hs) (f2 : Cd.wf (.int .i64) n) : PC Try.prog 9 [Cd.enc .str s, Cd.enc (.slice cH) hs, Cd.enc (.int .i64) n] (.bool true) := p9 s hs n

end Go.Proofs.Ytiomllkdfhglhaa.AB

set_option linter.unusedVariables false
set_option linter.unusedSimpArgs false
namespace Go.Proofs.Ytiomllkdfhglhaa.AB
open Go

/-! crucible/cruciblelaw8.FlowCloses -/
noncomputable def X8 : Cx := ⟨tt, [(12, [.cd .bool]), (13, [.cd (.slice (.pair (.int .i64) (.pair (.int .i64) (.pair (.int .i64) (.pair (.slice (.int .i64)) (.slice (.int .i64))))))), .cd (.int .i64)]), (14, [.cd (.slice (.slice (.int .i64))), .cd (.int .i64)]), (15, [.cd (.slice (.int .i64))]), (26, [.cd (.slice (.slice (.int .i64)))]), (31, [.cd (.slice .bool), .cd (.int .i64)]), (34, [.cd (.slice .bool)])], [], [(8, [(0, mkM 254 0 [5, 6, 8, 10, 12, 13, 14, 15, 16, 17, 18], 1), (2, mkM 254 0 [5, 6, 8, 10, 12, 13, 14, 15, 16, 17, 18, 19, 20], 1), (4, mkM 254 0 [5, 6, 8, 10, 12, 13, 14, 15, 16, 17, 18, 19, 21], 1), (6, mkM 254 0 [5, 6, 8, 15, 16, 17, 22], 1)])], []⟩
theorem FN8 : fnsB Try.prog X8.fns := (show True from trivial)
def M8_0 : List Bool × Nat := (mkM 254 0 [5, 6, 8, 10, 12, 13, 14, 15, 16, 17, 18], 1)
def S8_0 (head5 : Bool) (l6 : List (Int × (Int × (Int × ((List Int) × (List Int)))))) (reach8 : List Bool) (cover10 : List (List Int)) (succ12 : List (List Int)) (at13 : List Int) (back14 : List Bool) (from15n : Nat) (any16 : Bool) (ends17 : Bool) (i18 : Int) (hq0 : List Bool) (hq0s : Nat → Tok) (T : Toks) : St :=
  mkS 254 [(5, (.v (.bool head5))), (6, (.v (.list (.pair (.int .i64) (.pair (.int .i64) (.pair (.int .i64) (.pair (.slice (.int .i64)) (.slice (.int .i64)))))) l6 .no))), (8, (.v (.list .bool reach8 .no))), (10, (.v (.list (.slice (.int .i64)) cover10 .no))), (12, (.v (.list (.slice (.int .i64)) succ12 .no))), (13, (.v (.list (.int .i64) at13 .no))), (14, (.v (.list .bool back14 .no))), (15, (.arr 0 0 0 from15n)), (16, (.v (.bool any16))), (17, (.v (.bool ends17))), (18, (.v (.int .i64 i18)))] [(some (.arr 0 .bool hq0 hq0s))] T
noncomputable def B8_0 : (Exit → St → Prop) → St → Prop := (awp X8.tt (callN Try.prog X8 0) (X8.md 8) 0 (X8.mk1 8) 0 (codeAt [1, 1, 1, 1, 1, 1, 1, 1, 1, 1, 1, 1, 1, 1, 1, 1, 0, 1, 0, 0] (bd Try.f8)))
def M8_2 : List Bool × Nat := (mkM 254 0 [5, 6, 8, 10, 12, 13, 14, 15, 16, 17, 18, 19, 20], 1)
def S8_2 (head5 : Bool) (l6 : List (Int × (Int × (Int × ((List Int) × (List Int)))))) (reach8 : List Bool) (cover10 : List (List Int)) (succ12 : List (List Int)) (at13 : List Int) (back14 : List Bool) (from15n : Nat) (any16 : Bool) (ends17 : Bool) (i18 : Int) (next19 : List Int) (next19k : Tok) (k20 : Int) (hq0 : List Bool) (hq0s : Nat → Tok) (T : Toks) : St :=
  mkS 254 [(5, (.v (.bool head5))), (6, (.v (.list (.pair (.int .i64) (.pair (.int .i64) (.pair (.int .i64) (.pair (.slice (.int .i64)) (.slice (.int .i64)))))) l6 .no))), (8, (.v (.list .bool reach8 .no))), (10, (.v (.list (.slice (.int .i64)) cover10 .no))), (12, (.v (.list (.slice (.int .i64)) succ12 .no))), (13, (.v (.list (.int .i64) at13 .no))), (14, (.v (.list .bool back14 .no))), (15, (.arr 0 0 0 from15n)), (16, (.v (.bool any16))), (17, (.v (.bool ends17))), (18, (.v (.int .i64 i18))), (19, (.v (.list (.int .i64) next19 next19k))), (20, (.v (.int .i64 k20)))] [(some (.arr 0 .bool hq0 hq0s))] T
noncomputable def B8_2 : (Exit → St → Prop) → St → Prop := (awp X8.tt (callN Try.prog X8 0) (X8.md 8) 0 (X8.mk1 8) 2 (codeAt [1, 1, 1, 1, 1, 1, 1, 1, 1, 1, 1, 1, 1, 1, 1, 1, 0, 1, 0, 0, 1, 0, 0, 1, 0, 1, 0, 0] (bd Try.f8)))
def M8_4 : List Bool × Nat := (mkM 254 0 [5, 6, 8, 10, 12, 13, 14, 15, 16, 17, 18, 19, 21], 1)
def S8_4 (head5 : Bool) (l6 : List (Int × (Int × (Int × ((List Int) × (List Int)))))) (reach8 : List Bool) (cover10 : List (List Int)) (succ12 : List (List Int)) (at13 : List Int) (back14 : List Bool) (from15n : Nat) (any16 : Bool) (ends17 : Bool) (i18 : Int) (next19 : List Int) (next19k : Tok) (k21 : Int) (hq0 : List Bool) (hq0s : Nat → Tok) (T : Toks) : St :=
  mkS 254 [(5, (.v (.bool head5))), (6, (.v (.list (.pair (.int .i64) (.pair (.int .i64) (.pair (.int .i64) (.pair (.slice (.int .i64)) (.slice (.int .i64)))))) l6 .no))), (8, (.v (.list .bool reach8 .no))), (10, (.v (.list (.slice (.int .i64)) cover10 .no))), (12, (.v (.list (.slice (.int .i64)) succ12 .no))), (13, (.v (.list (.int .i64) at13 .no))), (14, (.v (.list .bool back14 .no))), (15, (.arr 0 0 0 from15n)), (16, (.v (.bool any16))), (17, (.v (.bool ends17))), (18, (.v (.int .i64 i18))), (19, (.v (.list (.int .i64) next19 next19k))), (21, (.v (.int .i64 k21)))] [(some (.arr 0 .bool hq0 hq0s))] T
noncomputable def B8_4 : (Exit → St → Prop) → St → Prop := (awp X8.tt (callN Try.prog X8 0) (X8.md 8) 0 (X8.mk1 8) 4 (codeAt [1, 1, 1, 1, 1, 1, 1, 1, 1, 1, 1, 1, 1, 1, 1, 1, 0, 1, 0, 0, 1, 0, 0, 1, 1, 0, 1, 0, 0] (bd Try.f8)))
def M8_6 : List Bool × Nat := (mkM 254 0 [5, 6, 8, 15, 16, 17, 22], 1)
def S8_6 (head5 : Bool) (l6 : List (Int × (Int × (Int × ((List Int) × (List Int)))))) (reach8 : List Bool) (from15n : Nat) (any16 : Bool) (ends17 : Bool) (i22 : Int) (hq0 : List Bool) (hq0s : Nat → Tok) (T : Toks) : St :=
  mkS 254 [(5, (.v (.bool head5))), (6, (.v (.list (.pair (.int .i64) (.pair (.int .i64) (.pair (.int .i64) (.pair (.slice (.int .i64)) (.slice (.int .i64)))))) l6 .no))), (8, (.v (.list .bool reach8 .no))), (15, (.arr 0 0 0 from15n)), (16, (.v (.bool any16))), (17, (.v (.bool ends17))), (22, (.v (.int .i64 i22)))] [(some (.arr 0 .bool hq0 hq0s))] T
noncomputable def B8_6 : (Exit → St → Prop) → St → Prop := (awp X8.tt (callN Try.prog X8 0) (X8.md 8) 0 (X8.mk1 8) 6 (codeAt [1, 1, 1, 1, 1, 1, 1, 1, 1, 1, 1, 1, 1, 1, 1, 1, 1, 0, 1, 0, 0] (bd Try.f8)))
noncomputable def K8_0 (R : V → Prop) : Exit → St → Prop := seqK ((awp X8.tt (callN Try.prog X8 0) (X8.md 8) 0 (X8.mk1 8) 0 (codeAt [1, 1, 1, 1, 1, 1, 1, 1, 1, 1, 1, 1, 1, 1, 1, 1, 1] (bd Try.f8))) (retK tt Try.f8.results.toList fun x s' => topK R x ⟨[], s'.hp, s'.T⟩)) (retK tt Try.f8.results.toList fun x s' => topK R x ⟨[], s'.hp, s'.T⟩)
noncomputable def Q8_0 (R : V → Prop) : Exit → St → Prop := (blockK 0 (K8_0 R))
noncomputable def K8_1 (R : V → Prop) : Exit → St → Prop := seqK ((awp X8.tt (callN Try.prog X8 0) (X8.md 8) 0 (X8.mk1 8) 0 (codeAt [1, 1, 1, 1, 1, 1, 1, 1, 1, 1, 1, 1, 1, 1, 1, 1, 1, 1] (bd Try.f8))) (retK tt Try.f8.results.toList fun x s' => topK R x ⟨[], s'.hp, s'.T⟩)) (retK tt Try.f8.results.toList fun x s' => topK R x ⟨[], s'.hp, s'.T⟩)
noncomputable def Q8_6 (R : V → Prop) : Exit → St → Prop := (blockK 6 (K8_1 R))
noncomputable def K8_2 (R : V → Prop) (k0 : St → Prop) : Exit → St → Prop := seqK ((awp X8.tt (callN Try.prog X8 0) (X8.md 8) 0 (X8.mk1 8) 0 (codeAt [1, 1, 1, 1, 1, 1, 1, 1, 1, 1, 1, 1, 1, 1, 1, 1, 0, 1, 0, 0, 1, 1] (bd Try.f8))) (loopQ M8_0 k0 (blockK 0 (K8_0 R)))) (loopQ M8_0 k0 (blockK 0 (K8_0 R)))
noncomputable def K8_3 (R : V → Prop) (k0 : St → Prop) : Exit → St → Prop := seqK ((awp X8.tt (callN Try.prog X8 0) (X8.md 8) 0 (X8.mk1 8) 1 (codeAt [1, 1, 1, 1, 1, 1, 1, 1, 1, 1, 1, 1, 1, 1, 1, 1, 0, 1, 0, 0, 1, 0, 0, 1, 1] (bd Try.f8))) (blockK 1 (K8_2 R k0))) (blockK 1 (K8_2 R k0))
noncomputable def Q8_2 (R : V → Prop) (k0 : St → Prop) : Exit → St → Prop := (blockK 2 (K8_3 R k0))
noncomputable def K8_4 (R : V → Prop) (k0 : St → Prop) : Exit → St → Prop := seqK ((awp X8.tt (callN Try.prog X8 0) (X8.md 8) 0 (X8.mk1 8) 1 (codeAt [1, 1, 1, 1, 1, 1, 1, 1, 1, 1, 1, 1, 1, 1, 1, 1, 0, 1, 0, 0, 1, 0, 0, 1, 1, 1] (bd Try.f8))) (blockK 1 (K8_2 R k0))) (blockK 1 (K8_2 R k0))
noncomputable def Q8_4 (R : V → Prop) (k0 : St → Prop) : Exit → St → Prop := (blockK 4 (K8_4 R k0))
theorem E8 (s0 : (List UInt8)) (handlers1 : (List (Int × (Int × (Int × Int))))) {R : V → Prop} (h : (∃ p1 : Bool, PC Try.prog 12 [] (.bool p1) ∧ (((!p1) = true → R (.bool false)) ∧
 ((!p1) = false → (∃ p2 : (List (Int × (Int × (Int × ((List Int) × (List Int)))))) × Int, PC Try.prog 13 [(.str s0)] ((.tup [(.list (.pair (.int .i64) (.pair (.int .i64) (.pair (.int .i64) (.pair (.slice (.int .i64)) (.slice (.int .i64)))))) p2.1 .no), (.int .i64 p2.2)])) ∧ (((p2.2 != (0 : Int)) = true → R (.bool p1)) ∧ ((p2.2 != (0 : Int)) = false → (((decide (((p2.1).length : Int) > (600 : Int))) = true → R (.bool p1)) ∧ ((decide (((p2.1).length : Int) > (600 : Int))) = false → (((decide (((handlers1).length : Int) > (40 : Int))) = true → R (.bool p1)) ∧
 ((decide (((handlers1).length : Int) > (40 : Int))) = false → (∃ p3 : (List Bool) × Int, PC Try.prog 31 [(.list (.pair (.int .i64) (.pair (.int .i64) (.pair (.int .i64) (.pair (.slice (.int .i64)) (.slice (.int .i64)))))) p2.1 .no), (.int .i64 (((s0).length : Int))), (.list (.pair (.int .i64) (.pair (.int .i64) (.pair (.int .i64) (.int .i64)))) handlers1 .no)] ((.tup [(.list .bool p3.1 .no), (.int .i64 p3.2)])) ∧ (∃ p4 : (List (List Int)) × Int, PC Try.prog 14 [(.list (.pair (.int .i64) (.pair (.int .i64) (.pair (.int .i64) (.pair (.slice (.int .i64)) (.slice (.int .i64)))))) p2.1 .no), (.int .i64 (((s0).length : Int))), (.list (.pair (.int .i64) (.pair (.int .i64) (.pair (.int .i64) (.int .i64)))) handlers1 .no)] ((.tup [(.list (.slice (.int .i64)) p4.1 .no), (.int .i64 p4.2)])) ∧ (((p3.2 != (0 : Int)) = true → ((p1 = true → (((p3.2 == p4.2) = true → R (.bool ((((p3.1).length : Int) == (0 : Int))))) ∧ ((p3.2 == p4.2) = false → R (.bool false)))) ∧ (p1 = false → R (.bool false)))) ∧
 ((p3.2 != (0 : Int)) = false → (∃ p5 : (List (List Int)), PC Try.prog 26 [(.list (.pair (.int .i64) (.pair (.int .i64) (.pair (.int .i64) (.pair (.slice (.int .i64)) (.slice (.int .i64)))))) p2.1 .no)] ((.list (.slice (.int .i64)) p5 .no)) ∧ (∃ p6 : (List Int), PC Try.prog 15 [(.list (.pair (.int .i64) (.pair (.int .i64) (.pair (.int .i64) (.pair (.slice (.int .i64)) (.slice (.int .i64)))))) p2.1 .no), (.list (.pair (.int .i64) (.pair (.int .i64) (.pair (.int .i64) (.int .i64)))) handlers1 .no)] ((.list (.int .i64) p6 .no)) ∧ (∃ p7 : (List Bool), PC Try.prog 34 [(.list (.pair (.int .i64) (.pair (.int .i64) (.pair (.int .i64) (.pair (.slice (.int .i64)) (.slice (.int .i64)))))) p2.1 .no)] (.list .bool p7 .no) ∧ (((p4.2 != (0 : Int)) = true → R (.bool false)) ∧ ((p4.2 != (0 : Int)) = false → (((((p3.1).length : Int) != ((p2.1).length : Int)) = true → R (.bool false)) ∧ ((((p3.1).length : Int) != ((p2.1).length : Int)) = false → (((((p4.1).length : Int) != ((p2.1).length : Int)) = true → R (.bool false)) ∧ ((((p4.1).length : Int) != ((p2.1).length : Int)) = false → (((((p5).length : Int) != ((p2.1).length : Int)) = true → R (.bool false)) ∧ ((((p5).length : Int) != ((p2.1).length : Int)) = false → (((((p7).length : Int) != ((p2.1).length : Int)) = true → R (.bool false)) ∧ ((((p7).length : Int) != ((p2.1).length : Int)) = false → (((((p6).length : Int) != ((handlers1).length : Int)) = true → R (.bool false)) ∧ ((((p6).length : Int) != ((handlers1).length : Int)) = false → (0 ≤ (0 : Int) ∧ (0 : Int) < ((p3.1).length : Int) ∧ (((!((p3.1.getD ((0 : Int)).toNat false))) = true → R (.bool false)) ∧
 ((!((p3.1.getD ((0 : Int)).toNat false))) = false → (0 ≤ ((p2.1).length : Int) ∧ ((p2.1).length : Int) ≤ ((p2.1).length : Int) ∧ ((p2.1).length : Int) * (1 : Int) ≤ (room : Int) ∧ ((p2.1).length : Int) ≤ 9223372036854775807 ∧ (0 = 0 ∧ 0 ≤ (0 : Int) ∧ (0 : Int) < (((((p2.1).length : Int)).toNat : Nat) : Int) ∧ (0 = 0 ∧ (0 + ((0 : Int)).toNat) < ((List.replicate (((p2.1).length : Int)).toNat false)).length ∧ (Loops B8_0 M8_0 (Q8_0 R)
  (S8_0 p1 p2.1 p3.1 p4.1 p5 p6 p7 ((((p2.1).length : Int)).toNat) false false (0 : Int) ((((List.replicate (((p2.1).length : Int)).toNat false)).set ((0 + ((0 : Int)).toNat)) true)) ((fun j => if j = (0 + ((0 : Int)).toNat) then .no else (fun _ => .no) j)) ⟨0, []⟩)))))))))))))))))))))))))))))))))))))) :
  fnK X8.tt (callN Try.prog X8 0) (X8.md 8) (X8.mk1 8) Try.f8 [(.v (.str s0)), (.v (.list (.pair (.int .i64) (.pair (.int .i64) (.pair (.int .i64) (.int .i64)))) handlers1 .no))] ⟨[], [], ⟨0, []⟩⟩ (topK R) := Eq.mp (by kernel_rfl) h
theorem L8_0 (head5 : Bool) (l6 : List (Int × (Int × (Int × ((List Int) × (List Int)))))) (reach8 : List Bool) (cover10 : List (List Int)) (succ12 : List (List Int)) (at13 : List Int) (back14 : List Bool) (from15n : Nat) (any16 : Bool) (ends17 : Bool) (i18 : Int) (hq0 : List Bool) (hq0s : Nat → Tok) (T : Toks) {R : V → Prop} {k0 : St → Prop}
 (h : (((decide (i18 < ((l6).length : Int))) = true → (0 ≤ i18 ∧ i18 < ((succ12).length : Int) ∧ (Tok.own .exact T.l ∧ ((([] : List Int)).length + ((succ12.getD (i18).toNat [])).length) * 8 ≤ room ∧ (Loops B8_2 M8_2 (Q8_2 R k0)
  (S8_2 head5 l6 reach8 cover10 succ12 at13 back14 from15n any16 ends17 i18 ((([] : List Int) ++ (succ12.getD (i18).toNat []))) (.tk T.n) (0 : Int) hq0 hq0s ⟨(T.n + 1), (T.n :: T.l)⟩))))) ∧
 ((decide (i18 < ((l6).length : Int))) = false → (Loops B8_6 M8_6 (Q8_6 R)
  (S8_6 head5 l6 reach8 from15n any16 ends17 (0 : Int) hq0 hq0s T))))) :
  B8_0 (loopQ M8_0 k0 (Q8_0 R)) (S8_0 head5 l6 reach8 cover10 succ12 at13 back14 from15n any16 ends17 i18 hq0 hq0s T) := Eq.mp (by kernel_rfl) h
theorem L8_2 (head5 : Bool) (l6 : List (Int × (Int × (Int × ((List Int) × (List Int)))))) (reach8 : List Bool) (cover10 : List (List Int)) (succ12 : List (List Int)) (at13 : List Int) (back14 : List Bool) (from15n : Nat) (any16 : Bool) (ends17 : Bool) (i18 : Int) (next19 : List Int) (next19k : Tok) (k20 : Int) (hq0 : List Bool) (hq0s : Nat → Tok) (T : Toks) {R : V → Prop} {k0 : St → Prop} {k2 : St → Prop}
 (h : (0 ≤ i18 ∧ i18 < ((cover10).length : Int) ∧ (((decide (k20 < (((cover10.getD (i18).toNat [])).length : Int))) = true → (0 ≤ i18 ∧ i18 < ((cover10).length : Int) ∧ (0 ≤ k20 ∧ k20 < (((cover10.getD (i18).toNat [])).length : Int) ∧ (0 ≤ (((cover10.getD (i18).toNat [])).getD (k20).toNat 0) ∧ (((cover10.getD (i18).toNat [])).getD (k20).toNat 0) < ((at13).length : Int) ∧ (Tok.own next19k T.l ∧ ((next19).length + (([(at13.getD ((((cover10.getD (i18).toNat [])).getD (k20).toNat 0)).toNat 0)] : List Int)).length) * 8 ≤ room ∧ k2 (S8_2 head5 l6 reach8 cover10 succ12 at13 back14 from15n any16 ends17 i18 ((next19 ++ ([(at13.getD ((((cover10.getD (i18).toNat [])).getD (k20).toNat 0)).toNat 0)] : List Int))) (.tk T.n) ((IntKind.wrap .i64 (k20 + (1 : Int)))) hq0 hq0s ⟨(T.n + 1), (T.n :: Tok.drop next19k T.l)⟩)))))) ∧
 ((decide (k20 < (((cover10.getD (i18).toNat [])).length : Int))) = false → (Loops B8_4 M8_4 (Q8_4 R k0)
  (S8_4 head5 l6 reach8 cover10 succ12 at13 back14 from15n any16 ends17 i18 next19 next19k (0 : Int) hq0 hq0s T)))))) :
  B8_2 (loopQ M8_2 k2 (Q8_2 R k0)) (S8_2 head5 l6 reach8 cover10 succ12 at13 back14 from15n any16 ends17 i18 next19 next19k k20 hq0 hq0s T) := Eq.mp (by kernel_rfl) h
theorem L8_6 (head5 : Bool) (l6 : List (Int × (Int × (Int × ((List Int) × (List Int)))))) (reach8 : List Bool) (from15n : Nat) (any16 : Bool) (ends17 : Bool) (i22 : Int) (hq0 : List Bool) (hq0s : Nat → Tok) (T : Toks) {R : V → Prop} {k6 : St → Prop}
 (h : (((decide (i22 < ((l6).length : Int))) = true → (0 ≤ i22 ∧ i22 < ((reach8).length : Int) ∧ (((reach8.getD (i22).toNat false) = true → (0 = 0 ∧ 0 ≤ i22 ∧ i22 < ((from15n : Nat) : Int) ∧ (0 = 0 ∧ (0 + (i22).toNat) < (hq0).length ∧ (((!((hq0.getD ((0 + (i22).toNat)) false))) = true → R (.bool false)) ∧
 ((!((hq0.getD ((0 + (i22).toNat)) false))) = false → k6 (S8_6 head5 l6 reach8 from15n any16 ends17 ((IntKind.wrap .i64 (i22 + (1 : Int)))) hq0 hq0s T)))))) ∧ ((reach8.getD (i22).toNat false) = false → k6 (S8_6 head5 l6 reach8 from15n any16 ends17 ((IntKind.wrap .i64 (i22 + (1 : Int)))) hq0 hq0s T))))) ∧
 ((decide (i22 < ((l6).length : Int))) = false → ((head5 = true → ((any16 = true → R (.bool true)) ∧ (any16 = false → R (.bool ends17)))) ∧ (head5 = false → R (.bool false)))))) :
  B8_6 (loopQ M8_6 k6 (Q8_6 R)) (S8_6 head5 l6 reach8 from15n any16 ends17 i22 hq0 hq0s T) := Eq.mp (by kernel_rfl) h
theorem L8_4 (head5 : Bool) (l6 : List (Int × (Int × (Int × ((List Int) × (List Int)))))) (reach8 : List Bool) (cover10 : List (List Int)) (succ12 : List (List Int)) (at13 : List Int) (back14 : List Bool) (from15n : Nat) (any16 : Bool) (ends17 : Bool) (i18 : Int) (next19 : List Int) (next19k : Tok) (k21 : Int) (hq0 : List Bool) (hq0s : Nat → Tok) (T : Toks) {R : V → Prop} {k0 : St → Prop} {k4 : St → Prop}
 (h : (((decide (k21 < ((next19).length : Int))) = true → (0 ≤ k21 ∧ k21 < ((next19).length : Int) ∧ (((decide ((next19.getD (k21).toNat 0) < (0 : Int))) = true → R (.bool false)) ∧ ((decide ((next19.getD (k21).toNat 0) < (0 : Int))) = false → (0 ≤ k21 ∧ k21 < ((next19).length : Int) ∧ (((decide ((next19.getD (k21).toNat 0) ≥ ((l6).length : Int))) = true → R (.bool false)) ∧ ((decide ((next19.getD (k21).toNat 0) ≥ ((l6).length : Int))) = false → (0 ≤ i18 ∧ i18 < ((reach8).length : Int) ∧ (((reach8.getD (i18).toNat false) = true → (0 ≤ k21 ∧ k21 < ((next19).length : Int) ∧ (0 ≤ (next19.getD (k21).toNat 0) ∧ (next19.getD (k21).toNat 0) < ((reach8).length : Int) ∧ (((!((reach8.getD ((next19.getD (k21).toNat 0)).toNat false))) = true → R (.bool false)) ∧
 ((!((reach8.getD ((next19.getD (k21).toNat 0)).toNat false))) = false → (0 ≤ i18 ∧ i18 < ((reach8).length : Int) ∧ (((reach8.getD (i18).toNat false) = true → (0 ≤ k21 ∧ k21 < ((next19).length : Int) ∧ (0 = 0 ∧ 0 ≤ (next19.getD (k21).toNat 0) ∧ (next19.getD (k21).toNat 0) < ((from15n : Nat) : Int) ∧ (0 = 0 ∧ (0 + ((next19.getD (k21).toNat 0)).toNat) < (hq0).length ∧ k4 (S8_4 head5 l6 reach8 cover10 succ12 at13 back14 from15n any16 ends17 i18 next19 next19k ((IntKind.wrap .i64 (k21 + (1 : Int)))) ((hq0.set ((0 + ((next19.getD (k21).toNat 0)).toNat)) true)) ((fun j => if j = (0 + ((next19.getD (k21).toNat 0)).toNat) then .no else hq0s j)) T))))) ∧
 ((reach8.getD (i18).toNat false) = false → k4 (S8_4 head5 l6 reach8 cover10 succ12 at13 back14 from15n any16 ends17 i18 next19 next19k ((IntKind.wrap .i64 (k21 + (1 : Int)))) hq0 hq0s T))))))))) ∧ ((reach8.getD (i18).toNat false) = false → (0 ≤ i18 ∧ i18 < ((reach8).length : Int) ∧ (((reach8.getD (i18).toNat false) = true → (0 ≤ k21 ∧ k21 < ((next19).length : Int) ∧ (0 = 0 ∧ 0 ≤ (next19.getD (k21).toNat 0) ∧ (next19.getD (k21).toNat 0) < ((from15n : Nat) : Int) ∧ (0 = 0 ∧ (0 + ((next19.getD (k21).toNat 0)).toNat) < (hq0).length ∧ k4 (S8_4 head5 l6 reach8 cover10 succ12 at13 back14 from15n any16 ends17 i18 next19 next19k ((IntKind.wrap .i64 (k21 + (1 : Int)))) ((hq0.set ((0 + ((next19.getD (k21).toNat 0)).toNat)) true)) ((fun j => if j = (0 + ((next19.getD (k21).toNat 0)).toNat) then .no else hq0s j)) T))))) ∧
 ((reach8.getD (i18).toNat false) = false → k4 (S8_4 head5 l6 reach8 cover10 succ12 at13 back14 from15n any16 ends17 i18 next19 next19k ((IntKind.wrap .i64 (k21 + (1 : Int)))) hq0 hq0s T)))))))))))))) ∧
 ((decide (k21 < ((next19).length : Int))) = false → ((any16 = true → ((ends17 = true → k0 (S8_0 head5 l6 reach8 cover10 succ12 at13 back14 from15n true true ((IntKind.wrap .i64 (i18 + (1 : Int)))) hq0 hq0s T)) ∧ (ends17 = false → (0 ≤ i18 ∧ i18 < ((reach8).length : Int) ∧ (((reach8.getD (i18).toNat false) = true → (0 ≤ i18 ∧ i18 < ((succ12).length : Int) ∧ k0 (S8_0 head5 l6 reach8 cover10 succ12 at13 back14 from15n true (((((succ12.getD (i18).toNat [])).length : Int) == (0 : Int))) ((IntKind.wrap .i64 (i18 + (1 : Int)))) hq0 hq0s T))) ∧ ((reach8.getD (i18).toNat false) = false → k0 (S8_0 head5 l6 reach8 cover10 succ12 at13 back14 from15n true false ((IntKind.wrap .i64 (i18 + (1 : Int)))) hq0 hq0s T))))))) ∧ (any16 = false → (0 ≤ i18 ∧ i18 < ((back14).length : Int) ∧ ((ends17 = true → k0 (S8_0 head5 l6 reach8 cover10 succ12 at13 back14 from15n ((back14.getD (i18).toNat false)) true ((IntKind.wrap .i64 (i18 + (1 : Int)))) hq0 hq0s T)) ∧ (ends17 = false → (0 ≤ i18 ∧ i18 < ((reach8).length : Int) ∧ (((reach8.getD (i18).toNat false) = true → (0 ≤ i18 ∧ i18 < ((succ12).length : Int) ∧ k0 (S8_0 head5 l6 reach8 cover10 succ12 at13 back14 from15n ((back14.getD (i18).toNat false)) (((((succ12.getD (i18).toNat [])).length : Int) == (0 : Int))) ((IntKind.wrap .i64 (i18 + (1 : Int)))) hq0 hq0s T))) ∧ ((reach8.getD (i18).toNat false) = false → k0 (S8_0 head5 l6 reach8 cover10 succ12 at13 back14 from15n ((back14.getD (i18).toNat false)) false ((IntKind.wrap .i64 (i18 + (1 : Int)))) hq0 hq0s T)))))))))))) :
  B8_4 (loopQ M8_4 k4 (Q8_4 R k0)) (S8_4 head5 l6 reach8 cover10 succ12 at13 back14 from15n any16 ends17 i18 next19 next19k k21 hq0 hq0s T) := Eq.mp (by kernel_rfl) h

end Go.Proofs.Ytiomllkdfhglhaa.AB

set_option linter.unusedVariables false
set_option linter.unusedSimpArgs false
namespace Go.Proofs.Ytiomllkdfhglhaa.AB
open Go Go.RowKit

theorem idx_lt_of_pc {s : List UInt8} {l : List Ins} (C : Code4 s l) {i : Nat} (hi : i < l.length) {to : Int} (h : isPc l to = true) (hgt : l[i].1 < to) : (i : Int) < idx l to := by
  obtain ⟨j, hj, e1, e2⟩ := idx_pos h
  rw [e1]
  rcases Nat.lt_trichotomy i j with h' | h' | h'
  · omega
  · subst h'; omega
  · have := List.pairwise_iff_getElem.1 C.inc j i hj hi h'
    omega

/-- where nothing jumps back, something that is come to ends -/
theorem some_ends {s : List UInt8} {l : List Ins} (C : Code4 s l) {hs : List Hd} (hv : ∀ i, i < l.length → ∀ y ∈ nxI l hs i, 0 ≤ y ∧ y < l.length) (hpos : 0 < l.length)
    (hb : ∀ b ∈ backI l, b = false) : ∃ i, i < l.length ∧ Rch (nxI l hs) i ∧ succI l i = [] := by
  -- the last that is come to
  have top : ∀ n, n ≤ l.length → (∃ i, i < n ∧ Rch (nxI l hs) i) → ∃ i, i < n ∧ Rch (nxI l hs) i ∧ ∀ j, j < n → Rch (nxI l hs) j → j ≤ i := by
    intro n
    induction n with
    | zero => rintro _ ⟨i, hi, _⟩; omega
    | succ n ih =>
      rintro hn ⟨i, hi, hr⟩
      by_cases hrn : Rch (nxI l hs) n
      · exact ⟨n, by omega, hrn, fun j hj _ => by omega⟩
      · have hin : i < n := by
          rcases Nat.lt_or_ge i n with h | h
          · exact h
          · have : i = n := by omega
            subst this; exact absurd hr hrn
        obtain ⟨k, k1, k2, k3⟩ := ih (by omega) ⟨i, hin, hr⟩
        refine ⟨k, by omega, k2, fun j hj hjr => ?_⟩
        rcases Nat.lt_or_ge j n with h | h
        · exact k3 j h hjr
        · have : j = n := by omega
          subst this; exact absurd hjr hrn
  obtain ⟨i, hi, hr, hmax⟩ := top l.length (Nat.le_refl _) ⟨0, hpos, .zero⟩
  refine ⟨i, hi, hr, ?_⟩
  have le : ∀ y ∈ nxI l hs i, y ≤ i := by
    intro y hy
    have hyv := hv i hi y hy
    have := hmax y.toNat (by omega) (.step hr (by rw [Int.toNat_of_nonneg hyv.1]; exact hy))
    omega
  have hto : l[i].2.2.2.2 = [] := by
    cases hl : l[i].2.2.2.2 with
    | nil => rfl
    | cons t ts =>
      exfalso
      have ht : t ∈ l[i].2.2.2.2 := by rw [hl]; exact List.mem_cons_self ..
      have hback : (l[i].2.2.2.2.any fun to => decide (to ≤ l[i].1)) = false := hb _ (List.mem_map.2 ⟨_, List.getElem_mem hi, rfl⟩)
      rw [List.any_eq_false] at hback
      have h1 := hback t ht
      have h2 := idx_lt_of_pc C hi (C.lands _ (List.getElem_mem hi) t ht) (by simpa using h1)
      have h3 : idx l t ∈ succI l i := by
        unfold succI
        rw [getD_lt hi]
        have : ∀ (tos : List Int) (s : List Int), (t ∈ tos ∨ idx l t ∈ s) → idx l t ∈ tos.foldl (addTo l) s := by
          intro tos
          induction tos with
          | nil => intro s h; rcases h with h | h; cases h; exact h
          | cons a tos ih =>
            intro s h
            refine ih _ ?_
            have hadd : ∀ x, x ∈ s → x ∈ addTo l s a := fun x hx => by
              unfold addTo; split
              · exact hx
              · exact List.mem_append_left _ hx
            rcases h with h | h
            · rcases List.mem_cons.1 h with rfl | h
              · right
                unfold addTo
                split
                · rename_i hc; simpa using hc
                · simp
              · exact .inl h
            · exact .inr (hadd _ h)
        exact this _ _ (.inl ht)
      have := le _ (by unfold nxI; exact List.mem_append_left _ h3)
      omega
  have h0 : succI l i = succ0 l i := by unfold succI; rw [getD_lt hi, hto]; rfl
  rw [h0]
  unfold succ0
  rw [getD_lt hi]
  split
  · rename_i h
    exfalso
    have : ((i + 1 : Nat) : Int) ∈ nxI l hs i := by
      unfold nxI; rw [h0]; unfold succ0; rw [getD_lt hi, if_pos h]; exact List.mem_append_left _ (List.mem_singleton.2 rfl)
    have := le _ this
    omega
  · rfl

set_option maxHeartbeats 2000000 in
theorem p8 (s : List UInt8) (hs : List Hd) : PC Try.prog 8 [.str s, .list cH hs .no] (.bool true) := by
  have hroom : room = 140737488355328 := rfl
  refine pcOf (X := X8) (d := 0) rfl trivial (by kernel_rfl) (by decide) (E8 s hs ⟨_, p12, ?_⟩)
  simp only [Bool.not_true, Bool.not_false, Bool.true_eq_false, Bool.false_eq_true, forall_const, false_implies, true_implies, and_true, true_and, eq_self, implies_true, Nat.zero_add, Int.toNat_natCast, List.take_length, decide_eq_true_eq, decide_eq_false_iff_not, beq_iff_eq, beq_eq_false_iff_ne, bne_iff_ne, bne_eq_false_iff_eq, ne_eq, Bool.not_eq_true', Bool.not_eq_false', Int.not_le, Int.not_lt, List.length_cons, List.length_nil, List.length_append, Nat.add_zero, List.drop_zero]
  refine ⟨decodeI s, p13 s, fun h => retB rfl, fun h0 => ⟨fun h => retB rfl, fun h1 => ⟨fun h => retB rfl, fun h2 => ?_⟩⟩⟩
  generalize hdec : decodeI s = q at *
  obtain ⟨l, e⟩ := q
  have h0 : e = 0 := by simpa using h0
  subst h0
  simp only at h1 ⊢
  have C := decodeI_ok hdec
  have hl : l.length ≤ 1000000 := by omega
  have hh : hs.length ≤ 1000000 := by omega
  have hpos : 0 < l.length := by obtain ⟨x, r, e, _⟩ := C.first; rw [e]; simp
  have ht : ∀ x ∈ l, x.2.2.2.2.length ≤ 1000000 := fun x hx => by have := C.tos x hx; omega
  refine ⟨_, p31 C hs hh, _, p14 l _ hs hl hh C.inc, ?_⟩
  by_cases hbad : hs.any (badH l s.length) = true
  · have e1 : coverAll l s.length hs = ([], 12) := by unfold coverAll; rw [if_pos hbad]
    have e2 : reachAll l s.length hs = ([], 12) := by unfold reachAll; rw [if_pos hbad]
    rw [e1, e2]
    exact ⟨fun _ => ⟨fun _ => retB rfl, fun h => absurd rfl h⟩, fun h => absurd h (by simp)⟩
  have hgood : hs.any (badH l s.length) = false := by simpa using hbad
  have e1 : coverAll l s.length hs = (coverL l hs, 0) := by unfold coverAll; rw [if_neg hbad]
  have e2 : reachAll l s.length hs = (reachB (nxI l hs) l.length, 0) := by unfold reachAll; rw [if_neg hbad]
  rw [e1, e2]
  have hv := nx_ok C hgood
  have hcl : (coverL l hs).length = l.length := by simp [coverL]
  have hsl : (succL l).length = l.length := by simp [succL]
  have hal : (startsI l hs).length = hs.length := by simp [startsI]
  have hbl : (backI l).length = l.length := by simp [backI]
  have hrl := reachB_len (nxI l hs) l.length
  have hr0 : (reachB (nxI l hs) l.length).getD 0 false = true := (reachB_get _ hpos).2 .zero
  have hr0' : (reachB (nxI l hs) l.length).getD (Int.toNat 0) false = true := hr0
  refine ⟨fun h => absurd rfl h, fun _ => ⟨_, p26 l hl ht C.inc, _, p15 l hs (by omega) hh, _, p34 l hl ht, fun h => absurd rfl h, fun _ => ⟨fun h => absurd (by rw [hrl]) h, fun _ => ⟨fun h => absurd (by rw [hcl]) h, fun _ => ⟨fun h => absurd (by rw [hsl]) h, fun _ =>
    ⟨fun h => absurd (by rw [hbl]) h, fun _ => ⟨fun h => absurd (by rw [hal]) h, fun _ => ⟨by omega, by omega, fun h => absurd h (by rw [hr0']; simp), fun _ => ⟨by omega, by omega, by omega, by omega, by omega, by omega, by simpa using hpos, ?_⟩⟩⟩⟩⟩⟩⟩⟩⟩
  have hbe := some_ends C hv hpos
  generalize hrb : reachB (nxI l hs) l.length = rb at *
  have hrg : ∀ j, j < l.length → (rb.getD j false = true ↔ Rch (nxI l hs) j) := fun j hj => by rw [← hrb]; exact reachB_get _ hj
  have hz0 : (List.replicate l.length false).length = l.length := by simp
  -- whether something ends
  let ends (n : Nat) : Bool := (List.range n).any fun j => rb.getD j false && decide ((succI l j).length = 0)
  have ends_succ : ∀ n, ends (n + 1) = (ends n || (rb.getD n false && decide ((succI l n).length = 0))) := fun n => by
    show (List.range (n + 1)).any _ = _
    rw [List.range_succ, List.any_append]
    simp only [List.any_cons, List.any_nil, Bool.or_false]
    rfl
  refine Loops.intro (fun a : Nat × List Bool × (Nat → Tok) × Toks => S8_0 true l rb (coverL l hs) (succL l) (startsI l hs) (backI l) l.length (((backI l).take a.1).any id) (ends a.1) a.1 a.2.1 a.2.2.1 a.2.2.2)
    (fun a => a.1 ≤ l.length ∧ a.2.1.length = l.length ∧ a.2.1.getD 0 false = true ∧ ∀ j, j < a.1 → rb.getD j false = true → ∀ y ∈ nxI l hs j, a.2.1.getD y.toNat false = true) (fun a => l.length - a.1)
    (0, (List.replicate l.length false).set 0 true, fun j => if j = 0 then .no else .no, ⟨0, []⟩) rfl ⟨Nat.zero_le _, by simp, by simp only; rw [getD_set' (by simpa using hpos)]; simp, fun j hj => absurd hj (Nat.not_lt_zero _)⟩ ?_
  rintro ⟨i, fr, ts, T⟩ ⟨hi, hf1, hf2, hf3⟩
  simp only at hi hf1 hf2 hf3
  refine L8_0 true l rb (coverL l hs) (succL l) (startsI l hs) (backI l) l.length (((backI l).take i).any id) (ends i) i fr ts T ?_
  simp only [Bool.not_true, Bool.not_false, Bool.true_eq_false, Bool.false_eq_true, forall_const, false_implies, true_implies, and_true, true_and, eq_self, implies_true, Nat.zero_add, Int.toNat_natCast, List.take_length, decide_eq_true_eq, decide_eq_false_iff_not, beq_iff_eq, beq_eq_false_iff_ne, bne_iff_ne, bne_eq_false_iff_eq, ne_eq, Bool.not_eq_true', Bool.not_eq_false', Int.not_le, Int.not_lt, List.length_cons, List.length_nil, List.length_append, Nat.add_zero, List.drop_zero]
  refine ⟨fun h => ?_, fun h => ?_⟩
  rotate_left
  · have hii : i = l.length := by omega
    subst hii
    refine Loops.intro (fun i : Nat => S8_6 true l rb l.length (((backI l).take l.length).any id) (ends l.length) i fr ts T) (fun i => i ≤ l.length) (fun i => l.length - i) 0 rfl (Nat.zero_le _) ?_
    intro i hi
    have hi : i ≤ l.length := hi
    refine L8_6 true l rb l.length (((backI l).take l.length).any id) (ends l.length) i fr ts T ?_
    simp only [Bool.not_true, Bool.not_false, Bool.true_eq_false, Bool.false_eq_true, forall_const, false_implies, true_implies, and_true, true_and, eq_self, implies_true, Nat.zero_add, Int.toNat_natCast, List.take_length, decide_eq_true_eq, decide_eq_false_iff_not, beq_iff_eq, beq_eq_false_iff_ne, bne_iff_ne, bne_eq_false_iff_eq, ne_eq, Bool.not_eq_true', Bool.not_eq_false', Int.not_le, Int.not_lt, List.length_cons, List.length_nil, List.length_append, Nat.add_zero, List.drop_zero]
    refine ⟨fun h => ?_, fun h => ⟨fun _ => retB rfl, fun hany => retB ?_⟩⟩
    · have hlt : i < l.length := by omega
      rw [wrap64 (by omega) (by omega)]
      refine ⟨by omega, by omega, fun hre => ⟨by omega, by omega, by omega, fun hfr => ?_, fun _ => Again.mk (i + 1) rfl hlt (by omega)⟩, fun _ => Again.mk (i + 1) rfl hlt (by omega)⟩
      have hR := (hrg i hlt).1 hre
      cases hR with
      | zero => rw [hf2] at hfr; cases hfr
      | step h1 h2 =>
        rename_i j
        have hj := (reach_closed hv hpos (P := fun _ => True) trivial (fun _ _ _ _ _ => trivial) h1).1
        have := hf3 j hj ((hrg j hj).2 h1) _ h2
        rw [Int.toNat_natCast, hfr] at this
        cases this
    · rw [← hbl, List.take_length, List.any_eq_false] at hany
      obtain ⟨j, hj, hjr, hje⟩ := hbe fun b hb => by have := hany b hb; simpa using this
      show ends l.length = true
      refine List.any_eq_true.2 ⟨j, List.mem_range.2 hj, ?_⟩
      rw [(hrg j hj).2 hjr, hje]
      rfl
  have hilt : i < l.length := by omega
  have hsi : (succL l).getD i [] = succI l i := by simp [succL, List.getD, hilt]
  have hci : (coverL l hs).getD i [] = coverI hs (l.getD i (0, (0, (0, ([], []))))).1 := by simp [coverL, List.getD, hilt]
  have hnxi : nxI l hs i = succI l i ++ (coverI hs (l.getD i (0, (0, (0, ([], []))))).1).map fun k => (startsI l hs).getD k.toNat 0 := rfl
  have hslen : (succI l i).length ≤ 1000001 := by
    have h1 := foldl_len l (l.getD i (0, (0, (0, ([], []))))).2.2.2.2 (succ0 l i)
    have h2 := succ0_len l i
    have h3 := ht _ (List.getElem_mem hilt)
    unfold succI
    rw [getD_lt hilt] at h1 ⊢
    omega
  have w : IntKind.wrap .i64 ((i : Int) + 1) = ((i + 1 : Nat) : Int) := by rw [wrap64 (by omega) (by omega)]; omega
  have hvi := hv i hilt
  rw [hsi]
  refine ⟨by omega, by omega, trivial, by omega, ?_⟩
  generalize hpc : (l.getD i (0, (0, (0, ([], []))))).1 = pc at *
  have hcn := coverN_len hs pc hs.length
  have hcm : ∀ k ∈ coverI hs pc, 0 ≤ k ∧ k < hs.length := by
    intro k hk
    have hk' := hk
    unfold coverI coverN at hk'
    rw [List.mem_map] at hk'
    obtain ⟨a, ha, rfl⟩ := hk'
    rw [List.mem_filter, List.mem_range] at ha
    omega
  generalize hcc : coverI hs pc = c at *
  have hcn : c.length ≤ hs.length := by rw [← hcc]; exact hcn
  generalize hany : ((backI l).take i).any id = any at *
  refine Loops.intro (fun a : Nat × Tok × Toks => S8_2 true l rb (coverL l hs) (succL l) (startsI l hs) (backI l) l.length any (ends i) i (succI l i ++ (c.take a.1).map fun k => (startsI l hs).getD k.toNat 0) a.2.1 a.1 fr ts a.2.2)
    (fun a => a.1 ≤ c.length ∧ a.2.1.fresh a.2.2) (fun a => c.length - a.1) (0, .tk T.n, ⟨T.n + 1, T.n :: T.l⟩) (by simp) ⟨Nat.zero_le _, Tok.fresh_new _ _⟩ ?_
  rintro ⟨k, tk, U⟩ ⟨hk, hU⟩
  simp only at hk hU
  refine L8_2 true l rb (coverL l hs) (succL l) (startsI l hs) (backI l) l.length any (ends i) i (succI l i ++ (c.take k).map fun k => (startsI l hs).getD k.toNat 0) tk k fr ts U ?_
  simp only [Bool.not_true, Bool.not_false, Bool.true_eq_false, Bool.false_eq_true, forall_const, false_implies, true_implies, and_true, true_and, eq_self, implies_true, Nat.zero_add, Int.toNat_natCast, List.take_length, decide_eq_true_eq, decide_eq_false_iff_not, beq_iff_eq, beq_eq_false_iff_ne, bne_iff_ne, bne_eq_false_iff_eq, ne_eq, Bool.not_eq_true', Bool.not_eq_false', Int.not_le, Int.not_lt, List.length_cons, List.length_nil, List.length_append, Nat.add_zero, List.drop_zero, hci]
  refine ⟨by omega, by omega, fun h => ?_, fun h => ?_⟩
  · have hklt : k < c.length := by omega
    have hck := hcm _ (List.getElem_mem hklt)
    rw [wrap64 (by omega) (by omega), getD_lt hklt]
    refine ⟨by omega, by omega, by omega, by omega, by omega, by omega, hU.own, by simp; omega, ?_⟩
    refine Again.mk (k + 1, .tk U.n, ⟨U.n + 1, U.n :: tk.drop U.l⟩) ?_ ⟨by simp only; omega, Tok.fresh_new _ _⟩ (by simp only; omega)
    simp only
    rw [List.take_succ_eq_append_getElem hklt, List.map_append, List.append_assoc]
    rfl
  have hkk : k = c.length := by omega
  subst hkk
  rw [List.take_length, ← hnxi]
  have hnl : (nxI l hs i).length ≤ 3000000 := by rw [hnxi]; simp; omega
  generalize hnx : nxI l hs i = nx at *
  refine Loops.intro (fun a : Nat × List Bool × (Nat → Tok) => S8_4 true l rb (coverL l hs) (succL l) (startsI l hs) (backI l) l.length any (ends i) i nx tk a.1 a.2.1 a.2.2 U)
    (fun a => a.1 ≤ nx.length ∧ a.2.1.length = l.length ∧ a.2.1.getD 0 false = true ∧ (∀ j, j < i → rb.getD j false = true → ∀ y ∈ nxI l hs j, a.2.1.getD y.toNat false = true) ∧ (rb.getD i false = true → ∀ y ∈ nx.take a.1, a.2.1.getD y.toNat false = true))
    (fun a => nx.length - a.1) (0, fr, ts) rfl ⟨Nat.zero_le _, hf1, hf2, hf3, fun _ y hy => by simp at hy⟩ ?_
  rintro ⟨k, fr3, ts3⟩ ⟨hk, g1, g2, g3, g4⟩
  simp only at hk g1 g2 g3 g4
  refine L8_4 true l rb (coverL l hs) (succL l) (startsI l hs) (backI l) l.length any (ends i) i nx tk k fr3 ts3 U ?_
  simp only [Bool.not_true, Bool.not_false, Bool.true_eq_false, Bool.false_eq_true, forall_const, false_implies, true_implies, and_true, true_and, eq_self, implies_true, Nat.zero_add, Int.toNat_natCast, List.take_length, decide_eq_true_eq, decide_eq_false_iff_not, beq_iff_eq, beq_eq_false_iff_ne, bne_iff_ne, bne_eq_false_iff_eq, ne_eq, Bool.not_eq_true', Bool.not_eq_false', Int.not_le, Int.not_lt, List.length_cons, List.length_nil, List.length_append, Nat.add_zero, List.drop_zero]
  refine ⟨fun h => ?_, fun h => ?_⟩
  · have hklt : k < nx.length := by omega
    have hy : nx.getD k 0 ∈ nx := by rw [getD_lt hklt]; exact List.getElem_mem hklt
    have hyv := hvi _ hy
    have hyl : (nx.getD k 0).toNat < fr3.length := by omega
    rw [wrap64 (by omega) (by omega)]
    have noway : rb.getD i false = false → Again (fun a : Nat × List Bool × (Nat → Tok) => S8_4 true l rb (coverL l hs) (succL l) (startsI l hs) (backI l) l.length any (ends i) i nx tk a.1 a.2.1 a.2.2 U)
        (fun a => a.1 ≤ nx.length ∧ a.2.1.length = l.length ∧ a.2.1.getD 0 false = true ∧ (∀ j, j < i → rb.getD j false = true → ∀ y ∈ nxI l hs j, a.2.1.getD y.toNat false = true) ∧ (rb.getD i false = true → ∀ y ∈ nx.take a.1, a.2.1.getD y.toNat false = true))
        (fun a => nx.length - a.1) (nx.length - k) (S8_4 true l rb (coverL l hs) (succL l) (startsI l hs) (backI l) l.length any (ends i) i nx tk ((k : Int) + 1) fr3 ts3 U) := fun hf =>
      Again.mk (k + 1, fr3, ts3) rfl ⟨by simp only; omega, g1, g2, g3, fun e => by rw [hf] at e; cases e⟩ (by simp only; omega)
    have way : rb.getD i false = true → ∀ tt', Again (fun a : Nat × List Bool × (Nat → Tok) => S8_4 true l rb (coverL l hs) (succL l) (startsI l hs) (backI l) l.length any (ends i) i nx tk a.1 a.2.1 a.2.2 U)
        (fun a => a.1 ≤ nx.length ∧ a.2.1.length = l.length ∧ a.2.1.getD 0 false = true ∧ (∀ j, j < i → rb.getD j false = true → ∀ y ∈ nxI l hs j, a.2.1.getD y.toNat false = true) ∧ (rb.getD i false = true → ∀ y ∈ nx.take a.1, a.2.1.getD y.toNat false = true))
        (fun a => nx.length - a.1) (nx.length - k) (S8_4 true l rb (coverL l hs) (succL l) (startsI l hs) (backI l) l.length any (ends i) i nx tk ((k : Int) + 1) (fr3.set (nx.getD k 0).toNat true) tt' U) := by
      intro hf tt'
      refine Again.mk (k + 1, fr3.set (nx.getD k 0).toNat true, tt') rfl ⟨by simp only; omega, by simpa using g1, by simp only; rw [getD_set' hyl, g2]; rfl, fun j hj hjr y hyj => by simp only; rw [getD_set' hyl, g3 j hj hjr y hyj]; rfl, fun e y hyk => ?_⟩ (by simp only; omega)
      simp only at hyk ⊢
      rw [List.take_succ_eq_append_getElem hklt, List.mem_append, List.mem_singleton] at hyk
      rw [getD_set' hyl, Bool.or_eq_true, beq_iff_eq]
      rcases hyk with hyk | rfl
      · exact .inl (g4 hf y hyk)
      · right; rw [getD_lt hklt]
    refine ⟨by omega, by omega, fun hneg => by omega, fun _ => ⟨by omega, by omega, fun hge => by omega, fun _ => ⟨by omega, by omega, fun hre => ⟨by omega, by omega, by omega, by omega, fun hnr => ?_, fun _ => ⟨by omega, by omega, fun _ => ⟨by omega, by omega, by omega, by omega, by omega, way hre _⟩, fun e => noway e⟩⟩, fun hre => ⟨by omega, by omega, fun e => ⟨by omega, by omega, by omega, by omega, by omega, way e _⟩, fun e => noway e⟩⟩⟩⟩
    have : Rch (nxI l hs) (nx.getD k 0).toNat := .step ((hrg i hilt).1 hre) (by rw [hnx, Int.toNat_of_nonneg hyv.1]; exact hy)
    rw [(hrg _ (by omega)).2 this] at hnr
    cases hnr
  · have hkk : k = nx.length := by omega
    subst hkk
    rw [List.take_length] at g4
    rw [w, hsi]
    have next : ∀ a e, a = (any || (backI l).getD i false) → e = (ends i || (rb.getD i false && decide ((succI l i).length = 0))) →
        Again (fun a : Nat × List Bool × (Nat → Tok) × Toks => S8_0 true l rb (coverL l hs) (succL l) (startsI l hs) (backI l) l.length (((backI l).take a.1).any id) (ends a.1) a.1 a.2.1 a.2.2.1 a.2.2.2)
          (fun a => a.1 ≤ l.length ∧ a.2.1.length = l.length ∧ a.2.1.getD 0 false = true ∧ ∀ j, j < a.1 → rb.getD j false = true → ∀ y ∈ nxI l hs j, a.2.1.getD y.toNat false = true) (fun a => l.length - a.1) (l.length - i)
          (S8_0 true l rb (coverL l hs) (succL l) (startsI l hs) (backI l) l.length a e ((i + 1 : Nat) : Int) fr3 ts3 U) := by
      rintro a e rfl rfl
      refine Again.mk (i + 1, fr3, ts3, U) ?_ ⟨by simp only; omega, g1, g2, fun j hj hjr y hyj => ?_⟩ (by simp only; omega)
      · simp only
        rw [ends_succ, any_take_succ _ _ (by omega : i < (backI l).length), hany, getD_lt (by omega : i < (backI l).length)]
        rfl
      · simp only at hj ⊢
        rcases Nat.lt_or_ge j i with h' | h'
        · exact g3 j h' hjr y hyj
        · have : j = i := by omega
          subst this
          rw [hnx] at hyj
          exact g4 hjr y hyj
    have hz : ∀ x : List Int, ((x.length : Int) == 0) = decide (x.length = 0) := fun x => by
      rw [Bool.eq_iff_iff, beq_iff_eq, decide_eq_true_eq]; omega
    refine ⟨fun ha => ⟨fun he => next _ _ (by rw [ha]; rfl) (by rw [he]; rfl), fun he => ⟨by omega, by omega, fun hre => ⟨by omega, by omega, next _ _ (by rw [ha]; rfl) (by rw [he, hre, hz]; rfl)⟩, fun hre => next _ _ (by rw [ha]; rfl) (by rw [he, hre]; rfl)⟩⟩,
      fun ha => ⟨by omega, by omega, fun he => next _ _ (by rw [ha]; rfl) (by rw [he]; rfl), fun he => ⟨by omega, by omega, fun hre => ⟨by omega, by omega, next _ _ (by rw [ha]; rfl) (by rw [he, hre, hz]; rfl)⟩, fun hre => next _ _ (by rw [ha]; rfl) (by rw [he, hre]; rfl)⟩⟩⟩

theorem law_FlowCloses (s : List UInt8) (hs : List Hd) (f0 : Cd.wf .str s) (f1 : Cd.wf (.slice cH) hs) : PC Try.prog 8 [Cd.enc .str s, Cd.enc (.slice cH) hs] (.bool true) := p8 s hs

end Go.Proofs.Ytiomllkdfhglhaa.AB

