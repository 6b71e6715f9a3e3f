/- Parts of the proof: what functions of the program compute, on plain values. -/
import Derived.Test.YtaaedebknacheaaABCode1
import Derived.Test.YtaaedebknacheaaProg
import Derived.KernelRfl
set_option linter.unusedVariables false
set_option linter.unusedSimpArgs false
set_option maxRecDepth 100000
set_option maxHeartbeats 2000000
namespace Go.Proofs.Ytaaedebknacheaa.AB
open Go
/-! crucible/cruciblelaw4.CodeCovers -/
noncomputable def X9 : Cx := ⟨tt, [(23, [.cd .bool]), (28, [.cd (.int .u8)]), (30, [.cd .bool]), (33, [.cd (.slice (.pair (.int .i64) (.pair (.int .i64) (.pair (.int .i64) (.pair (.slice (.int .i64)) (.slice (.int .i64))))))), .cd (.int .i64)]), (37, [.cd (.int .i64)])], [], [(9, [(0, mkM 155 0 [0, 3, 4, 6], 0), (3, mkM 155 0 [0, 3, 4, 6, 9], 0)])], []⟩
theorem FN9 : fnsB Try.prog X9.fns := (show True from trivial)
def M9_0 : List Bool × Nat := (mkM 155 0 [0, 3, 4, 6], 0)
def S9_0 (s0 : List UInt8) (head3 : Bool) (l4 : List (Int × (Int × (Int × ((List Int) × (List Int)))))) (i6 : Int) (T : Toks) : St :=
  mkS 155 [(0, (.v (.str s0))), (3, (.v (.bool head3))), (4, (.v (.list (.pair (.int .i64) (.pair (.int .i64) (.pair (.int .i64) (.pair (.slice (.int .i64)) (.slice (.int .i64)))))) l4 .no))), (6, (.v (.int .i64 i6)))] [] T
noncomputable def B9_0 : (Exit → St → Prop) → St → Prop := (awp X9.tt (callN Try.prog X9 0) (X9.md 9) 0 (X9.mk1 9) 0 (codeAt [1, 1, 1, 1, 1, 1, 1, 0, 1, 0, 0] (bd Try.f9)))
def M9_3 : List Bool × Nat := (mkM 155 0 [0, 3, 4, 6, 9], 0)
def S9_3 (s0 : List UInt8) (head3 : Bool) (l4 : List (Int × (Int × (Int × ((List Int) × (List Int)))))) (i6 : Int) (k9 : Int) (T : Toks) : St :=
  mkS 155 [(0, (.v (.str s0))), (3, (.v (.bool head3))), (4, (.v (.list (.pair (.int .i64) (.pair (.int .i64) (.pair (.int .i64) (.pair (.slice (.int .i64)) (.slice (.int .i64)))))) l4 .no))), (6, (.v (.int .i64 i6))), (9, (.v (.int .i64 k9)))] [] T
noncomputable def B9_3 : (Exit → St → Prop) → St → Prop := (awp X9.tt (callN Try.prog X9 0) (X9.md 9) 0 (X9.mk1 9) 3 (codeAt [1, 1, 1, 1, 1, 1, 1, 0, 1, 0, 0, 1, 0, 0, 1, 1, 1, 1, 1, 1, 0, 0] (bd Try.f9)))
noncomputable def K9_0 (R : V → Prop) : Exit → St → Prop := seqK ((awp X9.tt (callN Try.prog X9 0) (X9.md 9) 0 (X9.mk1 9) 0 (codeAt [1, 1, 1, 1, 1, 1, 1, 1] (bd Try.f9))) (retK tt Try.f9.results.toList fun x s' => topK R x ⟨[], s'.hp, s'.T⟩)) (retK tt Try.f9.results.toList fun x s' => topK R x ⟨[], s'.hp, s'.T⟩)
noncomputable def Q9_0 (R : V → Prop) : Exit → St → Prop := (blockK 0 (K9_0 R))
noncomputable def K9_1 (R : V → Prop) (k0 : St → Prop) : Exit → St → Prop := seqK ((awp X9.tt (callN Try.prog X9 0) (X9.md 9) 0 (X9.mk1 9) 0 (codeAt [1, 1, 1, 1, 1, 1, 1, 0, 1, 0, 0, 1, 1] (bd Try.f9))) (loopQ M9_0 k0 (blockK 0 (K9_0 R)))) (loopQ M9_0 k0 (blockK 0 (K9_0 R)))
noncomputable def Q9_3 (R : V → Prop) (k0 : St → Prop) : Exit → St → Prop := (blockK 3 (blockK 1 (K9_1 R k0)))
theorem E9 (s0 : (List UInt8)) {R : V → Prop} (h : (∃ p1 : Bool, PC Try.prog 23 [] (.bool p1) ∧ (((!p1) = true → R (.bool false)) ∧
 ((!p1) = false → (((decide (((s0).length : Int) > (4096 : Int))) = true → R (.bool p1)) ∧
 ((decide (((s0).length : Int) > (4096 : Int))) = false → (∃ p2 : (List (Int × (Int × (Int × ((List Int) × (List Int)))))) × Int, PC Try.prog 33 [(.str s0)] ((.tup [(.list (.pair (.int .i64) (.pair (.int .i64) (.pair (.int .i64) (.pair (.slice (.int .i64)) (.slice (.int .i64)))))) p2.1 .no), (.int .i64 p2.2)])) ∧ (((p2.2 != (0 : Int)) = true → ((p1 = true → R (.bool ((((p2.1).length : Int) == (0 : Int))))) ∧ (p1 = false → R (.bool false)))) ∧
 ((p2.2 != (0 : Int)) = false → (((((p2.1).length : Int) == (0 : Int)) = true → R (.bool false)) ∧ ((((p2.1).length : Int) == (0 : Int)) = false → (0 ≤ (0 : Int) ∧ (0 : Int) < ((p2.1).length : Int) ∧ ((((p2.1.getD ((0 : Int)).toNat (0, (0, (0, ([], []))))).1 != (0 : Int)) = true → R (.bool false)) ∧ (((p2.1.getD ((0 : Int)).toNat (0, (0, (0, ([], []))))).1 != (0 : Int)) = false → (0 ≤ (IntKind.wrap .i64 (((p2.1).length : Int) - (1 : Int))) ∧ (IntKind.wrap .i64 (((p2.1).length : Int) - (1 : Int))) < ((p2.1).length : Int) ∧ (∃ p3 : Bool, PC Try.prog 30 [(.int .i64 ((p2.1.getD ((IntKind.wrap .i64 (((p2.1).length : Int) - (1 : Int)))).toNat (0, (0, (0, ([], []))))).2.1))] (.bool p3) ∧ (((!p3) = true → R (.bool false)) ∧
 ((!p3) = false → (Loops B9_0 M9_0 (Q9_0 R)
  (S9_0 s0 p1 p2.1 (0 : Int) ⟨0, []⟩)))))))))))))))))))) :
  fnK X9.tt (callN Try.prog X9 0) (X9.md 9) (X9.mk1 9) Try.f9 [(.v (.str s0))] ⟨[], [], ⟨0, []⟩⟩ (topK R) := Eq.mp (by kernel_rfl) h
theorem L9_0 (s0 : List UInt8) (head3 : Bool) (l4 : List (Int × (Int × (Int × ((List Int) × (List Int)))))) (i6 : Int) (T : Toks) {R : V → Prop} {k0 : St → Prop}
 (h : (((decide (i6 < ((l4).length : Int))) = true → (0 ≤ i6 ∧ i6 < ((l4).length : Int) ∧ (((decide ((IntKind.wrap .i64 (i6 + (1 : Int))) < ((l4).length : Int))) = true → (0 ≤ (IntKind.wrap .i64 (i6 + (1 : Int))) ∧ (IntKind.wrap .i64 (i6 + (1 : Int))) < ((l4).length : Int) ∧ (0 ≤ i6 ∧ i6 < ((l4).length : Int) ∧ (0 ≤ i6 ∧ i6 < ((l4).length : Int) ∧ (∃ p4 : Int, PC Try.prog 28 [(.int .i64 ((l4.getD (i6).toNat (0, (0, (0, ([], []))))).2.1))] (.int .u8 p4) ∧ (((p4 == (98 : Int)) = true → ((((IntKind.wrap .i64 ((l4.getD ((IntKind.wrap .i64 (i6 + (1 : Int)))).toNat (0, (0, (0, ([], []))))).1 - (l4.getD (i6).toNat (0, (0, (0, ([], []))))).1)) != (2 : Int)) = true → R (.bool false)) ∧ (((IntKind.wrap .i64 ((l4.getD ((IntKind.wrap .i64 (i6 + (1 : Int)))).toNat (0, (0, (0, ([], []))))).1 - (l4.getD (i6).toNat (0, (0, (0, ([], []))))).1)) != (2 : Int)) = false → (0 ≤ i6 ∧ i6 < ((l4).length : Int) ∧ (0 ≤ (l4.getD (i6).toNat (0, (0, (0, ([], []))))).1 ∧ (l4.getD (i6).toNat (0, (0, (0, ([], []))))).1 < ((s0).length : Int) ∧ (0 ≤ i6 ∧ i6 < ((l4).length : Int) ∧ ((((IntKind.wrap .i64 ((s0.getD ((l4.getD (i6).toNat (0, (0, (0, ([], []))))).1).toNat 0).toNat : Int)) != (l4.getD (i6).toNat (0, (0, (0, ([], []))))).2.1) = true → R (.bool false)) ∧ (((IntKind.wrap .i64 ((s0.getD ((l4.getD (i6).toNat (0, (0, (0, ([], []))))).1).toNat 0).toNat : Int)) != (l4.getD (i6).toNat (0, (0, (0, ([], []))))).2.1) = false → (0 ≤ i6 ∧ i6 < ((l4).length : Int) ∧ (∃ p5 : Int, PC Try.prog 37 [(.list (.pair (.int .i64) (.pair (.int .i64) (.pair (.int .i64) (.pair (.slice (.int .i64)) (.slice (.int .i64)))))) l4 .no), (.int .i64 ((l4.getD (i6).toNat (0, (0, (0, ([], []))))).1))] (.int .i64 p5) ∧ (((p5 != i6) = true → R (.bool false)) ∧
 ((p5 != i6) = false → (Loops B9_3 M9_3 (Q9_3 R k0)
  (S9_3 s0 head3 l4 i6 (0 : Int) T)))))))))))))) ∧
 ((p4 == (98 : Int)) = false → (((p4 == (110 : Int)) = true → (((p4 == (110 : Int)) = true → ((((IntKind.wrap .i64 ((l4.getD ((IntKind.wrap .i64 (i6 + (1 : Int)))).toNat (0, (0, (0, ([], []))))).1 - (l4.getD (i6).toNat (0, (0, (0, ([], []))))).1)) != (3 : Int)) = true → R (.bool false)) ∧ (((IntKind.wrap .i64 ((l4.getD ((IntKind.wrap .i64 (i6 + (1 : Int)))).toNat (0, (0, (0, ([], []))))).1 - (l4.getD (i6).toNat (0, (0, (0, ([], []))))).1)) != (3 : Int)) = false → (0 ≤ i6 ∧ i6 < ((l4).length : Int) ∧ (0 ≤ (l4.getD (i6).toNat (0, (0, (0, ([], []))))).1 ∧ (l4.getD (i6).toNat (0, (0, (0, ([], []))))).1 < ((s0).length : Int) ∧ (0 ≤ i6 ∧ i6 < ((l4).length : Int) ∧ ((((IntKind.wrap .i64 ((s0.getD ((l4.getD (i6).toNat (0, (0, (0, ([], []))))).1).toNat 0).toNat : Int)) != (l4.getD (i6).toNat (0, (0, (0, ([], []))))).2.1) = true → R (.bool false)) ∧ (((IntKind.wrap .i64 ((s0.getD ((l4.getD (i6).toNat (0, (0, (0, ([], []))))).1).toNat 0).toNat : Int)) != (l4.getD (i6).toNat (0, (0, (0, ([], []))))).2.1) = false → (0 ≤ i6 ∧ i6 < ((l4).length : Int) ∧ (∃ p6 : Int, PC Try.prog 37 [(.list (.pair (.int .i64) (.pair (.int .i64) (.pair (.int .i64) (.pair (.slice (.int .i64)) (.slice (.int .i64)))))) l4 .no), (.int .i64 ((l4.getD (i6).toNat (0, (0, (0, ([], []))))).1))] (.int .i64 p6) ∧ (((p6 != i6) = true → R (.bool false)) ∧
 ((p6 != i6) = false → (Loops B9_3 M9_3 (Q9_3 R k0)
  (S9_3 s0 head3 l4 i6 (0 : Int) T)))))))))))))) ∧
 ((p4 == (110 : Int)) = false → (((p4 == (115 : Int)) = true → (0 ≤ i6 ∧ i6 < ((l4).length : Int) ∧ ((((IntKind.wrap .i64 ((l4.getD ((IntKind.wrap .i64 (i6 + (1 : Int)))).toNat (0, (0, (0, ([], []))))).1 - (l4.getD (i6).toNat (0, (0, (0, ([], []))))).1)) != (IntKind.wrap .i64 ((5 : Int) + (IntKind.wrap .i64 ((4 : Int) * (((l4.getD (i6).toNat (0, (0, (0, ([], []))))).2.2.2.1).length : Int)))))) = true → R (.bool false)) ∧ (((IntKind.wrap .i64 ((l4.getD ((IntKind.wrap .i64 (i6 + (1 : Int)))).toNat (0, (0, (0, ([], []))))).1 - (l4.getD (i6).toNat (0, (0, (0, ([], []))))).1)) != (IntKind.wrap .i64 ((5 : Int) + (IntKind.wrap .i64 ((4 : Int) * (((l4.getD (i6).toNat (0, (0, (0, ([], []))))).2.2.2.1).length : Int)))))) = false → (0 ≤ i6 ∧ i6 < ((l4).length : Int) ∧ (0 ≤ (l4.getD (i6).toNat (0, (0, (0, ([], []))))).1 ∧ (l4.getD (i6).toNat (0, (0, (0, ([], []))))).1 < ((s0).length : Int) ∧ (0 ≤ i6 ∧ i6 < ((l4).length : Int) ∧ ((((IntKind.wrap .i64 ((s0.getD ((l4.getD (i6).toNat (0, (0, (0, ([], []))))).1).toNat 0).toNat : Int)) != (l4.getD (i6).toNat (0, (0, (0, ([], []))))).2.1) = true → R (.bool false)) ∧ (((IntKind.wrap .i64 ((s0.getD ((l4.getD (i6).toNat (0, (0, (0, ([], []))))).1).toNat 0).toNat : Int)) != (l4.getD (i6).toNat (0, (0, (0, ([], []))))).2.1) = false → (0 ≤ i6 ∧ i6 < ((l4).length : Int) ∧ (∃ p7 : Int, PC Try.prog 37 [(.list (.pair (.int .i64) (.pair (.int .i64) (.pair (.int .i64) (.pair (.slice (.int .i64)) (.slice (.int .i64)))))) l4 .no), (.int .i64 ((l4.getD (i6).toNat (0, (0, (0, ([], []))))).1))] (.int .i64 p7) ∧ (((p7 != i6) = true → R (.bool false)) ∧
 ((p7 != i6) = false → (Loops B9_3 M9_3 (Q9_3 R k0)
  (S9_3 s0 head3 l4 i6 (0 : Int) T))))))))))))))) ∧
 ((p4 == (115 : Int)) = false → ((((IntKind.wrap .i64 ((l4.getD ((IntKind.wrap .i64 (i6 + (1 : Int)))).toNat (0, (0, (0, ([], []))))).1 - (l4.getD (i6).toNat (0, (0, (0, ([], []))))).1)) != (1 : Int)) = true → R (.bool false)) ∧ (((IntKind.wrap .i64 ((l4.getD ((IntKind.wrap .i64 (i6 + (1 : Int)))).toNat (0, (0, (0, ([], []))))).1 - (l4.getD (i6).toNat (0, (0, (0, ([], []))))).1)) != (1 : Int)) = false → (0 ≤ i6 ∧ i6 < ((l4).length : Int) ∧ (0 ≤ (l4.getD (i6).toNat (0, (0, (0, ([], []))))).1 ∧ (l4.getD (i6).toNat (0, (0, (0, ([], []))))).1 < ((s0).length : Int) ∧ (0 ≤ i6 ∧ i6 < ((l4).length : Int) ∧ ((((IntKind.wrap .i64 ((s0.getD ((l4.getD (i6).toNat (0, (0, (0, ([], []))))).1).toNat 0).toNat : Int)) != (l4.getD (i6).toNat (0, (0, (0, ([], []))))).2.1) = true → R (.bool false)) ∧ (((IntKind.wrap .i64 ((s0.getD ((l4.getD (i6).toNat (0, (0, (0, ([], []))))).1).toNat 0).toNat : Int)) != (l4.getD (i6).toNat (0, (0, (0, ([], []))))).2.1) = false → (0 ≤ i6 ∧ i6 < ((l4).length : Int) ∧ (∃ p8 : Int, PC Try.prog 37 [(.list (.pair (.int .i64) (.pair (.int .i64) (.pair (.int .i64) (.pair (.slice (.int .i64)) (.slice (.int .i64)))))) l4 .no), (.int .i64 ((l4.getD (i6).toNat (0, (0, (0, ([], []))))).1))] (.int .i64 p8) ∧ (((p8 != i6) = true → R (.bool false)) ∧
 ((p8 != i6) = false → (Loops B9_3 M9_3 (Q9_3 R k0)
  (S9_3 s0 head3 l4 i6 (0 : Int) T)))))))))))))))))) ∧
 ((p4 == (110 : Int)) = false → (((p4 == (106 : Int)) = true → ((((IntKind.wrap .i64 ((l4.getD ((IntKind.wrap .i64 (i6 + (1 : Int)))).toNat (0, (0, (0, ([], []))))).1 - (l4.getD (i6).toNat (0, (0, (0, ([], []))))).1)) != (3 : Int)) = true → R (.bool false)) ∧ (((IntKind.wrap .i64 ((l4.getD ((IntKind.wrap .i64 (i6 + (1 : Int)))).toNat (0, (0, (0, ([], []))))).1 - (l4.getD (i6).toNat (0, (0, (0, ([], []))))).1)) != (3 : Int)) = false → (0 ≤ i6 ∧ i6 < ((l4).length : Int) ∧ (0 ≤ (l4.getD (i6).toNat (0, (0, (0, ([], []))))).1 ∧ (l4.getD (i6).toNat (0, (0, (0, ([], []))))).1 < ((s0).length : Int) ∧ (0 ≤ i6 ∧ i6 < ((l4).length : Int) ∧ ((((IntKind.wrap .i64 ((s0.getD ((l4.getD (i6).toNat (0, (0, (0, ([], []))))).1).toNat 0).toNat : Int)) != (l4.getD (i6).toNat (0, (0, (0, ([], []))))).2.1) = true → R (.bool false)) ∧ (((IntKind.wrap .i64 ((s0.getD ((l4.getD (i6).toNat (0, (0, (0, ([], []))))).1).toNat 0).toNat : Int)) != (l4.getD (i6).toNat (0, (0, (0, ([], []))))).2.1) = false → (0 ≤ i6 ∧ i6 < ((l4).length : Int) ∧ (∃ p9 : Int, PC Try.prog 37 [(.list (.pair (.int .i64) (.pair (.int .i64) (.pair (.int .i64) (.pair (.slice (.int .i64)) (.slice (.int .i64)))))) l4 .no), (.int .i64 ((l4.getD (i6).toNat (0, (0, (0, ([], []))))).1))] (.int .i64 p9) ∧ (((p9 != i6) = true → R (.bool false)) ∧
 ((p9 != i6) = false → (Loops B9_3 M9_3 (Q9_3 R k0)
  (S9_3 s0 head3 l4 i6 (0 : Int) T)))))))))))))) ∧
 ((p4 == (106 : Int)) = false → (((p4 == (115 : Int)) = true → (0 ≤ i6 ∧ i6 < ((l4).length : Int) ∧ ((((IntKind.wrap .i64 ((l4.getD ((IntKind.wrap .i64 (i6 + (1 : Int)))).toNat (0, (0, (0, ([], []))))).1 - (l4.getD (i6).toNat (0, (0, (0, ([], []))))).1)) != (IntKind.wrap .i64 ((5 : Int) + (IntKind.wrap .i64 ((4 : Int) * (((l4.getD (i6).toNat (0, (0, (0, ([], []))))).2.2.2.1).length : Int)))))) = true → R (.bool false)) ∧ (((IntKind.wrap .i64 ((l4.getD ((IntKind.wrap .i64 (i6 + (1 : Int)))).toNat (0, (0, (0, ([], []))))).1 - (l4.getD (i6).toNat (0, (0, (0, ([], []))))).1)) != (IntKind.wrap .i64 ((5 : Int) + (IntKind.wrap .i64 ((4 : Int) * (((l4.getD (i6).toNat (0, (0, (0, ([], []))))).2.2.2.1).length : Int)))))) = false → (0 ≤ i6 ∧ i6 < ((l4).length : Int) ∧ (0 ≤ (l4.getD (i6).toNat (0, (0, (0, ([], []))))).1 ∧ (l4.getD (i6).toNat (0, (0, (0, ([], []))))).1 < ((s0).length : Int) ∧ (0 ≤ i6 ∧ i6 < ((l4).length : Int) ∧ ((((IntKind.wrap .i64 ((s0.getD ((l4.getD (i6).toNat (0, (0, (0, ([], []))))).1).toNat 0).toNat : Int)) != (l4.getD (i6).toNat (0, (0, (0, ([], []))))).2.1) = true → R (.bool false)) ∧ (((IntKind.wrap .i64 ((s0.getD ((l4.getD (i6).toNat (0, (0, (0, ([], []))))).1).toNat 0).toNat : Int)) != (l4.getD (i6).toNat (0, (0, (0, ([], []))))).2.1) = false → (0 ≤ i6 ∧ i6 < ((l4).length : Int) ∧ (∃ p10 : Int, PC Try.prog 37 [(.list (.pair (.int .i64) (.pair (.int .i64) (.pair (.int .i64) (.pair (.slice (.int .i64)) (.slice (.int .i64)))))) l4 .no), (.int .i64 ((l4.getD (i6).toNat (0, (0, (0, ([], []))))).1))] (.int .i64 p10) ∧ (((p10 != i6) = true → R (.bool false)) ∧
 ((p10 != i6) = false → (Loops B9_3 M9_3 (Q9_3 R k0)
  (S9_3 s0 head3 l4 i6 (0 : Int) T))))))))))))))) ∧
 ((p4 == (115 : Int)) = false → ((((IntKind.wrap .i64 ((l4.getD ((IntKind.wrap .i64 (i6 + (1 : Int)))).toNat (0, (0, (0, ([], []))))).1 - (l4.getD (i6).toNat (0, (0, (0, ([], []))))).1)) != (1 : Int)) = true → R (.bool false)) ∧ (((IntKind.wrap .i64 ((l4.getD ((IntKind.wrap .i64 (i6 + (1 : Int)))).toNat (0, (0, (0, ([], []))))).1 - (l4.getD (i6).toNat (0, (0, (0, ([], []))))).1)) != (1 : Int)) = false → (0 ≤ i6 ∧ i6 < ((l4).length : Int) ∧ (0 ≤ (l4.getD (i6).toNat (0, (0, (0, ([], []))))).1 ∧ (l4.getD (i6).toNat (0, (0, (0, ([], []))))).1 < ((s0).length : Int) ∧ (0 ≤ i6 ∧ i6 < ((l4).length : Int) ∧ ((((IntKind.wrap .i64 ((s0.getD ((l4.getD (i6).toNat (0, (0, (0, ([], []))))).1).toNat 0).toNat : Int)) != (l4.getD (i6).toNat (0, (0, (0, ([], []))))).2.1) = true → R (.bool false)) ∧ (((IntKind.wrap .i64 ((s0.getD ((l4.getD (i6).toNat (0, (0, (0, ([], []))))).1).toNat 0).toNat : Int)) != (l4.getD (i6).toNat (0, (0, (0, ([], []))))).2.1) = false → (0 ≤ i6 ∧ i6 < ((l4).length : Int) ∧ (∃ p11 : Int, PC Try.prog 37 [(.list (.pair (.int .i64) (.pair (.int .i64) (.pair (.int .i64) (.pair (.slice (.int .i64)) (.slice (.int .i64)))))) l4 .no), (.int .i64 ((l4.getD (i6).toNat (0, (0, (0, ([], []))))).1))] (.int .i64 p11) ∧ (((p11 != i6) = true → R (.bool false)) ∧
 ((p11 != i6) = false → (Loops B9_3 M9_3 (Q9_3 R k0)
  (S9_3 s0 head3 l4 i6 (0 : Int) T)))))))))))))))))))))))))) ∧
 ((decide ((IntKind.wrap .i64 (i6 + (1 : Int))) < ((l4).length : Int))) = false → (0 ≤ i6 ∧ i6 < ((l4).length : Int) ∧ (∃ p12 : Int, PC Try.prog 28 [(.int .i64 ((l4.getD (i6).toNat (0, (0, (0, ([], []))))).2.1))] (.int .u8 p12) ∧ (((p12 == (98 : Int)) = true → ((((IntKind.wrap .i64 (((s0).length : Int) - (l4.getD (i6).toNat (0, (0, (0, ([], []))))).1)) != (2 : Int)) = true → R (.bool false)) ∧ (((IntKind.wrap .i64 (((s0).length : Int) - (l4.getD (i6).toNat (0, (0, (0, ([], []))))).1)) != (2 : Int)) = false → (0 ≤ i6 ∧ i6 < ((l4).length : Int) ∧ (0 ≤ (l4.getD (i6).toNat (0, (0, (0, ([], []))))).1 ∧ (l4.getD (i6).toNat (0, (0, (0, ([], []))))).1 < ((s0).length : Int) ∧ (0 ≤ i6 ∧ i6 < ((l4).length : Int) ∧ ((((IntKind.wrap .i64 ((s0.getD ((l4.getD (i6).toNat (0, (0, (0, ([], []))))).1).toNat 0).toNat : Int)) != (l4.getD (i6).toNat (0, (0, (0, ([], []))))).2.1) = true → R (.bool false)) ∧ (((IntKind.wrap .i64 ((s0.getD ((l4.getD (i6).toNat (0, (0, (0, ([], []))))).1).toNat 0).toNat : Int)) != (l4.getD (i6).toNat (0, (0, (0, ([], []))))).2.1) = false → (0 ≤ i6 ∧ i6 < ((l4).length : Int) ∧ (∃ p13 : Int, PC Try.prog 37 [(.list (.pair (.int .i64) (.pair (.int .i64) (.pair (.int .i64) (.pair (.slice (.int .i64)) (.slice (.int .i64)))))) l4 .no), (.int .i64 ((l4.getD (i6).toNat (0, (0, (0, ([], []))))).1))] (.int .i64 p13) ∧ (((p13 != i6) = true → R (.bool false)) ∧
 ((p13 != i6) = false → (Loops B9_3 M9_3 (Q9_3 R k0)
  (S9_3 s0 head3 l4 i6 (0 : Int) T)))))))))))))) ∧
 ((p12 == (98 : Int)) = false → (((p12 == (110 : Int)) = true → (((p12 == (110 : Int)) = true → ((((IntKind.wrap .i64 (((s0).length : Int) - (l4.getD (i6).toNat (0, (0, (0, ([], []))))).1)) != (3 : Int)) = true → R (.bool false)) ∧ (((IntKind.wrap .i64 (((s0).length : Int) - (l4.getD (i6).toNat (0, (0, (0, ([], []))))).1)) != (3 : Int)) = false → (0 ≤ i6 ∧ i6 < ((l4).length : Int) ∧ (0 ≤ (l4.getD (i6).toNat (0, (0, (0, ([], []))))).1 ∧ (l4.getD (i6).toNat (0, (0, (0, ([], []))))).1 < ((s0).length : Int) ∧ (0 ≤ i6 ∧ i6 < ((l4).length : Int) ∧ ((((IntKind.wrap .i64 ((s0.getD ((l4.getD (i6).toNat (0, (0, (0, ([], []))))).1).toNat 0).toNat : Int)) != (l4.getD (i6).toNat (0, (0, (0, ([], []))))).2.1) = true → R (.bool false)) ∧ (((IntKind.wrap .i64 ((s0.getD ((l4.getD (i6).toNat (0, (0, (0, ([], []))))).1).toNat 0).toNat : Int)) != (l4.getD (i6).toNat (0, (0, (0, ([], []))))).2.1) = false → (0 ≤ i6 ∧ i6 < ((l4).length : Int) ∧ (∃ p14 : Int, PC Try.prog 37 [(.list (.pair (.int .i64) (.pair (.int .i64) (.pair (.int .i64) (.pair (.slice (.int .i64)) (.slice (.int .i64)))))) l4 .no), (.int .i64 ((l4.getD (i6).toNat (0, (0, (0, ([], []))))).1))] (.int .i64 p14) ∧ (((p14 != i6) = true → R (.bool false)) ∧
 ((p14 != i6) = false → (Loops B9_3 M9_3 (Q9_3 R k0)
  (S9_3 s0 head3 l4 i6 (0 : Int) T)))))))))))))) ∧
 ((p12 == (110 : Int)) = false → (((p12 == (115 : Int)) = true → (0 ≤ i6 ∧ i6 < ((l4).length : Int) ∧ ((((IntKind.wrap .i64 (((s0).length : Int) - (l4.getD (i6).toNat (0, (0, (0, ([], []))))).1)) != (IntKind.wrap .i64 ((5 : Int) + (IntKind.wrap .i64 ((4 : Int) * (((l4.getD (i6).toNat (0, (0, (0, ([], []))))).2.2.2.1).length : Int)))))) = true → R (.bool false)) ∧ (((IntKind.wrap .i64 (((s0).length : Int) - (l4.getD (i6).toNat (0, (0, (0, ([], []))))).1)) != (IntKind.wrap .i64 ((5 : Int) + (IntKind.wrap .i64 ((4 : Int) * (((l4.getD (i6).toNat (0, (0, (0, ([], []))))).2.2.2.1).length : Int)))))) = false → (0 ≤ i6 ∧ i6 < ((l4).length : Int) ∧ (0 ≤ (l4.getD (i6).toNat (0, (0, (0, ([], []))))).1 ∧ (l4.getD (i6).toNat (0, (0, (0, ([], []))))).1 < ((s0).length : Int) ∧ (0 ≤ i6 ∧ i6 < ((l4).length : Int) ∧ ((((IntKind.wrap .i64 ((s0.getD ((l4.getD (i6).toNat (0, (0, (0, ([], []))))).1).toNat 0).toNat : Int)) != (l4.getD (i6).toNat (0, (0, (0, ([], []))))).2.1) = true → R (.bool false)) ∧ (((IntKind.wrap .i64 ((s0.getD ((l4.getD (i6).toNat (0, (0, (0, ([], []))))).1).toNat 0).toNat : Int)) != (l4.getD (i6).toNat (0, (0, (0, ([], []))))).2.1) = false → (0 ≤ i6 ∧ i6 < ((l4).length : Int) ∧ (∃ p15 : Int, PC Try.prog 37 [(.list (.pair (.int .i64) (.pair (.int .i64) (.pair (.int .i64) (.pair (.slice (.int .i64)) (.slice (.int .i64)))))) l4 .no), (.int .i64 ((l4.getD (i6).toNat (0, (0, (0, ([], []))))).1))] (.int .i64 p15) ∧ (((p15 != i6) = true → R (.bool false)) ∧
 ((p15 != i6) = false → (Loops B9_3 M9_3 (Q9_3 R k0)
  (S9_3 s0 head3 l4 i6 (0 : Int) T))))))))))))))) ∧
 ((p12 == (115 : Int)) = false → ((((IntKind.wrap .i64 (((s0).length : Int) - (l4.getD (i6).toNat (0, (0, (0, ([], []))))).1)) != (1 : Int)) = true → R (.bool false)) ∧ (((IntKind.wrap .i64 (((s0).length : Int) - (l4.getD (i6).toNat (0, (0, (0, ([], []))))).1)) != (1 : Int)) = false → (0 ≤ i6 ∧ i6 < ((l4).length : Int) ∧ (0 ≤ (l4.getD (i6).toNat (0, (0, (0, ([], []))))).1 ∧ (l4.getD (i6).toNat (0, (0, (0, ([], []))))).1 < ((s0).length : Int) ∧ (0 ≤ i6 ∧ i6 < ((l4).length : Int) ∧ ((((IntKind.wrap .i64 ((s0.getD ((l4.getD (i6).toNat (0, (0, (0, ([], []))))).1).toNat 0).toNat : Int)) != (l4.getD (i6).toNat (0, (0, (0, ([], []))))).2.1) = true → R (.bool false)) ∧ (((IntKind.wrap .i64 ((s0.getD ((l4.getD (i6).toNat (0, (0, (0, ([], []))))).1).toNat 0).toNat : Int)) != (l4.getD (i6).toNat (0, (0, (0, ([], []))))).2.1) = false → (0 ≤ i6 ∧ i6 < ((l4).length : Int) ∧ (∃ p16 : Int, PC Try.prog 37 [(.list (.pair (.int .i64) (.pair (.int .i64) (.pair (.int .i64) (.pair (.slice (.int .i64)) (.slice (.int .i64)))))) l4 .no), (.int .i64 ((l4.getD (i6).toNat (0, (0, (0, ([], []))))).1))] (.int .i64 p16) ∧ (((p16 != i6) = true → R (.bool false)) ∧
 ((p16 != i6) = false → (Loops B9_3 M9_3 (Q9_3 R k0)
  (S9_3 s0 head3 l4 i6 (0 : Int) T)))))))))))))))))) ∧
 ((p12 == (110 : Int)) = false → (((p12 == (106 : Int)) = true → ((((IntKind.wrap .i64 (((s0).length : Int) - (l4.getD (i6).toNat (0, (0, (0, ([], []))))).1)) != (3 : Int)) = true → R (.bool false)) ∧ (((IntKind.wrap .i64 (((s0).length : Int) - (l4.getD (i6).toNat (0, (0, (0, ([], []))))).1)) != (3 : Int)) = false → (0 ≤ i6 ∧ i6 < ((l4).length : Int) ∧ (0 ≤ (l4.getD (i6).toNat (0, (0, (0, ([], []))))).1 ∧ (l4.getD (i6).toNat (0, (0, (0, ([], []))))).1 < ((s0).length : Int) ∧ (0 ≤ i6 ∧ i6 < ((l4).length : Int) ∧ ((((IntKind.wrap .i64 ((s0.getD ((l4.getD (i6).toNat (0, (0, (0, ([], []))))).1).toNat 0).toNat : Int)) != (l4.getD (i6).toNat (0, (0, (0, ([], []))))).2.1) = true → R (.bool false)) ∧ (((IntKind.wrap .i64 ((s0.getD ((l4.getD (i6).toNat (0, (0, (0, ([], []))))).1).toNat 0).toNat : Int)) != (l4.getD (i6).toNat (0, (0, (0, ([], []))))).2.1) = false → (0 ≤ i6 ∧ i6 < ((l4).length : Int) ∧ (∃ p17 : Int, PC Try.prog 37 [(.list (.pair (.int .i64) (.pair (.int .i64) (.pair (.int .i64) (.pair (.slice (.int .i64)) (.slice (.int .i64)))))) l4 .no), (.int .i64 ((l4.getD (i6).toNat (0, (0, (0, ([], []))))).1))] (.int .i64 p17) ∧ (((p17 != i6) = true → R (.bool false)) ∧
 ((p17 != i6) = false → (Loops B9_3 M9_3 (Q9_3 R k0)
  (S9_3 s0 head3 l4 i6 (0 : Int) T)))))))))))))) ∧
 ((p12 == (106 : Int)) = false → (((p12 == (115 : Int)) = true → (0 ≤ i6 ∧ i6 < ((l4).length : Int) ∧ ((((IntKind.wrap .i64 (((s0).length : Int) - (l4.getD (i6).toNat (0, (0, (0, ([], []))))).1)) != (IntKind.wrap .i64 ((5 : Int) + (IntKind.wrap .i64 ((4 : Int) * (((l4.getD (i6).toNat (0, (0, (0, ([], []))))).2.2.2.1).length : Int)))))) = true → R (.bool false)) ∧ (((IntKind.wrap .i64 (((s0).length : Int) - (l4.getD (i6).toNat (0, (0, (0, ([], []))))).1)) != (IntKind.wrap .i64 ((5 : Int) + (IntKind.wrap .i64 ((4 : Int) * (((l4.getD (i6).toNat (0, (0, (0, ([], []))))).2.2.2.1).length : Int)))))) = false → (0 ≤ i6 ∧ i6 < ((l4).length : Int) ∧ (0 ≤ (l4.getD (i6).toNat (0, (0, (0, ([], []))))).1 ∧ (l4.getD (i6).toNat (0, (0, (0, ([], []))))).1 < ((s0).length : Int) ∧ (0 ≤ i6 ∧ i6 < ((l4).length : Int) ∧ ((((IntKind.wrap .i64 ((s0.getD ((l4.getD (i6).toNat (0, (0, (0, ([], []))))).1).toNat 0).toNat : Int)) != (l4.getD (i6).toNat (0, (0, (0, ([], []))))).2.1) = true → R (.bool false)) ∧ (((IntKind.wrap .i64 ((s0.getD ((l4.getD (i6).toNat (0, (0, (0, ([], []))))).1).toNat 0).toNat : Int)) != (l4.getD (i6).toNat (0, (0, (0, ([], []))))).2.1) = false → (0 ≤ i6 ∧ i6 < ((l4).length : Int) ∧ (∃ p18 : Int, PC Try.prog 37 [(.list (.pair (.int .i64) (.pair (.int .i64) (.pair (.int .i64) (.pair (.slice (.int .i64)) (.slice (.int .i64)))))) l4 .no), (.int .i64 ((l4.getD (i6).toNat (0, (0, (0, ([], []))))).1))] (.int .i64 p18) ∧ (((p18 != i6) = true → R (.bool false)) ∧
 ((p18 != i6) = false → (Loops B9_3 M9_3 (Q9_3 R k0)
  (S9_3 s0 head3 l4 i6 (0 : Int) T))))))))))))))) ∧
 ((p12 == (115 : Int)) = false → ((((IntKind.wrap .i64 (((s0).length : Int) - (l4.getD (i6).toNat (0, (0, (0, ([], []))))).1)) != (1 : Int)) = true → R (.bool false)) ∧ (((IntKind.wrap .i64 (((s0).length : Int) - (l4.getD (i6).toNat (0, (0, (0, ([], []))))).1)) != (1 : Int)) = false → (0 ≤ i6 ∧ i6 < ((l4).length : Int) ∧ (0 ≤ (l4.getD (i6).toNat (0, (0, (0, ([], []))))).1 ∧ (l4.getD (i6).toNat (0, (0, (0, ([], []))))).1 < ((s0).length : Int) ∧ (0 ≤ i6 ∧ i6 < ((l4).length : Int) ∧ ((((IntKind.wrap .i64 ((s0.getD ((l4.getD (i6).toNat (0, (0, (0, ([], []))))).1).toNat 0).toNat : Int)) != (l4.getD (i6).toNat (0, (0, (0, ([], []))))).2.1) = true → R (.bool false)) ∧ (((IntKind.wrap .i64 ((s0.getD ((l4.getD (i6).toNat (0, (0, (0, ([], []))))).1).toNat 0).toNat : Int)) != (l4.getD (i6).toNat (0, (0, (0, ([], []))))).2.1) = false → (0 ≤ i6 ∧ i6 < ((l4).length : Int) ∧ (∃ p19 : Int, PC Try.prog 37 [(.list (.pair (.int .i64) (.pair (.int .i64) (.pair (.int .i64) (.pair (.slice (.int .i64)) (.slice (.int .i64)))))) l4 .no), (.int .i64 ((l4.getD (i6).toNat (0, (0, (0, ([], []))))).1))] (.int .i64 p19) ∧ (((p19 != i6) = true → R (.bool false)) ∧
 ((p19 != i6) = false → (Loops B9_3 M9_3 (Q9_3 R k0)
  (S9_3 s0 head3 l4 i6 (0 : Int) T))))))))))))))))))))))))))) ∧
 ((decide (i6 < ((l4).length : Int))) = false → R (.bool head3)))) :
  B9_0 (loopQ M9_0 k0 (Q9_0 R)) (S9_0 s0 head3 l4 i6 T) := Eq.mp (by kernel_rfl) h
theorem L9_3 (s0 : List UInt8) (head3 : Bool) (l4 : List (Int × (Int × (Int × ((List Int) × (List Int)))))) (i6 : Int) (k9 : Int) (T : Toks) {R : V → Prop} {k0 : St → Prop} {k3 : St → Prop}
 (h : (0 ≤ i6 ∧ i6 < ((l4).length : Int) ∧ (((decide (k9 < (((l4.getD (i6).toNat (0, (0, (0, ([], []))))).2.2.2.2).length : Int))) = true → (0 ≤ i6 ∧ i6 < ((l4).length : Int) ∧ (0 ≤ k9 ∧ k9 < (((l4.getD (i6).toNat (0, (0, (0, ([], []))))).2.2.2.2).length : Int) ∧ (∃ p20 : Int, PC Try.prog 37 [(.list (.pair (.int .i64) (.pair (.int .i64) (.pair (.int .i64) (.pair (.slice (.int .i64)) (.slice (.int .i64)))))) l4 .no), (.int .i64 ((((l4.getD (i6).toNat (0, (0, (0, ([], []))))).2.2.2.2).getD (k9).toNat 0)))] (.int .i64 p20) ∧ (((decide (p20 < (0 : Int))) = true → R (.bool false)) ∧
 ((decide (p20 < (0 : Int))) = false → k3 (S9_3 s0 head3 l4 i6 ((IntKind.wrap .i64 (k9 + (1 : Int)))) T))))))) ∧
 ((decide (k9 < (((l4.getD (i6).toNat (0, (0, (0, ([], []))))).2.2.2.2).length : Int))) = false → k0 (S9_0 s0 head3 l4 ((IntKind.wrap .i64 (i6 + (1 : Int)))) T))))) :
  B9_3 (loopQ M9_3 k3 (Q9_3 R k0)) (S9_3 s0 head3 l4 i6 k9 T) := Eq.mp (by kernel_rfl) h
end Go.Proofs.Ytaaedebknacheaa.AB

set_option linter.unusedVariables false
set_option linter.unusedSimpArgs false
set_option maxHeartbeats 1000000
namespace Go.Proofs.Ytaaedebknacheaa.AB
open Go Go.RowKit

/-- the instructions of code, one by one -/
theorem Chn.get {s : List UInt8} {pc : Nat} {l : List Ins} (h : Chn s pc l) : ∀ i, i < l.length → ∃ q : Nat, q < s.length ∧ (oneI s q).2.2 = 0 ∧ l.getD i D0 = (oneI s q).1 ∧ (l.getD i D0).1 = q ∧
    (q : Int) + (oneI s q).2.1 = if i + 1 < l.length then (l.getD (i + 1) D0).1 else s.length := by
  induction h with
  | nil => intro i hi; simp at hi
  | @cons pc l h he hr ih =>
    intro i hi
    obtain ⟨k1, k2, k3, _⟩ := oneI_ok h he
    cases i with
    | zero =>
      refine ⟨pc, h, he, rfl, k1, ?_⟩
      clear ih hi
      generalize hq : pc + (oneI s pc).2.1.toNat = q at hr
      cases hr with
      | nil => simp; omega
      | @cons _ l' h' he' hr' =>
        obtain ⟨k1', _⟩ := oneI_ok h' he'
        simp only [List.length_cons, List.getD_cons_succ, List.getD_cons_zero]
        rw [if_pos (by omega), k1']
        omega
    | succ i =>
      obtain ⟨q, h1, h2, h3, h4, h5⟩ := ih i (by simpa using hi)
      refine ⟨q, h1, h2, by simpa using h3, by simpa using h4, ?_⟩
      rw [h5]
      simp only [List.length_cons, List.getD_cons_succ, Nat.add_lt_add_iff_right]

theorem decodeI_chn {s : List UInt8} {l : List Ins} (h : decodeI s = (l, 0)) : Chn s 0 l := by
  unfold decodeI at h
  split at h
  · exact absurd (congrArg Prod.snd h) (by simp)
  split at h
  · exact absurd (congrArg Prod.snd h) (by simp)
  generalize hq : scan s s.length 0 = q at h
  obtain ⟨l', e⟩ := q
  simp only at h
  split at h
  · rename_i he'
    simp only [Prod.mk.injEq] at h
    exact absurd h.2 he'
  rename_i he'
  have he' : e = 0 := by simpa using he'
  subst he'
  split at h
  · rename_i he'
    simp only [Prod.mk.injEq] at h
    exact absurd h.2 he'
  simp only [Prod.mk.injEq, and_true] at h
  subst h
  exact Chn.of s.length 0 (by omega) (Nat.zero_le _) hq

theorem idx_self {l : List Ins} (h : l.Pairwise (fun a b => a.1 < b.1)) {i : Nat} (hi : i < l.length) : idx l (l.getD i D0).1 = i := by
  have hg : l.getD i D0 = l[i] := by simp [List.getD, hi]
  have : l.findIdx? (fun x => x.1 == (l.getD i D0).1) = some i := by
    rw [List.findIdx?_eq_some_iff_getElem]
    refine ⟨hi, by rw [hg]; simp, fun j hj => ?_⟩
    have := List.pairwise_iff_getElem.1 h j i (by omega) hi hj
    rw [hg]
    simp
    omega
  unfold idx
  rw [this]

theorem idx_nonneg {l : List Ins} {pc : Int} (h : isPc l pc = true) : 0 ≤ idx l pc := by
  unfold isPc at h
  unfold idx
  cases hf : l.findIdx? (fun x => x.1 == pc) with
  | some i => simp
  | none =>
    rw [List.findIdx?_eq_none_iff] at hf
    rw [List.any_eq_true] at h
    obtain ⟨x, hx, he⟩ := h
    have := hf x hx
    simp_all

theorem p9 (s : List UInt8) : PC Try.prog 9 [.str s] (.bool true) := by
  refine pcOf (X := X9) (d := 0) rfl trivial (by kernel_rfl) (by decide) (E9 s ⟨_, p23, fun h => absurd h (by simp), fun _ => ⟨fun _ => retB rfl, fun h => ?_⟩⟩)
  refine ⟨_, p33 s, fun he => ⟨fun _ => ?_, fun h => absurd h (by simp)⟩, fun he => ?_⟩
  · have he : (decodeI s).2 ≠ 0 := by simpa using he
    rw [decodeI_nil he]
    exact retB rfl
  have he : (decodeI s).2 = 0 := by simpa using he
  have hd : decodeI s = ((decodeI s).1, 0) := by rw [← he]
  have hc := decodeI_ok hd
  have hn := decodeI_chn hd
  generalize (decodeI s).1 = l at *
  have z1 := hc.len
  have z2 := hc.size
  obtain ⟨x0, r0, hl0, hx0⟩ := hc.first
  have hpos : 0 < l.length := by rw [hl0]; simp
  have hD : ((0, (0, (0, ([], [])))) : Ins) = D0 := rfl
  have h0 : (l.getD 0 D0).1 = 0 := by rw [hl0]; exact hx0
  have w1 : IntKind.wrap .i64 ((l.length : Int) - 1) = ((l.length - 1 : Nat) : Int) := by rw [wrap64 (by omega) (by omega)]; omega
  have t0 : (0 : Int).toNat = 0 := rfl
  simp only [hD, w1, Int.toNat_natCast, t0, h0]
  have q30 := p30 (l.getD (l.length - 1) D0).2.1
  rw [hc.last] at q30
  refine ⟨fun h => absurd h (by simp; intro e; simp [e] at hpos), fun _ => ⟨by omega, by omega, fun h => absurd h (by simp), fun _ => ⟨by omega, by omega, _, q30, fun h => absurd h (by simp), fun _ => ?_⟩⟩⟩
  refine Loops.intro (fun n : Nat => S9_0 s true l n ⟨0, []⟩) (fun n => n ≤ l.length) (fun n => l.length - n) 0 rfl (Nat.zero_le _) ?_
  intro n hn'
  have hn' : n ≤ l.length := hn'
  refine L9_0 s true l n ⟨0, []⟩ ?_
  have wn : IntKind.wrap .i64 ((n : Int) + 1) = ((n + 1 : Nat) : Int) := by rw [wrap64 (by omega) (by omega)]; omega
  simp only [hD, wn, Int.toNat_natCast, wrapB, decide_eq_true_eq, decide_eq_false_iff_not]
  refine ⟨fun h => ?_, fun h => retB rfl⟩
  have hlt : n < l.length := by omega
  obtain ⟨q, a1, a2, a3, a4, a5⟩ := hn.get n hlt
  obtain ⟨b1, b2, b3⟩ := oneI_size a2
  obtain ⟨k1, k2, k3, k4, k5, _⟩ := oneI_ok a1 a2
  rw [← a3] at b1 b2 k5
  generalize hx : l.getD n D0 = x at *
  have hb : byte s x.1.toNat = x.2.1 := by rw [a4, Int.toNat_natCast, b2]
  have hidx : idx l x.1 = n := by rw [← hx]; exact idx_self hc.inc hlt
  have hm : x ∈ l := by rw [← hx, getD_lt hlt]; exact List.getElem_mem hlt
  have tail : (Loops B9_3 M9_3 (Q9_3 (fun v => v.norm = V.bool true ∧ (V.bool true).nt = true) (Again (fun n : Nat => S9_0 s true l n ⟨0, []⟩) (fun n => n ≤ l.length) (fun n => l.length - n) (l.length - n))) (S9_3 s true l n 0 ⟨0, []⟩)) := by
    refine Loops.intro (fun k : Nat => S9_3 s true l n k ⟨0, []⟩) (fun k => k ≤ x.2.2.2.2.length) (fun k => x.2.2.2.2.length - k) 0 rfl (Nat.zero_le _) ?_
    intro k hk
    have hk : k ≤ x.2.2.2.2.length := hk
    have k6 := hc.tos x hm
    refine L9_3 s true l n k ⟨0, []⟩ ?_
    simp only [hD, Int.toNat_natCast, hx, decide_eq_true_eq, decide_eq_false_iff_not]
    refine ⟨by omega, by omega, fun h => ?_, fun h => ?_⟩
    · have hklt : k < x.2.2.2.2.length := by omega
      have hto : x.2.2.2.2.getD k 0 ∈ x.2.2.2.2 := by rw [getD_lt hklt]; exact List.getElem_mem hklt
      have := idx_nonneg (hc.lands x hm _ hto)
      refine ⟨by omega, by omega, by omega, by omega, _, p37 _ _ (by omega), fun h => by omega, fun _ => ?_⟩
      rw [wrap64 (by omega) (by omega)]
      exact Again.mk (k + 1) rfl (by omega) (by omega)
    · rw [wn]
      exact Again.mk (n + 1) rfl (by omega) (by omega)
  have wk : IntKind.wrap .i64 (5 + IntKind.wrap .i64 (4 * (x.2.2.2.1.length : Int))) = 5 + 4 * x.2.2.2.1.length := by
    rw [wrap64 (x := 4 * _) (by omega) (by omega), wrap64 (by omega) (by omega)]
  have hp0 : 0 ≤ x.1 ∧ x.1 < s.length := by omega
  have hn0 : 0 ≤ (n : Int) ∧ (n : Int) < l.length := by omega
  have q28 := p28 x.2.1
  have q37 := p37 l x.1 (by omega)
  rw [hidx] at q37
  have hsz : sizeI x = 2 ∧ form x.2.1 = 98 ∨ sizeI x = 3 ∧ (form x.2.1 = 110 ∨ form x.2.1 = 106) ∨ sizeI x = 5 + 4 * x.2.2.2.1.length ∧ form x.2.1 = 115 ∨ sizeI x = 1 ∧ (form x.2.1 = 0 ∨ form x.2.1 = 45) := by
    unfold sizeI
    rcases form_cases x.2.1 with hf | hf | hf | hf | hf | hf <;> simp [hf]
  refine ⟨hn0.1, hn0.2, fun h1 => ?_, fun h1 => ?_⟩
  · rw [if_pos (by omega)] at a5
    have hw : IntKind.wrap .i64 ((l.getD (n + 1) D0).1 - x.1) = sizeI x := by rw [wrap64 (by omega) (by omega)]; omega
    rw [hw]
    refine ⟨by omega, by omega, hn0.1, hn0.2, hn0.1, hn0.2, _, q28, ?_⟩
    rcases hsz with ⟨e, hf⟩ | ⟨e, hf | hf⟩ | ⟨e, hf⟩ | ⟨e, hf | hf⟩
    all_goals simp only [hf, e, wk, hb, Int.reduceBEq, bne_self_eq_false, Bool.false_eq_true, Bool.true_eq_false, forall_const, false_implies, true_and, and_true, Int.reduceEq]
    all_goals first
      | exact ⟨hn0.1, hn0.2, hp0.1, hp0.2, hn0.1, hn0.2, hn0.1, hn0.2, _, q37, fun h => absurd h (by simp), fun _ => tail⟩
      | exact ⟨hn0.1, hn0.2, hn0.1, hn0.2, hp0.1, hp0.2, hn0.1, hn0.2, hn0.1, hn0.2, _, q37, fun h => absurd h (by simp), fun _ => tail⟩
  · rw [if_neg (by omega)] at a5
    have hw : IntKind.wrap .i64 ((s.length : Int) - x.1) = sizeI x := by rw [wrap64 (by omega) (by omega)]; omega
    rw [hw]
    refine ⟨hn0.1, hn0.2, _, q28, ?_⟩
    rcases hsz with ⟨e, hf⟩ | ⟨e, hf | hf⟩ | ⟨e, hf⟩ | ⟨e, hf | hf⟩
    all_goals simp only [hf, e, wk, hb, Int.reduceBEq, bne_self_eq_false, Bool.false_eq_true, Bool.true_eq_false, forall_const, false_implies, true_and, and_true, Int.reduceEq]
    all_goals first
      | exact ⟨hn0.1, hn0.2, hp0.1, hp0.2, hn0.1, hn0.2, hn0.1, hn0.2, _, q37, fun h => absurd h (by simp), fun _ => tail⟩
      | exact ⟨hn0.1, hn0.2, hn0.1, hn0.2, hp0.1, hp0.2, hn0.1, hn0.2, hn0.1, hn0.2, _, q37, fun h => absurd h (by simp), fun _ => tail⟩

theorem law_CodeCovers (s : List UInt8) (f0 : Cd.wf .str s) : PC Try.prog 9 [Cd.enc .str s] (.bool true) := p9 s

end Go.Proofs.Ytaaedebknacheaa.AB

