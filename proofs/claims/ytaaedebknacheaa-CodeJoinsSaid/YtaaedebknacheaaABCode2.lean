/- Parts of the proof: what functions of the program compute, on plain values. -/
import Derived.Test.YtaaedebknacheaaABCode1
import Derived.Test.YtaaedebknacheaaProg
import Derived.KernelRfl
import Derived.Test.YtaaedebknacheaaABc2
set_option linter.unusedVariables false
set_option linter.unusedSimpArgs false
set_option maxRecDepth 100000
set_option maxHeartbeats 2000000
namespace Go.Proofs.Ytaaedebknacheaa.AB
open Go
/-! crucible/cruciblelaw4.CodeCovers -/
noncomputable def X9 : Cx := ⟨tt, [(23, [.cd .bool]), (28, [.cd (.int .u8)]), (30, [.cd .bool]), (33, [.cd (.slice (.pair (.int .i64) (.pair (.int .i64) (.pair (.int .i64) (.pair (.slice (.int .i64)) (.slice (.int .i64))))))), .cd (.int .i64)]), (37, [.cd (.int .i64)])], [], [(9, [(0, mkM 155 0 [0, 3, 4, 6], 0), (3, mkM 155 0 [0, 3, 4, 6, 9], 0)])], []⟩
theorem FN9 : fnsB Try.prog X9.fns := (show True from trivial)
def M9_0 : List Bool × Nat := (mkM 155 0 [0, 3, 4, 6], 0)
def S9_0 (s0 : List UInt8) (head3 : Bool) (l4 : List (Int × (Int × (Int × ((List Int) × (List Int)))))) (i6 : Int) (T : Toks) : St :=
  mkS 155 [(0, (.v (.str s0))), (3, (.v (.bool head3))), (4, (.v (.list (.pair (.int .i64) (.pair (.int .i64) (.pair (.int .i64) (.pair (.slice (.int .i64)) (.slice (.int .i64)))))) l4 .no))), (6, (.v (.int .i64 i6)))] [] T
noncomputable def B9_0 : (Exit → St → Prop) → St → Prop := (awp X9.tt (callN Try.prog X9 0) (X9.md 9) 0 (X9.mk1 9) 0 (codeAt [1, 1, 1, 1, 1, 1, 1, 0, 1, 0, 0] (bd Try.f9)))
def M9_3 : List Bool × Nat := (mkM 155 0 [0, 3, 4, 6, 9], 0)
def S9_3 (s0 : List UInt8) (head3 : Bool) (l4 : List (Int × (Int × (Int × ((List Int) × (List Int)))))) (i6 : Int) (k9 : Int) (T : Toks) : St :=
  mkS 155 [(0, (.v (.str s0))), (3, (.v (.bool head3))), (4, (.v (.list (.pair (.int .i64) (.pair (.int .i64) (.pair (.int .i64) (.pair (.slice (.int .i64)) (.slice (.int .i64)))))) l4 .no))), (6, (.v (.int .i64 i6))), (9, (.v (.int .i64 k9)))] [] T
noncomputable def B9_3 : (Exit → St → Prop) → St → Prop := (awp X9.tt (callN Try.prog X9 0) (X9.md 9) 0 (X9.mk1 9) 3 (codeAt [1, 1, 1, 1, 1, 1, 1, 0, 1, 0, 0, 1, 0, 0, 1, 1, 1, 1, 1, 1, 0, 0] (bd Try.f9)))
noncomputable def K9_0 (R : V → Prop) : Exit → St → Prop := seqK ((awp X9.tt (callN Try.prog X9 0) (X9.md 9) 0 (X9.mk1 9) 0 (codeAt [1, 1, 1, 1, 1, 1, 1, 1] (bd Try.f9))) (retK tt Try.f9.results.toList fun x s' => topK R x ⟨[], s'.hp, s'.T⟩)) (retK tt Try.f9.results.toList fun x s' => topK R x ⟨[], s'.hp, s'.T⟩)
noncomputable def Q9_0 (R : V → Prop) : Exit → St → Prop := (blockK 0 (K9_0 R))
noncomputable def K9_1 (R : V → Prop) (k0 : St → Prop) : Exit → St → Prop := seqK ((awp X9.tt (callN Try.prog X9 0) (X9.md 9) 0 (X9.mk1 9) 0 (codeAt [1, 1, 1, 1, 1, 1, 1, 0, 1, 0, 0, 1, 1] (bd Try.f9))) (loopQ M9_0 k0 (blockK 0 (K9_0 R)))) (loopQ M9_0 k0 (blockK 0 (K9_0 R)))
noncomputable def Q9_3 (R : V → Prop) (k0 : St → Prop) : Exit → St → Prop := (blockK 3 (blockK 1 (K9_1 R k0)))
theorem E9 (s0 : (List UInt8)) {R : V → Prop} (h : (∃ p1 : Bool, PC Try.prog 23 [] (.bool p1) ∧ (((!p1) = true → R (.bool false)) ∧
 ((!p1) = false → (((decide (((s0).length : Int) > (4096 : Int))) = true → R (.bool p1)) ∧
 ((decide (((s0).length : Int) > (4096 : Int))) = false → (∃ p2 : (List (Int × (Int × (Int × ((List Int) × (List Int)))))) × Int, PC Try.prog 33 [(.str s0)] ((.tup [(.list (.pair (.int .i64) (.pair (.int .i64) (.pair (.int .i64) (.pair (.slice (.int .i64)) (.slice (.int .i64)))))) p2.1 .no), (.int .i64 p2.2)])) ∧ (((p2.2 != (0 : Int)) = true → ((p1 = true → R (.bool ((((p2.1).length : Int) == (0 : Int))))) ∧ (p1 = false → R (.bool false)))) ∧
 ((p2.2 != (0 : Int)) = false → (((((p2.1).length : Int) == (0 : Int)) = true → R (.bool false)) ∧ ((((p2.1).length : Int) == (0 : Int)) = false → (0 ≤ (0 : Int) ∧ (0 : Int) < ((p2.1).length : Int) ∧ ((((p2.1.getD ((0 : Int)).toNat (0, (0, (0, ([], []))))).1 != (0 : Int)) = true → R (.bool false)) ∧ (((p2.1.getD ((0 : Int)).toNat (0, (0, (0, ([], []))))).1 != (0 : Int)) = false → (0 ≤ (IntKind.wrap .i64 (((p2.1).length : Int) - (1 : Int))) ∧ (IntKind.wrap .i64 (((p2.1).length : Int) - (1 : Int))) < ((p2.1).length : Int) ∧ (∃ p3 : Bool, PC Try.prog 30 [(.int .i64 ((p2.1.getD ((IntKind.wrap .i64 (((p2.1).length : Int) - (1 : Int)))).toNat (0, (0, (0, ([], []))))).2.1))] (.bool p3) ∧ (((!p3) = true → R (.bool false)) ∧
 ((!p3) = false → (Loops B9_0 M9_0 (Q9_0 R)
  (S9_0 s0 p1 p2.1 (0 : Int) ⟨0, []⟩)))))))))))))))))))) :
  fnK X9.tt (callN Try.prog X9 0) (X9.md 9) (X9.mk1 9) Try.f9 [(.v (.str s0))] ⟨[], [], ⟨0, []⟩⟩ (topK R) := Eq.mp (by kernel_rfl) h
theorem L9_0 (s0 : List UInt8) (head3 : Bool) (l4 : List (Int × (Int × (Int × ((List Int) × (List Int)))))) (i6 : Int) (T : Toks) {R : V → Prop} {k0 : St → Prop}
 (h : (((decide (i6 < ((l4).length : Int))) = true → (0 ≤ i6 ∧ i6 < ((l4).length : Int) ∧ (((decide ((IntKind.wrap .i64 (i6 + (1 : Int))) < ((l4).length : Int))) = true → (0 ≤ (IntKind.wrap .i64 (i6 + (1 : Int))) ∧ (IntKind.wrap .i64 (i6 + (1 : Int))) < ((l4).length : Int) ∧ (0 ≤ i6 ∧ i6 < ((l4).length : Int) ∧ (0 ≤ i6 ∧ i6 < ((l4).length : Int) ∧ (∃ p4 : Int, PC Try.prog 28 [(.int .i64 ((l4.getD (i6).toNat (0, (0, (0, ([], []))))).2.1))] (.int .u8 p4) ∧ (((p4 == (98 : Int)) = true → ((((IntKind.wrap .i64 ((l4.getD ((IntKind.wrap .i64 (i6 + (1 : Int)))).toNat (0, (0, (0, ([], []))))).1 - (l4.getD (i6).toNat (0, (0, (0, ([], []))))).1)) != (2 : Int)) = true → R (.bool false)) ∧ (((IntKind.wrap .i64 ((l4.getD ((IntKind.wrap .i64 (i6 + (1 : Int)))).toNat (0, (0, (0, ([], []))))).1 - (l4.getD (i6).toNat (0, (0, (0, ([], []))))).1)) != (2 : Int)) = false → (0 ≤ i6 ∧ i6 < ((l4).length : Int) ∧ (0 ≤ (l4.getD (i6).toNat (0, (0, (0, ([], []))))).1 ∧ (l4.getD (i6).toNat (0, (0, (0, ([], []))))).1 < ((s0).length : Int) ∧ (0 ≤ i6 ∧ i6 < ((l4).length : Int) ∧ ((((IntKind.wrap .i64 ((s0.getD ((l4.getD (i6).toNat (0, (0, (0, ([], []))))).1).toNat 0).toNat : Int)) != (l4.getD (i6).toNat (0, (0, (0, ([], []))))).2.1) = true → R (.bool false)) ∧ (((IntKind.wrap .i64 ((s0.getD ((l4.getD (i6).toNat (0, (0, (0, ([], []))))).1).toNat 0).toNat : Int)) != (l4.getD (i6).toNat (0, (0, (0, ([], []))))).2.1) = false → (0 ≤ i6 ∧ i6 < ((l4).length : Int) ∧ (∃ p5 : Int, PC Try.prog 37 [(.list (.pair (.int .i64) (.pair (.int .i64) (.pair (.int .i64) (.pair (.slice (.int .i64)) (.slice (.int .i64)))))) l4 .no), (.int .i64 ((l4.getD (i6).toNat (0, (0, (0, ([], []))))).1))] (.int .i64 p5) ∧ (((p5 != i6) = true → R (.bool false)) ∧
 ((p5 != i6) = false → (Loops B9_3 M9_3 (Q9_3 R k0)
  (S9_3 s0 head3 l4 i6 (0 : Int) T)))))))))))))) ∧
 ((p4 == (98 : Int)) = false → (((p4 == (110 : Int)) = true → (((p4 == (110 : Int)) = true → ((((IntKind.wrap .i64 ((l4.getD ((IntKind.wrap .i64 (i6 + (1 : Int)))).toNat (0, (0, (0, ([], []))))).1 - (l4.getD (i6).toNat (0, (0, (0, ([], []))))).1)) != (3 : Int)) = true → R (.bool false)) ∧ (((IntKind.wrap .i64 ((l4.getD ((IntKind.wrap .i64 (i6 + (1 : Int)))).toNat (0, (0, (0, ([], []))))).1 - (l4.getD (i6).toNat (0, (0, (0, ([], []))))).1)) != (3 : Int)) = false → (0 ≤ i6 ∧ i6 < ((l4).length : Int) ∧ (0 ≤ (l4.getD (i6).toNat (0, (0, (0, ([], []))))).1 ∧ (l4.getD (i6).toNat (0, (0, (0, ([], []))))).1 < ((s0).length : Int) ∧ (0 ≤ i6 ∧ i6 < ((l4).length : Int) ∧ ((((IntKind.wrap .i64 ((s0.getD ((l4.getD (i6).toNat (0, (0, (0, ([], []))))).1).toNat 0).toNat : Int)) != (l4.getD (i6).toNat (0, (0, (0, ([], []))))).2.1) = true → R (.bool false)) ∧ (((IntKind.wrap .i64 ((s0.getD ((l4.getD (i6).toNat (0, (0, (0, ([], []))))).1).toNat 0).toNat : Int)) != (l4.getD (i6).toNat (0, (0, (0, ([], []))))).2.1) = false → (0 ≤ i6 ∧ i6 < ((l4).length : Int) ∧ (∃ p6 : Int, PC Try.prog 37 [(.list (.pair (.int .i64) (.pair (.int .i64) (.pair (.int .i64) (.pair (.slice (.int .i64)) (.slice (.int .i64)))))) l4 .no), (.int .i64 ((l4.getD (i6).toNat (0, (0, (0, ([], []))))).1))] (.int .i64 p6) ∧ (((p6 != i6) = true → R (.bool false)) ∧
 ((p6 != i6) = false → (Loops B9_3 M9_3 (Q9_3 R k0)
  (S9_3 s0 head3 l4 i6 (0 : Int) T)))))))))))))) ∧
 ((p4 == (110 : Int)) = false → (((p4 == (115 : Int)) = true → (0 ≤ i6 ∧ i6 < ((l4).length : Int) ∧ ((((IntKind.wrap .i64 ((l4.getD ((IntKind.wrap .i64 (i6 + (1 : Int)))).toNat (0, (0, (0, ([], []))))).1 - (l4.getD (i6).toNat (0, (0, (0, ([], []))))).1)) != (IntKind.wrap .i64 ((5 : Int) + (IntKind.wrap .i64 ((4 : Int) * (((l4.getD (i6).toNat (0, (0, (0, ([], []))))).2.2.2.1).length : Int)))))) = true → R (.bool false)) ∧ (((IntKind.wrap .i64 ((l4.getD ((IntKind.wrap .i64 (i6 + (1 : Int)))).toNat (0, (0, (0, ([], []))))).1 - (l4.getD (i6).toNat (0, (0, (0, ([], []))))).1)) != (IntKind.wrap .i64 ((5 : Int) + (IntKind.wrap .i64 ((4 : Int) * (((l4.getD (i6).toNat (0, (0, (0, ([], []))))).2.2.2.1).length : Int)))))) = false → (0 ≤ i6 ∧ i6 < ((l4).length : Int) ∧ (0 ≤ (l4.getD (i6).toNat (0, (0, (0, ([], []))))).1 ∧ (l4.getD (i6).toNat (0, (0, (0, ([], []))))).1 < ((s0).length : Int) ∧ (0 ≤ i6 ∧ i6 < ((l4).length : Int) ∧ ((((IntKind.wrap .i64 ((s0.getD ((l4.getD (i6).toNat (0, (0, (0, ([], []))))).1).toNat 0).toNat : Int)) != (l4.getD (i6).toNat (0, (0, (0, ([], []))))).2.1) = true → R (.bool false)) ∧ (((IntKind.wrap .i64 ((s0.getD ((l4.getD (i6).toNat (0, (0, (0, ([], []))))).1).toNat 0).toNat : Int)) != (l4.getD (i6).toNat (0, (0, (0, ([], []))))).2.1) = false → (0 ≤ i6 ∧ i6 < ((l4).length : Int) ∧ (∃ p7 : Int, PC Try.prog 37 [(.list (.pair (.int .i64) (.pair (.int .i64) (.pair (.int .i64) (.pair (.slice (.int .i64)) (.slice (.int .i64)))))) l4 .no), (.int .i64 ((l4.getD (i6).toNat (0, (0, (0, ([], []))))).1))] (.int .i64 p7) ∧ (((p7 != i6) = true → R (.bool false)) ∧
 ((p7 != i6) = false → (Loops B9_3 M9_3 (Q9_3 R k0)
  (S9_3 s0 head3 l4 i6 (0 : Int) T))))))))))))))) ∧
 ((p4 == (115 : Int)) = false → ((((IntKind.wrap .i64 ((l4.getD ((IntKind.wrap .i64 (i6 + (1 : Int)))).toNat (0, (0, (0, ([], []))))).1 - (l4.getD (i6).toNat (0, (0, (0, ([], []))))).1)) != (1 : Int)) = true → R (.bool false)) ∧ (((IntKind.wrap .i64 ((l4.getD ((IntKind.wrap .i64 (i6 + (1 : Int)))).toNat (0, (0, (0, ([], []))))).1 - (l4.getD (i6).toNat (0, (0, (0, ([], []))))).1)) != (1 : Int)) = false → (0 ≤ i6 ∧ i6 < ((l4).length : Int) ∧ (0 ≤ (l4.getD (i6).toNat (0, (0, (0, ([], []))))).1 ∧ (l4.getD (i6).toNat (0, (0, (0, ([], []))))).1 < ((s0).length : Int) ∧ (0 ≤ i6 ∧ i6 < ((l4).length : Int) ∧ ((((IntKind.wrap .i64 ((s0.getD ((l4.getD (i6).toNat (0, (0, (0, ([], []))))).1).toNat 0).toNat : Int)) != (l4.getD (i6).toNat (0, (0, (0, ([], []))))).2.1) = true → R (.bool false)) ∧ (((IntKind.wrap .i64 ((s0.getD ((l4.getD (i6).toNat (0, (0, (0, ([], []))))).1).toNat 0).toNat : Int)) != (l4.getD (i6).toNat (0, (0, (0, ([], []))))).2.1) = false → (0 ≤ i6 ∧ i6 < ((l4).length : Int) ∧ (∃ p8 : Int, PC Try.prog 37 [(.list (.pair (.int .i64) (.pair (.int .i64) (.pair (.int .i64) (.pair (.slice (.int .i64)) (.slice (.int .i64)))))) l4 .no), (.int .i64 ((l4.getD (i6).toNat (0, (0, (0, ([], []))))).1))] (.int .i64 p8) ∧ (((p8 != i6) = true → R (.bool false)) ∧
 ((p8 != i6) = false → (Loops B9_3 M9_3 (Q9_3 R k0)
  (S9_3 s0 head3 l4 i6 (0 : Int) T)))))))))))))))))) ∧
 ((p4 == (110 : Int)) = false → (((p4 == (106 : Int)) = true → ((((IntKind.wrap .i64 ((l4.getD ((IntKind.wrap .i64 (i6 + (1 : Int)))).toNat (0, (0, (0, ([], []))))).1 - (l4.getD (i6).toNat (0, (0, (0, ([], []))))).1)) != (3 : Int)) = true → R (.bool false)) ∧ (((IntKind.wrap .i64 ((l4.getD ((IntKind.wrap .i64 (i6 + (1 : Int)))).toNat (0, (0, (0, ([], []))))).1 - (l4.getD (i6).toNat (0, (0, (0, ([], []))))).1)) != (3 : Int)) = false → (0 ≤ i6 ∧ i6 < ((l4).length : Int) ∧ (0 ≤ (l4.getD (i6).toNat (0, (0, (0, ([], []))))).1 ∧ (l4.getD (i6).toNat (0, (0, (0, ([], []))))).1 < ((s0).length : Int) ∧ (0 ≤ i6 ∧ i6 < ((l4).length : Int) ∧ ((((IntKind.wrap .i64 ((s0.getD ((l4.getD (i6).toNat (0, (0, (0, ([], []))))).1).toNat 0).toNat : Int)) != (l4.getD (i6).toNat (0, (0, (0, ([], []))))).2.1) = true → R (.bool false)) ∧ (((IntKind.wrap .i64 ((s0.getD ((l4.getD (i6).toNat (0, (0, (0, ([], []))))).1).toNat 0).toNat : Int)) != (l4.getD (i6).toNat (0, (0, (0, ([], []))))).2.1) = false → (0 ≤ i6 ∧ i6 < ((l4).length : Int) ∧ (∃ p9 : Int, PC Try.prog 37 [(.list (.pair (.int .i64) (.pair (.int .i64) (.pair (.int .i64) (.pair (.slice (.int .i64)) (.slice (.int .i64)))))) l4 .no), (.int .i64 ((l4.getD (i6).toNat (0, (0, (0, ([], []))))).1))] (.int .i64 p9) ∧ (((p9 != i6) = true → R (.bool false)) ∧
 ((p9 != i6) = false → (Loops B9_3 M9_3 (Q9_3 R k0)
  (S9_3 s0 head3 l4 i6 (0 : Int) T)))))))))))))) ∧
 ((p4 == (106 : Int)) = false → (((p4 == (115 : Int)) = true → (0 ≤ i6 ∧ i6 < ((l4).length : Int) ∧ ((((IntKind.wrap .i64 ((l4.getD ((IntKind.wrap .i64 (i6 + (1 : Int)))).toNat (0, (0, (0, ([], []))))).1 - (l4.getD (i6).toNat (0, (0, (0, ([], []))))).1)) != (IntKind.wrap .i64 ((5 : Int) + (IntKind.wrap .i64 ((4 : Int) * (((l4.getD (i6).toNat (0, (0, (0, ([], []))))).2.2.2.1).length : Int)))))) = true → R (.bool false)) ∧ (((IntKind.wrap .i64 ((l4.getD ((IntKind.wrap .i64 (i6 + (1 : Int)))).toNat (0, (0, (0, ([], []))))).1 - (l4.getD (i6).toNat (0, (0, (0, ([], []))))).1)) != (IntKind.wrap .i64 ((5 : Int) + (IntKind.wrap .i64 ((4 : Int) * (((l4.getD (i6).toNat (0, (0, (0, ([], []))))).2.2.2.1).length : Int)))))) = false → (0 ≤ i6 ∧ i6 < ((l4).length : Int) ∧ (0 ≤ (l4.getD (i6).toNat (0, (0, (0, ([], []))))).1 ∧ (l4.getD (i6).toNat (0, (0, (0, ([], []))))).1 < ((s0).length : Int) ∧ (0 ≤ i6 ∧ i6 < ((l4).length : Int) ∧ ((((IntKind.wrap .i64 ((s0.getD ((l4.getD (i6).toNat (0, (0, (0, ([], []))))).1).toNat 0).toNat : Int)) != (l4.getD (i6).toNat (0, (0, (0, ([], []))))).2.1) = true → R (.bool false)) ∧ (((IntKind.wrap .i64 ((s0.getD ((l4.getD (i6).toNat (0, (0, (0, ([], []))))).1).toNat 0).toNat : Int)) != (l4.getD (i6).toNat (0, (0, (0, ([], []))))).2.1) = false → (0 ≤ i6 ∧ i6 < ((l4).length : Int) ∧ (∃ p10 : Int, PC Try.prog 37 [(.list (.pair (.int .i64) (.pair (.int .i64) (.pair (.int .i64) (.pair (.slice (.int .i64)) (.slice (.int .i64)))))) l4 .no), (.int .i64 ((l4.getD (i6).toNat (0, (0, (0, ([], []))))).1))] (.int .i64 p10) ∧ (((p10 != i6) = true → R (.bool false)) ∧
 ((p10 != i6) = false → (Loops B9_3 M9_3 (Q9_3 R k0)
  (S9_3 s0 head3 l4 i6 (0 : Int) T))))))))))))))) ∧
 ((p4 == (115 : Int)) = false → ((((IntKind.wrap .i64 ((l4.getD ((IntKind.wrap .i64 (i6 + (1 : Int)))).toNat (0, (0, (0, ([], []))))).1 - (l4.getD (i6).toNat (0, (0, (0, ([], []))))).1)) != (1 : Int)) = true → R (.bool false)) ∧ (((IntKind.wrap .i64 ((l4.getD ((IntKind.wrap .i64 (i6 + (1 : Int)))).toNat (0, (0, (0, ([], []))))).1 - (l4.getD (i6).toNat (0, (0, (0, ([], []))))).1)) != (1 : Int)) = false → (0 ≤ i6 ∧ i6 < ((l4).length : Int) ∧ (0 ≤ (l4.getD (i6).toNat (0, (0, (0, ([], []))))).1 ∧ (l4.getD (i6).toNat (0, (0, (0, ([], []))))).1 < ((s0).length : Int) ∧ (0 ≤ i6 ∧ i6 < ((l4).length : Int) ∧ ((((IntKind.wrap .i64 ((s0.getD ((l4.getD (i6).toNat (0, (0, (0, ([], []))))).1).toNat 0).toNat : Int)) != (l4.getD (i6).toNat (0, (0, (0, ([], []))))).2.1) = true → R (.bool false)) ∧ (((IntKind.wrap .i64 ((s0.getD ((l4.getD (i6).toNat (0, (0, (0, ([], []))))).1).toNat 0).toNat : Int)) != (l4.getD (i6).toNat (0, (0, (0, ([], []))))).2.1) = false → (0 ≤ i6 ∧ i6 < ((l4).length : Int) ∧ (∃ p11 : Int, PC Try.prog 37 [(.list (.pair (.int .i64) (.pair (.int .i64) (.pair (.int .i64) (.pair (.slice (.int .i64)) (.slice (.int .i64)))))) l4 .no), (.int .i64 ((l4.getD (i6).toNat (0, (0, (0, ([], []))))).1))] (.int .i64 p11) ∧ (((p11 != i6) = true → R (.bool false)) ∧
 ((p11 != i6) = false → (Loops B9_3 M9_3 (Q9_3 R k0)
  (S9_3 s0 head3 l4 i6 (0 : Int) T)))))))))))))))))))))))))) ∧
 ((decide ((IntKind.wrap .i64 (i6 + (1 : Int))) < ((l4).length : Int))) = false → (0 ≤ i6 ∧ i6 < ((l4).length : Int) ∧ (∃ p12 : Int, PC Try.prog 28 [(.int .i64 ((l4.getD (i6).toNat (0, (0, (0, ([], []))))).2.1))] (.int .u8 p12) ∧ (((p12 == (98 : Int)) = true → ((((IntKind.wrap .i64 (((s0).length : Int) - (l4.getD (i6).toNat (0, (0, (0, ([], []))))).1)) != (2 : Int)) = true → R (.bool false)) ∧ (((IntKind.wrap .i64 (((s0).length : Int) - (l4.getD (i6).toNat (0, (0, (0, ([], []))))).1)) != (2 : Int)) = false → (0 ≤ i6 ∧ i6 < ((l4).length : Int) ∧ (0 ≤ (l4.getD (i6).toNat (0, (0, (0, ([], []))))).1 ∧ (l4.getD (i6).toNat (0, (0, (0, ([], []))))).1 < ((s0).length : Int) ∧ (0 ≤ i6 ∧ i6 < ((l4).length : Int) ∧ ((((IntKind.wrap .i64 ((s0.getD ((l4.getD (i6).toNat (0, (0, (0, ([], []))))).1).toNat 0).toNat : Int)) != (l4.getD (i6).toNat (0, (0, (0, ([], []))))).2.1) = true → R (.bool false)) ∧ (((IntKind.wrap .i64 ((s0.getD ((l4.getD (i6).toNat (0, (0, (0, ([], []))))).1).toNat 0).toNat : Int)) != (l4.getD (i6).toNat (0, (0, (0, ([], []))))).2.1) = false → (0 ≤ i6 ∧ i6 < ((l4).length : Int) ∧ (∃ p13 : Int, PC Try.prog 37 [(.list (.pair (.int .i64) (.pair (.int .i64) (.pair (.int .i64) (.pair (.slice (.int .i64)) (.slice (.int .i64)))))) l4 .no), (.int .i64 ((l4.getD (i6).toNat (0, (0, (0, ([], []))))).1))] (.int .i64 p13) ∧ (((p13 != i6) = true → R (.bool false)) ∧
 ((p13 != i6) = false → (Loops B9_3 M9_3 (Q9_3 R k0)
  (S9_3 s0 head3 l4 i6 (0 : Int) T)))))))))))))) ∧
 ((p12 == (98 : Int)) = false → (((p12 == (110 : Int)) = true → (((p12 == (110 : Int)) = true → ((((IntKind.wrap .i64 (((s0).length : Int) - (l4.getD (i6).toNat (0, (0, (0, ([], []))))).1)) != (3 : Int)) = true → R (.bool false)) ∧ (((IntKind.wrap .i64 (((s0).length : Int) - (l4.getD (i6).toNat (0, (0, (0, ([], []))))).1)) != (3 : Int)) = false → (0 ≤ i6 ∧ i6 < ((l4).length : Int) ∧ (0 ≤ (l4.getD (i6).toNat (0, (0, (0, ([], []))))).1 ∧ (l4.getD (i6).toNat (0, (0, (0, ([], []))))).1 < ((s0).length : Int) ∧ (0 ≤ i6 ∧ i6 < ((l4).length : Int) ∧ ((((IntKind.wrap .i64 ((s0.getD ((l4.getD (i6).toNat (0, (0, (0, ([], []))))).1).toNat 0).toNat : Int)) != (l4.getD (i6).toNat (0, (0, (0, ([], []))))).2.1) = true → R (.bool false)) ∧ (((IntKind.wrap .i64 ((s0.getD ((l4.getD (i6).toNat (0, (0, (0, ([], []))))).1).toNat 0).toNat : Int)) != (l4.getD (i6).toNat (0, (0, (0, ([], []))))).2.1) = false → (0 ≤ i6 ∧ i6 < ((l4).length : Int) ∧ (∃ p14 : Int, PC Try.prog 37 [(.list (.pair (.int .i64) (.pair (.int .i64) (.pair (.int .i64) (.pair (.slice (.int .i64)) (.slice (.int .i64)))))) l4 .no), (.int .i64 ((l4.getD (i6).toNat (0, (0, (0, ([], []))))).1))] (.int .i64 p14) ∧ (((p14 != i6) = true → R (.bool false)) ∧
 ((p14 != i6) = false → (Loops B9_3 M9_3 (Q9_3 R k0)
  (S9_3 s0 head3 l4 i6 (0 : Int) T)))))))))))))) ∧
 ((p12 == (110 : Int)) = false → (((p12 == (115 : Int)) = true → (0 ≤ i6 ∧ i6 < ((l4).length : Int) ∧ ((((IntKind.wrap .i64 (((s0).length : Int) - (l4.getD (i6).toNat (0, (0, (0, ([], []))))).1)) != (IntKind.wrap .i64 ((5 : Int) + (IntKind.wrap .i64 ((4 : Int) * (((l4.getD (i6).toNat (0, (0, (0, ([], []))))).2.2.2.1).length : Int)))))) = true → R (.bool false)) ∧ (((IntKind.wrap .i64 (((s0).length : Int) - (l4.getD (i6).toNat (0, (0, (0, ([], []))))).1)) != (IntKind.wrap .i64 ((5 : Int) + (IntKind.wrap .i64 ((4 : Int) * (((l4.getD (i6).toNat (0, (0, (0, ([], []))))).2.2.2.1).length : Int)))))) = false → (0 ≤ i6 ∧ i6 < ((l4).length : Int) ∧ (0 ≤ (l4.getD (i6).toNat (0, (0, (0, ([], []))))).1 ∧ (l4.getD (i6).toNat (0, (0, (0, ([], []))))).1 < ((s0).length : Int) ∧ (0 ≤ i6 ∧ i6 < ((l4).length : Int) ∧ ((((IntKind.wrap .i64 ((s0.getD ((l4.getD (i6).toNat (0, (0, (0, ([], []))))).1).toNat 0).toNat : Int)) != (l4.getD (i6).toNat (0, (0, (0, ([], []))))).2.1) = true → R (.bool false)) ∧ (((IntKind.wrap .i64 ((s0.getD ((l4.getD (i6).toNat (0, (0, (0, ([], []))))).1).toNat 0).toNat : Int)) != (l4.getD (i6).toNat (0, (0, (0, ([], []))))).2.1) = false → (0 ≤ i6 ∧ i6 < ((l4).length : Int) ∧ (∃ p15 : Int, PC Try.prog 37 [(.list (.pair (.int .i64) (.pair (.int .i64) (.pair (.int .i64) (.pair (.slice (.int .i64)) (.slice (.int .i64)))))) l4 .no), (.int .i64 ((l4.getD (i6).toNat (0, (0, (0, ([], []))))).1))] (.int .i64 p15) ∧ (((p15 != i6) = true → R (.bool false)) ∧
 ((p15 != i6) = false → (Loops B9_3 M9_3 (Q9_3 R k0)
  (S9_3 s0 head3 l4 i6 (0 : Int) T))))))))))))))) ∧
 ((p12 == (115 : Int)) = false → ((((IntKind.wrap .i64 (((s0).length : Int) - (l4.getD (i6).toNat (0, (0, (0, ([], []))))).1)) != (1 : Int)) = true → R (.bool false)) ∧ (((IntKind.wrap .i64 (((s0).length : Int) - (l4.getD (i6).toNat (0, (0, (0, ([], []))))).1)) != (1 : Int)) = false → (0 ≤ i6 ∧ i6 < ((l4).length : Int) ∧ (0 ≤ (l4.getD (i6).toNat (0, (0, (0, ([], []))))).1 ∧ (l4.getD (i6).toNat (0, (0, (0, ([], []))))).1 < ((s0).length : Int) ∧ (0 ≤ i6 ∧ i6 < ((l4).length : Int) ∧ ((((IntKind.wrap .i64 ((s0.getD ((l4.getD (i6).toNat (0, (0, (0, ([], []))))).1).toNat 0).toNat : Int)) != (l4.getD (i6).toNat (0, (0, (0, ([], []))))).2.1) = true → R (.bool false)) ∧ (((IntKind.wrap .i64 ((s0.getD ((l4.getD (i6).toNat (0, (0, (0, ([], []))))).1).toNat 0).toNat : Int)) != (l4.getD (i6).toNat (0, (0, (0, ([], []))))).2.1) = false → (0 ≤ i6 ∧ i6 < ((l4).length : Int) ∧ (∃ p16 : Int, PC Try.prog 37 [(.list (.pair (.int .i64) (.pair (.int .i64) (.pair (.int .i64) (.pair (.slice (.int .i64)) (.slice (.int .i64)))))) l4 .no), (.int .i64 ((l4.getD (i6).toNat (0, (0, (0, ([], []))))).1))] (.int .i64 p16) ∧ (((p16 != i6) = true → R (.bool false)) ∧
 ((p16 != i6) = false → (Loops B9_3 M9_3 (Q9_3 R k0)
  (S9_3 s0 head3 l4 i6 (0 : Int) T)))))))))))))))))) ∧
 ((p12 == (110 : Int)) = false → (((p12 == (106 : Int)) = true → ((((IntKind.wrap .i64 (((s0).length : Int) - (l4.getD (i6).toNat (0, (0, (0, ([], []))))).1)) != (3 : Int)) = true → R (.bool false)) ∧ (((IntKind.wrap .i64 (((s0).length : Int) - (l4.getD (i6).toNat (0, (0, (0, ([], []))))).1)) != (3 : Int)) = false → (0 ≤ i6 ∧ i6 < ((l4).length : Int) ∧ (0 ≤ (l4.getD (i6).toNat (0, (0, (0, ([], []))))).1 ∧ (l4.getD (i6).toNat (0, (0, (0, ([], []))))).1 < ((s0).length : Int) ∧ (0 ≤ i6 ∧ i6 < ((l4).length : Int) ∧ ((((IntKind.wrap .i64 ((s0.getD ((l4.getD (i6).toNat (0, (0, (0, ([], []))))).1).toNat 0).toNat : Int)) != (l4.getD (i6).toNat (0, (0, (0, ([], []))))).2.1) = true → R (.bool false)) ∧ (((IntKind.wrap .i64 ((s0.getD ((l4.getD (i6).toNat (0, (0, (0, ([], []))))).1).toNat 0).toNat : Int)) != (l4.getD (i6).toNat (0, (0, (0, ([], []))))).2.1) = false → (0 ≤ i6 ∧ i6 < ((l4).length : Int) ∧ (∃ p17 : Int, PC Try.prog 37 [(.list (.pair (.int .i64) (.pair (.int .i64) (.pair (.int .i64) (.pair (.slice (.int .i64)) (.slice (.int .i64)))))) l4 .no), (.int .i64 ((l4.getD (i6).toNat (0, (0, (0, ([], []))))).1))] (.int .i64 p17) ∧ (((p17 != i6) = true → R (.bool false)) ∧
 ((p17 != i6) = false → (Loops B9_3 M9_3 (Q9_3 R k0)
  (S9_3 s0 head3 l4 i6 (0 : Int) T)))))))))))))) ∧
 ((p12 == (106 : Int)) = false → (((p12 == (115 : Int)) = true → (0 ≤ i6 ∧ i6 < ((l4).length : Int) ∧ ((((IntKind.wrap .i64 (((s0).length : Int) - (l4.getD (i6).toNat (0, (0, (0, ([], []))))).1)) != (IntKind.wrap .i64 ((5 : Int) + (IntKind.wrap .i64 ((4 : Int) * (((l4.getD (i6).toNat (0, (0, (0, ([], []))))).2.2.2.1).length : Int)))))) = true → R (.bool false)) ∧ (((IntKind.wrap .i64 (((s0).length : Int) - (l4.getD (i6).toNat (0, (0, (0, ([], []))))).1)) != (IntKind.wrap .i64 ((5 : Int) + (IntKind.wrap .i64 ((4 : Int) * (((l4.getD (i6).toNat (0, (0, (0, ([], []))))).2.2.2.1).length : Int)))))) = false → (0 ≤ i6 ∧ i6 < ((l4).length : Int) ∧ (0 ≤ (l4.getD (i6).toNat (0, (0, (0, ([], []))))).1 ∧ (l4.getD (i6).toNat (0, (0, (0, ([], []))))).1 < ((s0).length : Int) ∧ (0 ≤ i6 ∧ i6 < ((l4).length : Int) ∧ ((((IntKind.wrap .i64 ((s0.getD ((l4.getD (i6).toNat (0, (0, (0, ([], []))))).1).toNat 0).toNat : Int)) != (l4.getD (i6).toNat (0, (0, (0, ([], []))))).2.1) = true → R (.bool false)) ∧ (((IntKind.wrap .i64 ((s0.getD ((l4.getD (i6).toNat (0, (0, (0, ([], []))))).1).toNat 0).toNat : Int)) != (l4.getD (i6).toNat (0, (0, (0, ([], []))))).2.1) = false → (0 ≤ i6 ∧ i6 < ((l4).length : Int) ∧ (∃ p18 : Int, PC Try.prog 37 [(.list (.pair (.int .i64) (.pair (.int .i64) (.pair (.int .i64) (.pair (.slice (.int .i64)) (.slice (.int .i64)))))) l4 .no), (.int .i64 ((l4.getD (i6).toNat (0, (0, (0, ([], []))))).1))] (.int .i64 p18) ∧ (((p18 != i6) = true → R (.bool false)) ∧
 ((p18 != i6) = false → (Loops B9_3 M9_3 (Q9_3 R k0)
  (S9_3 s0 head3 l4 i6 (0 : Int) T))))))))))))))) ∧
 ((p12 == (115 : Int)) = false → ((((IntKind.wrap .i64 (((s0).length : Int) - (l4.getD (i6).toNat (0, (0, (0, ([], []))))).1)) != (1 : Int)) = true → R (.bool false)) ∧ (((IntKind.wrap .i64 (((s0).length : Int) - (l4.getD (i6).toNat (0, (0, (0, ([], []))))).1)) != (1 : Int)) = false → (0 ≤ i6 ∧ i6 < ((l4).length : Int) ∧ (0 ≤ (l4.getD (i6).toNat (0, (0, (0, ([], []))))).1 ∧ (l4.getD (i6).toNat (0, (0, (0, ([], []))))).1 < ((s0).length : Int) ∧ (0 ≤ i6 ∧ i6 < ((l4).length : Int) ∧ ((((IntKind.wrap .i64 ((s0.getD ((l4.getD (i6).toNat (0, (0, (0, ([], []))))).1).toNat 0).toNat : Int)) != (l4.getD (i6).toNat (0, (0, (0, ([], []))))).2.1) = true → R (.bool false)) ∧ (((IntKind.wrap .i64 ((s0.getD ((l4.getD (i6).toNat (0, (0, (0, ([], []))))).1).toNat 0).toNat : Int)) != (l4.getD (i6).toNat (0, (0, (0, ([], []))))).2.1) = false → (0 ≤ i6 ∧ i6 < ((l4).length : Int) ∧ (∃ p19 : Int, PC Try.prog 37 [(.list (.pair (.int .i64) (.pair (.int .i64) (.pair (.int .i64) (.pair (.slice (.int .i64)) (.slice (.int .i64)))))) l4 .no), (.int .i64 ((l4.getD (i6).toNat (0, (0, (0, ([], []))))).1))] (.int .i64 p19) ∧ (((p19 != i6) = true → R (.bool false)) ∧
 ((p19 != i6) = false → (Loops B9_3 M9_3 (Q9_3 R k0)
  (S9_3 s0 head3 l4 i6 (0 : Int) T))))))))))))))))))))))))))) ∧
 ((decide (i6 < ((l4).length : Int))) = false → R (.bool head3)))) :
  B9_0 (loopQ M9_0 k0 (Q9_0 R)) (S9_0 s0 head3 l4 i6 T) := Eq.mp (by kernel_rfl) h
theorem L9_3 (s0 : List UInt8) (head3 : Bool) (l4 : List (Int × (Int × (Int × ((List Int) × (List Int)))))) (i6 : Int) (k9 : Int) (T : Toks) {R : V → Prop} {k0 : St → Prop} {k3 : St → Prop}
 (h : (0 ≤ i6 ∧ i6 < ((l4).length : Int) ∧ (((decide (k9 < (((l4.getD (i6).toNat (0, (0, (0, ([], []))))).2.2.2.2).length : Int))) = true → (0 ≤ i6 ∧ i6 < ((l4).length : Int) ∧ (0 ≤ k9 ∧ k9 < (((l4.getD (i6).toNat (0, (0, (0, ([], []))))).2.2.2.2).length : Int) ∧ (∃ p20 : Int, PC Try.prog 37 [(.list (.pair (.int .i64) (.pair (.int .i64) (.pair (.int .i64) (.pair (.slice (.int .i64)) (.slice (.int .i64)))))) l4 .no), (.int .i64 ((((l4.getD (i6).toNat (0, (0, (0, ([], []))))).2.2.2.2).getD (k9).toNat 0)))] (.int .i64 p20) ∧ (((decide (p20 < (0 : Int))) = true → R (.bool false)) ∧
 ((decide (p20 < (0 : Int))) = false → k3 (S9_3 s0 head3 l4 i6 ((IntKind.wrap .i64 (k9 + (1 : Int)))) T))))))) ∧
 ((decide (k9 < (((l4.getD (i6).toNat (0, (0, (0, ([], []))))).2.2.2.2).length : Int))) = false → k0 (S9_0 s0 head3 l4 ((IntKind.wrap .i64 (i6 + (1 : Int)))) T))))) :
  B9_3 (loopQ M9_3 k3 (Q9_3 R k0)) (S9_3 s0 head3 l4 i6 k9 T) := Eq.mp (by kernel_rfl) h
end Go.Proofs.Ytaaedebknacheaa.AB

set_option linter.unusedVariables false
set_option linter.unusedSimpArgs false
set_option maxHeartbeats 1000000
namespace Go.Proofs.Ytaaedebknacheaa.AB
open Go Go.RowKit

/-- the instructions of code, one by one -/
theorem Chn.get {s : List UInt8} {pc : Nat} {l : List Ins} (h : Chn s pc l) : ∀ i, i < l.length → ∃ q : Nat, q < s.length ∧ (oneI s q).2.2 = 0 ∧ l.getD i D0 = (oneI s q).1 ∧ (l.getD i D0).1 = q ∧
    (q : Int) + (oneI s q).2.1 = if i + 1 < l.length then (l.getD (i + 1) D0).1 else s.length := by
  induction h with
  | nil => intro i hi; simp at hi
  | @cons pc l h he hr ih =>
    intro i hi
    obtain ⟨k1, k2, k3, _⟩ := oneI_ok h he
    cases i with
    | zero =>
      refine ⟨pc, h, he, rfl, k1, ?_⟩
      clear ih hi
      generalize hq : pc + (oneI s pc).2.1.toNat = q at hr
      cases hr with
      | nil => simp; omega
      | @cons _ l' h' he' hr' =>
        obtain ⟨k1', _⟩ := oneI_ok h' he'
        simp only [List.length_cons, List.getD_cons_succ, List.getD_cons_zero]
        rw [if_pos (by omega), k1']
        omega
    | succ i =>
      obtain ⟨q, h1, h2, h3, h4, h5⟩ := ih i (by simpa using hi)
      refine ⟨q, h1, h2, by simpa using h3, by simpa using h4, ?_⟩
      rw [h5]
      simp only [List.length_cons, List.getD_cons_succ, Nat.add_lt_add_iff_right]

theorem decodeI_chn {s : List UInt8} {l : List Ins} (h : decodeI s = (l, 0)) : Chn s 0 l := by
  unfold decodeI at h
  split at h
  · exact absurd (congrArg Prod.snd h) (by simp)
  split at h
  · exact absurd (congrArg Prod.snd h) (by simp)
  generalize hq : scan s s.length 0 = q at h
  obtain ⟨l', e⟩ := q
  simp only at h
  split at h
  · rename_i he'
    simp only [Prod.mk.injEq] at h
    exact absurd h.2 he'
  rename_i he'
  have he' : e = 0 := by simpa using he'
  subst he'
  split at h
  · rename_i he'
    simp only [Prod.mk.injEq] at h
    exact absurd h.2 he'
  simp only [Prod.mk.injEq, and_true] at h
  subst h
  exact Chn.of s.length 0 (by omega) (Nat.zero_le _) hq

theorem idx_self {l : List Ins} (h : l.Pairwise (fun a b => a.1 < b.1)) {i : Nat} (hi : i < l.length) : idx l (l.getD i D0).1 = i := by
  have hg : l.getD i D0 = l[i] := by simp [List.getD, hi]
  have : l.findIdx? (fun x => x.1 == (l.getD i D0).1) = some i := by
    rw [List.findIdx?_eq_some_iff_getElem]
    refine ⟨hi, by rw [hg]; simp, fun j hj => ?_⟩
    have := List.pairwise_iff_getElem.1 h j i (by omega) hi hj
    rw [hg]
    simp
    omega
  unfold idx
  rw [this]

theorem idx_nonneg {l : List Ins} {pc : Int} (h : isPc l pc = true) : 0 ≤ idx l pc := by
  unfold isPc at h
  unfold idx
  cases hf : l.findIdx? (fun x => x.1 == pc) with
  | some i => simp
  | none =>
    rw [List.findIdx?_eq_none_iff] at hf
    rw [List.any_eq_true] at h
    obtain ⟨x, hx, he⟩ := h
    have := hf x hx
    simp_all

theorem p9 (s : List UInt8) : PC Try.prog 9 [.str s] (.bool true) := by
  refine pcOf (X := X9) (d := 0) rfl trivial (by kernel_rfl) (by decide) (E9 s ⟨_, p23, fun h => absurd h (by simp), fun _ => ⟨fun _ => retB rfl, fun h => ?_⟩⟩)
  refine ⟨_, p33 s, fun he => ⟨fun _ => ?_, fun h => absurd h (by simp)⟩, fun he => ?_⟩
  · have he : (decodeI s).2 ≠ 0 := by simpa using he
    rw [decodeI_nil he]
    exact retB rfl
  have he : (decodeI s).2 = 0 := by simpa using he
  have hd : decodeI s = ((decodeI s).1, 0) := by rw [← he]
  have hc := decodeI_ok hd
  have hn := decodeI_chn hd
  generalize (decodeI s).1 = l at *
  have z1 := hc.len
  have z2 := hc.size
  obtain ⟨x0, r0, hl0, hx0⟩ := hc.first
  have hpos : 0 < l.length := by rw [hl0]; simp
  have hD : ((0, (0, (0, ([], [])))) : Ins) = D0 := rfl
  have h0 : (l.getD 0 D0).1 = 0 := by rw [hl0]; exact hx0
  have w1 : IntKind.wrap .i64 ((l.length : Int) - 1) = ((l.length - 1 : Nat) : Int) := by rw [wrap64 (by omega) (by omega)]; omega
  have t0 : (0 : Int).toNat = 0 := rfl
  simp only [hD, w1, Int.toNat_natCast, t0, h0]
  have q30 := p30 (l.getD (l.length - 1) D0).2.1
  rw [hc.last] at q30
  refine ⟨fun h => absurd h (by simp; intro e; simp [e] at hpos), fun _ => ⟨by omega, by omega, fun h => absurd h (by simp), fun _ => ⟨by omega, by omega, _, q30, fun h => absurd h (by simp), fun _ => ?_⟩⟩⟩
  refine Loops.intro (fun n : Nat => S9_0 s true l n ⟨0, []⟩) (fun n => n ≤ l.length) (fun n => l.length - n) 0 rfl (Nat.zero_le _) ?_
  intro n hn'
  have hn' : n ≤ l.length := hn'
  refine L9_0 s true l n ⟨0, []⟩ ?_
  have wn : IntKind.wrap .i64 ((n : Int) + 1) = ((n + 1 : Nat) : Int) := by rw [wrap64 (by omega) (by omega)]; omega
  simp only [hD, wn, Int.toNat_natCast, wrapB, decide_eq_true_eq, decide_eq_false_iff_not]
  refine ⟨fun h => ?_, fun h => retB rfl⟩
  have hlt : n < l.length := by omega
  obtain ⟨q, a1, a2, a3, a4, a5⟩ := hn.get n hlt
  obtain ⟨b1, b2, b3⟩ := oneI_size a2
  obtain ⟨k1, k2, k3, k4, k5, _⟩ := oneI_ok a1 a2
  rw [← a3] at b1 b2 k5
  generalize hx : l.getD n D0 = x at *
  have hb : byte s x.1.toNat = x.2.1 := by rw [a4, Int.toNat_natCast, b2]
  have hidx : idx l x.1 = n := by rw [← hx]; exact idx_self hc.inc hlt
  have hm : x ∈ l := by rw [← hx, getD_lt hlt]; exact List.getElem_mem hlt
  have tail : (Loops B9_3 M9_3 (Q9_3 (fun v => v.norm = V.bool true ∧ (V.bool true).nt = true) (Again (fun n : Nat => S9_0 s true l n ⟨0, []⟩) (fun n => n ≤ l.length) (fun n => l.length - n) (l.length - n))) (S9_3 s true l n 0 ⟨0, []⟩)) := by
    refine Loops.intro (fun k : Nat => S9_3 s true l n k ⟨0, []⟩) (fun k => k ≤ x.2.2.2.2.length) (fun k => x.2.2.2.2.length - k) 0 rfl (Nat.zero_le _) ?_
    intro k hk
    have hk : k ≤ x.2.2.2.2.length := hk
    have k6 := hc.tos x hm
    refine L9_3 s true l n k ⟨0, []⟩ ?_
    simp only [hD, Int.toNat_natCast, hx, decide_eq_true_eq, decide_eq_false_iff_not]
    refine ⟨by omega, by omega, fun h => ?_, fun h => ?_⟩
    · have hklt : k < x.2.2.2.2.length := by omega
      have hto : x.2.2.2.2.getD k 0 ∈ x.2.2.2.2 := by rw [getD_lt hklt]; exact List.getElem_mem hklt
      have := idx_nonneg (hc.lands x hm _ hto)
      refine ⟨by omega, by omega, by omega, by omega, _, p37 _ _ (by omega), fun h => by omega, fun _ => ?_⟩
      rw [wrap64 (by omega) (by omega)]
      exact Again.mk (k + 1) rfl (by omega) (by omega)
    · rw [wn]
      exact Again.mk (n + 1) rfl (by omega) (by omega)
  have wk : IntKind.wrap .i64 (5 + IntKind.wrap .i64 (4 * (x.2.2.2.1.length : Int))) = 5 + 4 * x.2.2.2.1.length := by
    rw [wrap64 (x := 4 * _) (by omega) (by omega), wrap64 (by omega) (by omega)]
  have hp0 : 0 ≤ x.1 ∧ x.1 < s.length := by omega
  have hn0 : 0 ≤ (n : Int) ∧ (n : Int) < l.length := by omega
  have q28 := p28 x.2.1
  have q37 := p37 l x.1 (by omega)
  rw [hidx] at q37
  have hsz : sizeI x = 2 ∧ form x.2.1 = 98 ∨ sizeI x = 3 ∧ (form x.2.1 = 110 ∨ form x.2.1 = 106) ∨ sizeI x = 5 + 4 * x.2.2.2.1.length ∧ form x.2.1 = 115 ∨ sizeI x = 1 ∧ (form x.2.1 = 0 ∨ form x.2.1 = 45) := by
    unfold sizeI
    rcases form_cases x.2.1 with hf | hf | hf | hf | hf | hf <;> simp [hf]
  refine ⟨hn0.1, hn0.2, fun h1 => ?_, fun h1 => ?_⟩
  · rw [if_pos (by omega)] at a5
    have hw : IntKind.wrap .i64 ((l.getD (n + 1) D0).1 - x.1) = sizeI x := by rw [wrap64 (by omega) (by omega)]; omega
    rw [hw]
    refine ⟨by omega, by omega, hn0.1, hn0.2, hn0.1, hn0.2, _, q28, ?_⟩
    rcases hsz with ⟨e, hf⟩ | ⟨e, hf | hf⟩ | ⟨e, hf⟩ | ⟨e, hf | hf⟩
    all_goals simp only [hf, e, wk, hb, Int.reduceBEq, bne_self_eq_false, Bool.false_eq_true, Bool.true_eq_false, forall_const, false_implies, true_and, and_true, Int.reduceEq]
    all_goals first
      | exact ⟨hn0.1, hn0.2, hp0.1, hp0.2, hn0.1, hn0.2, hn0.1, hn0.2, _, q37, fun h => absurd h (by simp), fun _ => tail⟩
      | exact ⟨hn0.1, hn0.2, hn0.1, hn0.2, hp0.1, hp0.2, hn0.1, hn0.2, hn0.1, hn0.2, _, q37, fun h => absurd h (by simp), fun _ => tail⟩
  · rw [if_neg (by omega)] at a5
    have hw : IntKind.wrap .i64 ((s.length : Int) - x.1) = sizeI x := by rw [wrap64 (by omega) (by omega)]; omega
    rw [hw]
    refine ⟨hn0.1, hn0.2, _, q28, ?_⟩
    rcases hsz with ⟨e, hf⟩ | ⟨e, hf | hf⟩ | ⟨e, hf⟩ | ⟨e, hf | hf⟩
    all_goals simp only [hf, e, wk, hb, Int.reduceBEq, bne_self_eq_false, Bool.false_eq_true, Bool.true_eq_false, forall_const, false_implies, true_and, and_true, Int.reduceEq]
    all_goals first
      | exact ⟨hn0.1, hn0.2, hp0.1, hp0.2, hn0.1, hn0.2, hn0.1, hn0.2, _, q37, fun h => absurd h (by simp), fun _ => tail⟩
      | exact ⟨hn0.1, hn0.2, hn0.1, hn0.2, hp0.1, hp0.2, hn0.1, hn0.2, hn0.1, hn0.2, _, q37, fun h => absurd h (by simp), fun _ => tail⟩

theorem law_CodeCovers (s : List UInt8) (f0 : Cd.wf .str s) : PC Try.prog 9 [Cd.enc .str s] (.bool true) := p9 s

end Go.Proofs.Ytaaedebknacheaa.AB

set_option linter.unusedVariables false
set_option linter.unusedSimpArgs false
set_option maxRecDepth 100000
set_option maxHeartbeats 2000000
namespace Go.Proofs.Ytaaedebknacheaa.AB
open Go
/-! crucible/cruciblelaw4.pick -/
noncomputable def X32 : Cx := ⟨tt, [], [], [], []⟩
theorem FN32 : fnsB Try.prog X32.fns := (show True from trivial)
theorem E32 (c0 : Int) (n1 : Int) {R : V → Prop} (h : (((decide (c0 < (0 : Int))) = true → (n1 ≠ 0 ∧ R (.int .i64 ((Int.tmod (IntKind.wrap .i64 (0 - (IntKind.wrap .i64 (c0 + (1 : Int))))) n1))))) ∧
 ((decide (c0 < (0 : Int))) = false → (n1 ≠ 0 ∧ R (.int .i64 (Int.tmod c0 n1)))))) :
  fnK X32.tt (callN Try.prog X32 0) (X32.md 32) (X32.mk1 32) Try.f32 [(.v (.int .i64 c0)), (.v (.int .i64 n1))] ⟨[], [], ⟨0, []⟩⟩ (topK R) := Eq.mp (by kernel_rfl) h
end Go.Proofs.Ytaaedebknacheaa.AB

set_option linter.unusedVariables false
set_option linter.unusedSimpArgs false
namespace Go.Proofs.Ytaaedebknacheaa.AB
open Go

theorem p32 (c n : Int) (h1 : -9223372036854775808 ≤ c) (h2 : c ≤ 9223372036854775807) (hn : 0 < n) : ∃ k : Int, 0 ≤ k ∧ k < n ∧ PC Try.prog 32 [.int .i64 c, .int .i64 n] (.int .i64 k) := by
  by_cases hc : c < 0
  · refine ⟨Int.tmod (-(c + 1)) n, Int.tmod_nonneg _ (by omega), Int.tmod_lt_of_pos _ hn, ?_⟩
    refine pcOf (X := X32) (d := 0) rfl trivial (by kernel_rfl) (by decide) (E32 c n ⟨fun _ => ⟨by omega, retI ?_⟩, fun h => absurd hc (by simpa using h)⟩)
    rw [wrap64 (x := c + 1) (by omega) (by omega), wrap64 (by omega) (by omega), Int.zero_sub]
  · refine ⟨Int.tmod c n, Int.tmod_nonneg _ (by omega), Int.tmod_lt_of_pos _ hn, ?_⟩
    exact pcOf (X := X32) (d := 0) rfl trivial (by kernel_rfl) (by decide) (E32 c n ⟨fun h => absurd (by simpa using h) hc, fun _ => ⟨by omega, retI rfl⟩⟩)

/-- an instruction further on -/
def shI (d : Int) (x : Ins) : Ins := (x.1 + d, x.2.1, x.2.2.1, x.2.2.2.1, x.2.2.2.2.map (· + d))

theorem shI_zero (x : Ins) : shI 0 x = x := by
  unfold shI
  have : (fun y : Int => y + 0) = id := by funext y; exact Int.add_zero y
  simp [this]

theorem isPc_append {a b : List Ins} {pc : Int} : isPc (a ++ b) pc = (isPc a pc || isPc b pc) := by
  unfold isPc; rw [List.any_append]

theorem isPc_sh {l : List Ins} {d pc : Int} : isPc (l.map (shI d)) (pc + d) = isPc l pc := by
  unfold isPc
  rw [List.any_map]
  congr 1
  funext x
  simp only [Function.comp, shI]
  have : (x.1 + d == pc + d) = (x.1 == pc) := by
    rw [Bool.eq_iff_iff]; simp
  exact this

/-- do all jumps lead to an instruction -/
def allLand (l : List Ins) : Bool := l.all fun x => x.2.2.2.2.all fun to => isPc l to

theorem allLand_iff {l : List Ins} : allLand l = true ↔ ∀ x ∈ l, ∀ to ∈ x.2.2.2.2, isPc l to = true := by
  unfold allLand
  rw [List.all_eq_true]
  exact forall_congr' fun x => forall_congr' fun _ => List.all_eq_true

theorem endsE_eq (l : List Ins) : endsE l = if allLand l then (if isEnd (l.getD (l.length - 1) D0).2.1 then 0 else 13) else 12 := rfl

theorem sh_lands {l m : List Ins} {d : Int} (h : allLand l = true) (hm : ∀ pc, isPc l pc = true → isPc m (pc + d) = true) :
    ∀ x ∈ l.map (shI d), ∀ to ∈ x.2.2.2.2, isPc m to = true := by
  intro x hx to hto
  obtain ⟨y, hy, rfl⟩ := List.mem_map.1 hx
  obtain ⟨z, hz, rfl⟩ := List.mem_map.1 hto
  exact hm _ (allLand_iff.1 h y hy z hz)

theorem last_append {a b : List Ins} {d : Int} (hb : b ≠ []) : ((a ++ b.map (shI d)).getD ((a ++ b.map (shI d)).length - 1) D0).2.1 = (b.getD (b.length - 1) D0).2.1 := by
  have hp : 0 < b.length := List.length_pos_iff.2 hb
  have h1 : (a ++ b.map (shI d)).length - 1 = a.length + (b.length - 1) := by simp; omega
  rw [h1]
  simp only [List.getD]
  rw [List.getElem?_append_right (by omega), Nat.add_sub_cancel_left, List.getElem?_map]
  rw [List.getElem?_eq_getElem (by omega)]
  rfl

/-- the same code, at another place of longer code -/
theorem Chn.shift {s s' : List UInt8} {d : Nat} {l2 : List Ins} (hl : s.length + d ≤ s'.length) (hend : Chn s' (s.length + d) l2) {pc : Nat} {l : List Ins} (h : Chn s pc l)
    (hs : ∀ j, j < s.length → byte s' (j + d) = byte s j) : Chn s' (pc + d) (l.map (shI d) ++ l2) := by
  induction h with
  | nil => exact hend
  | @cons pc l h he hr ih =>
    obtain ⟨k1, k2, k3, _⟩ := oneI_ok h he
    obtain ⟨g1, g2, g3⟩ := oneI_size he
    have hb : byte s' (pc + d) = byte s pc := hs pc h
    have key := oneI_agree (s := s) (s' := s') (pc := pc) (pc' := pc + d) (d := d) (by omega) he (by omega) (by rw [hb]) (fun j h1 h2 => by
      have := hs (pc + j) (by omega)
      rwa [show pc + d + j = pc + j + d by omega])
    have hone : (oneI s' (pc + d)).1 = shI d (oneI s pc).1 := by
      rw [key]
      unfold shI
      rw [g2, g3, hb]
      simp
    have hsz : (oneI s' (pc + d)).2.1 = (oneI s pc).2.1 := by rw [key]
    have herr : (oneI s' (pc + d)).2.2 = 0 := by rw [key]
    have := Chn.cons (s := s') (pc := pc + d) (l := l.map (shI d) ++ l2) (by omega) herr (by
      rw [hsz]
      have : pc + d + (oneI s pc).2.1.toNat = pc + (oneI s pc).2.1.toNat + d := by omega
      rw [this]; exact ih)
    rw [hone] at this
    exact this

theorem byte_append_left {s t : List UInt8} {i : Nat} (h : i < s.length) : byte (s ++ t) i = byte s i := by
  unfold byte
  rw [getD_lt h, getD_lt (by simp; omega), List.getElem_append_left h]

theorem byte_append_right {s t : List UInt8} {i : Nat} : byte (s ++ t) (i + s.length) = byte t i := by
  unfold byte
  congr 2
  simp [List.getD, List.getElem?_append_right]

theorem decodeI_joins {s t : List UInt8} {a b : List Ins} (ha : decodeI s = (a, 0)) (hb : decodeI t = (b, 0)) (hl : s.length + t.length ≤ 4096) :
    decodeI (s ++ t) = (a ++ b.map (shI s.length), 0) := by
  have ca := decodeI_ok ha
  have cb := decodeI_ok hb
  have na := decodeI_chn ha
  have nb := decodeI_chn hb
  have h1 : Chn (s ++ t) (t.length + s.length) [] := by
    have : t.length + s.length = (s ++ t).length := by simp; omega
    rw [this]; exact .nil
  have h2 := Chn.shift (s := t) (s' := s ++ t) (d := s.length) (by simp; omega) h1 nb (fun j hj => byte_append_right)
  rw [Nat.zero_add, List.append_nil] at h2
  have h3 := Chn.shift (s := s) (s' := s ++ t) (d := 0) (by simp) (by rw [Nat.add_zero]; exact h2) na (fun j hj => byte_append_left hj)
  have hid : a.map (shI ((0 : Nat) : Int)) = a := by
    have : shI ((0 : Nat) : Int) = id := by funext x; exact shI_zero x
    rw [this, List.map_id]
  rw [hid] at h3
  have hsc := h3.scan
  have hne : b ≠ [] := by obtain ⟨x, r, e, _⟩ := cb.first; rw [e]; simp
  have hne' : a ≠ [] := by obtain ⟨x, r, e, _⟩ := ca.first; rw [e]; simp
  have hland : allLand (a ++ b.map (shI s.length)) = true := by
    rw [allLand_iff]
    intro x hx to hto
    rw [isPc_append, Bool.or_eq_true]
    rcases List.mem_append.1 hx with hx | hx
    · exact .inl (ca.lands x hx to hto)
    · obtain ⟨y, hy, rfl⟩ := List.mem_map.1 hx
      obtain ⟨z, hz, rfl⟩ := List.mem_map.1 hto
      exact .inr (by rw [isPc_sh]; exact cb.lands y hy z hz)
  have hends : endsE (a ++ b.map (shI s.length)) = 0 := by
    rw [endsE_eq, if_pos hland, last_append hne, cb.last]; rfl
  have hs0 : s ≠ [] := fun e => by subst e; have := ca.first; obtain ⟨x, r, e, _⟩ := this; have := ca.len; rw [e] at this; simp at this
  unfold decodeI
  rw [if_neg (by simp [hs0]), if_neg (by simp; omega)]
  unfold scanAt at hsc
  rw [Nat.add_zero, Nat.sub_zero] at hsc
  rw [hsc]
  simp [hends]

/-- one instruction, of what stands behind something else -/
theorem oneI_behind {s s' : List UInt8} {d : Nat} (h : s'.drop d = s) (pc : Nat) : oneI s' (pc + d) = (shI d (oneI s pc).1, (oneI s pc).2) := by
  have hb : byte s' (pc + d) = byte s pc := by rw [← h, byte_drop, Nat.add_comm]
  have hr : s'.drop (pc + d + 1) = s.drop (pc + 1) := by rw [← h, List.drop_drop]; congr 1; omega
  unfold oneI
  simp only [hb, hr]
  have ht : ∀ n, tosOf (s.drop (pc + 1)) ((pc : Int) + (d : Int)) n = (tosOf (s.drop (pc + 1)) pc n).map (· + (d : Int)) := by
    intro n
    unfold tosOf
    rw [List.map_map]
    refine List.map_congr_left fun i _ => ?_
    simp only [Function.comp]
    omega
  have e : ∀ z : Int, (pc : Int) + (d : Int) + z = (pc : Int) + z + d := fun z => by omega
  repeat' split
  all_goals simp only [shI, List.map_nil, List.map_cons, ht, e, Int.natCast_add]

theorem scan_behind {s s' : List UInt8} {d : Nat} (h : s'.drop d = s) (hl : s'.length = s.length + d) : ∀ (n pc : Nat), s.length - pc ≤ n →
    scanAt s' (pc + d) = ((scanAt s pc).1.map (shI d), (scanAt s pc).2) := by
  intro n
  induction n with
  | zero =>
    intro pc hn
    unfold scanAt
    have h1 : s.length - pc = 0 := by omega
    have h2 : s'.length - (pc + d) = 0 := by omega
    rw [h1, h2]; rfl
  | succ n ih =>
    intro pc hn
    rcases Nat.lt_or_ge pc s.length with hlt | hge
    · rw [scanAt_step (s := s') (by omega), scanAt_step hlt, oneI_behind h]
      by_cases he : (oneI s pc).2.2 = 0
      · obtain ⟨k1, k2, k3, _⟩ := oneI_ok hlt he
        have e : pc + d + (shI d (oneI s pc).1, (oneI s pc).2).2.1.toNat = pc + (oneI s pc).2.1.toNat + d := by
          show pc + d + (oneI s pc).2.1.toNat = _
          omega
        rw [e, ih _ (by omega)]
        generalize scanAt s (pc + (oneI s pc).2.1.toNat) = q
        obtain ⟨l, e'⟩ := q
        simp only [he, ne_eq, not_true_eq_false, if_false]
        split <;> simp
      · simp only [ne_eq, he, not_false_eq_true, if_true, List.map_nil]
    · unfold scanAt
      have h1 : s.length - pc = 0 := by omega
      have h2 : s'.length - (pc + d) = 0 := by omega
      rw [h1, h2]; rfl

/-- instructions with nops ahead of them -/
def nopsL : Nat → List Ins → List Ins
  | 0, l => l
  | n + 1, l => (0, 0, 0, [], []) :: (nopsL n l).map (shI 1)

theorem nopsL_len (n : Nat) (l : List Ins) : (nopsL n l).length = n + l.length := by
  induction n with
  | zero => simp [nopsL]
  | succ n ih => simp [nopsL, ih]; omega

theorem shI_shI (a b : Int) (x : Ins) : shI a (shI b x) = shI (b + a) x := by
  unfold shI
  simp only [List.map_map, Prod.mk.injEq, true_and]
  refine ⟨by omega, List.map_congr_left fun y _ => ?_⟩
  simp only [Function.comp]
  omega

theorem getD_map {α β : Type} (f : α → β) {l : List α} {i : Nat} {d : α} {d' : β} (h : i < l.length) : (l.map f).getD i d' = f (l.getD i d) := by
  rw [getD_lt (by simpa using h), getD_lt h, List.getElem_map]

theorem nopsL_get (n : Nat) (l : List Ins) {i : Nat} (hi : i < l.length) : (nopsL n l).getD (i + n) D0 = shI n (l.getD i D0) := by
  induction n with
  | zero => simp [nopsL, shI_zero]
  | succ n ih =>
    show ((0, 0, 0, [], []) :: (nopsL n l).map (shI 1)).getD (i + n + 1) D0 = _
    rw [List.getD_cons_succ, getD_map (shI 1) (d := D0) (by rw [nopsL_len]; omega), ih, shI_shI]
    congr 1

theorem nops_scan (s : List UInt8) (n : Nat) : scanAt (List.replicate n 0 ++ s) 0 = (if (scanAt s 0).2 = 0 then nopsL n (scanAt s 0).1 else (scanAt s 0).1, (scanAt s 0).2) := by
  induction n with
  | zero => simp only [List.replicate_zero, List.nil_append, nopsL]; split <;> rfl
  | succ n ih =>
    have hone : oneI (List.replicate (n + 1) 0 ++ s) 0 = ((0, 0, 0, [], []), 1, 0) := by
      have hb : byte (List.replicate (n + 1) 0 ++ s) 0 = 0 := rfl
      have hf : form 0 = 45 := by decide
      unfold oneI
      simp only [hb, hf, Int.reduceEq, if_true, if_false]
      rfl
    have hb := scan_behind (s := List.replicate n 0 ++ s) (s' := List.replicate (n + 1) 0 ++ s) (d := 1) rfl (by simp; omega) _ 0 (Nat.le_refl _)
    rw [Nat.zero_add] at hb
    have e : 0 + ((((0, 0, 0, [], []), 1, 0) : Ins × Int × Int).2.1).toNat = 1 := rfl
    rw [scanAt_step (by simp; omega), hone, e, hb, ih]
    by_cases hz : (scanAt s 0).2 = 0
    · simp [hz, nopsL]
    · simp only [hz, if_false, ne_eq, not_true_eq_false, not_false_eq_true, if_true]
      have : (scanAt s 0).1 = [] := scan_err _ _ _ _ _ rfl hz
      rw [this]

theorem nopsL_ends (n : Nat) {l : List Ins} (hl : l ≠ []) (h : allLand l = true) : allLand (nopsL n l) = true ∧ endsE (nopsL n l) = endsE l := by
  have hne : ∀ n, nopsL n l ≠ [] := fun n e => by
    have := nopsL_len n l
    rw [e] at this
    have := List.length_pos_iff.2 hl
    simp at *
    omega
  have key : allLand (nopsL n l) = true ∧ ((nopsL n l).getD ((nopsL n l).length - 1) D0).2.1 = (l.getD (l.length - 1) D0).2.1 := by
    induction n with
    | zero => exact ⟨h, rfl⟩
    | succ n ih =>
      constructor
      · rw [allLand_iff]
        intro x hx to hto
        rcases List.mem_cons.1 hx with rfl | hx
        · cases hto
        · refine sh_lands (m := nopsL (n + 1) l) ih.1 (fun pc hpc => ?_) x hx to hto
          have : nopsL (n + 1) l = [(0, 0, 0, [], [])] ++ (nopsL n l).map (shI 1) := rfl
          rw [this, isPc_append, isPc_sh, hpc, Bool.or_true]
      · have : nopsL (n + 1) l = [(0, 0, 0, [], [])] ++ (nopsL n l).map (shI 1) := rfl
        rw [this, last_append (hne n), ih.2]
  refine ⟨key.1, ?_⟩
  rw [endsE_eq, endsE_eq, key.1, h, key.2]

theorem decodeI_scan {s : List UInt8} (h : s ≠ []) (hl : s.length ≤ 4096) : decodeI s = if (scanAt s 0).2 ≠ 0 then ([], (scanAt s 0).2) else if endsE (scanAt s 0).1 ≠ 0 then ([], endsE (scanAt s 0).1) else ((scanAt s 0).1, 0) := by
  unfold decodeI
  rw [if_neg h, if_neg (by omega)]
  unfold scanAt
  rw [Nat.sub_zero]

theorem decodeI_moves {s : List UInt8} {n : Nat} (hs : s ≠ []) (hl : s.length + n ≤ 4096) (h12 : (decodeI s).2 ≠ 12) :
    decodeI (List.replicate n 0 ++ s) = (if (decodeI s).2 = 0 then nopsL n (decodeI s).1 else [], (decodeI s).2) := by
  have hd := decodeI_scan hs (by omega)
  have hd' := decodeI_scan (s := List.replicate n 0 ++ s) (by simp [hs]) (by simp; omega)
  rw [nops_scan] at hd'
  by_cases hz : (scanAt s 0).2 = 0
  · simp only [hz, ne_eq, not_true_eq_false, if_false, if_true] at hd hd'
    have hne : (scanAt s 0).1 ≠ [] := by
      have h1 : scanAt s 0 = ((scanAt s 0).1, 0) := by rw [← hz]
      have hpos : 0 < s.length := List.length_pos_iff.2 hs
      unfold scanAt at h1
      rw [Nat.sub_zero] at h1
      obtain ⟨_, _, _, i4⟩ := scan_ok s (by omega) s.length 0 (by omega) _ h1
      obtain ⟨x, r, hx, _⟩ := i4 hpos
      unfold scanAt
      rw [Nat.sub_zero, hx]; simp
    have hland : allLand (scanAt s 0).1 = true := by
      by_cases ha : allLand (scanAt s 0).1 = true
      · exact ha
      · exfalso
        have he : endsE (scanAt s 0).1 = 12 := by rw [endsE_eq, if_neg ha]
        rw [he] at hd
        rw [hd] at h12
        exact h12 (by simp)
    obtain ⟨_, he⟩ := nopsL_ends n hne hland
    rw [hd', he, hd]
    by_cases hq : endsE (scanAt s 0).1 = 0
    · simp [hq]
    · simp [hq]
  · simp only [hz, ne_eq, not_false_eq_true, if_true, if_false] at hd hd'
    rw [hd', hd]
    simp [hz]

end Go.Proofs.Ytaaedebknacheaa.AB

set_option linter.unusedVariables false
set_option linter.unusedSimpArgs false
set_option maxRecDepth 100000
set_option maxHeartbeats 2000000
namespace Go.Proofs.Ytaaedebknacheaa.AB
open Go
/-! crucible/cruciblelaw4.CodeJoins -/
noncomputable def X6 : Cx := ⟨tt, [(23, [.cd .bool]), (33, [.cd (.slice (.pair (.int .i64) (.pair (.int .i64) (.pair (.int .i64) (.pair (.slice (.int .i64)) (.slice (.int .i64))))))), .cd (.int .i64)]), (34, [.cd .bool])], [], [(6, [(0, mkM 166 0 [0, 5, 6, 8, 10, 12], 0), (2, mkM 166 0 [0, 5, 6, 8, 10, 12, 13, 14, 16], 1)])], []⟩
theorem FN6 : fnsB Try.prog X6.fns := (show True from trivial)
def M6_0 : List Bool × Nat := (mkM 166 0 [0, 5, 6, 8, 10, 12], 0)
def S6_0 (s0 : List UInt8) (head5 : Bool) (a6 : List (Int × (Int × (Int × ((List Int) × (List Int)))))) (b8 : List (Int × (Int × (Int × ((List Int) × (List Int)))))) (c10 : List (Int × (Int × (Int × ((List Int) × (List Int)))))) (i12 : Int) (T : Toks) : St :=
  mkS 166 [(0, (.v (.str s0))), (5, (.v (.bool head5))), (6, (.v (.list (.pair (.int .i64) (.pair (.int .i64) (.pair (.int .i64) (.pair (.slice (.int .i64)) (.slice (.int .i64)))))) a6 .no))), (8, (.v (.list (.pair (.int .i64) (.pair (.int .i64) (.pair (.int .i64) (.pair (.slice (.int .i64)) (.slice (.int .i64)))))) b8 .no))), (10, (.v (.list (.pair (.int .i64) (.pair (.int .i64) (.pair (.int .i64) (.pair (.slice (.int .i64)) (.slice (.int .i64)))))) c10 .no))), (12, (.v (.int .i64 i12)))] [] T
noncomputable def B6_0 : (Exit → St → Prop) → St → Prop := (awp X6.tt (callN Try.prog X6 0) (X6.md 6) 0 (X6.mk1 6) 0 (codeAt [1, 1, 1, 1, 1, 1, 1, 1, 0, 1, 0, 0] (bd Try.f6)))
def M6_2 : List Bool × Nat := (mkM 166 0 [0, 5, 6, 8, 10, 12, 13, 14, 16], 1)
def S6_2 (s0 : List UInt8) (head5 : Bool) (a6 : List (Int × (Int × (Int × ((List Int) × (List Int)))))) (b8 : List (Int × (Int × (Int × ((List Int) × (List Int)))))) (c10 : List (Int × (Int × (Int × ((List Int) × (List Int)))))) (i12 : Int) (off14 : Int) (k16 : Int) (hq0_0 : Int) (hq0_1 : Int) (hq0_2 : Int) (hq0_3 : List Int) (hq0_3k : Tok) (hq0_4 : List Int) (hq0_4k : Tok) (T : Toks) : St :=
  mkS 166 [(0, (.v (.str s0))), (5, (.v (.bool head5))), (6, (.v (.list (.pair (.int .i64) (.pair (.int .i64) (.pair (.int .i64) (.pair (.slice (.int .i64)) (.slice (.int .i64)))))) a6 .no))), (8, (.v (.list (.pair (.int .i64) (.pair (.int .i64) (.pair (.int .i64) (.pair (.slice (.int .i64)) (.slice (.int .i64)))))) b8 .no))), (10, (.v (.list (.pair (.int .i64) (.pair (.int .i64) (.pair (.int .i64) (.pair (.slice (.int .i64)) (.slice (.int .i64)))))) c10 .no))), (12, (.v (.int .i64 i12))), (13, (.ptr 0 0 0 0)), (14, (.v (.int .i64 off14))), (16, (.v (.int .i64 k16)))] [(some (.box (.v (.agg [(.int .i64 hq0_0), (.int .i64 hq0_1), (.int .i64 hq0_2), (.list (.int .i64) hq0_3 hq0_3k), (.list (.int .i64) hq0_4 hq0_4k)]))))] T
noncomputable def B6_2 : (Exit → St → Prop) → St → Prop := (awp X6.tt (callN Try.prog X6 0) (X6.md 6) 0 (X6.mk1 6) 2 (codeAt [1, 1, 1, 1, 1, 1, 1, 1, 0, 1, 0, 0, 1, 0, 0, 1, 1, 1, 1, 1, 1, 0, 0] (bd Try.f6)))
noncomputable def K6_0 (R : V → Prop) : Exit → St → Prop := seqK ((awp X6.tt (callN Try.prog X6 0) (X6.md 6) 0 (X6.mk1 6) 0 (codeAt [1, 1, 1, 1, 1, 1, 1, 1, 1] (bd Try.f6))) (retK tt Try.f6.results.toList fun x s' => topK R x ⟨[], s'.hp, s'.T⟩)) (retK tt Try.f6.results.toList fun x s' => topK R x ⟨[], s'.hp, s'.T⟩)
noncomputable def Q6_0 (R : V → Prop) : Exit → St → Prop := (blockK 0 (K6_0 R))
noncomputable def K6_1 (R : V → Prop) (k0 : St → Prop) : Exit → St → Prop := seqK ((awp X6.tt (callN Try.prog X6 0) (X6.md 6) 0 (X6.mk1 6) 0 (codeAt [1, 1, 1, 1, 1, 1, 1, 1, 0, 1, 0, 0, 1, 1] (bd Try.f6))) (loopQ M6_0 k0 (blockK 0 (K6_0 R)))) (loopQ M6_0 k0 (blockK 0 (K6_0 R)))
noncomputable def Q6_2 (R : V → Prop) (k0 : St → Prop) : Exit → St → Prop := (blockK 2 (blockK 1 (K6_1 R k0)))
theorem E6 (s0 : (List UInt8)) (t1 : (List UInt8)) {R : V → Prop} (h : (∃ p1 : Bool, PC Try.prog 23 [] (.bool p1) ∧ (((!p1) = true → R (.bool false)) ∧
 ((!p1) = false → (∃ p2 : (List (Int × (Int × (Int × ((List Int) × (List Int)))))) × Int, PC Try.prog 33 [(.str s0)] ((.tup [(.list (.pair (.int .i64) (.pair (.int .i64) (.pair (.int .i64) (.pair (.slice (.int .i64)) (.slice (.int .i64)))))) p2.1 .no), (.int .i64 p2.2)])) ∧ (∃ p3 : (List (Int × (Int × (Int × ((List Int) × (List Int)))))) × Int, PC Try.prog 33 [(.str t1)] ((.tup [(.list (.pair (.int .i64) (.pair (.int .i64) (.pair (.int .i64) (.pair (.slice (.int .i64)) (.slice (.int .i64)))))) p3.1 .no), (.int .i64 p3.2)])) ∧ (((p2.2 != (0 : Int)) = true → R (.bool p1)) ∧ ((p2.2 != (0 : Int)) = false → (((p3.2 != (0 : Int)) = true → R (.bool p1)) ∧ ((p3.2 != (0 : Int)) = false → (((decide ((IntKind.wrap .i64 (((s0).length : Int) + ((t1).length : Int))) > (4096 : Int))) = true → R (.bool p1)) ∧
 ((decide ((IntKind.wrap .i64 (((s0).length : Int) + ((t1).length : Int))) > (4096 : Int))) = false → ((((s0).length + (t1).length : Nat) : Int) ≤ IntKind.i64.max ∧ (∃ p4 : (List (Int × (Int × (Int × ((List Int) × (List Int)))))) × Int, PC Try.prog 33 [(.str (s0 ++ t1))] ((.tup [(.list (.pair (.int .i64) (.pair (.int .i64) (.pair (.int .i64) (.pair (.slice (.int .i64)) (.slice (.int .i64)))))) p4.1 .no), (.int .i64 p4.2)])) ∧ (((p4.2 != (0 : Int)) = true → R (.bool false)) ∧ ((p4.2 != (0 : Int)) = false → (((((p4.1).length : Int) != (IntKind.wrap .i64 (((p2.1).length : Int) + ((p3.1).length : Int)))) = true → R (.bool false)) ∧
 ((((p4.1).length : Int) != (IntKind.wrap .i64 (((p2.1).length : Int) + ((p3.1).length : Int)))) = false → (Loops B6_0 M6_0 (Q6_0 R)
  (S6_0 s0 p1 p2.1 p3.1 p4.1 (0 : Int) ⟨0, []⟩)))))))))))))))))))) :
  fnK X6.tt (callN Try.prog X6 0) (X6.md 6) (X6.mk1 6) Try.f6 [(.v (.str s0)), (.v (.str t1))] ⟨[], [], ⟨0, []⟩⟩ (topK R) := Eq.mp (by kernel_rfl) h
theorem L6_0 (s0 : List UInt8) (head5 : Bool) (a6 : List (Int × (Int × (Int × ((List Int) × (List Int)))))) (b8 : List (Int × (Int × (Int × ((List Int) × (List Int)))))) (c10 : List (Int × (Int × (Int × ((List Int) × (List Int)))))) (i12 : Int) (T : Toks) {R : V → Prop} {k0 : St → Prop}
 (h : (((decide (i12 < ((c10).length : Int))) = true → (((decide (i12 < ((a6).length : Int))) = true → (0 ≤ i12 ∧ i12 < ((a6).length : Int) ∧ (0 ≤ i12 ∧ i12 < ((c10).length : Int) ∧ (∃ p5 : Bool, PC Try.prog 34 [(.list (.int .i64) ((c10.getD (i12).toNat (0, (0, (0, ([], []))))).2.2.2.1) .no), (.list (.int .i64) ((a6.getD (i12).toNat (0, (0, (0, ([], []))))).2.2.2.1) .no)] (.bool p5) ∧ (0 ≤ i12 ∧ i12 < ((c10).length : Int) ∧ ((((c10.getD (i12).toNat (0, (0, (0, ([], []))))).2.1 != (a6.getD (i12).toNat (0, (0, (0, ([], []))))).2.1) = true → R (.bool false)) ∧ (((c10.getD (i12).toNat (0, (0, (0, ([], []))))).2.1 != (a6.getD (i12).toNat (0, (0, (0, ([], []))))).2.1) = false → (0 ≤ i12 ∧ i12 < ((c10).length : Int) ∧ ((((c10.getD (i12).toNat (0, (0, (0, ([], []))))).2.2.1 != (a6.getD (i12).toNat (0, (0, (0, ([], []))))).2.2.1) = true → R (.bool false)) ∧ (((c10.getD (i12).toNat (0, (0, (0, ([], []))))).2.2.1 != (a6.getD (i12).toNat (0, (0, (0, ([], []))))).2.2.1) = false → (0 ≤ i12 ∧ i12 < ((c10).length : Int) ∧ ((((c10.getD (i12).toNat (0, (0, (0, ([], []))))).1 != (IntKind.wrap .i64 ((a6.getD (i12).toNat (0, (0, (0, ([], []))))).1 + (0 : Int)))) = true → R (.bool false)) ∧ (((c10.getD (i12).toNat (0, (0, (0, ([], []))))).1 != (IntKind.wrap .i64 ((a6.getD (i12).toNat (0, (0, (0, ([], []))))).1 + (0 : Int)))) = false → (((!p5) = true → R (.bool false)) ∧ ((!p5) = false → (0 ≤ i12 ∧ i12 < ((c10).length : Int) ∧ ((((((c10.getD (i12).toNat (0, (0, (0, ([], []))))).2.2.2.2).length : Int) != (((a6.getD (i12).toNat (0, (0, (0, ([], []))))).2.2.2.2).length : Int)) = true → R (.bool false)) ∧
 (((((c10.getD (i12).toNat (0, (0, (0, ([], []))))).2.2.2.2).length : Int) != (((a6.getD (i12).toNat (0, (0, (0, ([], []))))).2.2.2.2).length : Int)) = false → (Loops B6_2 M6_2 (Q6_2 R k0)
  (S6_2 s0 head5 a6 b8 c10 i12 (0 : Int) (0 : Int) ((a6.getD (i12).toNat (0, (0, (0, ([], []))))).1) ((a6.getD (i12).toNat (0, (0, (0, ([], []))))).2.1) ((a6.getD (i12).toNat (0, (0, (0, ([], []))))).2.2.1) ((a6.getD (i12).toNat (0, (0, (0, ([], []))))).2.2.2.1) .no ((a6.getD (i12).toNat (0, (0, (0, ([], []))))).2.2.2.2) .no T)))))))))))))))))))) ∧
 ((decide (i12 < ((a6).length : Int))) = false → (0 ≤ (IntKind.wrap .i64 (i12 - ((a6).length : Int))) ∧ (IntKind.wrap .i64 (i12 - ((a6).length : Int))) < ((b8).length : Int) ∧ (0 ≤ i12 ∧ i12 < ((c10).length : Int) ∧ (∃ p6 : Bool, PC Try.prog 34 [(.list (.int .i64) ((c10.getD (i12).toNat (0, (0, (0, ([], []))))).2.2.2.1) .no), (.list (.int .i64) ((b8.getD ((IntKind.wrap .i64 (i12 - ((a6).length : Int)))).toNat (0, (0, (0, ([], []))))).2.2.2.1) .no)] (.bool p6) ∧ (0 ≤ i12 ∧ i12 < ((c10).length : Int) ∧ ((((c10.getD (i12).toNat (0, (0, (0, ([], []))))).2.1 != (b8.getD ((IntKind.wrap .i64 (i12 - ((a6).length : Int)))).toNat (0, (0, (0, ([], []))))).2.1) = true → R (.bool false)) ∧ (((c10.getD (i12).toNat (0, (0, (0, ([], []))))).2.1 != (b8.getD ((IntKind.wrap .i64 (i12 - ((a6).length : Int)))).toNat (0, (0, (0, ([], []))))).2.1) = false → (0 ≤ i12 ∧ i12 < ((c10).length : Int) ∧ ((((c10.getD (i12).toNat (0, (0, (0, ([], []))))).2.2.1 != (b8.getD ((IntKind.wrap .i64 (i12 - ((a6).length : Int)))).toNat (0, (0, (0, ([], []))))).2.2.1) = true → R (.bool false)) ∧ (((c10.getD (i12).toNat (0, (0, (0, ([], []))))).2.2.1 != (b8.getD ((IntKind.wrap .i64 (i12 - ((a6).length : Int)))).toNat (0, (0, (0, ([], []))))).2.2.1) = false → (0 ≤ i12 ∧ i12 < ((c10).length : Int) ∧ ((((c10.getD (i12).toNat (0, (0, (0, ([], []))))).1 != (IntKind.wrap .i64 ((b8.getD ((IntKind.wrap .i64 (i12 - ((a6).length : Int)))).toNat (0, (0, (0, ([], []))))).1 + ((s0).length : Int)))) = true → R (.bool false)) ∧ (((c10.getD (i12).toNat (0, (0, (0, ([], []))))).1 != (IntKind.wrap .i64 ((b8.getD ((IntKind.wrap .i64 (i12 - ((a6).length : Int)))).toNat (0, (0, (0, ([], []))))).1 + ((s0).length : Int)))) = false → (((!p6) = true → R (.bool false)) ∧ ((!p6) = false → (0 ≤ i12 ∧ i12 < ((c10).length : Int) ∧ ((((((c10.getD (i12).toNat (0, (0, (0, ([], []))))).2.2.2.2).length : Int) != (((b8.getD ((IntKind.wrap .i64 (i12 - ((a6).length : Int)))).toNat (0, (0, (0, ([], []))))).2.2.2.2).length : Int)) = true → R (.bool false)) ∧
 (((((c10.getD (i12).toNat (0, (0, (0, ([], []))))).2.2.2.2).length : Int) != (((b8.getD ((IntKind.wrap .i64 (i12 - ((a6).length : Int)))).toNat (0, (0, (0, ([], []))))).2.2.2.2).length : Int)) = false → (Loops B6_2 M6_2 (Q6_2 R k0)
  (S6_2 s0 head5 a6 b8 c10 i12 (((s0).length : Int)) (0 : Int) ((b8.getD ((IntKind.wrap .i64 (i12 - ((a6).length : Int)))).toNat (0, (0, (0, ([], []))))).1) ((b8.getD ((IntKind.wrap .i64 (i12 - ((a6).length : Int)))).toNat (0, (0, (0, ([], []))))).2.1) ((b8.getD ((IntKind.wrap .i64 (i12 - ((a6).length : Int)))).toNat (0, (0, (0, ([], []))))).2.2.1) ((b8.getD ((IntKind.wrap .i64 (i12 - ((a6).length : Int)))).toNat (0, (0, (0, ([], []))))).2.2.2.1) .no ((b8.getD ((IntKind.wrap .i64 (i12 - ((a6).length : Int)))).toNat (0, (0, (0, ([], []))))).2.2.2.2) .no T)))))))))))))))))))))) ∧
 ((decide (i12 < ((c10).length : Int))) = false → R (.bool head5)))) :
  B6_0 (loopQ M6_0 k0 (Q6_0 R)) (S6_0 s0 head5 a6 b8 c10 i12 T) := Eq.mp (by kernel_rfl) h
theorem L6_2 (s0 : List UInt8) (head5 : Bool) (a6 : List (Int × (Int × (Int × ((List Int) × (List Int)))))) (b8 : List (Int × (Int × (Int × ((List Int) × (List Int)))))) (c10 : List (Int × (Int × (Int × ((List Int) × (List Int)))))) (i12 : Int) (off14 : Int) (k16 : Int) (hq0_0 : Int) (hq0_1 : Int) (hq0_2 : Int) (hq0_3 : List Int) (hq0_3k : Tok) (hq0_4 : List Int) (hq0_4k : Tok) (T : Toks) {R : V → Prop} {k0 : St → Prop} {k2 : St → Prop}
 (h : (((decide (k16 < ((hq0_4).length : Int))) = true → (0 ≤ i12 ∧ i12 < ((c10).length : Int) ∧ (0 ≤ k16 ∧ k16 < (((c10.getD (i12).toNat (0, (0, (0, ([], []))))).2.2.2.2).length : Int) ∧ (0 ≤ k16 ∧ k16 < ((hq0_4).length : Int) ∧ ((((((c10.getD (i12).toNat (0, (0, (0, ([], []))))).2.2.2.2).getD (k16).toNat 0) != (IntKind.wrap .i64 ((hq0_4.getD (k16).toNat 0) + off14))) = true → R (.bool false)) ∧
 (((((c10.getD (i12).toNat (0, (0, (0, ([], []))))).2.2.2.2).getD (k16).toNat 0) != (IntKind.wrap .i64 ((hq0_4.getD (k16).toNat 0) + off14))) = false → k2 (S6_2 s0 head5 a6 b8 c10 i12 off14 ((IntKind.wrap .i64 (k16 + (1 : Int)))) hq0_0 hq0_1 hq0_2 hq0_3 hq0_3k hq0_4 hq0_4k T))))))) ∧
 ((decide (k16 < ((hq0_4).length : Int))) = false → k0 (S6_0 s0 head5 a6 b8 c10 ((IntKind.wrap .i64 (i12 + (1 : Int)))) T)))) :
  B6_2 (loopQ M6_2 k2 (Q6_2 R k0)) (S6_2 s0 head5 a6 b8 c10 i12 off14 k16 hq0_0 hq0_1 hq0_2 hq0_3 hq0_3k hq0_4 hq0_4k T) := Eq.mp (by kernel_rfl) h
end Go.Proofs.Ytaaedebknacheaa.AB

set_option linter.unusedVariables false
set_option linter.unusedSimpArgs false
set_option maxHeartbeats 1000000
namespace Go.Proofs.Ytaaedebknacheaa.AB
open Go Go.RowKit

theorem Code4.to_bnd {s : List UInt8} {l : List Ins} (h : Code4 s l) {x : Ins} (hx : x ∈ l) {to : Int} (hto : to ∈ x.2.2.2.2) : 0 ≤ to ∧ to < s.length := by
  have := h.lands x hx to hto
  unfold isPc at this
  rw [List.any_eq_true] at this
  obtain ⟨y, hy, e⟩ := this
  have e : y.1 = to := by simpa using e
  rw [← e]
  exact h.pos y hy

theorem p6 (s t : List UInt8) : PC Try.prog 6 [.str s, .str t] (.bool true) := by
  have hmax : IntKind.i64.max = 9223372036854775807 := rfl
  refine pcOf (X := X6) (d := 0) rfl trivial (by kernel_rfl) (by decide) (E6 s t ⟨_, p23, fun h => absurd h (by simp), fun _ => ⟨_, p33 s, _, p33 t, fun _ => retB rfl, fun ha => ⟨fun _ => retB rfl, fun hb => ⟨fun _ => retB rfl, fun hlen => ?_⟩⟩⟩⟩)
  have ha : (decodeI s).2 = 0 := by simpa using ha
  have hb : (decodeI t).2 = 0 := by simpa using hb
  have da : decodeI s = ((decodeI s).1, 0) := by rw [← ha]
  have db : decodeI t = ((decodeI t).1, 0) := by rw [← hb]
  have ca := decodeI_ok da
  have cb := decodeI_ok db
  have a1 := ca.size
  have b1 := cb.size
  have a2 := ca.len
  have b2 := cb.len
  have hlen : s.length + t.length ≤ 4096 := by
    rw [wrap64 (by omega) (by omega)] at hlen
    have : ¬ ((s.length : Int) + t.length > 4096) := by simpa using hlen
    omega
  have hj := decodeI_joins da db hlen
  refine ⟨by omega, _, p33 (s ++ t), ?_⟩
  rw [hj]
  generalize (decodeI s).1 = a at *
  generalize (decodeI t).1 = b at *
  have hcl : (a ++ b.map (shI s.length)).length = a.length + b.length := by simp
  refine ⟨fun h => absurd h (by simp), fun _ => ⟨fun h => ?_, fun _ => ?_⟩⟩
  · rw [wrap64 (by omega) (by omega)] at h
    exfalso
    simp only [hcl] at h
    simp at h
  have hgl : ∀ n, n < a.length → (a ++ b.map (shI s.length)).getD n D0 = a.getD n D0 := fun n hn => by
    rw [getD_lt (by simp; omega), getD_lt hn, List.getElem_append_left hn]
  have hgr : ∀ n, a.length ≤ n → n < a.length + b.length → (a ++ b.map (shI s.length)).getD n D0 = shI s.length (b.getD (n - a.length) D0) := fun n h1 h2 => by
    rw [getD_lt (by simp; omega), getD_lt (by omega), List.getElem_append_right h1, List.getElem_map]
  generalize a ++ b.map (shI s.length) = c at *
  simp only
  refine Loops.intro (fun n : Nat => S6_0 s true a b c n ⟨0, []⟩) (fun n => n ≤ c.length) (fun n => c.length - n) 0 rfl (Nat.zero_le _) ?_
  intro n hn
  have hn : n ≤ c.length := hn
  have hD : ((0, (0, (0, ([], [])))) : Ins) = D0 := rfl
  have wn : IntKind.wrap .i64 ((n : Int) + 1) = ((n + 1 : Nat) : Int) := by rw [wrap64 (by omega) (by omega)]; omega
  refine L6_0 s true a b c n ⟨0, []⟩ ?_
  simp only [hD, Int.toNat_natCast, decide_eq_true_eq, decide_eq_false_iff_not]
  refine ⟨fun hlt => ?_, fun _ => retB rfl⟩
  have hlt : n < c.length := by omega
  have tail : ∀ (x : Ins) (d : Int), (c.getD n D0).2.2.2.2 = x.2.2.2.2.map (· + d) → (∀ to ∈ x.2.2.2.2, 0 ≤ to ∧ to < 5000) → x.2.2.2.2.length ≤ 65536 → 0 ≤ d → d ≤ 5000 →
      Loops B6_2 M6_2 (Q6_2 (fun v => v.norm = V.bool true ∧ (V.bool true).nt = true) (Again (fun n : Nat => S6_0 s true a b c n ⟨0, []⟩) (fun n => n ≤ c.length) (fun n => c.length - n) (c.length - n)))
        (S6_2 s true a b c n d 0 x.1 x.2.1 x.2.2.1 x.2.2.2.1 .no x.2.2.2.2 .no ⟨0, []⟩) := by
    intro x d h1 h2 h3 h4 h5
    refine Loops.intro (fun k : Nat => S6_2 s true a b c n d k x.1 x.2.1 x.2.2.1 x.2.2.2.1 .no x.2.2.2.2 .no ⟨0, []⟩) (fun k => k ≤ x.2.2.2.2.length) (fun k => x.2.2.2.2.length - k) 0 rfl (Nat.zero_le _) ?_
    intro k hk
    have hk : k ≤ x.2.2.2.2.length := hk
    refine L6_2 s true a b c n d k x.1 x.2.1 x.2.2.1 x.2.2.2.1 .no x.2.2.2.2 .no ⟨0, []⟩ ?_
    simp only [hD, Int.toNat_natCast, decide_eq_true_eq, decide_eq_false_iff_not, h1, List.length_map]
    refine ⟨fun hkl => ?_, fun _ => ?_⟩
    · have hkl : k < x.2.2.2.2.length := by omega
      have hto := h2 (x.2.2.2.2.getD k 0) (by rw [getD_lt hkl]; exact List.getElem_mem hkl)
      rw [getD_map (· + d) (d := 0) hkl, wrap64 (x := _ + d) (by omega) (by omega), wrap64 (by omega) (by omega)]
      refine ⟨by omega, by omega, by omega, by omega, by omega, by omega, fun h => absurd h (by simp), fun _ => Again.mk (k + 1) rfl (by omega) (by omega)⟩
    · rw [wn]
      exact Again.mk (n + 1) rfl (by omega) (by omega)
  refine ⟨fun hna => ?_, fun hna => ?_⟩
  · have hna : n < a.length := by omega
    have hm : a.getD n D0 ∈ a := by rw [getD_lt hna]; exact List.getElem_mem hna
    have hk := ca.keys _ hm
    have ht := ca.tos _ hm
    have hp := ca.pos _ hm
    have q := p34 (a.getD n D0).2.2.2.1 (a.getD n D0).2.2.2.1 (by omega)
    rw [decide_eq_true rfl] at q
    have tl := tail (a.getD n D0) 0 (by rw [hgl n hna]; simp) (fun to hto => by have := ca.to_bnd hm hto; omega) ht (by omega) (by omega)
    rw [hgl n hna, wrap64 (x := _ + 0) (by omega) (by omega), Int.add_zero]
    simp only [bne_self_eq_false, Bool.false_eq_true, Bool.true_eq_false, false_implies, forall_const, true_and, and_true, Bool.not_true]
    exact ⟨by omega, by omega, by omega, by omega, _, q, by omega, by omega, by omega, by omega, by omega, by omega, fun h => absurd h (by simp), fun _ => ⟨by omega, by omega, tl⟩⟩
  · have hna : a.length ≤ n := by omega
    have hi : n - a.length < b.length := by omega
    have hm : b.getD (n - a.length) D0 ∈ b := by rw [getD_lt hi]; exact List.getElem_mem hi
    have hk := cb.keys _ hm
    have ht := cb.tos _ hm
    have hp := cb.pos _ hm
    have q := p34 (b.getD (n - a.length) D0).2.2.2.1 (b.getD (n - a.length) D0).2.2.2.1 (by omega)
    rw [decide_eq_true rfl] at q
    have hg := hgr n hna (by omega)
    have tl := tail (b.getD (n - a.length) D0) s.length (by rw [hg]; rfl) (fun to hto => by have := cb.to_bnd hm hto; omega) ht (by omega) (by omega)
    have wi : IntKind.wrap .i64 ((n : Int) - a.length) = ((n - a.length : Nat) : Int) := by rw [wrap64 (by omega) (by omega)]; omega
    rw [wi, Int.toNat_natCast, hg, wrap64 (x := _ + _) (by omega) (by omega)]
    simp only [shI, List.length_map, bne_self_eq_false, Bool.false_eq_true, Bool.true_eq_false, false_implies, forall_const, true_and, and_true, Bool.not_true]
    exact ⟨by omega, by omega, by omega, by omega, _, q, by omega, by omega, by omega, by omega, by omega, by omega, fun h => absurd h (by simp), fun _ => ⟨by omega, by omega, tl⟩⟩

theorem law_CodeJoins (s t : List UInt8) (f0 : Cd.wf .str s) (f1 : Cd.wf .str t) : PC Try.prog 6 [Cd.enc .str s, Cd.enc .str t] (.bool true) := p6 s t

end Go.Proofs.Ytaaedebknacheaa.AB

set_option linter.unusedVariables false
set_option linter.unusedSimpArgs false
set_option maxRecDepth 100000
set_option maxHeartbeats 2000000
namespace Go.Proofs.Ytaaedebknacheaa.AB
open Go
/-! crucible/cruciblelaw4.CodeMoves -/
noncomputable def X5 : Cx := ⟨tt, [(23, [.cd .bool]), (32, [.cd (.int .i64)]), (33, [.cd (.slice (.pair (.int .i64) (.pair (.int .i64) (.pair (.int .i64) (.pair (.slice (.int .i64)) (.slice (.int .i64))))))), .cd (.int .i64)])], [(5, [(8, 1, .lend)])], [(5, [(0, mkM 146 0 [5, 6, 7, 10, 12], 0), (2, mkM 146 0 [5, 6, 7, 10, 12, 13, 14], 1)])], []⟩
theorem FN5 : fnsB Try.prog X5.fns := (show True from trivial)
def M5_0 : List Bool × Nat := (mkM 146 0 [5, 6, 7, 10, 12], 0)
def S5_0 (head5 : Bool) (n6 : Int) (l7 : List (Int × (Int × (Int × ((List Int) × (List Int)))))) (m10 : List (Int × (Int × (Int × ((List Int) × (List Int)))))) (i12 : Int) (T : Toks) : St :=
  mkS 146 [(5, (.v (.bool head5))), (6, (.v (.int .i64 n6))), (7, (.v (.list (.pair (.int .i64) (.pair (.int .i64) (.pair (.int .i64) (.pair (.slice (.int .i64)) (.slice (.int .i64)))))) l7 .no))), (10, (.v (.list (.pair (.int .i64) (.pair (.int .i64) (.pair (.int .i64) (.pair (.slice (.int .i64)) (.slice (.int .i64)))))) m10 .no))), (12, (.v (.int .i64 i12)))] [] T
noncomputable def B5_0 : (Exit → St → Prop) → St → Prop := (awp X5.tt (callN Try.prog X5 0) (X5.md 5) 0 (X5.mk1 5) 0 (codeAt [1, 1, 1, 1, 1, 1, 1, 1, 1, 1, 0, 1, 0, 0] (bd Try.f5)))
def M5_2 : List Bool × Nat := (mkM 146 0 [5, 6, 7, 10, 12, 13, 14], 1)
def S5_2 (head5 : Bool) (n6 : Int) (l7 : List (Int × (Int × (Int × ((List Int) × (List Int)))))) (m10 : List (Int × (Int × (Int × ((List Int) × (List Int)))))) (i12 : Int) (k14 : Int) (hq0_0 : Int) (hq0_1 : Int) (hq0_2 : Int) (hq0_3 : List Int) (hq0_3k : Tok) (hq0_4 : List Int) (hq0_4k : Tok) (T : Toks) : St :=
  mkS 146 [(5, (.v (.bool head5))), (6, (.v (.int .i64 n6))), (7, (.v (.list (.pair (.int .i64) (.pair (.int .i64) (.pair (.int .i64) (.pair (.slice (.int .i64)) (.slice (.int .i64)))))) l7 .no))), (10, (.v (.list (.pair (.int .i64) (.pair (.int .i64) (.pair (.int .i64) (.pair (.slice (.int .i64)) (.slice (.int .i64)))))) m10 .no))), (12, (.v (.int .i64 i12))), (13, (.ptr 0 0 0 0)), (14, (.v (.int .i64 k14)))] [(some (.box (.v (.agg [(.int .i64 hq0_0), (.int .i64 hq0_1), (.int .i64 hq0_2), (.list (.int .i64) hq0_3 hq0_3k), (.list (.int .i64) hq0_4 hq0_4k)]))))] T
noncomputable def B5_2 : (Exit → St → Prop) → St → Prop := (awp X5.tt (callN Try.prog X5 0) (X5.md 5) 0 (X5.mk1 5) 2 (codeAt [1, 1, 1, 1, 1, 1, 1, 1, 1, 1, 0, 1, 0, 0, 1, 0, 0, 1, 1, 1, 0, 0] (bd Try.f5)))
noncomputable def K5_0 (R : V → Prop) : Exit → St → Prop := seqK ((awp X5.tt (callN Try.prog X5 0) (X5.md 5) 0 (X5.mk1 5) 0 (codeAt [1, 1, 1, 1, 1, 1, 1, 1, 1, 1, 1] (bd Try.f5))) (retK tt Try.f5.results.toList fun x s' => topK R x ⟨[], s'.hp, s'.T⟩)) (retK tt Try.f5.results.toList fun x s' => topK R x ⟨[], s'.hp, s'.T⟩)
noncomputable def Q5_0 (R : V → Prop) : Exit → St → Prop := (blockK 0 (K5_0 R))
noncomputable def K5_1 (R : V → Prop) (k0 : St → Prop) : Exit → St → Prop := seqK ((awp X5.tt (callN Try.prog X5 0) (X5.md 5) 0 (X5.mk1 5) 0 (codeAt [1, 1, 1, 1, 1, 1, 1, 1, 1, 1, 0, 1, 0, 0, 1, 1] (bd Try.f5))) (loopQ M5_0 k0 (blockK 0 (K5_0 R)))) (loopQ M5_0 k0 (blockK 0 (K5_0 R)))
noncomputable def Q5_2 (R : V → Prop) (k0 : St → Prop) : Exit → St → Prop := (blockK 2 (blockK 1 (K5_1 R k0)))
theorem E5 (s0 : (List UInt8)) (many1 : Int) {R : V → Prop} (h : (∃ p1 : Bool, PC Try.prog 23 [] (.bool p1) ∧ (((!p1) = true → R (.bool false)) ∧
 ((!p1) = false → (∃ p2 : Int, PC Try.prog 32 [(.int .i64 many1), (.int .i64 (50 : Int))] (.int .i64 p2) ∧ (((decide ((IntKind.wrap .i64 (((s0).length : Int) + p2)) > (4096 : Int))) = true → R (.bool p1)) ∧
 ((decide ((IntKind.wrap .i64 (((s0).length : Int) + p2)) > (4096 : Int))) = false → (∃ p3 : (List (Int × (Int × (Int × ((List Int) × (List Int)))))) × Int, PC Try.prog 33 [(.str s0)] ((.tup [(.list (.pair (.int .i64) (.pair (.int .i64) (.pair (.int .i64) (.pair (.slice (.int .i64)) (.slice (.int .i64)))))) p3.1 .no), (.int .i64 p3.2)])) ∧ (0 ≤ p2 ∧ p2 ≤ p2 ∧ p2 * (1 : Int) ≤ (room : Int) ∧ p2 ≤ 9223372036854775807 ∧ (((((ofBytes ((List.replicate (p2).toNat (0 : Int))))).length + (s0).length : Nat) : Int) ≤ IntKind.i64.max ∧ (∃ p4 : (List (Int × (Int × (Int × ((List Int) × (List Int)))))) × Int, PC Try.prog 33 [(.str (((ofBytes ((List.replicate (p2).toNat (0 : Int)))) ++ s0)))] ((.tup [(.list (.pair (.int .i64) (.pair (.int .i64) (.pair (.int .i64) (.pair (.slice (.int .i64)) (.slice (.int .i64)))))) p4.1 .no), (.int .i64 p4.2)])) ∧ (((p3.2 != (0 : Int)) = true → ((p1 = true → (((s0 == ([] : List UInt8)) = true → R (.bool true)) ∧ ((s0 == ([] : List UInt8)) = false → (((p3.2 == (12 : Int)) = true → R (.bool true)) ∧ ((p3.2 == (12 : Int)) = false → R (.bool (p4.2 == p3.2))))))) ∧ (p1 = false → R (.bool false)))) ∧
 ((p3.2 != (0 : Int)) = false → (((p4.2 != (0 : Int)) = true → R (.bool false)) ∧ ((p4.2 != (0 : Int)) = false → (((((p4.1).length : Int) != (IntKind.wrap .i64 (((p3.1).length : Int) + p2))) = true → R (.bool false)) ∧
 ((((p4.1).length : Int) != (IntKind.wrap .i64 (((p3.1).length : Int) + p2))) = false → (Loops B5_0 M5_0 (Q5_0 R)
  (S5_0 p1 p2 p3.1 p4.1 (0 : Int) ⟨0, []⟩))))))))))))))))))) :
  fnK X5.tt (callN Try.prog X5 0) (X5.md 5) (X5.mk1 5) Try.f5 [(.v (.str s0)), (.v (.int .i64 many1))] ⟨[], [], ⟨0, []⟩⟩ (topK R) := Eq.mp (by kernel_rfl) h
theorem L5_0 (head5 : Bool) (n6 : Int) (l7 : List (Int × (Int × (Int × ((List Int) × (List Int)))))) (m10 : List (Int × (Int × (Int × ((List Int) × (List Int)))))) (i12 : Int) (T : Toks) {R : V → Prop} {k0 : St → Prop}
 (h : (((decide (i12 < ((l7).length : Int))) = true → (0 ≤ (IntKind.wrap .i64 (i12 + n6)) ∧ (IntKind.wrap .i64 (i12 + n6)) < ((m10).length : Int) ∧ (0 ≤ i12 ∧ i12 < ((l7).length : Int) ∧ ((((m10.getD ((IntKind.wrap .i64 (i12 + n6))).toNat (0, (0, (0, ([], []))))).2.1 != (l7.getD (i12).toNat (0, (0, (0, ([], []))))).2.1) = true → R (.bool false)) ∧ (((m10.getD ((IntKind.wrap .i64 (i12 + n6))).toNat (0, (0, (0, ([], []))))).2.1 != (l7.getD (i12).toNat (0, (0, (0, ([], []))))).2.1) = false → (0 ≤ i12 ∧ i12 < ((l7).length : Int) ∧ ((((m10.getD ((IntKind.wrap .i64 (i12 + n6))).toNat (0, (0, (0, ([], []))))).2.2.1 != (l7.getD (i12).toNat (0, (0, (0, ([], []))))).2.2.1) = true → R (.bool false)) ∧ (((m10.getD ((IntKind.wrap .i64 (i12 + n6))).toNat (0, (0, (0, ([], []))))).2.2.1 != (l7.getD (i12).toNat (0, (0, (0, ([], []))))).2.2.1) = false → (0 ≤ i12 ∧ i12 < ((l7).length : Int) ∧ ((((m10.getD ((IntKind.wrap .i64 (i12 + n6))).toNat (0, (0, (0, ([], []))))).1 != (IntKind.wrap .i64 ((l7.getD (i12).toNat (0, (0, (0, ([], []))))).1 + n6))) = true → R (.bool false)) ∧ (((m10.getD ((IntKind.wrap .i64 (i12 + n6))).toNat (0, (0, (0, ([], []))))).1 != (IntKind.wrap .i64 ((l7.getD (i12).toNat (0, (0, (0, ([], []))))).1 + n6))) = false → (0 ≤ i12 ∧ i12 < ((l7).length : Int) ∧ ((((((m10.getD ((IntKind.wrap .i64 (i12 + n6))).toNat (0, (0, (0, ([], []))))).2.2.2.2).length : Int) != (((l7.getD (i12).toNat (0, (0, (0, ([], []))))).2.2.2.2).length : Int)) = true → R (.bool false)) ∧
 (((((m10.getD ((IntKind.wrap .i64 (i12 + n6))).toNat (0, (0, (0, ([], []))))).2.2.2.2).length : Int) != (((l7.getD (i12).toNat (0, (0, (0, ([], []))))).2.2.2.2).length : Int)) = false → (Loops B5_2 M5_2 (Q5_2 R k0)
  (S5_2 head5 n6 l7 m10 i12 (0 : Int) ((m10.getD ((IntKind.wrap .i64 (i12 + n6))).toNat (0, (0, (0, ([], []))))).1) ((m10.getD ((IntKind.wrap .i64 (i12 + n6))).toNat (0, (0, (0, ([], []))))).2.1) ((m10.getD ((IntKind.wrap .i64 (i12 + n6))).toNat (0, (0, (0, ([], []))))).2.2.1) ((m10.getD ((IntKind.wrap .i64 (i12 + n6))).toNat (0, (0, (0, ([], []))))).2.2.2.1) .no ((m10.getD ((IntKind.wrap .i64 (i12 + n6))).toNat (0, (0, (0, ([], []))))).2.2.2.2) .no T)))))))))))))))) ∧
 ((decide (i12 < ((l7).length : Int))) = false → R (.bool head5)))) :
  B5_0 (loopQ M5_0 k0 (Q5_0 R)) (S5_0 head5 n6 l7 m10 i12 T) := Eq.mp (by kernel_rfl) h
theorem L5_2 (head5 : Bool) (n6 : Int) (l7 : List (Int × (Int × (Int × ((List Int) × (List Int)))))) (m10 : List (Int × (Int × (Int × ((List Int) × (List Int)))))) (i12 : Int) (k14 : Int) (hq0_0 : Int) (hq0_1 : Int) (hq0_2 : Int) (hq0_3 : List Int) (hq0_3k : Tok) (hq0_4 : List Int) (hq0_4k : Tok) (T : Toks) {R : V → Prop} {k0 : St → Prop} {k2 : St → Prop}
 (h : (((decide (k14 < ((hq0_4).length : Int))) = true → (0 ≤ k14 ∧ k14 < ((hq0_4).length : Int) ∧ (0 ≤ i12 ∧ i12 < ((l7).length : Int) ∧ (0 ≤ k14 ∧ k14 < (((l7.getD (i12).toNat (0, (0, (0, ([], []))))).2.2.2.2).length : Int) ∧ ((((hq0_4.getD (k14).toNat 0) != (IntKind.wrap .i64 ((((l7.getD (i12).toNat (0, (0, (0, ([], []))))).2.2.2.2).getD (k14).toNat 0) + n6))) = true → R (.bool false)) ∧
 (((hq0_4.getD (k14).toNat 0) != (IntKind.wrap .i64 ((((l7.getD (i12).toNat (0, (0, (0, ([], []))))).2.2.2.2).getD (k14).toNat 0) + n6))) = false → k2 (S5_2 head5 n6 l7 m10 i12 ((IntKind.wrap .i64 (k14 + (1 : Int)))) hq0_0 hq0_1 hq0_2 hq0_3 hq0_3k hq0_4 hq0_4k T))))))) ∧
 ((decide (k14 < ((hq0_4).length : Int))) = false → k0 (S5_0 head5 n6 l7 m10 ((IntKind.wrap .i64 (i12 + (1 : Int)))) T)))) :
  B5_2 (loopQ M5_2 k2 (Q5_2 R k0)) (S5_2 head5 n6 l7 m10 i12 k14 hq0_0 hq0_1 hq0_2 hq0_3 hq0_3k hq0_4 hq0_4k T) := Eq.mp (by kernel_rfl) h
end Go.Proofs.Ytaaedebknacheaa.AB

set_option linter.unusedVariables false
set_option linter.unusedSimpArgs false
set_option maxHeartbeats 1000000
namespace Go.Proofs.Ytaaedebknacheaa.AB
open Go Go.RowKit

theorem nops_bytes (k : Nat) : ofBytes (List.replicate ((k : Int)).toNat 0) = List.replicate k 0 := by
  unfold ofBytes
  rw [List.map_replicate, Int.toNat_natCast]
  rfl

theorem p5 (s : List UInt8) (many : Int) (hm1 : -9223372036854775808 ≤ many) (hm2 : many ≤ 9223372036854775807) (hs : s.length ≤ 140737488351232) : PC Try.prog 5 [.str s, .int .i64 many] (.bool true) := by
  have hmax : IntKind.i64.max = 9223372036854775807 := rfl
  have hroom : room = 140737488355328 := rfl
  obtain ⟨z, hz1, hz2, hz⟩ := p32 many 50 hm1 hm2 (by omega)
  refine pcOf (X := X5) (d := 0) rfl trivial (by kernel_rfl) (by decide) (E5 s many ⟨_, p23, fun h => absurd h (by simp), fun _ => ⟨_, hz, fun _ => retB rfl, fun hlen => ?_⟩⟩)
  obtain ⟨k, rfl⟩ : ∃ k : Nat, z = k := ⟨z.toNat, by omega⟩
  have hlen : s.length + k ≤ 4096 := by
    rw [wrap64 (by omega) (by omega)] at hlen
    have hlen : ¬ ((s.length : Int) + k > 4096) := by simpa using hlen
    omega
  rw [nops_bytes]
  have hrl : (List.replicate k (0 : UInt8)).length = k := by simp
  refine ⟨_, p33 s, by omega, by omega, by omega, by omega, by omega, _, p33 _, fun he => ⟨fun _ => ⟨fun _ => retB rfl, fun hn => ⟨fun _ => retB rfl, fun h12 => ?_⟩⟩, fun h => absurd h (by simp)⟩, fun he => ?_⟩
  · have hn : s ≠ [] := by simpa using hn
    have h12 : (decodeI s).2 ≠ 12 := by simpa using h12
    rw [decodeI_moves hn hlen h12]
    exact retB (by simp)
  have he : (decodeI s).2 = 0 := by simpa using he
  have hd : decodeI s = ((decodeI s).1, 0) := by rw [← he]
  have hc := decodeI_ok hd
  have hn : s ≠ [] := fun e => by subst e; obtain ⟨x, r, e, _⟩ := hc.first; have := hc.len; rw [e] at this; simp at this
  have hmv := decodeI_moves hn hlen (by rw [he]; decide)
  rw [he, if_pos rfl] at hmv
  rw [hmv]
  generalize (decodeI s).1 = l at *
  have h1 := hc.size
  have h2 := hc.len
  have hcl := nopsL_len k l
  refine ⟨fun h => absurd h (by simp), fun _ => ⟨fun h => ?_, fun _ => ?_⟩⟩
  · exfalso
    rw [wrap64 (by omega) (by omega)] at h
    simp only [hcl] at h
    simp at h
    omega
  have hg := fun i hi => nopsL_get k l (i := i) hi
  simp only
  generalize nopsL k l = m at *
  refine Loops.intro (fun n : Nat => S5_0 true k l m n ⟨0, []⟩) (fun n => n ≤ l.length) (fun n => l.length - n) 0 rfl (Nat.zero_le _) ?_
  intro n hn
  have hn : n ≤ l.length := hn
  have hD : ((0, (0, (0, ([], [])))) : Ins) = D0 := rfl
  have wn : IntKind.wrap .i64 ((n : Int) + 1) = ((n + 1 : Nat) : Int) := by rw [wrap64 (by omega) (by omega)]; omega
  have wk : IntKind.wrap .i64 ((n : Int) + k) = ((n + k : Nat) : Int) := by rw [wrap64 (by omega) (by omega)]; omega
  refine L5_0 true k l m n ⟨0, []⟩ ?_
  simp only [hD, wk, Int.toNat_natCast, decide_eq_true_eq, decide_eq_false_iff_not]
  refine ⟨fun hlt => ?_, fun _ => retB rfl⟩
  have hlt : n < l.length := by omega
  have hm : l.getD n D0 ∈ l := by rw [getD_lt hlt]; exact List.getElem_mem hlt
  have hp := hc.pos _ hm
  have ht := hc.tos _ hm
  rw [hg n hlt, wrap64 (x := _ + _) (by omega) (by omega)]
  have tail : Loops B5_2 M5_2 (Q5_2 (fun v => v.norm = V.bool true ∧ (V.bool true).nt = true) (Again (fun n : Nat => S5_0 true k l m n ⟨0, []⟩) (fun n => n ≤ l.length) (fun n => l.length - n) (l.length - n)))
        (S5_2 true k l m n 0 ((l.getD n D0).1 + k) (l.getD n D0).2.1 (l.getD n D0).2.2.1 (l.getD n D0).2.2.2.1 .no ((l.getD n D0).2.2.2.2.map (· + (k : Int))) .no ⟨0, []⟩) := by
    refine Loops.intro (fun j : Nat => S5_2 true k l m n j ((l.getD n D0).1 + k) (l.getD n D0).2.1 (l.getD n D0).2.2.1 (l.getD n D0).2.2.2.1 .no ((l.getD n D0).2.2.2.2.map (· + (k : Int))) .no ⟨0, []⟩)
      (fun j => j ≤ (l.getD n D0).2.2.2.2.length) (fun j => (l.getD n D0).2.2.2.2.length - j) 0 rfl (Nat.zero_le _) ?_
    intro j hj
    have hj : j ≤ (l.getD n D0).2.2.2.2.length := hj
    refine L5_2 true k l m n j _ _ _ _ .no _ .no ⟨0, []⟩ ?_
    simp only [hD, Int.toNat_natCast, decide_eq_true_eq, decide_eq_false_iff_not, List.length_map]
    refine ⟨fun hjl => ?_, fun _ => ?_⟩
    · have hjl : j < (l.getD n D0).2.2.2.2.length := by omega
      have hto := hc.to_bnd hm (to := (l.getD n D0).2.2.2.2.getD j 0) (by rw [getD_lt hjl]; exact List.getElem_mem hjl)
      rw [getD_map (· + (k : Int)) (d := 0) hjl, wrap64 (x := _ + (k : Int)) (by omega) (by omega), wrap64 (by omega) (by omega)]
      exact ⟨by omega, by omega, by omega, by omega, by omega, by omega, fun h => absurd h (by simp), fun _ => Again.mk (j + 1) rfl (by omega) (by omega)⟩
    · rw [wn]
      exact Again.mk (n + 1) rfl (by omega) (by omega)
  simp only [shI, List.length_map, bne_self_eq_false, Bool.false_eq_true, Bool.true_eq_false, false_implies, forall_const, true_and, and_true, Bool.not_true]
  exact ⟨by omega, by omega, by omega, by omega, by omega, by omega, by omega, by omega, by omega, by omega, tail⟩

theorem law_CodeMoves (s : List UInt8) (many : Int) (f0 : Cd.wf .str s) (f1 : Cd.wf (.int .i64) many) (z0 : s.length ≤ reachBytes) : PC Try.prog 5 [Cd.enc .str s, Cd.enc (.int .i64) many] (.bool true) :=
  p5 s many f1.1 f1.2 z0

end Go.Proofs.Ytaaedebknacheaa.AB

