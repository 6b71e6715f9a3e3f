/- Parts of the proof: what functions of the program compute, on plain values. -/
import Derived.Test.YtaaedebknacheaaABCode1
import Derived.Test.YtaaedebknacheaaProg
import Derived.KernelRfl
import Derived.Test.YtaaedebknacheaaABc2
set_option linter.unusedVariables false
set_option linter.unusedSimpArgs false
set_option maxRecDepth 100000
set_option maxHeartbeats 2000000
namespace Go.Proofs.Ytaaedebknacheaa.AB
open Go
/-! crucible/cruciblelaw4.CodeCovers -/
noncomputable def X9 : Cx := ⟨tt, [(23, [.cd .bool]), (28, [.cd (.int .u8)]), (30, [.cd .bool]), (33, [.cd (.slice (.pair (.int .i64) (.pair (.int .i64) (.pair (.int .i64) (.pair (.slice (.int .i64)) (.slice (.int .i64))))))), .cd (.int .i64)]), (37, [.cd (.int .i64)])], [], [(9, [(0, mkM 155 0 [0, 3, 4, 6], 0), (3, mkM 155 0 [0, 3, 4, 6, 9], 0)])], []⟩
theorem FN9 : fnsB Try.prog X9.fns := (show True from trivial)
def M9_0 : List Bool × Nat := (mkM 155 0 [0, 3, 4, 6], 0)
def S9_0 (s0 : List UInt8) (head3 : Bool) (l4 : List (Int × (Int × (Int × ((List Int) × (List Int)))))) (i6 : Int) (T : Toks) : St :=
  mkS 155 [(0, (.v (.str s0))), (3, (.v (.bool head3))), (4, (.v (.list (.pair (.int .i64) (.pair (.int .i64) (.pair (.int .i64) (.pair (.slice (.int .i64)) (.slice (.int .i64)))))) l4 .no))), (6, (.v (.int .i64 i6)))] [] T
noncomputable def B9_0 : (Exit → St → Prop) → St → Prop := (awp X9.tt (callN Try.prog X9 0) (X9.md 9) 0 (X9.mk1 9) 0 (codeAt [1, 1, 1, 1, 1, 1, 1, 0, 1, 0, 0] (bd Try.f9)))
def M9_3 : List Bool × Nat := (mkM 155 0 [0, 3, 4, 6, 9], 0)
def S9_3 (s0 : List UInt8) (head3 : Bool) (l4 : List (Int × (Int × (Int × ((List Int) × (List Int)))))) (i6 : Int) (k9 : Int) (T : Toks) : St :=
  mkS 155 [(0, (.v (.str s0))), (3, (.v (.bool head3))), (4, (.v (.list (.pair (.int .i64) (.pair (.int .i64) (.pair (.int .i64) (.pair (.slice (.int .i64)) (.slice (.int .i64)))))) l4 .no))), (6, (.v (.int .i64 i6))), (9, (.v (.int .i64 k9)))] [] T
noncomputable def B9_3 : (Exit → St → Prop) → St → Prop := (awp X9.tt (callN Try.prog X9 0) (X9.md 9) 0 (X9.mk1 9) 3 (codeAt [1, 1, 1, 1, 1, 1, 1, 0, 1, 0, 0, 1, 0, 0, 1, 1, 1, 1, 1, 1, 0, 0] (bd Try.f9)))
noncomputable def K9_0 (R : V → Prop) : Exit → St → Prop := seqK ((awp X9.tt (callN Try.prog X9 0) (X9.md 9) 0 (X9.mk1 9) 0 (codeAt [1, 1, 1, 1, 1, 1, 1, 1] (bd Try.f9))) (retK tt Try.f9.results.toList fun x s' => topK R x ⟨[], s'.hp, s'.T⟩)) (retK tt Try.f9.results.toList fun x s' => topK R x ⟨[], s'.hp, s'.T⟩)
noncomputable def Q9_0 (R : V → Prop) : Exit → St → Prop := (blockK 0 (K9_0 R))
noncomputable def K9_1 (R : V → Prop) (k0 : St → Prop) : Exit → St → Prop := seqK ((awp X9.tt (callN Try.prog X9 0) (X9.md 9) 0 (X9.mk1 9) 0 (codeAt [1, 1, 1, 1, 1, 1, 1, 0, 1, 0, 0, 1, 1] (bd Try.f9))) (loopQ M9_0 k0 (blockK 0 (K9_0 R)))) (loopQ M9_0 k0 (blockK 0 (K9_0 R)))
noncomputable def Q9_3 (R : V → Prop) (k0 : St → Prop) : Exit → St → Prop := (blockK 3 (blockK 1 (K9_1 R k0)))
theorem E9 (s0 : (List UInt8)) {R : V → Prop} (h : (∃ p1 : Bool, PC Try.prog 23 [] (.bool p1) ∧ (((!p1) = true → R (.bool false)) ∧
 ((!p1) = false → (((decide (((s0).length : Int) > (4096 : Int))) = true → R (.bool p1)) ∧
 ((decide (((s0).length : Int) > (4096 : Int))) = false → (∃ p2 : (List (Int × (Int × (Int × ((List Int) × (List Int)))))) × Int, PC Try.prog 33 [(.str s0)] ((.tup [(.list (.pair (.int .i64) (.pair (.int .i64) (.pair (.int .i64) (.pair (.slice (.int .i64)) (.slice (.int .i64)))))) p2.1 .no), (.int .i64 p2.2)])) ∧ (((p2.2 != (0 : Int)) = true → ((p1 = true → R (.bool ((((p2.1).length : Int) == (0 : Int))))) ∧ (p1 = false → R (.bool false)))) ∧
 ((p2.2 != (0 : Int)) = false → (((((p2.1).length : Int) == (0 : Int)) = true → R (.bool false)) ∧ ((((p2.1).length : Int) == (0 : Int)) = false → (0 ≤ (0 : Int) ∧ (0 : Int) < ((p2.1).length : Int) ∧ ((((p2.1.getD ((0 : Int)).toNat (0, (0, (0, ([], []))))).1 != (0 : Int)) = true → R (.bool false)) ∧ (((p2.1.getD ((0 : Int)).toNat (0, (0, (0, ([], []))))).1 != (0 : Int)) = false → (0 ≤ (IntKind.wrap .i64 (((p2.1).length : Int) - (1 : Int))) ∧ (IntKind.wrap .i64 (((p2.1).length : Int) - (1 : Int))) < ((p2.1).length : Int) ∧ (∃ p3 : Bool, PC Try.prog 30 [(.int .i64 ((p2.1.getD ((IntKind.wrap .i64 (((p2.1).length : Int) - (1 : Int)))).toNat (0, (0, (0, ([], []))))).2.1))] (.bool p3) ∧ (((!p3) = true → R (.bool false)) ∧
 ((!p3) = false → (Loops B9_0 M9_0 (Q9_0 R)
  (S9_0 s0 p1 p2.1 (0 : Int) ⟨0, []⟩)))))))))))))))))))) :
  fnK X9.tt (callN Try.prog X9 0) (X9.md 9) (X9.mk1 9) Try.f9 [(.v (.str s0))] ⟨[], [], ⟨0, []⟩⟩ (topK R) := Eq.mp (by kernel_rfl) h
theorem L9_0 (s0 : List UInt8) (head3 : Bool) (l4 : List (Int × (Int × (Int × ((List Int) × (List Int)))))) (i6 : Int) (T : Toks) {R : V → Prop} {k0 : St → Prop}
 (h : (((decide (i6 < ((l4).length : Int))) = true → (0 ≤ i6 ∧ i6 < ((l4).length : Int) ∧ (((decide ((IntKind.wrap .i64 (i6 + (1 : Int))) < ((l4).length : Int))) = true → (0 ≤ (IntKind.wrap .i64 (i6 + (1 : Int))) ∧ (IntKind.wrap .i64 (i6 + (1 : Int))) < ((l4).length : Int) ∧ (0 ≤ i6 ∧ i6 < ((l4).length : Int) ∧ (0 ≤ i6 ∧ i6 < ((l4).length : Int) ∧ (∃ p4 : Int, PC Try.prog 28 [(.int .i64 ((l4.getD (i6).toNat (0, (0, (0, ([], []))))).2.1))] (.int .u8 p4) ∧ (((p4 == (98 : Int)) = true → ((((IntKind.wrap .i64 ((l4.getD ((IntKind.wrap .i64 (i6 + (1 : Int)))).toNat (0, (0, (0, ([], []))))).1 - (l4.getD (i6).toNat (0, (0, (0, ([], []))))).1)) != (2 : Int)) = true → R (.bool false)) ∧ (((IntKind.wrap .i64 ((l4.getD ((IntKind.wrap .i64 (i6 + (1 : Int)))).toNat (0, (0, (0, ([], []))))).1 - (l4.getD (i6).toNat (0, (0, (0, ([], []))))).1)) != (2 : Int)) = false → (0 ≤ i6 ∧ i6 < ((l4).length : Int) ∧ (0 ≤ (l4.getD (i6).toNat (0, (0, (0, ([], []))))).1 ∧ (l4.getD (i6).toNat (0, (0, (0, ([], []))))).1 < ((s0).length : Int) ∧ (0 ≤ i6 ∧ i6 < ((l4).length : Int) ∧ ((((IntKind.wrap .i64 ((s0.getD ((l4.getD (i6).toNat (0, (0, (0, ([], []))))).1).toNat 0).toNat : Int)) != (l4.getD (i6).toNat (0, (0, (0, ([], []))))).2.1) = true → R (.bool false)) ∧ (((IntKind.wrap .i64 ((s0.getD ((l4.getD (i6).toNat (0, (0, (0, ([], []))))).1).toNat 0).toNat : Int)) != (l4.getD (i6).toNat (0, (0, (0, ([], []))))).2.1) = false → (0 ≤ i6 ∧ i6 < ((l4).length : Int) ∧ (∃ p5 : Int, PC Try.prog 37 [(.list (.pair (.int .i64) (.pair (.int .i64) (.pair (.int .i64) (.pair (.slice (.int .i64)) (.slice (.int .i64)))))) l4 .no), (.int .i64 ((l4.getD (i6).toNat (0, (0, (0, ([], []))))).1))] (.int .i64 p5) ∧ (((p5 != i6) = true → R (.bool false)) ∧
 ((p5 != i6) = false → (Loops B9_3 M9_3 (Q9_3 R k0)
  (S9_3 s0 head3 l4 i6 (0 : Int) T)))))))))))))) ∧
 ((p4 == (98 : Int)) = false → (((p4 == (110 : Int)) = true → (((p4 == (110 : Int)) = true → ((((IntKind.wrap .i64 ((l4.getD ((IntKind.wrap .i64 (i6 + (1 : Int)))).toNat (0, (0, (0, ([], []))))).1 - (l4.getD (i6).toNat (0, (0, (0, ([], []))))).1)) != (3 : Int)) = true → R (.bool false)) ∧ (((IntKind.wrap .i64 ((l4.getD ((IntKind.wrap .i64 (i6 + (1 : Int)))).toNat (0, (0, (0, ([], []))))).1 - (l4.getD (i6).toNat (0, (0, (0, ([], []))))).1)) != (3 : Int)) = false → (0 ≤ i6 ∧ i6 < ((l4).length : Int) ∧ (0 ≤ (l4.getD (i6).toNat (0, (0, (0, ([], []))))).1 ∧ (l4.getD (i6).toNat (0, (0, (0, ([], []))))).1 < ((s0).length : Int) ∧ (0 ≤ i6 ∧ i6 < ((l4).length : Int) ∧ ((((IntKind.wrap .i64 ((s0.getD ((l4.getD (i6).toNat (0, (0, (0, ([], []))))).1).toNat 0).toNat : Int)) != (l4.getD (i6).toNat (0, (0, (0, ([], []))))).2.1) = true → R (.bool false)) ∧ (((IntKind.wrap .i64 ((s0.getD ((l4.getD (i6).toNat (0, (0, (0, ([], []))))).1).toNat 0).toNat : Int)) != (l4.getD (i6).toNat (0, (0, (0, ([], []))))).2.1) = false → (0 ≤ i6 ∧ i6 < ((l4).length : Int) ∧ (∃ p6 : Int, PC Try.prog 37 [(.list (.pair (.int .i64) (.pair (.int .i64) (.pair (.int .i64) (.pair (.slice (.int .i64)) (.slice (.int .i64)))))) l4 .no), (.int .i64 ((l4.getD (i6).toNat (0, (0, (0, ([], []))))).1))] (.int .i64 p6) ∧ (((p6 != i6) = true → R (.bool false)) ∧
 ((p6 != i6) = false → (Loops B9_3 M9_3 (Q9_3 R k0)
  (S9_3 s0 head3 l4 i6 (0 : Int) T)))))))))))))) ∧
 ((p4 == (110 : Int)) = false → (((p4 == (115 : Int)) = true → (0 ≤ i6 ∧ i6 < ((l4).length : Int) ∧ ((((IntKind.wrap .i64 ((l4.getD ((IntKind.wrap .i64 (i6 + (1 : Int)))).toNat (0, (0, (0, ([], []))))).1 - (l4.getD (i6).toNat (0, (0, (0, ([], []))))).1)) != (IntKind.wrap .i64 ((5 : Int) + (IntKind.wrap .i64 ((4 : Int) * (((l4.getD (i6).toNat (0, (0, (0, ([], []))))).2.2.2.1).length : Int)))))) = true → R (.bool false)) ∧ (((IntKind.wrap .i64 ((l4.getD ((IntKind.wrap .i64 (i6 + (1 : Int)))).toNat (0, (0, (0, ([], []))))).1 - (l4.getD (i6).toNat (0, (0, (0, ([], []))))).1)) != (IntKind.wrap .i64 ((5 : Int) + (IntKind.wrap .i64 ((4 : Int) * (((l4.getD (i6).toNat (0, (0, (0, ([], []))))).2.2.2.1).length : Int)))))) = false → (0 ≤ i6 ∧ i6 < ((l4).length : Int) ∧ (0 ≤ (l4.getD (i6).toNat (0, (0, (0, ([], []))))).1 ∧ (l4.getD (i6).toNat (0, (0, (0, ([], []))))).1 < ((s0).length : Int) ∧ (0 ≤ i6 ∧ i6 < ((l4).length : Int) ∧ ((((IntKind.wrap .i64 ((s0.getD ((l4.getD (i6).toNat (0, (0, (0, ([], []))))).1).toNat 0).toNat : Int)) != (l4.getD (i6).toNat (0, (0, (0, ([], []))))).2.1) = true → R (.bool false)) ∧ (((IntKind.wrap .i64 ((s0.getD ((l4.getD (i6).toNat (0, (0, (0, ([], []))))).1).toNat 0).toNat : Int)) != (l4.getD (i6).toNat (0, (0, (0, ([], []))))).2.1) = false → (0 ≤ i6 ∧ i6 < ((l4).length : Int) ∧ (∃ p7 : Int, PC Try.prog 37 [(.list (.pair (.int .i64) (.pair (.int .i64) (.pair (.int .i64) (.pair (.slice (.int .i64)) (.slice (.int .i64)))))) l4 .no), (.int .i64 ((l4.getD (i6).toNat (0, (0, (0, ([], []))))).1))] (.int .i64 p7) ∧ (((p7 != i6) = true → R (.bool false)) ∧
 ((p7 != i6) = false → (Loops B9_3 M9_3 (Q9_3 R k0)
  (S9_3 s0 head3 l4 i6 (0 : Int) T))))))))))))))) ∧
 ((p4 == (115 : Int)) = false → ((((IntKind.wrap .i64 ((l4.getD ((IntKind.wrap .i64 (i6 + (1 : Int)))).toNat (0, (0, (0, ([], []))))).1 - (l4.getD (i6).toNat (0, (0, (0, ([], []))))).1)) != (1 : Int)) = true → R (.bool false)) ∧ (((IntKind.wrap .i64 ((l4.getD ((IntKind.wrap .i64 (i6 + (1 : Int)))).toNat (0, (0, (0, ([], []))))).1 - (l4.getD (i6).toNat (0, (0, (0, ([], []))))).1)) != (1 : Int)) = false → (0 ≤ i6 ∧ i6 < ((l4).length : Int) ∧ (0 ≤ (l4.getD (i6).toNat (0, (0, (0, ([], []))))).1 ∧ (l4.getD (i6).toNat (0, (0, (0, ([], []))))).1 < ((s0).length : Int) ∧ (0 ≤ i6 ∧ i6 < ((l4).length : Int) ∧ ((((IntKind.wrap .i64 ((s0.getD ((l4.getD (i6).toNat (0, (0, (0, ([], []))))).1).toNat 0).toNat : Int)) != (l4.getD (i6).toNat (0, (0, (0, ([], []))))).2.1) = true → R (.bool false)) ∧ (((IntKind.wrap .i64 ((s0.getD ((l4.getD (i6).toNat (0, (0, (0, ([], []))))).1).toNat 0).toNat : Int)) != (l4.getD (i6).toNat (0, (0, (0, ([], []))))).2.1) = false → (0 ≤ i6 ∧ i6 < ((l4).length : Int) ∧ (∃ p8 : Int, PC Try.prog 37 [(.list (.pair (.int .i64) (.pair (.int .i64) (.pair (.int .i64) (.pair (.slice (.int .i64)) (.slice (.int .i64)))))) l4 .no), (.int .i64 ((l4.getD (i6).toNat (0, (0, (0, ([], []))))).1))] (.int .i64 p8) ∧ (((p8 != i6) = true → R (.bool false)) ∧
 ((p8 != i6) = false → (Loops B9_3 M9_3 (Q9_3 R k0)
  (S9_3 s0 head3 l4 i6 (0 : Int) T)))))))))))))))))) ∧
 ((p4 == (110 : Int)) = false → (((p4 == (106 : Int)) = true → ((((IntKind.wrap .i64 ((l4.getD ((IntKind.wrap .i64 (i6 + (1 : Int)))).toNat (0, (0, (0, ([], []))))).1 - (l4.getD (i6).toNat (0, (0, (0, ([], []))))).1)) != (3 : Int)) = true → R (.bool false)) ∧ (((IntKind.wrap .i64 ((l4.getD ((IntKind.wrap .i64 (i6 + (1 : Int)))).toNat (0, (0, (0, ([], []))))).1 - (l4.getD (i6).toNat (0, (0, (0, ([], []))))).1)) != (3 : Int)) = false → (0 ≤ i6 ∧ i6 < ((l4).length : Int) ∧ (0 ≤ (l4.getD (i6).toNat (0, (0, (0, ([], []))))).1 ∧ (l4.getD (i6).toNat (0, (0, (0, ([], []))))).1 < ((s0).length : Int) ∧ (0 ≤ i6 ∧ i6 < ((l4).length : Int) ∧ ((((IntKind.wrap .i64 ((s0.getD ((l4.getD (i6).toNat (0, (0, (0, ([], []))))).1).toNat 0).toNat : Int)) != (l4.getD (i6).toNat (0, (0, (0, ([], []))))).2.1) = true → R (.bool false)) ∧ (((IntKind.wrap .i64 ((s0.getD ((l4.getD (i6).toNat (0, (0, (0, ([], []))))).1).toNat 0).toNat : Int)) != (l4.getD (i6).toNat (0, (0, (0, ([], []))))).2.1) = false → (0 ≤ i6 ∧ i6 < ((l4).length : Int) ∧ (∃ p9 : Int, PC Try.prog 37 [(.list (.pair (.int .i64) (.pair (.int .i64) (.pair (.int .i64) (.pair (.slice (.int .i64)) (.slice (.int .i64)))))) l4 .no), (.int .i64 ((l4.getD (i6).toNat (0, (0, (0, ([], []))))).1))] (.int .i64 p9) ∧ (((p9 != i6) = true → R (.bool false)) ∧
 ((p9 != i6) = false → (Loops B9_3 M9_3 (Q9_3 R k0)
  (S9_3 s0 head3 l4 i6 (0 : Int) T)))))))))))))) ∧
 ((p4 == (106 : Int)) = false → (((p4 == (115 : Int)) = true → (0 ≤ i6 ∧ i6 < ((l4).length : Int) ∧ ((((IntKind.wrap .i64 ((l4.getD ((IntKind.wrap .i64 (i6 + (1 : Int)))).toNat (0, (0, (0, ([], []))))).1 - (l4.getD (i6).toNat (0, (0, (0, ([], []))))).1)) != (IntKind.wrap .i64 ((5 : Int) + (IntKind.wrap .i64 ((4 : Int) * (((l4.getD (i6).toNat (0, (0, (0, ([], []))))).2.2.2.1).length : Int)))))) = true → R (.bool false)) ∧ (((IntKind.wrap .i64 ((l4.getD ((IntKind.wrap .i64 (i6 + (1 : Int)))).toNat (0, (0, (0, ([], []))))).1 - (l4.getD (i6).toNat (0, (0, (0, ([], []))))).1)) != (IntKind.wrap .i64 ((5 : Int) + (IntKind.wrap .i64 ((4 : Int) * (((l4.getD (i6).toNat (0, (0, (0, ([], []))))).2.2.2.1).length : Int)))))) = false → (0 ≤ i6 ∧ i6 < ((l4).length : Int) ∧ (0 ≤ (l4.getD (i6).toNat (0, (0, (0, ([], []))))).1 ∧ (l4.getD (i6).toNat (0, (0, (0, ([], []))))).1 < ((s0).length : Int) ∧ (0 ≤ i6 ∧ i6 < ((l4).length : Int) ∧ ((((IntKind.wrap .i64 ((s0.getD ((l4.getD (i6).toNat (0, (0, (0, ([], []))))).1).toNat 0).toNat : Int)) != (l4.getD (i6).toNat (0, (0, (0, ([], []))))).2.1) = true → R (.bool false)) ∧ (((IntKind.wrap .i64 ((s0.getD ((l4.getD (i6).toNat (0, (0, (0, ([], []))))).1).toNat 0).toNat : Int)) != (l4.getD (i6).toNat (0, (0, (0, ([], []))))).2.1) = false → (0 ≤ i6 ∧ i6 < ((l4).length : Int) ∧ (∃ p10 : Int, PC Try.prog 37 [(.list (.pair (.int .i64) (.pair (.int .i64) (.pair (.int .i64) (.pair (.slice (.int .i64)) (.slice (.int .i64)))))) l4 .no), (.int .i64 ((l4.getD (i6).toNat (0, (0, (0, ([], []))))).1))] (.int .i64 p10) ∧ (((p10 != i6) = true → R (.bool false)) ∧
 ((p10 != i6) = false → (Loops B9_3 M9_3 (Q9_3 R k0)
  (S9_3 s0 head3 l4 i6 (0 : Int) T))))))))))))))) ∧
 ((p4 == (115 : Int)) = false → ((((IntKind.wrap .i64 ((l4.getD ((IntKind.wrap .i64 (i6 + (1 : Int)))).toNat (0, (0, (0, ([], []))))).1 - (l4.getD (i6).toNat (0, (0, (0, ([], []))))).1)) != (1 : Int)) = true → R (.bool false)) ∧ (((IntKind.wrap .i64 ((l4.getD ((IntKind.wrap .i64 (i6 + (1 : Int)))).toNat (0, (0, (0, ([], []))))).1 - (l4.getD (i6).toNat (0, (0, (0, ([], []))))).1)) != (1 : Int)) = false → (0 ≤ i6 ∧ i6 < ((l4).length : Int) ∧ (0 ≤ (l4.getD (i6).toNat (0, (0, (0, ([], []))))).1 ∧ (l4.getD (i6).toNat (0, (0, (0, ([], []))))).1 < ((s0).length : Int) ∧ (0 ≤ i6 ∧ i6 < ((l4).length : Int) ∧ ((((IntKind.wrap .i64 ((s0.getD ((l4.getD (i6).toNat (0, (0, (0, ([], []))))).1).toNat 0).toNat : Int)) != (l4.getD (i6).toNat (0, (0, (0, ([], []))))).2.1) = true → R (.bool false)) ∧ (((IntKind.wrap .i64 ((s0.getD ((l4.getD (i6).toNat (0, (0, (0, ([], []))))).1).toNat 0).toNat : Int)) != (l4.getD (i6).toNat (0, (0, (0, ([], []))))).2.1) = false → (0 ≤ i6 ∧ i6 < ((l4).length : Int) ∧ (∃ p11 : Int, PC Try.prog 37 [(.list (.pair (.int .i64) (.pair (.int .i64) (.pair (.int .i64) (.pair (.slice (.int .i64)) (.slice (.int .i64)))))) l4 .no), (.int .i64 ((l4.getD (i6).toNat (0, (0, (0, ([], []))))).1))] (.int .i64 p11) ∧ (((p11 != i6) = true → R (.bool false)) ∧
 ((p11 != i6) = false → (Loops B9_3 M9_3 (Q9_3 R k0)
  (S9_3 s0 head3 l4 i6 (0 : Int) T)))))))))))))))))))))))))) ∧
 ((decide ((IntKind.wrap .i64 (i6 + (1 : Int))) < ((l4).length : Int))) = false → (0 ≤ i6 ∧ i6 < ((l4).length : Int) ∧ (∃ p12 : Int, PC Try.prog 28 [(.int .i64 ((l4.getD (i6).toNat (0, (0, (0, ([], []))))).2.1))] (.int .u8 p12) ∧ (((p12 == (98 : Int)) = true → ((((IntKind.wrap .i64 (((s0).length : Int) - (l4.getD (i6).toNat (0, (0, (0, ([], []))))).1)) != (2 : Int)) = true → R (.bool false)) ∧ (((IntKind.wrap .i64 (((s0).length : Int) - (l4.getD (i6).toNat (0, (0, (0, ([], []))))).1)) != (2 : Int)) = false → (0 ≤ i6 ∧ i6 < ((l4).length : Int) ∧ (0 ≤ (l4.getD (i6).toNat (0, (0, (0, ([], []))))).1 ∧ (l4.getD (i6).toNat (0, (0, (0, ([], []))))).1 < ((s0).length : Int) ∧ (0 ≤ i6 ∧ i6 < ((l4).length : Int) ∧ ((((IntKind.wrap .i64 ((s0.getD ((l4.getD (i6).toNat (0, (0, (0, ([], []))))).1).toNat 0).toNat : Int)) != (l4.getD (i6).toNat (0, (0, (0, ([], []))))).2.1) = true → R (.bool false)) ∧ (((IntKind.wrap .i64 ((s0.getD ((l4.getD (i6).toNat (0, (0, (0, ([], []))))).1).toNat 0).toNat : Int)) != (l4.getD (i6).toNat (0, (0, (0, ([], []))))).2.1) = false → (0 ≤ i6 ∧ i6 < ((l4).length : Int) ∧ (∃ p13 : Int, PC Try.prog 37 [(.list (.pair (.int .i64) (.pair (.int .i64) (.pair (.int .i64) (.pair (.slice (.int .i64)) (.slice (.int .i64)))))) l4 .no), (.int .i64 ((l4.getD (i6).toNat (0, (0, (0, ([], []))))).1))] (.int .i64 p13) ∧ (((p13 != i6) = true → R (.bool false)) ∧
 ((p13 != i6) = false → (Loops B9_3 M9_3 (Q9_3 R k0)
  (S9_3 s0 head3 l4 i6 (0 : Int) T)))))))))))))) ∧
 ((p12 == (98 : Int)) = false → (((p12 == (110 : Int)) = true → (((p12 == (110 : Int)) = true → ((((IntKind.wrap .i64 (((s0).length : Int) - (l4.getD (i6).toNat (0, (0, (0, ([], []))))).1)) != (3 : Int)) = true → R (.bool false)) ∧ (((IntKind.wrap .i64 (((s0).length : Int) - (l4.getD (i6).toNat (0, (0, (0, ([], []))))).1)) != (3 : Int)) = false → (0 ≤ i6 ∧ i6 < ((l4).length : Int) ∧ (0 ≤ (l4.getD (i6).toNat (0, (0, (0, ([], []))))).1 ∧ (l4.getD (i6).toNat (0, (0, (0, ([], []))))).1 < ((s0).length : Int) ∧ (0 ≤ i6 ∧ i6 < ((l4).length : Int) ∧ ((((IntKind.wrap .i64 ((s0.getD ((l4.getD (i6).toNat (0, (0, (0, ([], []))))).1).toNat 0).toNat : Int)) != (l4.getD (i6).toNat (0, (0, (0, ([], []))))).2.1) = true → R (.bool false)) ∧ (((IntKind.wrap .i64 ((s0.getD ((l4.getD (i6).toNat (0, (0, (0, ([], []))))).1).toNat 0).toNat : Int)) != (l4.getD (i6).toNat (0, (0, (0, ([], []))))).2.1) = false → (0 ≤ i6 ∧ i6 < ((l4).length : Int) ∧ (∃ p14 : Int, PC Try.prog 37 [(.list (.pair (.int .i64) (.pair (.int .i64) (.pair (.int .i64) (.pair (.slice (.int .i64)) (.slice (.int .i64)))))) l4 .no), (.int .i64 ((l4.getD (i6).toNat (0, (0, (0, ([], []))))).1))] (.int .i64 p14) ∧ (((p14 != i6) = true → R (.bool false)) ∧
 ((p14 != i6) = false → (Loops B9_3 M9_3 (Q9_3 R k0)
  (S9_3 s0 head3 l4 i6 (0 : Int) T)))))))))))))) ∧
 ((p12 == (110 : Int)) = false → (((p12 == (115 : Int)) = true → (0 ≤ i6 ∧ i6 < ((l4).length : Int) ∧ ((((IntKind.wrap .i64 (((s0).length : Int) - (l4.getD (i6).toNat (0, (0, (0, ([], []))))).1)) != (IntKind.wrap .i64 ((5 : Int) + (IntKind.wrap .i64 ((4 : Int) * (((l4.getD (i6).toNat (0, (0, (0, ([], []))))).2.2.2.1).length : Int)))))) = true → R (.bool false)) ∧ (((IntKind.wrap .i64 (((s0).length : Int) - (l4.getD (i6).toNat (0, (0, (0, ([], []))))).1)) != (IntKind.wrap .i64 ((5 : Int) + (IntKind.wrap .i64 ((4 : Int) * (((l4.getD (i6).toNat (0, (0, (0, ([], []))))).2.2.2.1).length : Int)))))) = false → (0 ≤ i6 ∧ i6 < ((l4).length : Int) ∧ (0 ≤ (l4.getD (i6).toNat (0, (0, (0, ([], []))))).1 ∧ (l4.getD (i6).toNat (0, (0, (0, ([], []))))).1 < ((s0).length : Int) ∧ (0 ≤ i6 ∧ i6 < ((l4).length : Int) ∧ ((((IntKind.wrap .i64 ((s0.getD ((l4.getD (i6).toNat (0, (0, (0, ([], []))))).1).toNat 0).toNat : Int)) != (l4.getD (i6).toNat (0, (0, (0, ([], []))))).2.1) = true → R (.bool false)) ∧ (((IntKind.wrap .i64 ((s0.getD ((l4.getD (i6).toNat (0, (0, (0, ([], []))))).1).toNat 0).toNat : Int)) != (l4.getD (i6).toNat (0, (0, (0, ([], []))))).2.1) = false → (0 ≤ i6 ∧ i6 < ((l4).length : Int) ∧ (∃ p15 : Int, PC Try.prog 37 [(.list (.pair (.int .i64) (.pair (.int .i64) (.pair (.int .i64) (.pair (.slice (.int .i64)) (.slice (.int .i64)))))) l4 .no), (.int .i64 ((l4.getD (i6).toNat (0, (0, (0, ([], []))))).1))] (.int .i64 p15) ∧ (((p15 != i6) = true → R (.bool false)) ∧
 ((p15 != i6) = false → (Loops B9_3 M9_3 (Q9_3 R k0)
  (S9_3 s0 head3 l4 i6 (0 : Int) T))))))))))))))) ∧
 ((p12 == (115 : Int)) = false → ((((IntKind.wrap .i64 (((s0).length : Int) - (l4.getD (i6).toNat (0, (0, (0, ([], []))))).1)) != (1 : Int)) = true → R (.bool false)) ∧ (((IntKind.wrap .i64 (((s0).length : Int) - (l4.getD (i6).toNat (0, (0, (0, ([], []))))).1)) != (1 : Int)) = false → (0 ≤ i6 ∧ i6 < ((l4).length : Int) ∧ (0 ≤ (l4.getD (i6).toNat (0, (0, (0, ([], []))))).1 ∧ (l4.getD (i6).toNat (0, (0, (0, ([], []))))).1 < ((s0).length : Int) ∧ (0 ≤ i6 ∧ i6 < ((l4).length : Int) ∧ ((((IntKind.wrap .i64 ((s0.getD ((l4.getD (i6).toNat (0, (0, (0, ([], []))))).1).toNat 0).toNat : Int)) != (l4.getD (i6).toNat (0, (0, (0, ([], []))))).2.1) = true → R (.bool false)) ∧ (((IntKind.wrap .i64 ((s0.getD ((l4.getD (i6).toNat (0, (0, (0, ([], []))))).1).toNat 0).toNat : Int)) != (l4.getD (i6).toNat (0, (0, (0, ([], []))))).2.1) = false → (0 ≤ i6 ∧ i6 < ((l4).length : Int) ∧ (∃ p16 : Int, PC Try.prog 37 [(.list (.pair (.int .i64) (.pair (.int .i64) (.pair (.int .i64) (.pair (.slice (.int .i64)) (.slice (.int .i64)))))) l4 .no), (.int .i64 ((l4.getD (i6).toNat (0, (0, (0, ([], []))))).1))] (.int .i64 p16) ∧ (((p16 != i6) = true → R (.bool false)) ∧
 ((p16 != i6) = false → (Loops B9_3 M9_3 (Q9_3 R k0)
  (S9_3 s0 head3 l4 i6 (0 : Int) T)))))))))))))))))) ∧
 ((p12 == (110 : Int)) = false → (((p12 == (106 : Int)) = true → ((((IntKind.wrap .i64 (((s0).length : Int) - (l4.getD (i6).toNat (0, (0, (0, ([], []))))).1)) != (3 : Int)) = true → R (.bool false)) ∧ (((IntKind.wrap .i64 (((s0).length : Int) - (l4.getD (i6).toNat (0, (0, (0, ([], []))))).1)) != (3 : Int)) = false → (0 ≤ i6 ∧ i6 < ((l4).length : Int) ∧ (0 ≤ (l4.getD (i6).toNat (0, (0, (0, ([], []))))).1 ∧ (l4.getD (i6).toNat (0, (0, (0, ([], []))))).1 < ((s0).length : Int) ∧ (0 ≤ i6 ∧ i6 < ((l4).length : Int) ∧ ((((IntKind.wrap .i64 ((s0.getD ((l4.getD (i6).toNat (0, (0, (0, ([], []))))).1).toNat 0).toNat : Int)) != (l4.getD (i6).toNat (0, (0, (0, ([], []))))).2.1) = true → R (.bool false)) ∧ (((IntKind.wrap .i64 ((s0.getD ((l4.getD (i6).toNat (0, (0, (0, ([], []))))).1).toNat 0).toNat : Int)) != (l4.getD (i6).toNat (0, (0, (0, ([], []))))).2.1) = false → (0 ≤ i6 ∧ i6 < ((l4).length : Int) ∧ (∃ p17 : Int, PC Try.prog 37 [(.list (.pair (.int .i64) (.pair (.int .i64) (.pair (.int .i64) (.pair (.slice (.int .i64)) (.slice (.int .i64)))))) l4 .no), (.int .i64 ((l4.getD (i6).toNat (0, (0, (0, ([], []))))).1))] (.int .i64 p17) ∧ (((p17 != i6) = true → R (.bool false)) ∧
 ((p17 != i6) = false → (Loops B9_3 M9_3 (Q9_3 R k0)
  (S9_3 s0 head3 l4 i6 (0 : Int) T)))))))))))))) ∧
 ((p12 == (106 : Int)) = false → (((p12 == (115 : Int)) = true → (0 ≤ i6 ∧ i6 < ((l4).length : Int) ∧ ((((IntKind.wrap .i64 (((s0).length : Int) - (l4.getD (i6).toNat (0, (0, (0, ([], []))))).1)) != (IntKind.wrap .i64 ((5 : Int) + (IntKind.wrap .i64 ((4 : Int) * (((l4.getD (i6).toNat (0, (0, (0, ([], []))))).2.2.2.1).length : Int)))))) = true → R (.bool false)) ∧ (((IntKind.wrap .i64 (((s0).length : Int) - (l4.getD (i6).toNat (0, (0, (0, ([], []))))).1)) != (IntKind.wrap .i64 ((5 : Int) + (IntKind.wrap .i64 ((4 : Int) * (((l4.getD (i6).toNat (0, (0, (0, ([], []))))).2.2.2.1).length : Int)))))) = false → (0 ≤ i6 ∧ i6 < ((l4).length : Int) ∧ (0 ≤ (l4.getD (i6).toNat (0, (0, (0, ([], []))))).1 ∧ (l4.getD (i6).toNat (0, (0, (0, ([], []))))).1 < ((s0).length : Int) ∧ (0 ≤ i6 ∧ i6 < ((l4).length : Int) ∧ ((((IntKind.wrap .i64 ((s0.getD ((l4.getD (i6).toNat (0, (0, (0, ([], []))))).1).toNat 0).toNat : Int)) != (l4.getD (i6).toNat (0, (0, (0, ([], []))))).2.1) = true → R (.bool false)) ∧ (((IntKind.wrap .i64 ((s0.getD ((l4.getD (i6).toNat (0, (0, (0, ([], []))))).1).toNat 0).toNat : Int)) != (l4.getD (i6).toNat (0, (0, (0, ([], []))))).2.1) = false → (0 ≤ i6 ∧ i6 < ((l4).length : Int) ∧ (∃ p18 : Int, PC Try.prog 37 [(.list (.pair (.int .i64) (.pair (.int .i64) (.pair (.int .i64) (.pair (.slice (.int .i64)) (.slice (.int .i64)))))) l4 .no), (.int .i64 ((l4.getD (i6).toNat (0, (0, (0, ([], []))))).1))] (.int .i64 p18) ∧ (((p18 != i6) = true → R (.bool false)) ∧
 ((p18 != i6) = false → (Loops B9_3 M9_3 (Q9_3 R k0)
  (S9_3 s0 head3 l4 i6 (0 : Int) T))))))))))))))) ∧
 ((p12 == (115 : Int)) = false → ((((IntKind.wrap .i64 (((s0).length : Int) - (l4.getD (i6).toNat (0, (0, (0, ([], []))))).1)) != (1 : Int)) = true → R (.bool false)) ∧ (((IntKind.wrap .i64 (((s0).length : Int) - (l4.getD (i6).toNat (0, (0, (0, ([], []))))).1)) != (1 : Int)) = false → (0 ≤ i6 ∧ i6 < ((l4).length : Int) ∧ (0 ≤ (l4.getD (i6).toNat (0, (0, (0, ([], []))))).1 ∧ (l4.getD (i6).toNat (0, (0, (0, ([], []))))).1 < ((s0).length : Int) ∧ (0 ≤ i6 ∧ i6 < ((l4).length : Int) ∧ ((((IntKind.wrap .i64 ((s0.getD ((l4.getD (i6).toNat (0, (0, (0, ([], []))))).1).toNat 0).toNat : Int)) != (l4.getD (i6).toNat (0, (0, (0, ([], []))))).2.1) = true → R (.bool false)) ∧ (((IntKind.wrap .i64 ((s0.getD ((l4.getD (i6).toNat (0, (0, (0, ([], []))))).1).toNat 0).toNat : Int)) != (l4.getD (i6).toNat (0, (0, (0, ([], []))))).2.1) = false → (0 ≤ i6 ∧ i6 < ((l4).length : Int) ∧ (∃ p19 : Int, PC Try.prog 37 [(.list (.pair (.int .i64) (.pair (.int .i64) (.pair (.int .i64) (.pair (.slice (.int .i64)) (.slice (.int .i64)))))) l4 .no), (.int .i64 ((l4.getD (i6).toNat (0, (0, (0, ([], []))))).1))] (.int .i64 p19) ∧ (((p19 != i6) = true → R (.bool false)) ∧
 ((p19 != i6) = false → (Loops B9_3 M9_3 (Q9_3 R k0)
  (S9_3 s0 head3 l4 i6 (0 : Int) T))))))))))))))))))))))))))) ∧
 ((decide (i6 < ((l4).length : Int))) = false → R (.bool head3)))) :
  B9_0 (loopQ M9_0 k0 (Q9_0 R)) (S9_0 s0 head3 l4 i6 T) := Eq.mp (by kernel_rfl) h
theorem L9_3 (s0 : List UInt8) (head3 : Bool) (l4 : List (Int × (Int × (Int × ((List Int) × (List Int)))))) (i6 : Int) (k9 : Int) (T : Toks) {R : V → Prop} {k0 : St → Prop} {k3 : St → Prop}
 (h : (0 ≤ i6 ∧ i6 < ((l4).length : Int) ∧ (((decide (k9 < (((l4.getD (i6).toNat (0, (0, (0, ([], []))))).2.2.2.2).length : Int))) = true → (0 ≤ i6 ∧ i6 < ((l4).length : Int) ∧ (0 ≤ k9 ∧ k9 < (((l4.getD (i6).toNat (0, (0, (0, ([], []))))).2.2.2.2).length : Int) ∧ (∃ p20 : Int, PC Try.prog 37 [(.list (.pair (.int .i64) (.pair (.int .i64) (.pair (.int .i64) (.pair (.slice (.int .i64)) (.slice (.int .i64)))))) l4 .no), (.int .i64 ((((l4.getD (i6).toNat (0, (0, (0, ([], []))))).2.2.2.2).getD (k9).toNat 0)))] (.int .i64 p20) ∧ (((decide (p20 < (0 : Int))) = true → R (.bool false)) ∧
 ((decide (p20 < (0 : Int))) = false → k3 (S9_3 s0 head3 l4 i6 ((IntKind.wrap .i64 (k9 + (1 : Int)))) T))))))) ∧
 ((decide (k9 < (((l4.getD (i6).toNat (0, (0, (0, ([], []))))).2.2.2.2).length : Int))) = false → k0 (S9_0 s0 head3 l4 ((IntKind.wrap .i64 (i6 + (1 : Int)))) T))))) :
  B9_3 (loopQ M9_3 k3 (Q9_3 R k0)) (S9_3 s0 head3 l4 i6 k9 T) := Eq.mp (by kernel_rfl) h
end Go.Proofs.Ytaaedebknacheaa.AB

set_option linter.unusedVariables false
set_option linter.unusedSimpArgs false
set_option maxHeartbeats 1000000
namespace Go.Proofs.Ytaaedebknacheaa.AB
open Go Go.RowKit

/-- the instructions of code, one by one -/
theorem Chn.get {s : List UInt8} {pc : Nat} {l : List Ins} (h : Chn s pc l) : ∀ i, i < l.length → ∃ q : Nat, q < s.length ∧ (oneI s q).2.2 = 0 ∧ l.getD i D0 = (oneI s q).1 ∧ (l.getD i D0).1 = q ∧
    (q : Int) + (oneI s q).2.1 = if i + 1 < l.length then (l.getD (i + 1) D0).1 else s.length := by
  induction h with
  | nil => intro i hi; simp at hi
  | @cons pc l h he hr ih =>
    intro i hi
    obtain ⟨k1, k2, k3, _⟩ := oneI_ok h he
    cases i with
    | zero =>
      refine ⟨pc, h, he, rfl, k1, ?_⟩
      clear ih hi
      generalize hq : pc + (oneI s pc).2.1.toNat = q at hr
      cases hr with
      | nil => simp; omega
      | @cons _ l' h' he' hr' =>
        obtain ⟨k1', _⟩ := oneI_ok h' he'
        simp only [List.length_cons, List.getD_cons_succ, List.getD_cons_zero]
        rw [if_pos (by omega), k1']
        omega
    | succ i =>
      obtain ⟨q, h1, h2, h3, h4, h5⟩ := ih i (by simpa using hi)
      refine ⟨q, h1, h2, by simpa using h3, by simpa using h4, ?_⟩
      rw [h5]
      simp only [List.length_cons, List.getD_cons_succ, Nat.add_lt_add_iff_right]

theorem decodeI_chn {s : List UInt8} {l : List Ins} (h : decodeI s = (l, 0)) : Chn s 0 l := by
  unfold decodeI at h
  split at h
  · exact absurd (congrArg Prod.snd h) (by simp)
  split at h
  · exact absurd (congrArg Prod.snd h) (by simp)
  generalize hq : scan s s.length 0 = q at h
  obtain ⟨l', e⟩ := q
  simp only at h
  split at h
  · rename_i he'
    simp only [Prod.mk.injEq] at h
    exact absurd h.2 he'
  rename_i he'
  have he' : e = 0 := by simpa using he'
  subst he'
  split at h
  · rename_i he'
    simp only [Prod.mk.injEq] at h
    exact absurd h.2 he'
  simp only [Prod.mk.injEq, and_true] at h
  subst h
  exact Chn.of s.length 0 (by omega) (Nat.zero_le _) hq

theorem idx_self {l : List Ins} (h : l.Pairwise (fun a b => a.1 < b.1)) {i : Nat} (hi : i < l.length) : idx l (l.getD i D0).1 = i := by
  have hg : l.getD i D0 = l[i] := by simp [List.getD, hi]
  have : l.findIdx? (fun x => x.1 == (l.getD i D0).1) = some i := by
    rw [List.findIdx?_eq_some_iff_getElem]
    refine ⟨hi, by rw [hg]; simp, fun j hj => ?_⟩
    have := List.pairwise_iff_getElem.1 h j i (by omega) hi hj
    rw [hg]
    simp
    omega
  unfold idx
  rw [this]

theorem idx_nonneg {l : List Ins} {pc : Int} (h : isPc l pc = true) : 0 ≤ idx l pc := by
  unfold isPc at h
  unfold idx
  cases hf : l.findIdx? (fun x => x.1 == pc) with
  | some i => simp
  | none =>
    rw [List.findIdx?_eq_none_iff] at hf
    rw [List.any_eq_true] at h
    obtain ⟨x, hx, he⟩ := h
    have := hf x hx
    simp_all

theorem p9 (s : List UInt8) : PC Try.prog 9 [.str s] (.bool true) := by
  refine pcOf (X := X9) (d := 0) rfl trivial (by kernel_rfl) (by decide) (E9 s ⟨_, p23, fun h => absurd h (by simp), fun _ => ⟨fun _ => retB rfl, fun h => ?_⟩⟩)
  refine ⟨_, p33 s, fun he => ⟨fun _ => ?_, fun h => absurd h (by simp)⟩, fun he => ?_⟩
  · have he : (decodeI s).2 ≠ 0 := by simpa using he
    rw [decodeI_nil he]
    exact retB rfl
  have he : (decodeI s).2 = 0 := by simpa using he
  have hd : decodeI s = ((decodeI s).1, 0) := by rw [← he]
  have hc := decodeI_ok hd
  have hn := decodeI_chn hd
  generalize (decodeI s).1 = l at *
  have z1 := hc.len
  have z2 := hc.size
  obtain ⟨x0, r0, hl0, hx0⟩ := hc.first
  have hpos : 0 < l.length := by rw [hl0]; simp
  have hD : ((0, (0, (0, ([], [])))) : Ins) = D0 := rfl
  have h0 : (l.getD 0 D0).1 = 0 := by rw [hl0]; exact hx0
  have w1 : IntKind.wrap .i64 ((l.length : Int) - 1) = ((l.length - 1 : Nat) : Int) := by rw [wrap64 (by omega) (by omega)]; omega
  have t0 : (0 : Int).toNat = 0 := rfl
  simp only [hD, w1, Int.toNat_natCast, t0, h0]
  have q30 := p30 (l.getD (l.length - 1) D0).2.1
  rw [hc.last] at q30
  refine ⟨fun h => absurd h (by simp; intro e; simp [e] at hpos), fun _ => ⟨by omega, by omega, fun h => absurd h (by simp), fun _ => ⟨by omega, by omega, _, q30, fun h => absurd h (by simp), fun _ => ?_⟩⟩⟩
  refine Loops.intro (fun n : Nat => S9_0 s true l n ⟨0, []⟩) (fun n => n ≤ l.length) (fun n => l.length - n) 0 rfl (Nat.zero_le _) ?_
  intro n hn'
  have hn' : n ≤ l.length := hn'
  refine L9_0 s true l n ⟨0, []⟩ ?_
  have wn : IntKind.wrap .i64 ((n : Int) + 1) = ((n + 1 : Nat) : Int) := by rw [wrap64 (by omega) (by omega)]; omega
  simp only [hD, wn, Int.toNat_natCast, wrapB, decide_eq_true_eq, decide_eq_false_iff_not]
  refine ⟨fun h => ?_, fun h => retB rfl⟩
  have hlt : n < l.length := by omega
  obtain ⟨q, a1, a2, a3, a4, a5⟩ := hn.get n hlt
  obtain ⟨b1, b2, b3⟩ := oneI_size a2
  obtain ⟨k1, k2, k3, k4, k5, _⟩ := oneI_ok a1 a2
  rw [← a3] at b1 b2 k5
  generalize hx : l.getD n D0 = x at *
  have hb : byte s x.1.toNat = x.2.1 := by rw [a4, Int.toNat_natCast, b2]
  have hidx : idx l x.1 = n := by rw [← hx]; exact idx_self hc.inc hlt
  have hm : x ∈ l := by rw [← hx, getD_lt hlt]; exact List.getElem_mem hlt
  have tail : (Loops B9_3 M9_3 (Q9_3 (fun v => v.norm = V.bool true ∧ (V.bool true).nt = true) (Again (fun n : Nat => S9_0 s true l n ⟨0, []⟩) (fun n => n ≤ l.length) (fun n => l.length - n) (l.length - n))) (S9_3 s true l n 0 ⟨0, []⟩)) := by
    refine Loops.intro (fun k : Nat => S9_3 s true l n k ⟨0, []⟩) (fun k => k ≤ x.2.2.2.2.length) (fun k => x.2.2.2.2.length - k) 0 rfl (Nat.zero_le _) ?_
    intro k hk
    have hk : k ≤ x.2.2.2.2.length := hk
    have k6 := hc.tos x hm
    refine L9_3 s true l n k ⟨0, []⟩ ?_
    simp only [hD, Int.toNat_natCast, hx, decide_eq_true_eq, decide_eq_false_iff_not]
    refine ⟨by omega, by omega, fun h => ?_, fun h => ?_⟩
    · have hklt : k < x.2.2.2.2.length := by omega
      have hto : x.2.2.2.2.getD k 0 ∈ x.2.2.2.2 := by rw [getD_lt hklt]; exact List.getElem_mem hklt
      have := idx_nonneg (hc.lands x hm _ hto)
      refine ⟨by omega, by omega, by omega, by omega, _, p37 _ _ (by omega), fun h => by omega, fun _ => ?_⟩
      rw [wrap64 (by omega) (by omega)]
      exact Again.mk (k + 1) rfl (by omega) (by omega)
    · rw [wn]
      exact Again.mk (n + 1) rfl (by omega) (by omega)
  have wk : IntKind.wrap .i64 (5 + IntKind.wrap .i64 (4 * (x.2.2.2.1.length : Int))) = 5 + 4 * x.2.2.2.1.length := by
    rw [wrap64 (x := 4 * _) (by omega) (by omega), wrap64 (by omega) (by omega)]
  have hp0 : 0 ≤ x.1 ∧ x.1 < s.length := by omega
  have hn0 : 0 ≤ (n : Int) ∧ (n : Int) < l.length := by omega
  have q28 := p28 x.2.1
  have q37 := p37 l x.1 (by omega)
  rw [hidx] at q37
  have hsz : sizeI x = 2 ∧ form x.2.1 = 98 ∨ sizeI x = 3 ∧ (form x.2.1 = 110 ∨ form x.2.1 = 106) ∨ sizeI x = 5 + 4 * x.2.2.2.1.length ∧ form x.2.1 = 115 ∨ sizeI x = 1 ∧ (form x.2.1 = 0 ∨ form x.2.1 = 45) := by
    unfold sizeI
    rcases form_cases x.2.1 with hf | hf | hf | hf | hf | hf <;> simp [hf]
  refine ⟨hn0.1, hn0.2, fun h1 => ?_, fun h1 => ?_⟩
  · rw [if_pos (by omega)] at a5
    have hw : IntKind.wrap .i64 ((l.getD (n + 1) D0).1 - x.1) = sizeI x := by rw [wrap64 (by omega) (by omega)]; omega
    rw [hw]
    refine ⟨by omega, by omega, hn0.1, hn0.2, hn0.1, hn0.2, _, q28, ?_⟩
    rcases hsz with ⟨e, hf⟩ | ⟨e, hf | hf⟩ | ⟨e, hf⟩ | ⟨e, hf | hf⟩
    all_goals simp only [hf, e, wk, hb, Int.reduceBEq, bne_self_eq_false, Bool.false_eq_true, Bool.true_eq_false, forall_const, false_implies, true_and, and_true, Int.reduceEq]
    all_goals first
      | exact ⟨hn0.1, hn0.2, hp0.1, hp0.2, hn0.1, hn0.2, hn0.1, hn0.2, _, q37, fun h => absurd h (by simp), fun _ => tail⟩
      | exact ⟨hn0.1, hn0.2, hn0.1, hn0.2, hp0.1, hp0.2, hn0.1, hn0.2, hn0.1, hn0.2, _, q37, fun h => absurd h (by simp), fun _ => tail⟩
  · rw [if_neg (by omega)] at a5
    have hw : IntKind.wrap .i64 ((s.length : Int) - x.1) = sizeI x := by rw [wrap64 (by omega) (by omega)]; omega
    rw [hw]
    refine ⟨hn0.1, hn0.2, _, q28, ?_⟩
    rcases hsz with ⟨e, hf⟩ | ⟨e, hf | hf⟩ | ⟨e, hf⟩ | ⟨e, hf | hf⟩
    all_goals simp only [hf, e, wk, hb, Int.reduceBEq, bne_self_eq_false, Bool.false_eq_true, Bool.true_eq_false, forall_const, false_implies, true_and, and_true, Int.reduceEq]
    all_goals first
      | exact ⟨hn0.1, hn0.2, hp0.1, hp0.2, hn0.1, hn0.2, hn0.1, hn0.2, _, q37, fun h => absurd h (by simp), fun _ => tail⟩
      | exact ⟨hn0.1, hn0.2, hn0.1, hn0.2, hp0.1, hp0.2, hn0.1, hn0.2, hn0.1, hn0.2, _, q37, fun h => absurd h (by simp), fun _ => tail⟩

theorem law_CodeCovers (s : List UInt8) (f0 : Cd.wf .str s) : PC Try.prog 9 [Cd.enc .str s] (.bool true) := p9 s

end Go.Proofs.Ytaaedebknacheaa.AB

set_option linter.unusedVariables false
set_option linter.unusedSimpArgs false
set_option maxRecDepth 100000
set_option maxHeartbeats 2000000
namespace Go.Proofs.Ytaaedebknacheaa.AB
open Go
/-! crucible/cruciblelaw4.pick -/
noncomputable def X32 : Cx := ⟨tt, [], [], [], []⟩
theorem FN32 : fnsB Try.prog X32.fns := (show True from trivial)
theorem E32 (c0 : Int) (n1 : Int) {R : V → Prop} (h : (((decide (c0 < (0 : Int))) = true → (n1 ≠ 0 ∧ R (.int .i64 ((Int.tmod (IntKind.wrap .i64 (0 - (IntKind.wrap .i64 (c0 + (1 : Int))))) n1))))) ∧
 ((decide (c0 < (0 : Int))) = false → (n1 ≠ 0 ∧ R (.int .i64 (Int.tmod c0 n1)))))) :
  fnK X32.tt (callN Try.prog X32 0) (X32.md 32) (X32.mk1 32) Try.f32 [(.v (.int .i64 c0)), (.v (.int .i64 n1))] ⟨[], [], ⟨0, []⟩⟩ (topK R) := Eq.mp (by kernel_rfl) h
end Go.Proofs.Ytaaedebknacheaa.AB

set_option linter.unusedVariables false
set_option linter.unusedSimpArgs false
namespace Go.Proofs.Ytaaedebknacheaa.AB
open Go

theorem p32 (c n : Int) (h1 : -9223372036854775808 ≤ c) (h2 : c ≤ 9223372036854775807) (hn : 0 < n) : ∃ k : Int, 0 ≤ k ∧ k < n ∧ PC Try.prog 32 [.int .i64 c, .int .i64 n] (.int .i64 k) := by
  by_cases hc : c < 0
  · refine ⟨Int.tmod (-(c + 1)) n, Int.tmod_nonneg _ (by omega), Int.tmod_lt_of_pos _ hn, ?_⟩
    refine pcOf (X := X32) (d := 0) rfl trivial (by kernel_rfl) (by decide) (E32 c n ⟨fun _ => ⟨by omega, retI ?_⟩, fun h => absurd hc (by simpa using h)⟩)
    rw [wrap64 (x := c + 1) (by omega) (by omega), wrap64 (by omega) (by omega), Int.zero_sub]
  · refine ⟨Int.tmod c n, Int.tmod_nonneg _ (by omega), Int.tmod_lt_of_pos _ hn, ?_⟩
    exact pcOf (X := X32) (d := 0) rfl trivial (by kernel_rfl) (by decide) (E32 c n ⟨fun h => absurd (by simpa using h) hc, fun _ => ⟨by omega, retI rfl⟩⟩)

/-- an instruction further on -/
def shI (d : Int) (x : Ins) : Ins := (x.1 + d, x.2.1, x.2.2.1, x.2.2.2.1, x.2.2.2.2.map (· + d))

theorem shI_zero (x : Ins) : shI 0 x = x := by
  unfold shI
  have : (fun y : Int => y + 0) = id := by funext y; exact Int.add_zero y
  simp [this]

theorem isPc_append {a b : List Ins} {pc : Int} : isPc (a ++ b) pc = (isPc a pc || isPc b pc) := by
  unfold isPc; rw [List.any_append]

theorem isPc_sh {l : List Ins} {d pc : Int} : isPc (l.map (shI d)) (pc + d) = isPc l pc := by
  unfold isPc
  rw [List.any_map]
  congr 1
  funext x
  simp only [Function.comp, shI]
  have : (x.1 + d == pc + d) = (x.1 == pc) := by
    rw [Bool.eq_iff_iff]; simp
  exact this

/-- do all jumps lead to an instruction -/
def allLand (l : List Ins) : Bool := l.all fun x => x.2.2.2.2.all fun to => isPc l to

theorem allLand_iff {l : List Ins} : allLand l = true ↔ ∀ x ∈ l, ∀ to ∈ x.2.2.2.2, isPc l to = true := by
  unfold allLand
  rw [List.all_eq_true]
  exact forall_congr' fun x => forall_congr' fun _ => List.all_eq_true

theorem endsE_eq (l : List Ins) : endsE l = if allLand l then (if isEnd (l.getD (l.length - 1) D0).2.1 then 0 else 13) else 12 := rfl

theorem sh_lands {l m : List Ins} {d : Int} (h : allLand l = true) (hm : ∀ pc, isPc l pc = true → isPc m (pc + d) = true) :
    ∀ x ∈ l.map (shI d), ∀ to ∈ x.2.2.2.2, isPc m to = true := by
  intro x hx to hto
  obtain ⟨y, hy, rfl⟩ := List.mem_map.1 hx
  obtain ⟨z, hz, rfl⟩ := List.mem_map.1 hto
  exact hm _ (allLand_iff.1 h y hy z hz)

theorem last_append {a b : List Ins} {d : Int} (hb : b ≠ []) : ((a ++ b.map (shI d)).getD ((a ++ b.map (shI d)).length - 1) D0).2.1 = (b.getD (b.length - 1) D0).2.1 := by
  have hp : 0 < b.length := List.length_pos_iff.2 hb
  have h1 : (a ++ b.map (shI d)).length - 1 = a.length + (b.length - 1) := by simp; omega
  rw [h1]
  simp only [List.getD]
  rw [List.getElem?_append_right (by omega), Nat.add_sub_cancel_left, List.getElem?_map]
  rw [List.getElem?_eq_getElem (by omega)]
  rfl

/-- the same code, at another place of longer code -/
theorem Chn.shift {s s' : List UInt8} {d : Nat} {l2 : List Ins} (hl : s.length + d ≤ s'.length) (hend : Chn s' (s.length + d) l2) {pc : Nat} {l : List Ins} (h : Chn s pc l)
    (hs : ∀ j, j < s.length → byte s' (j + d) = byte s j) : Chn s' (pc + d) (l.map (shI d) ++ l2) := by
  induction h with
  | nil => exact hend
  | @cons pc l h he hr ih =>
    obtain ⟨k1, k2, k3, _⟩ := oneI_ok h he
    obtain ⟨g1, g2, g3⟩ := oneI_size he
    have hb : byte s' (pc + d) = byte s pc := hs pc h
    have key := oneI_agree (s := s) (s' := s') (pc := pc) (pc' := pc + d) (d := d) (by omega) he (by omega) (by rw [hb]) (fun j h1 h2 => by
      have := hs (pc + j) (by omega)
      rwa [show pc + d + j = pc + j + d by omega])
    have hone : (oneI s' (pc + d)).1 = shI d (oneI s pc).1 := by
      rw [key]
      unfold shI
      rw [g2, g3, hb]
      simp
    have hsz : (oneI s' (pc + d)).2.1 = (oneI s pc).2.1 := by rw [key]
    have herr : (oneI s' (pc + d)).2.2 = 0 := by rw [key]
    have := Chn.cons (s := s') (pc := pc + d) (l := l.map (shI d) ++ l2) (by omega) herr (by
      rw [hsz]
      have : pc + d + (oneI s pc).2.1.toNat = pc + (oneI s pc).2.1.toNat + d := by omega
      rw [this]; exact ih)
    rw [hone] at this
    exact this

theorem byte_append_left {s t : List UInt8} {i : Nat} (h : i < s.length) : byte (s ++ t) i = byte s i := by
  unfold byte
  rw [getD_lt h, getD_lt (by simp; omega), List.getElem_append_left h]

theorem byte_append_right {s t : List UInt8} {i : Nat} : byte (s ++ t) (i + s.length) = byte t i := by
  unfold byte
  congr 2
  simp [List.getD, List.getElem?_append_right]

theorem decodeI_joins {s t : List UInt8} {a b : List Ins} (ha : decodeI s = (a, 0)) (hb : decodeI t = (b, 0)) (hl : s.length + t.length ≤ 4096) :
    decodeI (s ++ t) = (a ++ b.map (shI s.length), 0) := by
  have ca := decodeI_ok ha
  have cb := decodeI_ok hb
  have na := decodeI_chn ha
  have nb := decodeI_chn hb
  have h1 : Chn (s ++ t) (t.length + s.length) [] := by
    have : t.length + s.length = (s ++ t).length := by simp; omega
    rw [this]; exact .nil
  have h2 := Chn.shift (s := t) (s' := s ++ t) (d := s.length) (by simp; omega) h1 nb (fun j hj => byte_append_right)
  rw [Nat.zero_add, List.append_nil] at h2
  have h3 := Chn.shift (s := s) (s' := s ++ t) (d := 0) (by simp) (by rw [Nat.add_zero]; exact h2) na (fun j hj => byte_append_left hj)
  have hid : a.map (shI ((0 : Nat) : Int)) = a := by
    have : shI ((0 : Nat) : Int) = id := by funext x; exact shI_zero x
    rw [this, List.map_id]
  rw [hid] at h3
  have hsc := h3.scan
  have hne : b ≠ [] := by obtain ⟨x, r, e, _⟩ := cb.first; rw [e]; simp
  have hne' : a ≠ [] := by obtain ⟨x, r, e, _⟩ := ca.first; rw [e]; simp
  have hland : allLand (a ++ b.map (shI s.length)) = true := by
    rw [allLand_iff]
    intro x hx to hto
    rw [isPc_append, Bool.or_eq_true]
    rcases List.mem_append.1 hx with hx | hx
    · exact .inl (ca.lands x hx to hto)
    · obtain ⟨y, hy, rfl⟩ := List.mem_map.1 hx
      obtain ⟨z, hz, rfl⟩ := List.mem_map.1 hto
      exact .inr (by rw [isPc_sh]; exact cb.lands y hy z hz)
  have hends : endsE (a ++ b.map (shI s.length)) = 0 := by
    rw [endsE_eq, if_pos hland, last_append hne, cb.last]; rfl
  have hs0 : s ≠ [] := fun e => by subst e; have := ca.first; obtain ⟨x, r, e, _⟩ := this; have := ca.len; rw [e] at this; simp at this
  unfold decodeI
  rw [if_neg (by simp [hs0]), if_neg (by simp; omega)]
  unfold scanAt at hsc
  rw [Nat.add_zero, Nat.sub_zero] at hsc
  rw [hsc]
  simp [hends]

/-- one instruction, of what stands behind something else -/
theorem oneI_behind {s s' : List UInt8} {d : Nat} (h : s'.drop d = s) (pc : Nat) : oneI s' (pc + d) = (shI d (oneI s pc).1, (oneI s pc).2) := by
  have hb : byte s' (pc + d) = byte s pc := by rw [← h, byte_drop, Nat.add_comm]
  have hr : s'.drop (pc + d + 1) = s.drop (pc + 1) := by rw [← h, List.drop_drop]; congr 1; omega
  unfold oneI
  simp only [hb, hr]
  have ht : ∀ n, tosOf (s.drop (pc + 1)) ((pc : Int) + (d : Int)) n = (tosOf (s.drop (pc + 1)) pc n).map (· + (d : Int)) := by
    intro n
    unfold tosOf
    rw [List.map_map]
    refine List.map_congr_left fun i _ => ?_
    simp only [Function.comp]
    omega
  have e : ∀ z : Int, (pc : Int) + (d : Int) + z = (pc : Int) + z + d := fun z => by omega
  repeat' split
  all_goals simp only [shI, List.map_nil, List.map_cons, ht, e, Int.natCast_add]

theorem scan_behind {s s' : List UInt8} {d : Nat} (h : s'.drop d = s) (hl : s'.length = s.length + d) : ∀ (n pc : Nat), s.length - pc ≤ n →
    scanAt s' (pc + d) = ((scanAt s pc).1.map (shI d), (scanAt s pc).2) := by
  intro n
  induction n with
  | zero =>
    intro pc hn
    unfold scanAt
    have h1 : s.length - pc = 0 := by omega
    have h2 : s'.length - (pc + d) = 0 := by omega
    rw [h1, h2]; rfl
  | succ n ih =>
    intro pc hn
    rcases Nat.lt_or_ge pc s.length with hlt | hge
    · rw [scanAt_step (s := s') (by omega), scanAt_step hlt, oneI_behind h]
      by_cases he : (oneI s pc).2.2 = 0
      · obtain ⟨k1, k2, k3, _⟩ := oneI_ok hlt he
        have e : pc + d + (shI d (oneI s pc).1, (oneI s pc).2).2.1.toNat = pc + (oneI s pc).2.1.toNat + d := by
          show pc + d + (oneI s pc).2.1.toNat = _
          omega
        rw [e, ih _ (by omega)]
        generalize scanAt s (pc + (oneI s pc).2.1.toNat) = q
        obtain ⟨l, e'⟩ := q
        simp only [he, ne_eq, not_true_eq_false, if_false]
        split <;> simp
      · simp only [ne_eq, he, not_false_eq_true, if_true, List.map_nil]
    · unfold scanAt
      have h1 : s.length - pc = 0 := by omega
      have h2 : s'.length - (pc + d) = 0 := by omega
      rw [h1, h2]; rfl

/-- instructions with nops ahead of them -/
def nopsL : Nat → List Ins → List Ins
  | 0, l => l
  | n + 1, l => (0, 0, 0, [], []) :: (nopsL n l).map (shI 1)

theorem nopsL_len (n : Nat) (l : List Ins) : (nopsL n l).length = n + l.length := by
  induction n with
  | zero => simp [nopsL]
  | succ n ih => simp [nopsL, ih]; omega

theorem shI_shI (a b : Int) (x : Ins) : shI a (shI b x) = shI (b + a) x := by
  unfold shI
  simp only [List.map_map, Prod.mk.injEq, true_and]
  refine ⟨by omega, List.map_congr_left fun y _ => ?_⟩
  simp only [Function.comp]
  omega

theorem getD_map {α β : Type} (f : α → β) {l : List α} {i : Nat} {d : α} {d' : β} (h : i < l.length) : (l.map f).getD i d' = f (l.getD i d) := by
  rw [getD_lt (by simpa using h), getD_lt h, List.getElem_map]

theorem nopsL_get (n : Nat) (l : List Ins) {i : Nat} (hi : i < l.length) : (nopsL n l).getD (i + n) D0 = shI n (l.getD i D0) := by
  induction n with
  | zero => simp [nopsL, shI_zero]
  | succ n ih =>
    show ((0, 0, 0, [], []) :: (nopsL n l).map (shI 1)).getD (i + n + 1) D0 = _
    rw [List.getD_cons_succ, getD_map (shI 1) (d := D0) (by rw [nopsL_len]; omega), ih, shI_shI]
    congr 1

theorem nops_scan (s : List UInt8) (n : Nat) : scanAt (List.replicate n 0 ++ s) 0 = (if (scanAt s 0).2 = 0 then nopsL n (scanAt s 0).1 else (scanAt s 0).1, (scanAt s 0).2) := by
  induction n with
  | zero => simp only [List.replicate_zero, List.nil_append, nopsL]; split <;> rfl
  | succ n ih =>
    have hone : oneI (List.replicate (n + 1) 0 ++ s) 0 = ((0, 0, 0, [], []), 1, 0) := by
      have hb : byte (List.replicate (n + 1) 0 ++ s) 0 = 0 := rfl
      have hf : form 0 = 45 := by decide
      unfold oneI
      simp only [hb, hf, Int.reduceEq, if_true, if_false]
      rfl
    have hb := scan_behind (s := List.replicate n 0 ++ s) (s' := List.replicate (n + 1) 0 ++ s) (d := 1) rfl (by simp; omega) _ 0 (Nat.le_refl _)
    rw [Nat.zero_add] at hb
    have e : 0 + ((((0, 0, 0, [], []), 1, 0) : Ins × Int × Int).2.1).toNat = 1 := rfl
    rw [scanAt_step (by simp; omega), hone, e, hb, ih]
    by_cases hz : (scanAt s 0).2 = 0
    · simp [hz, nopsL]
    · simp only [hz, if_false, ne_eq, not_true_eq_false, not_false_eq_true, if_true]
      have : (scanAt s 0).1 = [] := scan_err _ _ _ _ _ rfl hz
      rw [this]

theorem nopsL_ends (n : Nat) {l : List Ins} (hl : l ≠ []) (h : allLand l = true) : allLand (nopsL n l) = true ∧ endsE (nopsL n l) = endsE l := by
  have hne : ∀ n, nopsL n l ≠ [] := fun n e => by
    have := nopsL_len n l
    rw [e] at this
    have := List.length_pos_iff.2 hl
    simp at *
    omega
  have key : allLand (nopsL n l) = true ∧ ((nopsL n l).getD ((nopsL n l).length - 1) D0).2.1 = (l.getD (l.length - 1) D0).2.1 := by
    induction n with
    | zero => exact ⟨h, rfl⟩
    | succ n ih =>
      constructor
      · rw [allLand_iff]
        intro x hx to hto
        rcases List.mem_cons.1 hx with rfl | hx
        · cases hto
        · refine sh_lands (m := nopsL (n + 1) l) ih.1 (fun pc hpc => ?_) x hx to hto
          have : nopsL (n + 1) l = [(0, 0, 0, [], [])] ++ (nopsL n l).map (shI 1) := rfl
          rw [this, isPc_append, isPc_sh, hpc, Bool.or_true]
      · have : nopsL (n + 1) l = [(0, 0, 0, [], [])] ++ (nopsL n l).map (shI 1) := rfl
        rw [this, last_append (hne n), ih.2]
  refine ⟨key.1, ?_⟩
  rw [endsE_eq, endsE_eq, key.1, h, key.2]

theorem decodeI_scan {s : List UInt8} (h : s ≠ []) (hl : s.length ≤ 4096) : decodeI s = if (scanAt s 0).2 ≠ 0 then ([], (scanAt s 0).2) else if endsE (scanAt s 0).1 ≠ 0 then ([], endsE (scanAt s 0).1) else ((scanAt s 0).1, 0) := by
  unfold decodeI
  rw [if_neg h, if_neg (by omega)]
  unfold scanAt
  rw [Nat.sub_zero]

theorem decodeI_moves {s : List UInt8} {n : Nat} (hs : s ≠ []) (hl : s.length + n ≤ 4096) (h12 : (decodeI s).2 ≠ 12) :
    decodeI (List.replicate n 0 ++ s) = (if (decodeI s).2 = 0 then nopsL n (decodeI s).1 else [], (decodeI s).2) := by
  have hd := decodeI_scan hs (by omega)
  have hd' := decodeI_scan (s := List.replicate n 0 ++ s) (by simp [hs]) (by simp; omega)
  rw [nops_scan] at hd'
  by_cases hz : (scanAt s 0).2 = 0
  · simp only [hz, ne_eq, not_true_eq_false, if_false, if_true] at hd hd'
    have hne : (scanAt s 0).1 ≠ [] := by
      have h1 : scanAt s 0 = ((scanAt s 0).1, 0) := by rw [← hz]
      have hpos : 0 < s.length := List.length_pos_iff.2 hs
      unfold scanAt at h1
      rw [Nat.sub_zero] at h1
      obtain ⟨_, _, _, i4⟩ := scan_ok s (by omega) s.length 0 (by omega) _ h1
      obtain ⟨x, r, hx, _⟩ := i4 hpos
      unfold scanAt
      rw [Nat.sub_zero, hx]; simp
    have hland : allLand (scanAt s 0).1 = true := by
      by_cases ha : allLand (scanAt s 0).1 = true
      · exact ha
      · exfalso
        have he : endsE (scanAt s 0).1 = 12 := by rw [endsE_eq, if_neg ha]
        rw [he] at hd
        rw [hd] at h12
        exact h12 (by simp)
    obtain ⟨_, he⟩ := nopsL_ends n hne hland
    rw [hd', he, hd]
    by_cases hq : endsE (scanAt s 0).1 = 0
    · simp [hq]
    · simp [hq]
  · simp only [hz, ne_eq, not_false_eq_true, if_true, if_false] at hd hd'
    rw [hd', hd]
    simp [hz]

end Go.Proofs.Ytaaedebknacheaa.AB

set_option linter.unusedVariables false
set_option linter.unusedSimpArgs false
set_option maxRecDepth 100000
set_option maxHeartbeats 2000000
namespace Go.Proofs.Ytaaedebknacheaa.AB
open Go
/-! crucible/code.right -/
noncomputable def X69 : Cx := ⟨tt, [(28, [.cd (.int .u8)]), (91, [.cd .bool])], [], [], []⟩
theorem FN69 : fnsB Try.prog X69.fns := (show True from trivial)
theorem E69 (x0 : (Int × (Int × (Int × ((List Int) × (List Int)))))) {R : V → Prop} (h : (∃ p1 : Int, PC Try.prog 28 [(.int .i64 x0.2.1)] (.int .u8 p1) ∧ (((p1 == (0 : Int)) = true → R (.int .i64 (11 : Int))) ∧
 ((p1 == (0 : Int)) = false → (((p1 == (98 : Int)) = true → (((decide (x0.2.2.1 < (0 : Int))) = true → R (.int .i64 (1 : Int))) ∧ ((decide (x0.2.2.1 < (0 : Int))) = false → (((decide (x0.2.2.1 > (255 : Int))) = true → R (.int .i64 (1 : Int))) ∧ ((decide (x0.2.2.1 > (255 : Int))) = false → (((((x0.2.2.2.2).length : Int) != (0 : Int)) = true → R (.int .i64 (1 : Int))) ∧ ((((x0.2.2.2.2).length : Int) != (0 : Int)) = false → (((x0.2.1 != (30 : Int)) = true → (((decide (((x0.2.2.2.1).length : Int) > (0 : Int))) = true → R (.int .i64 (1 : Int))) ∧ ((decide (((x0.2.2.2.1).length : Int) > (0 : Int))) = false → (((decide (((x0.2.2.2.1).length : Int) > (1022 : Int))) = true → R (.int .i64 (1 : Int))) ∧ ((decide (((x0.2.2.2.1).length : Int) > (1022 : Int))) = false → (∃ p2 : Bool, PC Try.prog 91 [(.list (.int .i64) x0.2.2.2.1 .no), (.fn 95)] (.bool p2) ∧ ((p2 = true → R (.int .i64 (1 : Int))) ∧
 (p2 = false → R (.int .i64 (0 : Int)))))))))) ∧ ((x0.2.1 != (30 : Int)) = false → (((decide (((x0.2.2.2.1).length : Int) > (1022 : Int))) = true → R (.int .i64 (1 : Int))) ∧ ((decide (((x0.2.2.2.1).length : Int) > (1022 : Int))) = false → (∃ p3 : Bool, PC Try.prog 91 [(.list (.int .i64) x0.2.2.2.1 .no), (.fn 95)] (.bool p3) ∧ ((p3 = true → R (.int .i64 (1 : Int))) ∧
 (p3 = false → R (.int .i64 (0 : Int)))))))))))))))) ∧
 ((p1 == (98 : Int)) = false → (((p1 == (110 : Int)) = true → (((decide (x0.2.2.1 < (0 : Int))) = true → R (.int .i64 (1 : Int))) ∧ ((decide (x0.2.2.1 < (0 : Int))) = false → (((decide (x0.2.2.1 > (65535 : Int))) = true → R (.int .i64 (1 : Int))) ∧ ((decide (x0.2.2.1 > (65535 : Int))) = false → (((((x0.2.2.2.2).length : Int) != (0 : Int)) = true → R (.int .i64 (1 : Int))) ∧ ((((x0.2.2.2.2).length : Int) != (0 : Int)) = false → (((x0.2.1 != (30 : Int)) = true → (((decide (((x0.2.2.2.1).length : Int) > (0 : Int))) = true → R (.int .i64 (1 : Int))) ∧ ((decide (((x0.2.2.2.1).length : Int) > (0 : Int))) = false → (((decide (((x0.2.2.2.1).length : Int) > (1022 : Int))) = true → R (.int .i64 (1 : Int))) ∧ ((decide (((x0.2.2.2.1).length : Int) > (1022 : Int))) = false → (∃ p4 : Bool, PC Try.prog 91 [(.list (.int .i64) x0.2.2.2.1 .no), (.fn 95)] (.bool p4) ∧ ((p4 = true → R (.int .i64 (1 : Int))) ∧
 (p4 = false → R (.int .i64 (0 : Int)))))))))) ∧ ((x0.2.1 != (30 : Int)) = false → (((decide (((x0.2.2.2.1).length : Int) > (1022 : Int))) = true → R (.int .i64 (1 : Int))) ∧ ((decide (((x0.2.2.2.1).length : Int) > (1022 : Int))) = false → (∃ p5 : Bool, PC Try.prog 91 [(.list (.int .i64) x0.2.2.2.1 .no), (.fn 95)] (.bool p5) ∧ ((p5 = true → R (.int .i64 (1 : Int))) ∧
 (p5 = false → R (.int .i64 (0 : Int)))))))))))))))) ∧
 ((p1 == (110 : Int)) = false → (((p1 == (106 : Int)) = true → (((decide (x0.2.2.1 < (0 : Int))) = true → R (.int .i64 (1 : Int))) ∧ ((decide (x0.2.2.1 < (0 : Int))) = false → (((decide (x0.2.2.1 > (0 : Int))) = true → R (.int .i64 (1 : Int))) ∧ ((decide (x0.2.2.1 > (0 : Int))) = false → (((((x0.2.2.2.2).length : Int) != (1 : Int)) = true → R (.int .i64 (1 : Int))) ∧ ((((x0.2.2.2.2).length : Int) != (1 : Int)) = false → (((x0.2.1 != (30 : Int)) = true → (((decide (((x0.2.2.2.1).length : Int) > (0 : Int))) = true → R (.int .i64 (1 : Int))) ∧ ((decide (((x0.2.2.2.1).length : Int) > (0 : Int))) = false → (((decide (((x0.2.2.2.1).length : Int) > (1022 : Int))) = true → R (.int .i64 (1 : Int))) ∧ ((decide (((x0.2.2.2.1).length : Int) > (1022 : Int))) = false → (∃ p6 : Bool, PC Try.prog 91 [(.list (.int .i64) x0.2.2.2.1 .no), (.fn 95)] (.bool p6) ∧ ((p6 = true → R (.int .i64 (1 : Int))) ∧
 (p6 = false → R (.int .i64 (0 : Int)))))))))) ∧ ((x0.2.1 != (30 : Int)) = false → (((decide (((x0.2.2.2.1).length : Int) > (1022 : Int))) = true → R (.int .i64 (1 : Int))) ∧ ((decide (((x0.2.2.2.1).length : Int) > (1022 : Int))) = false → (∃ p7 : Bool, PC Try.prog 91 [(.list (.int .i64) x0.2.2.2.1 .no), (.fn 95)] (.bool p7) ∧ ((p7 = true → R (.int .i64 (1 : Int))) ∧
 (p7 = false → R (.int .i64 (0 : Int)))))))))))))))) ∧
 ((p1 == (106 : Int)) = false → (((p1 == (115 : Int)) = true → (((decide (x0.2.2.1 < (0 : Int))) = true → R (.int .i64 (1 : Int))) ∧ ((decide (x0.2.2.1 < (0 : Int))) = false → (((decide (x0.2.2.1 > (0 : Int))) = true → R (.int .i64 (1 : Int))) ∧ ((decide (x0.2.2.1 > (0 : Int))) = false → (((((x0.2.2.2.2).length : Int) != (IntKind.wrap .i64 (((x0.2.2.2.1).length : Int) + (1 : Int)))) = true → R (.int .i64 (1 : Int))) ∧ ((((x0.2.2.2.2).length : Int) != (IntKind.wrap .i64 (((x0.2.2.2.1).length : Int) + (1 : Int)))) = false → (((x0.2.1 != (30 : Int)) = true → (((decide (((x0.2.2.2.1).length : Int) > (0 : Int))) = true → R (.int .i64 (1 : Int))) ∧ ((decide (((x0.2.2.2.1).length : Int) > (0 : Int))) = false → (((decide (((x0.2.2.2.1).length : Int) > (1022 : Int))) = true → R (.int .i64 (1 : Int))) ∧ ((decide (((x0.2.2.2.1).length : Int) > (1022 : Int))) = false → (∃ p8 : Bool, PC Try.prog 91 [(.list (.int .i64) x0.2.2.2.1 .no), (.fn 95)] (.bool p8) ∧ ((p8 = true → R (.int .i64 (1 : Int))) ∧
 (p8 = false → R (.int .i64 (0 : Int)))))))))) ∧ ((x0.2.1 != (30 : Int)) = false → (((decide (((x0.2.2.2.1).length : Int) > (1022 : Int))) = true → R (.int .i64 (1 : Int))) ∧ ((decide (((x0.2.2.2.1).length : Int) > (1022 : Int))) = false → (∃ p9 : Bool, PC Try.prog 91 [(.list (.int .i64) x0.2.2.2.1 .no), (.fn 95)] (.bool p9) ∧ ((p9 = true → R (.int .i64 (1 : Int))) ∧
 (p9 = false → R (.int .i64 (0 : Int)))))))))))))))) ∧
 ((p1 == (115 : Int)) = false → (((decide (x0.2.2.1 < (0 : Int))) = true → R (.int .i64 (1 : Int))) ∧ ((decide (x0.2.2.1 < (0 : Int))) = false → (((decide (x0.2.2.1 > (0 : Int))) = true → R (.int .i64 (1 : Int))) ∧ ((decide (x0.2.2.1 > (0 : Int))) = false → (((((x0.2.2.2.2).length : Int) != (0 : Int)) = true → R (.int .i64 (1 : Int))) ∧ ((((x0.2.2.2.2).length : Int) != (0 : Int)) = false → (((x0.2.1 != (30 : Int)) = true → (((decide (((x0.2.2.2.1).length : Int) > (0 : Int))) = true → R (.int .i64 (1 : Int))) ∧ ((decide (((x0.2.2.2.1).length : Int) > (0 : Int))) = false → (((decide (((x0.2.2.2.1).length : Int) > (1022 : Int))) = true → R (.int .i64 (1 : Int))) ∧ ((decide (((x0.2.2.2.1).length : Int) > (1022 : Int))) = false → (∃ p10 : Bool, PC Try.prog 91 [(.list (.int .i64) x0.2.2.2.1 .no), (.fn 95)] (.bool p10) ∧ ((p10 = true → R (.int .i64 (1 : Int))) ∧
 (p10 = false → R (.int .i64 (0 : Int)))))))))) ∧ ((x0.2.1 != (30 : Int)) = false → (((decide (((x0.2.2.2.1).length : Int) > (1022 : Int))) = true → R (.int .i64 (1 : Int))) ∧ ((decide (((x0.2.2.2.1).length : Int) > (1022 : Int))) = false → (∃ p11 : Bool, PC Try.prog 91 [(.list (.int .i64) x0.2.2.2.1 .no), (.fn 95)] (.bool p11) ∧ ((p11 = true → R (.int .i64 (1 : Int))) ∧
 (p11 = false → R (.int .i64 (0 : Int))))))))))))))))))))))))))) :
  fnK X69.tt (callN Try.prog X69 0) (X69.md 69) (X69.mk1 69) Try.f69 [(.v (.agg [(.int .i64 x0.1), (.int .i64 x0.2.1), (.int .i64 x0.2.2.1), (.list (.int .i64) x0.2.2.2.1 .no), (.list (.int .i64) x0.2.2.2.2 .no)]))] ⟨[], [], ⟨0, []⟩⟩ (topK R) := Eq.mp (by kernel_rfl) h
end Go.Proofs.Ytaaedebknacheaa.AB

set_option linter.unusedVariables false
set_option linter.unusedSimpArgs false
set_option maxRecDepth 100000
set_option maxHeartbeats 2000000
namespace Go.Proofs.Ytaaedebknacheaa.AB
open Go
/-! slices.ContainsFunc[[]int,int] -/
noncomputable def X91 : Cx := ⟨tt, [(104, [.cd (.int .i64)])], [], [], []⟩
theorem FN91 : fnsB Try.prog X91.fns := (show True from trivial)
theorem E91 (s0 : (List Int)) {R : V → Prop} (h : (∃ p1 : Int, PC Try.prog 104 [(.list (.int .i64) s0 .no), (.fn 95)] (.int .i64 p1) ∧ R (.bool ((decide (p1 ≥ (0 : Int))))))) :
  fnK X91.tt (callN Try.prog X91 0) (X91.md 91) (X91.mk1 91) Try.f91 [(.v (.list (.int .i64) s0 .no)), (.v (.fn 95))] ⟨[], [], ⟨0, []⟩⟩ (topK R) := Eq.mp (by kernel_rfl) h
end Go.Proofs.Ytaaedebknacheaa.AB

set_option linter.unusedVariables false
set_option linter.unusedSimpArgs false
set_option maxRecDepth 100000
set_option maxHeartbeats 2000000
namespace Go.Proofs.Ytaaedebknacheaa.AB
open Go
/-! crucible/code.right$1 -/
noncomputable def X95 : Cx := ⟨tt, [], [], [], []⟩
theorem FN95 : fnsB Try.prog X95.fns := (show True from trivial)
theorem E95 (k0 : Int) {R : V → Prop} (h : (((decide (k0 < (0 : Int))) = true → R (.bool true)) ∧ ((decide (k0 < (0 : Int))) = false → R (.bool ((decide (k0 ≥ (65536 : Int)))))))) :
  fnK X95.tt (callN Try.prog X95 0) (X95.md 95) (X95.mk1 95) Try.f95 [(.v (.int .i64 k0))] ⟨[], [], ⟨0, []⟩⟩ (topK R) := Eq.mp (by kernel_rfl) h
end Go.Proofs.Ytaaedebknacheaa.AB

set_option linter.unusedVariables false
set_option linter.unusedSimpArgs false
set_option maxRecDepth 100000
set_option maxHeartbeats 2000000
namespace Go.Proofs.Ytaaedebknacheaa.AB
open Go
/-! slices.IndexFunc[[]int,int] -/
noncomputable def X104 : Cx := ⟨tt, [(95, [.cd .bool])], [], [(104, [(0, mkM 19 0 [0, 1, 7, 8], 0)])], []⟩
theorem FN104 : fnsB Try.prog X104.fns := (show True from trivial)
def M104_0 : List Bool × Nat := (mkM 19 0 [0, 1, 7, 8], 0)
def S104_0 (s0 : List Int) (t7 : Int) (t8 : Int) (T : Toks) : St :=
  mkS 19 [(0, (.v (.list (.int .i64) s0 .no))), (1, (.v (.fn 95))), (7, (.v (.int .i64 t7))), (8, (.v (.int .i64 t8)))] [] T
noncomputable def B104_0 : (Exit → St → Prop) → St → Prop := (awp X104.tt (callN Try.prog X104 0) (X104.md 104) 0 (X104.mk1 104) 0 (codeAt [1, 0, 1, 0, 0] (bd Try.f104)))
noncomputable def K104_0 (R : V → Prop) : Exit → St → Prop := seqK ((awp X104.tt (callN Try.prog X104 0) (X104.md 104) 0 (X104.mk1 104) 0 (codeAt [1, 1] (bd Try.f104))) (retK tt Try.f104.results.toList fun x s' => topK R x ⟨[], s'.hp, s'.T⟩)) (retK tt Try.f104.results.toList fun x s' => topK R x ⟨[], s'.hp, s'.T⟩)
noncomputable def Q104_0 (R : V → Prop) : Exit → St → Prop := (blockK 0 (K104_0 R))
theorem E104 (s0 : (List Int)) {R : V → Prop} (h : (Loops B104_0 M104_0 (Q104_0 R)
  (S104_0 s0 (((s0).length : Int)) (0 : Int) ⟨0, []⟩))) :
  fnK X104.tt (callN Try.prog X104 0) (X104.md 104) (X104.mk1 104) Try.f104 [(.v (.list (.int .i64) s0 .no)), (.v (.fn 95))] ⟨[], [], ⟨0, []⟩⟩ (topK R) := Eq.mp (by kernel_rfl) h
theorem L104_0 (s0 : List Int) (t7 : Int) (t8 : Int) (T : Toks) {R : V → Prop} {k0 : St → Prop}
 (h : (((decide (t8 < t7)) = true → (0 ≤ t8 ∧ t8 < ((s0).length : Int) ∧ (∃ p1 : Bool, PC Try.prog 95 [(.int .i64 ((s0.getD (t8).toNat 0)))] (.bool p1) ∧ ((p1 = true → R (.int .i64 t8)) ∧
 (p1 = false → k0 (S104_0 s0 t7 ((IntKind.wrap .i64 (t8 + (1 : Int)))) T)))))) ∧
 ((decide (t8 < t7)) = false → R (.int .i64 (-1 : Int))))) :
  B104_0 (loopQ M104_0 k0 (Q104_0 R)) (S104_0 s0 t7 t8 T) := Eq.mp (by kernel_rfl) h
end Go.Proofs.Ytaaedebknacheaa.AB

set_option linter.unusedVariables false
set_option linter.unusedSimpArgs false
set_option maxRecDepth 100000
set_option maxHeartbeats 2000000
namespace Go.Proofs.Ytaaedebknacheaa.AB
open Go
/-! crucible/crucibleref4.right -/
noncomputable def X71 : Cx := ⟨tt, [(29, [.cd (.int .u8)]), (97, [.cd .bool])], [], [(71, [(1, mkM 79 0 [2, 6, 9, 11], 1)])], []⟩
theorem FN71 : fnsB Try.prog X71.fns := (show True from trivial)
def M71_1 : List Bool × Nat := (mkM 79 0 [2, 6, 9, 11], 1)
def S71_1 (size6 : Int) (keys9 : Int) (i11 : Int) (hq0_0 : Int) (hq0_1 : Int) (hq0_2 : Int) (hq0_3 : List Int) (hq0_3k : Tok) (hq0_4 : List Int) (hq0_4k : Tok) (T : Toks) : St :=
  mkS 79 [(2, (.ptr 0 0 0 0)), (6, (.v (.int .i64 size6))), (9, (.v (.int .i64 keys9))), (11, (.v (.int .i64 i11)))] [(some (.box (.v (.agg [(.int .i64 hq0_0), (.int .i64 hq0_1), (.int .i64 hq0_2), (.list (.int .i64) hq0_3 hq0_3k), (.list (.int .i64) hq0_4 hq0_4k)]))))] T
noncomputable def B71_1 : (Exit → St → Prop) → St → Prop := (awp X71.tt (callN Try.prog X71 0) (X71.md 71) 0 (X71.mk1 71) 1 (codeAt [1, 1, 1, 1, 1, 1, 1, 1, 0, 1, 0, 0] (bd Try.f71)))
noncomputable def K71_0 (R : V → Prop) : Exit → St → Prop := seqK ((awp X71.tt (callN Try.prog X71 0) (X71.md 71) 0 (X71.mk1 71) 0 (codeAt [1, 1, 1, 1, 1, 1, 1, 1, 1] (bd Try.f71))) (retK tt Try.f71.results.toList fun x s' => topK R x ⟨[], s'.hp, s'.T⟩)) (retK tt Try.f71.results.toList fun x s' => topK R x ⟨[], s'.hp, s'.T⟩)
noncomputable def Q71_1 (R : V → Prop) : Exit → St → Prop := (blockK 1 (K71_0 R))
theorem E71 (x0 : (Int × (Int × (Int × ((List Int) × (List Int)))))) (pc1 : Int) {R : V → Prop} (h : (∃ p1 : Int, PC Try.prog 29 [(.int .i64 x0.2.1)] (.int .u8 p1) ∧ (((p1 == (0 : Int)) = true → R (.tup [(.int .i64 (0 : Int)), (.int .i64 (11 : Int))])) ∧
 ((p1 == (0 : Int)) = false → (((p1 == (98 : Int)) = true → (∃ p2 : Bool, PC Try.prog 97 [(.int .i64 x0.2.2.1), (.int .i64 (255 : Int))] (.bool p2) ∧ (((!p2) = true → R (.tup [(.int .i64 (0 : Int)), (.int .i64 (1 : Int))])) ∧ ((!p2) = false → (((((x0.2.2.2.2).length : Int) != (0 : Int)) = true → R (.tup [(.int .i64 (0 : Int)), (.int .i64 (1 : Int))])) ∧ ((((x0.2.2.2.2).length : Int) != (0 : Int)) = false → (((x0.2.1 != (30 : Int)) = true → (((decide (((x0.2.2.2.1).length : Int) > (0 : Int))) = true → R (.tup [(.int .i64 (0 : Int)), (.int .i64 (1 : Int))])) ∧ ((decide (((x0.2.2.2.1).length : Int) > (0 : Int))) = false → (((decide (((x0.2.2.2.1).length : Int) > (1022 : Int))) = true → R (.tup [(.int .i64 (0 : Int)), (.int .i64 (1 : Int))])) ∧ ((decide (((x0.2.2.2.1).length : Int) > (1022 : Int))) = false → (((x0.1 != pc1) = true → R (.tup [(.int .i64 (0 : Int)), (.int .i64 (1 : Int))])) ∧
 ((x0.1 != pc1) = false → (Loops B71_1 M71_1 (Q71_1 R)
  (S71_1 (2 : Int) (((x0.2.2.2.1).length : Int)) (0 : Int) x0.1 x0.2.1 x0.2.2.1 x0.2.2.2.1 .no x0.2.2.2.2 .no ⟨0, []⟩))))))))) ∧ ((x0.2.1 != (30 : Int)) = false → (((decide (((x0.2.2.2.1).length : Int) > (1022 : Int))) = true → R (.tup [(.int .i64 (0 : Int)), (.int .i64 (1 : Int))])) ∧ ((decide (((x0.2.2.2.1).length : Int) > (1022 : Int))) = false → (((x0.1 != pc1) = true → R (.tup [(.int .i64 (0 : Int)), (.int .i64 (1 : Int))])) ∧
 ((x0.1 != pc1) = false → (Loops B71_1 M71_1 (Q71_1 R)
  (S71_1 (2 : Int) (((x0.2.2.2.1).length : Int)) (0 : Int) x0.1 x0.2.1 x0.2.2.1 x0.2.2.2.1 .no x0.2.2.2.2 .no ⟨0, []⟩)))))))))))))) ∧
 ((p1 == (98 : Int)) = false → (((p1 == (110 : Int)) = true → (∃ p3 : Bool, PC Try.prog 97 [(.int .i64 x0.2.2.1), (.int .i64 (65535 : Int))] (.bool p3) ∧ (((!p3) = true → R (.tup [(.int .i64 (0 : Int)), (.int .i64 (1 : Int))])) ∧ ((!p3) = false → (((((x0.2.2.2.2).length : Int) != (0 : Int)) = true → R (.tup [(.int .i64 (0 : Int)), (.int .i64 (1 : Int))])) ∧ ((((x0.2.2.2.2).length : Int) != (0 : Int)) = false → (((x0.2.1 != (30 : Int)) = true → (((decide (((x0.2.2.2.1).length : Int) > (0 : Int))) = true → R (.tup [(.int .i64 (0 : Int)), (.int .i64 (1 : Int))])) ∧ ((decide (((x0.2.2.2.1).length : Int) > (0 : Int))) = false → (((decide (((x0.2.2.2.1).length : Int) > (1022 : Int))) = true → R (.tup [(.int .i64 (0 : Int)), (.int .i64 (1 : Int))])) ∧ ((decide (((x0.2.2.2.1).length : Int) > (1022 : Int))) = false → (((x0.1 != pc1) = true → R (.tup [(.int .i64 (0 : Int)), (.int .i64 (1 : Int))])) ∧
 ((x0.1 != pc1) = false → (Loops B71_1 M71_1 (Q71_1 R)
  (S71_1 (3 : Int) (((x0.2.2.2.1).length : Int)) (0 : Int) x0.1 x0.2.1 x0.2.2.1 x0.2.2.2.1 .no x0.2.2.2.2 .no ⟨0, []⟩))))))))) ∧ ((x0.2.1 != (30 : Int)) = false → (((decide (((x0.2.2.2.1).length : Int) > (1022 : Int))) = true → R (.tup [(.int .i64 (0 : Int)), (.int .i64 (1 : Int))])) ∧ ((decide (((x0.2.2.2.1).length : Int) > (1022 : Int))) = false → (((x0.1 != pc1) = true → R (.tup [(.int .i64 (0 : Int)), (.int .i64 (1 : Int))])) ∧
 ((x0.1 != pc1) = false → (Loops B71_1 M71_1 (Q71_1 R)
  (S71_1 (3 : Int) (((x0.2.2.2.1).length : Int)) (0 : Int) x0.1 x0.2.1 x0.2.2.1 x0.2.2.2.1 .no x0.2.2.2.2 .no ⟨0, []⟩)))))))))))))) ∧
 ((p1 == (110 : Int)) = false → (((p1 == (106 : Int)) = true → (∃ p4 : Bool, PC Try.prog 97 [(.int .i64 x0.2.2.1), (.int .i64 (0 : Int))] (.bool p4) ∧ (((!p4) = true → R (.tup [(.int .i64 (0 : Int)), (.int .i64 (1 : Int))])) ∧ ((!p4) = false → (((((x0.2.2.2.2).length : Int) != (1 : Int)) = true → R (.tup [(.int .i64 (0 : Int)), (.int .i64 (1 : Int))])) ∧ ((((x0.2.2.2.2).length : Int) != (1 : Int)) = false → (((x0.2.1 != (30 : Int)) = true → (((decide (((x0.2.2.2.1).length : Int) > (0 : Int))) = true → R (.tup [(.int .i64 (0 : Int)), (.int .i64 (1 : Int))])) ∧ ((decide (((x0.2.2.2.1).length : Int) > (0 : Int))) = false → (((decide (((x0.2.2.2.1).length : Int) > (1022 : Int))) = true → R (.tup [(.int .i64 (0 : Int)), (.int .i64 (1 : Int))])) ∧ ((decide (((x0.2.2.2.1).length : Int) > (1022 : Int))) = false → (((x0.1 != pc1) = true → R (.tup [(.int .i64 (0 : Int)), (.int .i64 (1 : Int))])) ∧
 ((x0.1 != pc1) = false → (Loops B71_1 M71_1 (Q71_1 R)
  (S71_1 (3 : Int) (((x0.2.2.2.1).length : Int)) (0 : Int) x0.1 x0.2.1 x0.2.2.1 x0.2.2.2.1 .no x0.2.2.2.2 .no ⟨0, []⟩))))))))) ∧ ((x0.2.1 != (30 : Int)) = false → (((decide (((x0.2.2.2.1).length : Int) > (1022 : Int))) = true → R (.tup [(.int .i64 (0 : Int)), (.int .i64 (1 : Int))])) ∧ ((decide (((x0.2.2.2.1).length : Int) > (1022 : Int))) = false → (((x0.1 != pc1) = true → R (.tup [(.int .i64 (0 : Int)), (.int .i64 (1 : Int))])) ∧
 ((x0.1 != pc1) = false → (Loops B71_1 M71_1 (Q71_1 R)
  (S71_1 (3 : Int) (((x0.2.2.2.1).length : Int)) (0 : Int) x0.1 x0.2.1 x0.2.2.1 x0.2.2.2.1 .no x0.2.2.2.2 .no ⟨0, []⟩)))))))))))))) ∧
 ((p1 == (106 : Int)) = false → (((p1 == (115 : Int)) = true → (∃ p5 : Bool, PC Try.prog 97 [(.int .i64 x0.2.2.1), (.int .i64 (0 : Int))] (.bool p5) ∧ (((!p5) = true → R (.tup [(.int .i64 (0 : Int)), (.int .i64 (1 : Int))])) ∧ ((!p5) = false → (((((x0.2.2.2.2).length : Int) != (IntKind.wrap .i64 (((x0.2.2.2.1).length : Int) + (1 : Int)))) = true → R (.tup [(.int .i64 (0 : Int)), (.int .i64 (1 : Int))])) ∧ ((((x0.2.2.2.2).length : Int) != (IntKind.wrap .i64 (((x0.2.2.2.1).length : Int) + (1 : Int)))) = false → (((x0.2.1 != (30 : Int)) = true → (((decide (((x0.2.2.2.1).length : Int) > (0 : Int))) = true → R (.tup [(.int .i64 (0 : Int)), (.int .i64 (1 : Int))])) ∧ ((decide (((x0.2.2.2.1).length : Int) > (0 : Int))) = false → (((decide (((x0.2.2.2.1).length : Int) > (1022 : Int))) = true → R (.tup [(.int .i64 (0 : Int)), (.int .i64 (1 : Int))])) ∧ ((decide (((x0.2.2.2.1).length : Int) > (1022 : Int))) = false → (((x0.1 != pc1) = true → R (.tup [(.int .i64 (0 : Int)), (.int .i64 (1 : Int))])) ∧
 ((x0.1 != pc1) = false → (Loops B71_1 M71_1 (Q71_1 R)
  (S71_1 ((IntKind.wrap .i64 ((5 : Int) + (IntKind.wrap .i64 ((4 : Int) * ((x0.2.2.2.1).length : Int)))))) (((x0.2.2.2.1).length : Int)) (0 : Int) x0.1 x0.2.1 x0.2.2.1 x0.2.2.2.1 .no x0.2.2.2.2 .no ⟨0, []⟩))))))))) ∧ ((x0.2.1 != (30 : Int)) = false → (((decide (((x0.2.2.2.1).length : Int) > (1022 : Int))) = true → R (.tup [(.int .i64 (0 : Int)), (.int .i64 (1 : Int))])) ∧ ((decide (((x0.2.2.2.1).length : Int) > (1022 : Int))) = false → (((x0.1 != pc1) = true → R (.tup [(.int .i64 (0 : Int)), (.int .i64 (1 : Int))])) ∧
 ((x0.1 != pc1) = false → (Loops B71_1 M71_1 (Q71_1 R)
  (S71_1 ((IntKind.wrap .i64 ((5 : Int) + (IntKind.wrap .i64 ((4 : Int) * ((x0.2.2.2.1).length : Int)))))) (((x0.2.2.2.1).length : Int)) (0 : Int) x0.1 x0.2.1 x0.2.2.1 x0.2.2.2.1 .no x0.2.2.2.2 .no ⟨0, []⟩)))))))))))))) ∧
 ((p1 == (115 : Int)) = false → (∃ p6 : Bool, PC Try.prog 97 [(.int .i64 x0.2.2.1), (.int .i64 (0 : Int))] (.bool p6) ∧ (((!p6) = true → R (.tup [(.int .i64 (0 : Int)), (.int .i64 (1 : Int))])) ∧ ((!p6) = false → (((((x0.2.2.2.2).length : Int) != (0 : Int)) = true → R (.tup [(.int .i64 (0 : Int)), (.int .i64 (1 : Int))])) ∧ ((((x0.2.2.2.2).length : Int) != (0 : Int)) = false → (((x0.2.1 != (30 : Int)) = true → (((decide (((x0.2.2.2.1).length : Int) > (0 : Int))) = true → R (.tup [(.int .i64 (0 : Int)), (.int .i64 (1 : Int))])) ∧ ((decide (((x0.2.2.2.1).length : Int) > (0 : Int))) = false → (((decide (((x0.2.2.2.1).length : Int) > (1022 : Int))) = true → R (.tup [(.int .i64 (0 : Int)), (.int .i64 (1 : Int))])) ∧ ((decide (((x0.2.2.2.1).length : Int) > (1022 : Int))) = false → (((x0.1 != pc1) = true → R (.tup [(.int .i64 (0 : Int)), (.int .i64 (1 : Int))])) ∧
 ((x0.1 != pc1) = false → (Loops B71_1 M71_1 (Q71_1 R)
  (S71_1 (1 : Int) (((x0.2.2.2.1).length : Int)) (0 : Int) x0.1 x0.2.1 x0.2.2.1 x0.2.2.2.1 .no x0.2.2.2.2 .no ⟨0, []⟩))))))))) ∧ ((x0.2.1 != (30 : Int)) = false → (((decide (((x0.2.2.2.1).length : Int) > (1022 : Int))) = true → R (.tup [(.int .i64 (0 : Int)), (.int .i64 (1 : Int))])) ∧ ((decide (((x0.2.2.2.1).length : Int) > (1022 : Int))) = false → (((x0.1 != pc1) = true → R (.tup [(.int .i64 (0 : Int)), (.int .i64 (1 : Int))])) ∧
 ((x0.1 != pc1) = false → (Loops B71_1 M71_1 (Q71_1 R)
  (S71_1 (1 : Int) (((x0.2.2.2.1).length : Int)) (0 : Int) x0.1 x0.2.1 x0.2.2.1 x0.2.2.2.1 .no x0.2.2.2.2 .no ⟨0, []⟩))))))))))))))))))))))))) :
  fnK X71.tt (callN Try.prog X71 0) (X71.md 71) (X71.mk1 71) Try.f71 [(.v (.agg [(.int .i64 x0.1), (.int .i64 x0.2.1), (.int .i64 x0.2.2.1), (.list (.int .i64) x0.2.2.2.1 .no), (.list (.int .i64) x0.2.2.2.2 .no)])), (.v (.int .i64 pc1))] ⟨[], [], ⟨0, []⟩⟩ (topK R) := Eq.mp (by kernel_rfl) h
theorem L71_1 (size6 : Int) (keys9 : Int) (i11 : Int) (hq0_0 : Int) (hq0_1 : Int) (hq0_2 : Int) (hq0_3 : List Int) (hq0_3k : Tok) (hq0_4 : List Int) (hq0_4k : Tok) (T : Toks) {R : V → Prop} {k1 : St → Prop}
 (h : (((decide (i11 < keys9)) = true → (0 ≤ i11 ∧ i11 < ((hq0_3).length : Int) ∧ (∃ p7 : Bool, PC Try.prog 97 [(.int .i64 ((hq0_3.getD (i11).toNat 0))), (.int .i64 (65535 : Int))] (.bool p7) ∧ (((!p7) = true → R (.tup [(.int .i64 (0 : Int)), (.int .i64 (1 : Int))])) ∧
 ((!p7) = false → k1 (S71_1 size6 keys9 ((IntKind.wrap .i64 (i11 + (1 : Int)))) hq0_0 hq0_1 hq0_2 hq0_3 hq0_3k hq0_4 hq0_4k T)))))) ∧
 ((decide (i11 < keys9)) = false → R (.tup [(.int .i64 size6), (.int .i64 (0 : Int))])))) :
  B71_1 (loopQ M71_1 k1 (Q71_1 R)) (S71_1 size6 keys9 i11 hq0_0 hq0_1 hq0_2 hq0_3 hq0_3k hq0_4 hq0_4k T) := Eq.mp (by kernel_rfl) h
end Go.Proofs.Ytaaedebknacheaa.AB

set_option linter.unusedVariables false
set_option linter.unusedSimpArgs false
set_option maxRecDepth 100000
set_option maxHeartbeats 2000000
namespace Go.Proofs.Ytaaedebknacheaa.AB
open Go
/-! crucible/crucibleref4.within -/
noncomputable def X97 : Cx := ⟨tt, [], [], [], []⟩
theorem FN97 : fnsB Try.prog X97.fns := (show True from trivial)
theorem E97 (n0 : Int) (most1 : Int) {R : V → Prop} (h : (((decide (n0 ≥ (0 : Int))) = true → R (.bool ((decide (n0 ≤ most1))))) ∧ ((decide (n0 ≥ (0 : Int))) = false → R (.bool false)))) :
  fnK X97.tt (callN Try.prog X97 0) (X97.md 97) (X97.mk1 97) Try.f97 [(.v (.int .i64 n0)), (.v (.int .i64 most1))] ⟨[], [], ⟨0, []⟩⟩ (topK R) := Eq.mp (by kernel_rfl) h
end Go.Proofs.Ytaaedebknacheaa.AB

set_option linter.unusedVariables false
set_option linter.unusedSimpArgs false
set_option maxRecDepth 100000
set_option maxHeartbeats 2000000
namespace Go.Proofs.Ytaaedebknacheaa.AB
open Go
/-! crucible/crucibleref4.bytes -/
noncomputable def X72 : Cx := ⟨tt, [], [], [], []⟩
theorem FN72 : fnsB Try.prog X72.fns := (show True from trivial)
theorem E72 (n0 : Int) {R : V → Prop} (h : (0 ≤ (8 : Int) ∧ R (.list (.int .u8) (([(IntKind.wrap .u8 (Int.fdiv n0 (2 ^ min ((8 : Int)).toNat (IntKind.bits .i64)))), (IntKind.wrap .u8 n0)] : List Int)) .no))) :
  fnK X72.tt (callN Try.prog X72 0) (X72.md 72) (X72.mk1 72) Try.f72 [(.v (.int .i64 n0))] ⟨[], [], ⟨0, []⟩⟩ (topK R) := Eq.mp (by kernel_rfl) h
end Go.Proofs.Ytaaedebknacheaa.AB

set_option linter.unusedVariables false
set_option linter.unusedSimpArgs false
set_option maxRecDepth 100000
set_option maxHeartbeats 2000000
namespace Go.Proofs.Ytaaedebknacheaa.AB
open Go
/-! crucible/cruciblelaw4.small -/
noncomputable def X44 : Cx := ⟨tt, [], [], [(44, [(0, mkM 29 0 [0, 3, 4], 0)])], []⟩
theorem FN44 : fnsB Try.prog X44.fns := (show True from trivial)
def M44_0 : List Bool × Nat := (mkM 29 0 [0, 3, 4], 0)
def S44_0 (l0 : List (Int × (Int × (Int × ((List Int) × (List Int)))))) (n3 : Int) (i4 : Int) (T : Toks) : St :=
  mkS 29 [(0, (.v (.list (.pair (.int .i64) (.pair (.int .i64) (.pair (.int .i64) (.pair (.slice (.int .i64)) (.slice (.int .i64)))))) l0 .no))), (3, (.v (.int .i64 n3))), (4, (.v (.int .i64 i4)))] [] T
noncomputable def B44_0 : (Exit → St → Prop) → St → Prop := (awp X44.tt (callN Try.prog X44 0) (X44.md 44) 0 (X44.mk1 44) 0 (codeAt [1, 1, 0, 1, 0, 0] (bd Try.f44)))
noncomputable def K44_0 (R : V → Prop) : Exit → St → Prop := seqK ((awp X44.tt (callN Try.prog X44 0) (X44.md 44) 0 (X44.mk1 44) 0 (codeAt [1, 1, 1] (bd Try.f44))) (retK tt Try.f44.results.toList fun x s' => topK R x ⟨[], s'.hp, s'.T⟩)) (retK tt Try.f44.results.toList fun x s' => topK R x ⟨[], s'.hp, s'.T⟩)
noncomputable def Q44_0 (R : V → Prop) : Exit → St → Prop := (blockK 0 (K44_0 R))
theorem E44 (l0 : (List (Int × (Int × (Int × ((List Int) × (List Int))))))) {R : V → Prop} (h : (Loops B44_0 M44_0 (Q44_0 R)
  (S44_0 l0 (0 : Int) (0 : Int) ⟨0, []⟩))) :
  fnK X44.tt (callN Try.prog X44 0) (X44.md 44) (X44.mk1 44) Try.f44 [(.v (.list (.pair (.int .i64) (.pair (.int .i64) (.pair (.int .i64) (.pair (.slice (.int .i64)) (.slice (.int .i64)))))) l0 .no))] ⟨[], [], ⟨0, []⟩⟩ (topK R) := Eq.mp (by kernel_rfl) h
theorem L44_0 (l0 : List (Int × (Int × (Int × ((List Int) × (List Int)))))) (n3 : Int) (i4 : Int) (T : Toks) {R : V → Prop} {k0 : St → Prop}
 (h : (((decide (i4 < ((l0).length : Int))) = true → (0 ≤ i4 ∧ i4 < ((l0).length : Int) ∧ (0 ≤ i4 ∧ i4 < ((l0).length : Int) ∧ k0 (S44_0 l0 ((IntKind.wrap .i64 ((IntKind.wrap .i64 ((IntKind.wrap .i64 (n3 + (1 : Int))) + (((l0.getD (i4).toNat (0, (0, (0, ([], []))))).2.2.2.1).length : Int))) + (((l0.getD (i4).toNat (0, (0, (0, ([], []))))).2.2.2.2).length : Int)))) ((IntKind.wrap .i64 (i4 + (1 : Int)))) T)))) ∧
 ((decide (i4 < ((l0).length : Int))) = false → R (.bool ((decide (n3 < (50000 : Int)))))))) :
  B44_0 (loopQ M44_0 k0 (Q44_0 R)) (S44_0 l0 n3 i4 T) := Eq.mp (by kernel_rfl) h
end Go.Proofs.Ytaaedebknacheaa.AB

set_option linter.unusedVariables false
set_option linter.unusedSimpArgs false
set_option maxHeartbeats 1000000
namespace Go.Proofs.Ytaaedebknacheaa.AB
open Go

theorem own_new (n : Nat) (l : List Nat) : Tok.own (.tk n) (n :: l) := List.mem_cons_self ..

/-- an instruction as a value -/
abbrev insV (x : Ins) : V := .agg [.int .i64 x.1, .int .i64 x.2.1, .int .i64 x.2.2.1, .list (.int .i64) x.2.2.2.1 .no, .list (.int .i64) x.2.2.2.2 .no]

def badK (k : Int) : Bool := decide (k < 0) || decide (k ≥ 65536)

theorem p95 (k : Int) : PC Try.prog 95 [.int .i64 k] (.bool (badK k)) := by
  refine pcOf (X := X95) (d := 0) rfl trivial (by kernel_rfl) (by decide) (E95 k ⟨fun h => retB ?_, fun h => retB ?_⟩)
  · unfold badK; rw [h]; rfl
  · unfold badK; rw [h]; rfl

def idxB (l : List Int) : Int := match l.findIdx? badK with
  | some i => (i : Int)
  | none => -1

theorem idxB_any (l : List Int) : decide (idxB l ≥ 0) = l.any badK := by
  unfold idxB
  cases h : l.findIdx? badK with
  | some i =>
    rw [List.findIdx?_eq_some_iff_getElem] at h
    obtain ⟨hi, hb, _⟩ := h
    have : l.any badK = true := List.any_eq_true.2 ⟨_, List.getElem_mem hi, hb⟩
    rw [this]
    simp
  | none =>
    rw [List.findIdx?_eq_none_iff] at h
    have : l.any badK = false := by
      rw [List.any_eq_false]
      intro x hx
      simp [h x hx]
    rw [this]
    simp

theorem p104 (l : List Int) (hl : l.length < 9223372036854775807) : PC Try.prog 104 [.list (.int .i64) l .no, .fn 95] (.int .i64 (idxB l)) := by
  refine pcOf (X := X104) (d := 0) rfl trivial (by kernel_rfl) (by decide) (E104 l ?_)
  refine Loops.intro (fun n : Nat => S104_0 l l.length n ⟨0, []⟩) (fun n => n ≤ l.length ∧ ∀ i, i < n → ∀ h : i < l.length, badK (l[i]) = false) (fun n => l.length - n) 0 rfl ⟨Nat.zero_le _, fun i hi => absurd hi (Nat.not_lt_zero _)⟩ ?_
  rintro n ⟨hn, hb⟩
  refine L104_0 l l.length n ⟨0, []⟩ ⟨fun h => ?_, fun h => ?_⟩
  · have hlt : n < l.length := by simpa using h
    have hg : l.getD n 0 = l[n] := by simp [List.getD, hlt]
    rw [Int.toNat_natCast, hg]
    refine ⟨by omega, by omega, _, p95 _, fun h => ?_, fun h => ?_⟩
    · refine retI ?_
      have : l.findIdx? badK = some n := by
        rw [List.findIdx?_eq_some_iff_getElem]
        exact ⟨hlt, h, fun j hj => by simpa using hb j hj (by omega)⟩
      unfold idxB; rw [this]
    · rw [wrap64 (by omega) (by omega)]
      refine Again.mk (n + 1) rfl ⟨by omega, fun i hi hil => ?_⟩ (by omega)
      rcases Nat.lt_or_ge i n with h' | h'
      · exact hb i h' hil
      · have : i = n := by omega
        subst this; exact h
  · have hge : n = l.length := by
      have : ¬ ((n : Int) < l.length) := by simpa using h
      omega
    refine retI ?_
    have : l.findIdx? badK = none := by
      rw [List.findIdx?_eq_none_iff]
      intro x hx
      obtain ⟨i, hi, rfl⟩ := List.getElem_of_mem hx
      simpa using hb i (by omega) hi
    unfold idxB; rw [this]

theorem p91 (l : List Int) (hl : l.length < 9223372036854775807) : PC Try.prog 91 [.list (.int .i64) l .no, .fn 95] (.bool (l.any badK)) := by
  refine pcOf (X := X91) (d := 0) rfl trivial (by kernel_rfl) (by decide) (E91 l ⟨_, p104 l hl, retB ?_⟩)
  exact idxB_any l

def mostI (x : Ins) : Int := if form x.2.1 = 98 then 255 else if form x.2.1 = 110 then 65535 else 0
def jumpsI (x : Ins) : Int := if form x.2.1 = 106 then 1 else if form x.2.1 = 115 then x.2.2.2.1.length + 1 else 0

/-- may its operands be -/
def okArg (x : Ins) : Prop := (0 ≤ x.2.2.1 ∧ x.2.2.1 ≤ mostI x) ∧ (x.2.2.2.2.length : Int) = jumpsI x ∧ (x.2.1 = 30 ∨ x.2.2.2.1.length = 0) ∧ x.2.2.2.1.length ≤ 1022 ∧ x.2.2.2.1.any badK = false

instance (x : Ins) : Decidable (okArg x) := by unfold okArg; infer_instance

def rightE (x : Ins) : Int := if form x.2.1 = 0 then 11 else if okArg x then 0 else 1

theorem right_chain {x : Ins} {R1 R0 : Prop} (most jumps : Int) (hk : x.2.2.2.1.length ≤ 1048576) (no : ¬ okArg x → R1) (yes : okArg x → R0) (hmost : mostI x = most) (hjumps : jumpsI x = jumps) :
    ((decide (x.2.2.1 < (0 : Int))) = true → R1) ∧
    ((decide (x.2.2.1 < (0 : Int))) = false →
      ((decide (x.2.2.1 > most)) = true → R1) ∧
      ((decide (x.2.2.1 > most)) = false →
        (((x.2.2.2.2.length : Int) != jumps) = true → R1) ∧
        (((x.2.2.2.2.length : Int) != jumps) = false →
          ((x.2.1 != (30 : Int)) = true →
            ((decide ((x.2.2.2.1.length : Int) > (0 : Int))) = true → R1) ∧
            ((decide ((x.2.2.2.1.length : Int) > (0 : Int))) = false →
              ((decide ((x.2.2.2.1.length : Int) > (1022 : Int))) = true → R1) ∧
              ((decide ((x.2.2.2.1.length : Int) > (1022 : Int))) = false → ∃ p2 : Bool, PC Try.prog 91 [(.list (.int .i64) x.2.2.2.1 .no), (.fn 95)] (.bool p2) ∧ (p2 = true → R1) ∧ (p2 = false → R0)))) ∧
          ((x.2.1 != (30 : Int)) = false →
            ((decide ((x.2.2.2.1.length : Int) > (1022 : Int))) = true → R1) ∧
            ((decide ((x.2.2.2.1.length : Int) > (1022 : Int))) = false → ∃ p2 : Bool, PC Try.prog 91 [(.list (.int .i64) x.2.2.2.1 .no), (.fn 95)] (.bool p2) ∧ (p2 = true → R1) ∧ (p2 = false → R0)))))) := by
  have q := p91 x.2.2.2.1 (by omega)
  simp only [decide_eq_true_eq, decide_eq_false_iff_not, bne_iff_ne, ne_eq, bne_eq_false_iff_eq]
  refine ⟨fun h1 => no fun h => by have := h.1.1; omega, fun h1 => ⟨fun h2 => no fun h => by have := h.1.2; rw [hmost] at this; omega, fun h2 => ⟨fun h3 => no fun h => h3 (by rw [h.2.1, hjumps]), fun h3 => ⟨fun h4 => ⟨fun h5 => no fun h => by have := h.2.2.1; omega, fun h5 => ⟨fun h6 => no fun h => by have := h.2.2.2.1; omega, fun h6 => ⟨_, q, fun h7 => no fun h => (by have := h.2.2.2.2; rw [h7] at this; cases this), fun h7 => yes ?_⟩⟩⟩,
      fun h4 => ⟨fun h6 => no fun h => by have := h.2.2.2.1; omega, fun h6 => ⟨_, q, fun h7 => no fun h => (by have := h.2.2.2.2; rw [h7] at this; cases this), fun h7 => yes ?_⟩⟩⟩⟩⟩⟩
  · exact ⟨⟨by omega, by rw [hmost]; omega⟩, by rw [hjumps]; exact h3, .inr (by omega), by omega, h7⟩
  · exact ⟨⟨by omega, by rw [hmost]; omega⟩, by rw [hjumps]; exact h3, .inl h4, by omega, h7⟩

theorem p69 (x : Ins) (hk : x.2.2.2.1.length ≤ 1048576) : PC Try.prog 69 [insV x] (.int .i64 (rightE x)) := by
  refine pcOf (X := X69) (d := 0) rfl trivial (by kernel_rfl) (by decide) (E69 x ⟨_, p28 _, ?_⟩)
  have w : IntKind.wrap .i64 ((x.2.2.2.1.length : Int) + 1) = x.2.2.2.1.length + 1 := by rw [wrap64 (by omega) (by omega)]
  rw [w]
  by_cases hf0 : form x.2.1 = 0
  · rw [hf0]
    exact ⟨fun _ => retI (by simp [rightE, hf0]), fun h => absurd h (by decide)⟩
  have no : ¬ okArg x → rightE x = 1 := fun h => by unfold rightE; rw [if_neg hf0, if_neg h]
  have yes : okArg x → rightE x = 0 := fun h => by unfold rightE; rw [if_neg hf0, if_pos h]
  rcases form_cases x.2.1 with hf | hf | hf | hf | hf | hf
  · exact absurd hf hf0
  all_goals simp only [hf, Int.reduceBEq, Bool.false_eq_true, Bool.true_eq_false, forall_const, false_implies, true_and, and_true]
  all_goals exact right_chain _ _ hk (fun h => retI (no h).symm) (fun h => retI (yes h).symm) (by simp [mostI, hf]) (by simp [jumpsI, hf])

theorem p97 (n most : Int) : PC Try.prog 97 [.int .i64 n, .int .i64 most] (.bool (decide (0 ≤ n) && decide (n ≤ most))) := by
  refine pcOf (X := X97) (d := 0) rfl trivial (by kernel_rfl) (by decide) (E97 n most ⟨fun h => retB ?_, fun h => retB ?_⟩)
  · have h : 0 ≤ n := by simpa using h
    simp [h]
  · have h : ¬ 0 ≤ n := by simpa using h
    simp [h]

/-- two bytes of a number -/
def b2 (n : Int) : List Int := [IntKind.wrap .u8 (Int.fdiv n (2 ^ min ((8 : Int)).toNat (IntKind.bits .i64))), IntKind.wrap .u8 n]

theorem p72 (n : Int) : PC Try.prog 72 [.int .i64 n] (.list (.int .u8) (b2 n) .no) :=
  pcOf (X := X72) (d := 0) rfl trivial (by kernel_rfl) (by decide) (E72 n ⟨by decide, rfl, rfl⟩)

def smallN (l : List Ins) : Nat → Int
  | 0 => 0
  | n + 1 => IntKind.wrap .i64 (IntKind.wrap .i64 (IntKind.wrap .i64 (smallN l n + 1) + (l.getD n D0).2.2.2.1.length) + (l.getD n D0).2.2.2.2.length)

theorem p44 (l : List Ins) (hl : l.length < 9223372036854775807) : ∃ b : Bool, PC Try.prog 44 [.list cIns l .no] (.bool b) := by
  refine ⟨decide (smallN l l.length < 50000), pcOf (X := X44) (d := 0) rfl trivial (by kernel_rfl) (by decide) (E44 l ?_)⟩
  refine Loops.intro (fun n : Nat => S44_0 l (smallN l n) n ⟨0, []⟩) (fun n => n ≤ l.length) (fun n => l.length - n) 0 rfl (Nat.zero_le _) ?_
  intro n hn
  have hn : n ≤ l.length := hn
  refine L44_0 l (smallN l n) n ⟨0, []⟩ ⟨fun h => ?_, fun h => ?_⟩
  · have hlt : n < l.length := by simpa using h
    refine ⟨by omega, by omega, by omega, by omega, ?_⟩
    refine Again.mk (n + 1) ?_ (by omega) (by omega)
    rw [wrap64 (x := (n : Int) + 1) (by omega) (by omega), Int.toNat_natCast]
    rfl
  · have : ¬ (n : Int) < l.length := by simpa using h
    have : n = l.length := by omega
    subst this
    exact retB rfl

/-- the error of an instruction that is to stand at a place -/
def errAt (x : Ins) (pc : Int) : Int := if rightE x ≠ 0 then rightE x else if x.1 = pc then 0 else 1

theorem chain71 {x : Ins} {pc : Int} {R1 : Prop} {Lp : Int → Prop} (most jumps kk : Int) (no : (okArg x → x.1 ≠ pc) → R1) (loop : ∀ kk, (okArg x ↔ x.2.2.2.1.any badK = false) → x.1 = pc → sizeI x = kk → Lp kk)
    (hmost : mostI x = most) (hjumps : jumpsI x = jumps) (hkk : sizeI x = kk) :
    ∃ p2 : Bool, PC Try.prog 97 [(.int .i64 x.2.2.1), (.int .i64 most)] (.bool p2) ∧
      ((!p2) = true → R1) ∧
      ((!p2) = false →
        (((x.2.2.2.2.length : Int) != jumps) = true → R1) ∧
        (((x.2.2.2.2.length : Int) != jumps) = false →
          ((x.2.1 != (30 : Int)) = true →
            ((decide ((x.2.2.2.1.length : Int) > (0 : Int))) = true → R1) ∧
            ((decide ((x.2.2.2.1.length : Int) > (0 : Int))) = false →
              ((decide ((x.2.2.2.1.length : Int) > (1022 : Int))) = true → R1) ∧
              ((decide ((x.2.2.2.1.length : Int) > (1022 : Int))) = false → ((x.1 != pc) = true → R1) ∧ ((x.1 != pc) = false → Lp kk)))) ∧
          ((x.2.1 != (30 : Int)) = false →
            ((decide ((x.2.2.2.1.length : Int) > (1022 : Int))) = true → R1) ∧
            ((decide ((x.2.2.2.1.length : Int) > (1022 : Int))) = false → ((x.1 != pc) = true → R1) ∧ ((x.1 != pc) = false → Lp kk))))) := by
  refine ⟨_, p97 _ _, ?_⟩
  simp only [decide_eq_true_eq, decide_eq_false_iff_not, bne_iff_ne, ne_eq, bne_eq_false_iff_eq, Bool.not_eq_true', Bool.not_eq_false', Bool.and_eq_true, Bool.and_eq_false_iff]
  refine ⟨fun h1 => no fun h => absurd h.1 (by rw [hmost]; omega), fun h1 => ⟨fun h3 => no fun h => absurd (by rw [h.2.1, hjumps]) h3, fun h3 => ⟨fun h4 => ⟨fun h5 => no fun h => by have := h.2.2.1; omega, fun h5 => ⟨fun h6 => no fun h => by have := h.2.2.2.1; omega, fun h6 => ⟨fun h7 => no fun _ => h7, fun h7 => loop kk ⟨fun h => h.2.2.2.2, fun h => ?_⟩ h7 hkk⟩⟩⟩,
    fun h4 => ⟨fun h6 => no fun h => by have := h.2.2.2.1; omega, fun h6 => ⟨fun h7 => no fun _ => h7, fun h7 => loop kk ⟨fun h => h.2.2.2.2, fun h => ?_⟩ h7 hkk⟩⟩⟩⟩⟩
  · exact ⟨⟨h1.1, by rw [hmost]; exact h1.2⟩, by rw [hjumps]; exact h3, .inr (by omega), by omega, h⟩
  · exact ⟨⟨h1.1, by rw [hmost]; exact h1.2⟩, by rw [hjumps]; exact h3, .inl h4, by omega, h⟩

theorem p71 (x : Ins) (pc : Int) (hk : x.2.2.2.1.length ≤ 1048576) : PC Try.prog 71 [insV x, .int .i64 pc] (.tup [.int .i64 (if errAt x pc = 0 then sizeI x else 0), .int .i64 (errAt x pc)]) := by
  refine pcOf (X := X71) (d := 0) rfl trivial (by kernel_rfl) (by decide) (E71 x pc ⟨_, p29 _, ?_⟩)
  have ret : ∀ {a b : Int}, (if errAt x pc = 0 then sizeI x else 0) = a → errAt x pc = b → ((V.tup [.int .i64 a, .int .i64 b]).norm = V.tup [.int .i64 (if errAt x pc = 0 then sizeI x else 0), .int .i64 (errAt x pc)] ∧ (V.tup [.int .i64 (if errAt x pc = 0 then sizeI x else 0), .int .i64 (errAt x pc)]).nt = true) := by
    rintro a b rfl rfl
    exact ⟨rfl, rfl⟩
  by_cases hf0 : form x.2.1 = 0
  · have he : errAt x pc = 11 := by unfold errAt rightE; rw [hf0]; rfl
    rw [hf0]
    exact ⟨fun _ => ret (by rw [he]; rfl) he, fun h => absurd h (by decide)⟩
  have no : (okArg x → x.1 ≠ pc) → errAt x pc = 1 := fun h => by
    unfold errAt rightE
    rw [if_neg hf0]
    by_cases ha : okArg x
    · rw [if_pos ha]; simp [h ha]
    · rw [if_neg ha]; rfl
  have yes : okArg x → x.1 = pc → errAt x pc = 0 := fun h e => by unfold errAt rightE; rw [if_neg hf0, if_pos h]; simp [e]
  have loop : ∀ (kk : Int), (okArg x ↔ x.2.2.2.1.any badK = false) → x.1 = pc → sizeI x = kk → Loops B71_1 M71_1 (Q71_1 (fun v => v.norm = V.tup [.int .i64 (if errAt x pc = 0 then sizeI x else 0), .int .i64 (errAt x pc)] ∧ (V.tup [.int .i64 (if errAt x pc = 0 then sizeI x else 0), .int .i64 (errAt x pc)]).nt = true))
      (S71_1 kk x.2.2.2.1.length 0 x.1 x.2.1 x.2.2.1 x.2.2.2.1 .no x.2.2.2.2 .no ⟨0, []⟩) := by
    intro kk hok hpc hkk
    refine Loops.intro (fun n : Nat => S71_1 kk x.2.2.2.1.length n x.1 x.2.1 x.2.2.1 x.2.2.2.1 .no x.2.2.2.2 .no ⟨0, []⟩) (fun n => n ≤ x.2.2.2.1.length ∧ (x.2.2.2.1.take n).any badK = false) (fun n => x.2.2.2.1.length - n) 0 rfl ⟨Nat.zero_le _, rfl⟩ ?_
    rintro n ⟨hn, hb⟩
    refine L71_1 kk x.2.2.2.1.length n x.1 x.2.1 x.2.2.1 x.2.2.2.1 .no x.2.2.2.2 .no ⟨0, []⟩ ⟨fun h => ?_, fun h => ?_⟩
    · have hlt : n < x.2.2.2.1.length := by simpa using h
      have hstep := any_take_succ x.2.2.2.1 badK hlt
      rw [Int.toNat_natCast, getD_lt hlt]
      refine ⟨by omega, by omega, _, p97 _ _, fun h => ?_, fun h => ?_⟩
      · have hbad : badK x.2.2.2.1[n] = true := by
          unfold badK
          simp at h ⊢
          omega
        refine ret ?_ (no fun ha => ?_)
        · rw [no fun ha => ?_]; rfl
          have := hok.1 ha
          rw [List.any_eq_false] at this
          exact absurd hbad (this _ (List.getElem_mem hlt))
        · have := hok.1 ha
          rw [List.any_eq_false] at this
          exact absurd hbad (this _ (List.getElem_mem hlt))
      · have hbad : badK x.2.2.2.1[n] = false := by
          unfold badK
          simp at h ⊢
          omega
        rw [wrap64 (by omega) (by omega)]
        exact Again.mk (n + 1) rfl ⟨by omega, by rw [hstep, hb, hbad]; rfl⟩ (by omega)
    · have : ¬ (n : Int) < x.2.2.2.1.length := by simpa using h
      have : n = x.2.2.2.1.length := by omega
      subst this
      rw [List.take_length] at hb
      have he := yes (hok.2 hb) hpc
      exact ret (by rw [he, if_pos rfl, hkk]) he
  have nope : (okArg x → x.1 ≠ pc) → (V.tup [(.int .i64 (0 : Int)), (.int .i64 (1 : Int))]).norm = V.tup [.int .i64 (if errAt x pc = 0 then sizeI x else 0), .int .i64 (errAt x pc)] ∧ (V.tup [.int .i64 (if errAt x pc = 0 then sizeI x else 0), .int .i64 (errAt x pc)]).nt = true :=
    fun h => ret (by rw [no h]; rfl) (no h)
  have w : IntKind.wrap .i64 ((x.2.2.2.1.length : Int) + 1) = x.2.2.2.1.length + 1 := by rw [wrap64 (by omega) (by omega)]
  have w5 : IntKind.wrap .i64 (5 + IntKind.wrap .i64 (4 * (x.2.2.2.1.length : Int))) = 5 + 4 * x.2.2.2.1.length := by
    rw [wrap64 (x := 4 * _) (by omega) (by omega), wrap64 (by omega) (by omega)]
  rw [w, w5]
  rcases form_cases x.2.1 with hf | hf | hf | hf | hf | hf
  · exact absurd hf hf0
  all_goals simp only [hf, Int.reduceBEq, Bool.false_eq_true, Bool.true_eq_false, forall_const, false_implies, true_and, and_true]
  all_goals exact chain71 _ _ _ nope loop (by simp [mostI, hf]) (by simp [jumpsI, hf]) (by simp [sizeI, hf])

end Go.Proofs.Ytaaedebknacheaa.AB

set_option linter.unusedVariables false
set_option linter.unusedSimpArgs false
set_option maxRecDepth 100000
set_option maxHeartbeats 2000000
namespace Go.Proofs.Ytaaedebknacheaa.AB
open Go
/-! crucible/code.Encode -/
noncomputable def X45 : Cx := ⟨tt, [(28, [.cd (.int .u8)]), (64, [.cd (.int .i64)]), (69, [.cd (.int .i64)])], [(45, [(10, 2, .inl)]), (70, [(6, 4, .inl), (8, 9, .inl), (10, 12, .inl), (14, 12, .inl)]), (96, [(2, 0, .«mut»)])], [(45, [(0, mkM 44 0 [0, 4, 9, 10, 11], 0)]), (70, [(1, mkM 81 0 [0, 3, 59, 60, 61], 1)]), (96, [(0, [], 1000003)])], [(70, Try.f70), (96, Try.f96)]⟩
theorem FN45 : fnsB Try.prog X45.fns := (show (Try.prog.funcs[70]? = some Try.f70 ∧ Try.f70.name ≠ "runtime.NumGoroutine" ∧ (Try.prog.funcs[96]? = some Try.f96 ∧ Try.f96.name ≠ "runtime.NumGoroutine" ∧ True)) from ⟨by kernel_rfl, by decide, ⟨by kernel_rfl, by decide, trivial⟩⟩)
def M45_0 : List Bool × Nat := (mkM 44 0 [0, 4, 9, 10, 11], 0)
def S45_0 (l0 : List (Int × (Int × (Int × ((List Int) × (List Int)))))) (b4 : List Int) (b4k : Tok) (t9 : List (Int × (Int × (Int × ((List Int) × (List Int)))))) (t10 : Int) (t11 : Int) (T : Toks) : St :=
  mkS 44 [(0, (.v (.list (.pair (.int .i64) (.pair (.int .i64) (.pair (.int .i64) (.pair (.slice (.int .i64)) (.slice (.int .i64)))))) l0 .no))), (4, (.v (.list (.int .u8) b4 b4k))), (9, (.v (.list (.pair (.int .i64) (.pair (.int .i64) (.pair (.int .i64) (.pair (.slice (.int .i64)) (.slice (.int .i64)))))) t9 .no))), (10, (.v (.int .i64 t10))), (11, (.v (.int .i64 t11)))] [] T
noncomputable def B45_0 : (Exit → St → Prop) → St → Prop := (awp X45.tt (callN Try.prog X45 2) (X45.md 45) 0 (X45.mk1 45) 0 (codeAt [1, 1, 0, 1, 0, 0] (bd Try.f45)))
def M45c10_2_1 : List Bool × Nat := (mkM 81 0 [0, 3, 59, 60, 61], 2)
def S45c10_2_1 (b0 : List Int) (b0k : Tok) (t59 : List Int) (t60 : Int) (t61 : Int) (hq0_0 : Int) (hq0_1 : Int) (hq0_2 : Int) (hq0_3 : List Int) (hq0_3k : Tok) (hq0_4 : List Int) (hq0_4k : Tok) (hq1_0 : Int) (hq1_1 : Int) (hq1_2 : Int) (hq1_3 : List Int) (hq1_3k : Tok) (hq1_4 : List Int) (hq1_4k : Tok) (T : Toks) : St :=
  mkS 81 [(0, (.v (.list (.int .u8) b0 b0k))), (3, (.ptr 1 0 0 0)), (59, (.v (.list (.int .i64) t59 .no))), (60, (.v (.int .i64 t60))), (61, (.v (.int .i64 t61)))] [(some (.box (.v (.agg [(.int .i64 hq0_0), (.int .i64 hq0_1), (.int .i64 hq0_2), (.list (.int .i64) hq0_3 hq0_3k), (.list (.int .i64) hq0_4 hq0_4k)])))), (some (.box (.v (.agg [(.int .i64 hq1_0), (.int .i64 hq1_1), (.int .i64 hq1_2), (.list (.int .i64) hq1_3 hq1_3k), (.list (.int .i64) hq1_4 hq1_4k)]))))] T
noncomputable def B45c10_2_1 : (Exit → St → Prop) → St → Prop := (awp X45.tt (callN Try.prog X45 1) (X45.md 70) 1 (X45.mk1 70) 1 (codeAt [1, 1, 0, 1, 0, 1, 1, 1, 1, 1, 1, 1, 0, 1, 1, 0, 0] (bd Try.f70)))
noncomputable def K45_0 (R : V → Prop) : Exit → St → Prop := seqK ((awp X45.tt (callN Try.prog X45 2) (X45.md 45) 0 (X45.mk1 45) 0 (codeAt [1, 1, 1] (bd Try.f45))) (retK tt Try.f45.results.toList fun x s' => topK R x ⟨[], s'.hp, s'.T⟩)) (retK tt Try.f45.results.toList fun x s' => topK R x ⟨[], s'.hp, s'.T⟩)
noncomputable def Q45_0 (R : V → Prop) : Exit → St → Prop := (blockK 0 (K45_0 R))
noncomputable def K45_1 (R : V → Prop) (k0 : St → Prop) : Exit → St → Prop := seqK ((awp X45.tt (callN Try.prog X45 2) (X45.md 45) 0 (X45.mk1 45) 0 (codeAt [1, 1, 0, 1, 0, 0, 1, 1, 1] (bd Try.f45))) (loopQ M45_0 k0 (blockK 0 (K45_0 R)))) (loopQ M45_0 k0 (blockK 0 (K45_0 R)))
noncomputable def A45c10_2 (R : V → Prop) (k0 : St → Prop) : TV → St → Prop := fun x s' => awpL X45.tt (callN Try.prog X45 2) (X45.md 45) 10 (regOps (codeAt [1, 1, 0, 1, 0, 0, 1, 1, 0, 0, 1, 1, 1] (bd Try.f45))) 3 ((regOps (codeAt [1, 1, 0, 1, 0, 0, 1, 1, 0, 0, 1, 1, 1] (bd Try.f45))).toList.drop 3) ((blockK 1 (K45_1 R k0)) .normal) (s'.put (some 27) x)
def W45c10_2 (z10_2_l0 : List (Int × (Int × (Int × ((List Int) × (List Int)))))) (z10_2_b4 : List Int) (z10_2_b4k : Tok) (z10_2_err7 : Int) (z10_2_t9 : List (Int × (Int × (Int × ((List Int) × (List Int)))))) (z10_2_t10 : Int) (z10_2_t11 : Int) (z10_2_t12 : Bool) (z10_2_t13_0 : Int) (z10_2_t13_1 : Int) (z10_2_t13_2 : Int) (z10_2_t13_3 : List Int) (z10_2_t13_3k : Tok) (z10_2_t13_4 : List Int) (z10_2_t13_4k : Tok) (z10_2_t14_0 : Int) (z10_2_t14_1 : Int) (z10_2_t14_2 : Int) (z10_2_t14_3 : List Int) (z10_2_t14_3k : Tok) (z10_2_t14_4 : List Int) (z10_2_t14_4k : Tok) (z10_2_t15_0 : Int) (z10_2_t15_1 : Int) (z10_2_t15_2 : Int) (z10_2_t15_3 : List Int) (z10_2_t15_3k : Tok) (z10_2_t15_4 : List Int) (z10_2_t15_4k : Tok) (z10_2_t16 : Int) (z10_2_t17 : Int) (z10_2_t18 : Bool) (z10_2_t21 : Int) (z10_2_t22 : List Int) (z10_2_t22k : Tok) (z10_2_t23 : Int) (z10_2_t24 : Bool) (z10_2_t25 : List Int) (z10_2_t25k : Tok) (z10_2_t26_0 : Int) (z10_2_t26_1 : Int) (z10_2_t26_2 : Int) (z10_2_t26_3 : List Int) (z10_2_t26_3k : Tok) (z10_2_t26_4 : List Int) (z10_2_t26_4k : Tok) : List TV := mkL 44 0 [(0, (.v (.list (.pair (.int .i64) (.pair (.int .i64) (.pair (.int .i64) (.pair (.slice (.int .i64)) (.slice (.int .i64)))))) z10_2_l0 .no))), (4, (.v (.list (.int .u8) z10_2_b4 z10_2_b4k))), (6, (.ptr 0 0 0 0)), (7, (.v (.int .i64 z10_2_err7))), (9, (.v (.list (.pair (.int .i64) (.pair (.int .i64) (.pair (.int .i64) (.pair (.slice (.int .i64)) (.slice (.int .i64)))))) z10_2_t9 .no))), (10, (.v (.int .i64 z10_2_t10))), (11, (.v (.int .i64 z10_2_t11))), (12, (.v (.bool z10_2_t12))), (13, (.v (.fptr (.agg [(.int .i64 z10_2_t13_0), (.int .i64 z10_2_t13_1), (.int .i64 z10_2_t13_2), (.list (.int .i64) z10_2_t13_3 z10_2_t13_3k), (.list (.int .i64) z10_2_t13_4 z10_2_t13_4k)]) 0))), (14, (.v (.agg [(.int .i64 z10_2_t14_0), (.int .i64 z10_2_t14_1), (.int .i64 z10_2_t14_2), (.list (.int .i64) z10_2_t14_3 z10_2_t14_3k), (.list (.int .i64) z10_2_t14_4 z10_2_t14_4k)]))), (15, (.v (.agg [(.int .i64 z10_2_t15_0), (.int .i64 z10_2_t15_1), (.int .i64 z10_2_t15_2), (.list (.int .i64) z10_2_t15_3 z10_2_t15_3k), (.list (.int .i64) z10_2_t15_4 z10_2_t15_4k)]))), (16, (.v (.int .i64 z10_2_t16))), (17, (.v (.int .i64 z10_2_t17))), (18, (.v (.bool z10_2_t18))), (20, (.ptr 0 0 0 0)), (21, (.v (.int .i64 z10_2_t21))), (22, (.v (.list (.int .u8) z10_2_t22 z10_2_t22k))), (23, (.v (.int .i64 z10_2_t23))), (24, (.v (.bool z10_2_t24))), (25, (.v (.list (.int .u8) z10_2_t25 z10_2_t25k))), (26, (.v (.agg [(.int .i64 z10_2_t26_0), (.int .i64 z10_2_t26_1), (.int .i64 z10_2_t26_2), (.list (.int .i64) z10_2_t26_3 z10_2_t26_3k), (.list (.int .i64) z10_2_t26_4 z10_2_t26_4k)])))]
noncomputable def K45c10_2_2 (R : V → Prop) (k0 : St → Prop) (z10_2_l0 : List (Int × (Int × (Int × ((List Int) × (List Int)))))) (z10_2_b4 : List Int) (z10_2_b4k : Tok) (z10_2_err7 : Int) (z10_2_t9 : List (Int × (Int × (Int × ((List Int) × (List Int)))))) (z10_2_t10 : Int) (z10_2_t11 : Int) (z10_2_t12 : Bool) (z10_2_t13_0 : Int) (z10_2_t13_1 : Int) (z10_2_t13_2 : Int) (z10_2_t13_3 : List Int) (z10_2_t13_3k : Tok) (z10_2_t13_4 : List Int) (z10_2_t13_4k : Tok) (z10_2_t14_0 : Int) (z10_2_t14_1 : Int) (z10_2_t14_2 : Int) (z10_2_t14_3 : List Int) (z10_2_t14_3k : Tok) (z10_2_t14_4 : List Int) (z10_2_t14_4k : Tok) (z10_2_t15_0 : Int) (z10_2_t15_1 : Int) (z10_2_t15_2 : Int) (z10_2_t15_3 : List Int) (z10_2_t15_3k : Tok) (z10_2_t15_4 : List Int) (z10_2_t15_4k : Tok) (z10_2_t16 : Int) (z10_2_t17 : Int) (z10_2_t18 : Bool) (z10_2_t21 : Int) (z10_2_t22 : List Int) (z10_2_t22k : Tok) (z10_2_t23 : Int) (z10_2_t24 : Bool) (z10_2_t25 : List Int) (z10_2_t25k : Tok) (z10_2_t26_0 : Int) (z10_2_t26_1 : Int) (z10_2_t26_2 : Int) (z10_2_t26_3 : List Int) (z10_2_t26_3k : Tok) (z10_2_t26_4 : List Int) (z10_2_t26_4k : Tok) : Exit → St → Prop := seqK ((awp X45.tt (callN Try.prog X45 1) (X45.md 70) 1 (X45.mk1 70) 0 (codeAt [1, 1, 1] (bd Try.f70))) (retK X45.tt Try.f70.results.toList fun x s' => A45c10_2 R k0 x ⟨W45c10_2 z10_2_l0 z10_2_b4 z10_2_b4k z10_2_err7 z10_2_t9 z10_2_t10 z10_2_t11 z10_2_t12 z10_2_t13_0 z10_2_t13_1 z10_2_t13_2 z10_2_t13_3 z10_2_t13_3k z10_2_t13_4 z10_2_t13_4k z10_2_t14_0 z10_2_t14_1 z10_2_t14_2 z10_2_t14_3 z10_2_t14_3k z10_2_t14_4 z10_2_t14_4k z10_2_t15_0 z10_2_t15_1 z10_2_t15_2 z10_2_t15_3 z10_2_t15_3k z10_2_t15_4 z10_2_t15_4k z10_2_t16 z10_2_t17 z10_2_t18 z10_2_t21 z10_2_t22 z10_2_t22k z10_2_t23 z10_2_t24 z10_2_t25 z10_2_t25k z10_2_t26_0 z10_2_t26_1 z10_2_t26_2 z10_2_t26_3 z10_2_t26_3k z10_2_t26_4 z10_2_t26_4k, s'.hp, s'.T⟩)) (retK X45.tt Try.f70.results.toList fun x s' => A45c10_2 R k0 x ⟨W45c10_2 z10_2_l0 z10_2_b4 z10_2_b4k z10_2_err7 z10_2_t9 z10_2_t10 z10_2_t11 z10_2_t12 z10_2_t13_0 z10_2_t13_1 z10_2_t13_2 z10_2_t13_3 z10_2_t13_3k z10_2_t13_4 z10_2_t13_4k z10_2_t14_0 z10_2_t14_1 z10_2_t14_2 z10_2_t14_3 z10_2_t14_3k z10_2_t14_4 z10_2_t14_4k z10_2_t15_0 z10_2_t15_1 z10_2_t15_2 z10_2_t15_3 z10_2_t15_3k z10_2_t15_4 z10_2_t15_4k z10_2_t16 z10_2_t17 z10_2_t18 z10_2_t21 z10_2_t22 z10_2_t22k z10_2_t23 z10_2_t24 z10_2_t25 z10_2_t25k z10_2_t26_0 z10_2_t26_1 z10_2_t26_2 z10_2_t26_3 z10_2_t26_3k z10_2_t26_4 z10_2_t26_4k, s'.hp, s'.T⟩)
noncomputable def Q45c10_2_1 (R : V → Prop) (k0 : St → Prop) (z10_2_l0 : List (Int × (Int × (Int × ((List Int) × (List Int)))))) (z10_2_b4 : List Int) (z10_2_b4k : Tok) (z10_2_err7 : Int) (z10_2_t9 : List (Int × (Int × (Int × ((List Int) × (List Int)))))) (z10_2_t10 : Int) (z10_2_t11 : Int) (z10_2_t12 : Bool) (z10_2_t13_0 : Int) (z10_2_t13_1 : Int) (z10_2_t13_2 : Int) (z10_2_t13_3 : List Int) (z10_2_t13_3k : Tok) (z10_2_t13_4 : List Int) (z10_2_t13_4k : Tok) (z10_2_t14_0 : Int) (z10_2_t14_1 : Int) (z10_2_t14_2 : Int) (z10_2_t14_3 : List Int) (z10_2_t14_3k : Tok) (z10_2_t14_4 : List Int) (z10_2_t14_4k : Tok) (z10_2_t15_0 : Int) (z10_2_t15_1 : Int) (z10_2_t15_2 : Int) (z10_2_t15_3 : List Int) (z10_2_t15_3k : Tok) (z10_2_t15_4 : List Int) (z10_2_t15_4k : Tok) (z10_2_t16 : Int) (z10_2_t17 : Int) (z10_2_t18 : Bool) (z10_2_t21 : Int) (z10_2_t22 : List Int) (z10_2_t22k : Tok) (z10_2_t23 : Int) (z10_2_t24 : Bool) (z10_2_t25 : List Int) (z10_2_t25k : Tok) (z10_2_t26_0 : Int) (z10_2_t26_1 : Int) (z10_2_t26_2 : Int) (z10_2_t26_3 : List Int) (z10_2_t26_3k : Tok) (z10_2_t26_4 : List Int) (z10_2_t26_4k : Tok) : Exit → St → Prop := (blockK 1 (blockK 0 (K45c10_2_2 R k0 z10_2_l0 z10_2_b4 z10_2_b4k z10_2_err7 z10_2_t9 z10_2_t10 z10_2_t11 z10_2_t12 z10_2_t13_0 z10_2_t13_1 z10_2_t13_2 z10_2_t13_3 z10_2_t13_3k z10_2_t13_4 z10_2_t13_4k z10_2_t14_0 z10_2_t14_1 z10_2_t14_2 z10_2_t14_3 z10_2_t14_3k z10_2_t14_4 z10_2_t14_4k z10_2_t15_0 z10_2_t15_1 z10_2_t15_2 z10_2_t15_3 z10_2_t15_3k z10_2_t15_4 z10_2_t15_4k z10_2_t16 z10_2_t17 z10_2_t18 z10_2_t21 z10_2_t22 z10_2_t22k z10_2_t23 z10_2_t24 z10_2_t25 z10_2_t25k z10_2_t26_0 z10_2_t26_1 z10_2_t26_2 z10_2_t26_3 z10_2_t26_3k z10_2_t26_4 z10_2_t26_4k)))
theorem E45 (l0 : (List (Int × (Int × (Int × ((List Int) × (List Int))))))) {R : V → Prop} (h : (Loops B45_0 M45_0 (Q45_0 R)
  (S45_0 l0 ([] : List Int) .exact l0 (((l0).length : Int)) (0 : Int) ⟨0, []⟩))) :
  fnK X45.tt (callN Try.prog X45 2) (X45.md 45) (X45.mk1 45) Try.f45 [(.v (.list (.pair (.int .i64) (.pair (.int .i64) (.pair (.int .i64) (.pair (.slice (.int .i64)) (.slice (.int .i64)))))) l0 .no))] ⟨[], [], ⟨0, []⟩⟩ (topK R) := Eq.mp (by kernel_rfl) h
theorem L45_0 (l0 : List (Int × (Int × (Int × ((List Int) × (List Int)))))) (b4 : List Int) (b4k : Tok) (t9 : List (Int × (Int × (Int × ((List Int) × (List Int)))))) (t10 : Int) (t11 : Int) (T : Toks) {R : V → Prop} {k0 : St → Prop}
 (h : (((decide (t11 < t10)) = true → (0 ≤ t11 ∧ t11 < ((t9).length : Int) ∧ (∃ p1 : Int, PC Try.prog 69 [(.agg [(.int .i64 ((t9.getD (t11).toNat (0, (0, (0, ([], []))))).1)), (.int .i64 ((t9.getD (t11).toNat (0, (0, (0, ([], []))))).2.1)), (.int .i64 ((t9.getD (t11).toNat (0, (0, (0, ([], []))))).2.2.1)), (.list (.int .i64) ((t9.getD (t11).toNat (0, (0, (0, ([], []))))).2.2.2.1) .no), (.list (.int .i64) ((t9.getD (t11).toNat (0, (0, (0, ([], []))))).2.2.2.2) .no)])] (.int .i64 p1) ∧ (((p1 != (0 : Int)) = true → R (.tup [(.str ([] : List UInt8)), (.int .i64 p1)])) ∧
 ((p1 != (0 : Int)) = false → ((((t9.getD (t11).toNat (0, (0, (0, ([], []))))).1 != ((b4).length : Int)) = true → R (.tup [(.str ([] : List UInt8)), (.int .i64 (1 : Int))])) ∧
 (((t9.getD (t11).toNat (0, (0, (0, ([], []))))).1 != ((b4).length : Int)) = false → (Tok.own b4k T.l ∧ ((b4).length + (([(IntKind.wrap .u8 (t9.getD (t11).toNat (0, (0, (0, ([], []))))).2.1)] : List Int)).length) * 1 ≤ room ∧ (∃ p2 : Int, PC Try.prog 28 [(.int .i64 ((t9.getD (t11).toNat (0, (0, (0, ([], []))))).2.1))] (.int .u8 p2) ∧ (((p2 == (98 : Int)) = true → (Tok.own (.tk T.n) (T.n :: Tok.drop b4k T.l) ∧ (((b4 ++ ([(IntKind.wrap .u8 (t9.getD (t11).toNat (0, (0, (0, ([], []))))).2.1)] : List Int))).length + (([(IntKind.wrap .u8 (t9.getD (t11).toNat (0, (0, (0, ([], []))))).2.2.1)] : List Int)).length) * 1 ≤ room ∧ k0 (S45_0 l0 (((b4 ++ ([(IntKind.wrap .u8 (t9.getD (t11).toNat (0, (0, (0, ([], []))))).2.1)] : List Int)) ++ ([(IntKind.wrap .u8 (t9.getD (t11).toNat (0, (0, (0, ([], []))))).2.2.1)] : List Int))) ((.tk (T.n + 1))) t9 t10 ((IntKind.wrap .i64 (t11 + (1 : Int)))) ⟨((T.n + 1) + 1), ((T.n + 1) :: Tok.drop (.tk T.n) (T.n :: Tok.drop b4k T.l))⟩))) ∧
 ((p2 == (98 : Int)) = false → (((p2 == (110 : Int)) = true → (0 ≤ (0 : Int) ∧ (0 : Int) < ((([(t9.getD (t11).toNat (0, (0, (0, ([], []))))).2.2.1] : List Int)).length : Int) ∧ (0 ≤ (8 : Int) ∧ (Tok.own (.tk T.n) (T.n :: Tok.drop b4k T.l) ∧ (((b4 ++ ([(IntKind.wrap .u8 (t9.getD (t11).toNat (0, (0, (0, ([], []))))).2.1)] : List Int))).length + (([(IntKind.wrap .u8 (Int.fdiv ((([(t9.getD (t11).toNat (0, (0, (0, ([], []))))).2.2.1] : List Int)).getD ((0 : Int)).toNat 0) (2 ^ min ((8 : Int)).toNat (IntKind.bits .i64)))), (IntKind.wrap .u8 ((([(t9.getD (t11).toNat (0, (0, (0, ([], []))))).2.2.1] : List Int)).getD ((0 : Int)).toNat 0))] : List Int)).length) * 1 ≤ room ∧ k0 (S45_0 l0 (((b4 ++ ([(IntKind.wrap .u8 (t9.getD (t11).toNat (0, (0, (0, ([], []))))).2.1)] : List Int)) ++ ([(IntKind.wrap .u8 (Int.fdiv ((([(t9.getD (t11).toNat (0, (0, (0, ([], []))))).2.2.1] : List Int)).getD ((0 : Int)).toNat 0) (2 ^ min ((8 : Int)).toNat (IntKind.bits .i64)))), (IntKind.wrap .u8 ((([(t9.getD (t11).toNat (0, (0, (0, ([], []))))).2.2.1] : List Int)).getD ((0 : Int)).toNat 0))] : List Int))) ((.tk (T.n + 1))) t9 t10 ((IntKind.wrap .i64 (t11 + (1 : Int)))) ⟨((T.n + 1) + 1), ((T.n + 1) :: Tok.drop (.tk T.n) (T.n :: Tok.drop b4k T.l))⟩))))) ∧
 ((p2 == (110 : Int)) = false → (((p2 == (106 : Int)) = true → (0 ≤ (0 : Int) ∧ (0 : Int) < (((t9.getD (t11).toNat (0, (0, (0, ([], []))))).2.2.2.2).length : Int) ∧ (0 ≤ (0 : Int) ∧ (0 : Int) < ((([(IntKind.wrap .i64 ((((t9.getD (t11).toNat (0, (0, (0, ([], []))))).2.2.2.2).getD ((0 : Int)).toNat 0) - (t9.getD (t11).toNat (0, (0, (0, ([], []))))).1))] : List Int)).length : Int) ∧ (0 ≤ (8 : Int) ∧ (Tok.own (.tk T.n) (T.n :: Tok.drop b4k T.l) ∧ (((b4 ++ ([(IntKind.wrap .u8 (t9.getD (t11).toNat (0, (0, (0, ([], []))))).2.1)] : List Int))).length + (([(IntKind.wrap .u8 (Int.fdiv ((([(IntKind.wrap .i64 ((((t9.getD (t11).toNat (0, (0, (0, ([], []))))).2.2.2.2).getD ((0 : Int)).toNat 0) - (t9.getD (t11).toNat (0, (0, (0, ([], []))))).1))] : List Int)).getD ((0 : Int)).toNat 0) (2 ^ min ((8 : Int)).toNat (IntKind.bits .i64)))), (IntKind.wrap .u8 ((([(IntKind.wrap .i64 ((((t9.getD (t11).toNat (0, (0, (0, ([], []))))).2.2.2.2).getD ((0 : Int)).toNat 0) - (t9.getD (t11).toNat (0, (0, (0, ([], []))))).1))] : List Int)).getD ((0 : Int)).toNat 0))] : List Int)).length) * 1 ≤ room ∧ k0 (S45_0 l0 (((b4 ++ ([(IntKind.wrap .u8 (t9.getD (t11).toNat (0, (0, (0, ([], []))))).2.1)] : List Int)) ++ ([(IntKind.wrap .u8 (Int.fdiv ((([(IntKind.wrap .i64 ((((t9.getD (t11).toNat (0, (0, (0, ([], []))))).2.2.2.2).getD ((0 : Int)).toNat 0) - (t9.getD (t11).toNat (0, (0, (0, ([], []))))).1))] : List Int)).getD ((0 : Int)).toNat 0) (2 ^ min ((8 : Int)).toNat (IntKind.bits .i64)))), (IntKind.wrap .u8 ((([(IntKind.wrap .i64 ((((t9.getD (t11).toNat (0, (0, (0, ([], []))))).2.2.2.2).getD ((0 : Int)).toNat 0) - (t9.getD (t11).toNat (0, (0, (0, ([], []))))).1))] : List Int)).getD ((0 : Int)).toNat 0))] : List Int))) ((.tk (T.n + 1))) t9 t10 ((IntKind.wrap .i64 (t11 + (1 : Int)))) ⟨((T.n + 1) + 1), ((T.n + 1) :: Tok.drop (.tk T.n) (T.n :: Tok.drop b4k T.l))⟩)))))) ∧
 ((p2 == (106 : Int)) = false → (((p2 == (115 : Int)) = true → (0 ≤ (0 : Int) ∧ (0 : Int) < (((t9.getD (t11).toNat (0, (0, (0, ([], []))))).2.2.2.2).length : Int) ∧ (0 ≤ (0 : Int) ∧ (0 : Int) < ((([(IntKind.wrap .i64 ((((t9.getD (t11).toNat (0, (0, (0, ([], []))))).2.2.2.2).getD ((0 : Int)).toNat 0) - (t9.getD (t11).toNat (0, (0, (0, ([], []))))).1)), (((t9.getD (t11).toNat (0, (0, (0, ([], []))))).2.2.2.1).length : Int)] : List Int)).length : Int) ∧ (0 ≤ (8 : Int) ∧ (Tok.own (.tk T.n) (T.n :: Tok.drop b4k T.l) ∧ (((b4 ++ ([(IntKind.wrap .u8 (t9.getD (t11).toNat (0, (0, (0, ([], []))))).2.1)] : List Int))).length + (([(IntKind.wrap .u8 (Int.fdiv ((([(IntKind.wrap .i64 ((((t9.getD (t11).toNat (0, (0, (0, ([], []))))).2.2.2.2).getD ((0 : Int)).toNat 0) - (t9.getD (t11).toNat (0, (0, (0, ([], []))))).1)), (((t9.getD (t11).toNat (0, (0, (0, ([], []))))).2.2.2.1).length : Int)] : List Int)).getD ((0 : Int)).toNat 0) (2 ^ min ((8 : Int)).toNat (IntKind.bits .i64)))), (IntKind.wrap .u8 ((([(IntKind.wrap .i64 ((((t9.getD (t11).toNat (0, (0, (0, ([], []))))).2.2.2.2).getD ((0 : Int)).toNat 0) - (t9.getD (t11).toNat (0, (0, (0, ([], []))))).1)), (((t9.getD (t11).toNat (0, (0, (0, ([], []))))).2.2.2.1).length : Int)] : List Int)).getD ((0 : Int)).toNat 0))] : List Int)).length) * 1 ≤ room ∧ (0 ≤ (1 : Int) ∧ (1 : Int) < ((([(IntKind.wrap .i64 ((((t9.getD (t11).toNat (0, (0, (0, ([], []))))).2.2.2.2).getD ((0 : Int)).toNat 0) - (t9.getD (t11).toNat (0, (0, (0, ([], []))))).1)), (((t9.getD (t11).toNat (0, (0, (0, ([], []))))).2.2.2.1).length : Int)] : List Int)).length : Int) ∧ (0 ≤ (8 : Int) ∧ (Tok.own ((.tk (T.n + 1))) (((T.n + 1) :: Tok.drop (.tk T.n) (T.n :: Tok.drop b4k T.l))) ∧ ((((b4 ++ ([(IntKind.wrap .u8 (t9.getD (t11).toNat (0, (0, (0, ([], []))))).2.1)] : List Int)) ++ ([(IntKind.wrap .u8 (Int.fdiv ((([(IntKind.wrap .i64 ((((t9.getD (t11).toNat (0, (0, (0, ([], []))))).2.2.2.2).getD ((0 : Int)).toNat 0) - (t9.getD (t11).toNat (0, (0, (0, ([], []))))).1)), (((t9.getD (t11).toNat (0, (0, (0, ([], []))))).2.2.2.1).length : Int)] : List Int)).getD ((0 : Int)).toNat 0) (2 ^ min ((8 : Int)).toNat (IntKind.bits .i64)))), (IntKind.wrap .u8 ((([(IntKind.wrap .i64 ((((t9.getD (t11).toNat (0, (0, (0, ([], []))))).2.2.2.2).getD ((0 : Int)).toNat 0) - (t9.getD (t11).toNat (0, (0, (0, ([], []))))).1)), (((t9.getD (t11).toNat (0, (0, (0, ([], []))))).2.2.2.1).length : Int)] : List Int)).getD ((0 : Int)).toNat 0))] : List Int))).length + (([(IntKind.wrap .u8 (Int.fdiv ((([(IntKind.wrap .i64 ((((t9.getD (t11).toNat (0, (0, (0, ([], []))))).2.2.2.2).getD ((0 : Int)).toNat 0) - (t9.getD (t11).toNat (0, (0, (0, ([], []))))).1)), (((t9.getD (t11).toNat (0, (0, (0, ([], []))))).2.2.2.1).length : Int)] : List Int)).getD ((1 : Int)).toNat 0) (2 ^ min ((8 : Int)).toNat (IntKind.bits .i64)))), (IntKind.wrap .u8 ((([(IntKind.wrap .i64 ((((t9.getD (t11).toNat (0, (0, (0, ([], []))))).2.2.2.2).getD ((0 : Int)).toNat 0) - (t9.getD (t11).toNat (0, (0, (0, ([], []))))).1)), (((t9.getD (t11).toNat (0, (0, (0, ([], []))))).2.2.2.1).length : Int)] : List Int)).getD ((1 : Int)).toNat 0))] : List Int)).length) * 1 ≤ room ∧ (Loops B45c10_2_1 M45c10_2_1 (Q45c10_2_1 R k0 l0 b4 b4k p1 t9 t10 t11 ((decide (t11 < t10))) ((t9.getD (t11).toNat (0, (0, (0, ([], []))))).1) ((t9.getD (t11).toNat (0, (0, (0, ([], []))))).2.1) ((t9.getD (t11).toNat (0, (0, (0, ([], []))))).2.2.1) ((t9.getD (t11).toNat (0, (0, (0, ([], []))))).2.2.2.1) .no ((t9.getD (t11).toNat (0, (0, (0, ([], []))))).2.2.2.2) .no ((t9.getD (t11).toNat (0, (0, (0, ([], []))))).1) ((t9.getD (t11).toNat (0, (0, (0, ([], []))))).2.1) ((t9.getD (t11).toNat (0, (0, (0, ([], []))))).2.2.1) ((t9.getD (t11).toNat (0, (0, (0, ([], []))))).2.2.2.1) .no ((t9.getD (t11).toNat (0, (0, (0, ([], []))))).2.2.2.2) .no ((t9.getD (t11).toNat (0, (0, (0, ([], []))))).1) ((t9.getD (t11).toNat (0, (0, (0, ([], []))))).2.1) ((t9.getD (t11).toNat (0, (0, (0, ([], []))))).2.2.1) ((t9.getD (t11).toNat (0, (0, (0, ([], []))))).2.2.2.1) .no ((t9.getD (t11).toNat (0, (0, (0, ([], []))))).2.2.2.2) .no p1 p1 ((p1 != (0 : Int))) ((t9.getD (t11).toNat (0, (0, (0, ([], []))))).1) b4 b4k (((b4).length : Int)) (((t9.getD (t11).toNat (0, (0, (0, ([], []))))).1 != ((b4).length : Int))) b4 b4k ((t9.getD (t11).toNat (0, (0, (0, ([], []))))).1) ((t9.getD (t11).toNat (0, (0, (0, ([], []))))).2.1) ((t9.getD (t11).toNat (0, (0, (0, ([], []))))).2.2.1) ((t9.getD (t11).toNat (0, (0, (0, ([], []))))).2.2.2.1) .no ((t9.getD (t11).toNat (0, (0, (0, ([], []))))).2.2.2.2) .no)
  (S45c10_2_1 ((((b4 ++ ([(IntKind.wrap .u8 (t9.getD (t11).toNat (0, (0, (0, ([], []))))).2.1)] : List Int)) ++ ([(IntKind.wrap .u8 (Int.fdiv ((([(IntKind.wrap .i64 ((((t9.getD (t11).toNat (0, (0, (0, ([], []))))).2.2.2.2).getD ((0 : Int)).toNat 0) - (t9.getD (t11).toNat (0, (0, (0, ([], []))))).1)), (((t9.getD (t11).toNat (0, (0, (0, ([], []))))).2.2.2.1).length : Int)] : List Int)).getD ((0 : Int)).toNat 0) (2 ^ min ((8 : Int)).toNat (IntKind.bits .i64)))), (IntKind.wrap .u8 ((([(IntKind.wrap .i64 ((((t9.getD (t11).toNat (0, (0, (0, ([], []))))).2.2.2.2).getD ((0 : Int)).toNat 0) - (t9.getD (t11).toNat (0, (0, (0, ([], []))))).1)), (((t9.getD (t11).toNat (0, (0, (0, ([], []))))).2.2.2.1).length : Int)] : List Int)).getD ((0 : Int)).toNat 0))] : List Int)) ++ ([(IntKind.wrap .u8 (Int.fdiv ((([(IntKind.wrap .i64 ((((t9.getD (t11).toNat (0, (0, (0, ([], []))))).2.2.2.2).getD ((0 : Int)).toNat 0) - (t9.getD (t11).toNat (0, (0, (0, ([], []))))).1)), (((t9.getD (t11).toNat (0, (0, (0, ([], []))))).2.2.2.1).length : Int)] : List Int)).getD ((1 : Int)).toNat 0) (2 ^ min ((8 : Int)).toNat (IntKind.bits .i64)))), (IntKind.wrap .u8 ((([(IntKind.wrap .i64 ((((t9.getD (t11).toNat (0, (0, (0, ([], []))))).2.2.2.2).getD ((0 : Int)).toNat 0) - (t9.getD (t11).toNat (0, (0, (0, ([], []))))).1)), (((t9.getD (t11).toNat (0, (0, (0, ([], []))))).2.2.2.1).length : Int)] : List Int)).getD ((1 : Int)).toNat 0))] : List Int))) ((.tk ((T.n + 1) + 1))) ((t9.getD (t11).toNat (0, (0, (0, ([], []))))).2.2.2.1) ((((t9.getD (t11).toNat (0, (0, (0, ([], []))))).2.2.2.1).length : Int)) (0 : Int) ((t9.getD (t11).toNat (0, (0, (0, ([], []))))).1) ((t9.getD (t11).toNat (0, (0, (0, ([], []))))).2.1) ((t9.getD (t11).toNat (0, (0, (0, ([], []))))).2.2.1) ((t9.getD (t11).toNat (0, (0, (0, ([], []))))).2.2.2.1) .no ((t9.getD (t11).toNat (0, (0, (0, ([], []))))).2.2.2.2) .no ((t9.getD (t11).toNat (0, (0, (0, ([], []))))).1) ((t9.getD (t11).toNat (0, (0, (0, ([], []))))).2.1) ((t9.getD (t11).toNat (0, (0, (0, ([], []))))).2.2.1) ((t9.getD (t11).toNat (0, (0, (0, ([], []))))).2.2.2.1) .no ((t9.getD (t11).toNat (0, (0, (0, ([], []))))).2.2.2.2) .no ⟨(((T.n + 1) + 1) + 1), (((T.n + 1) + 1) :: Tok.drop ((.tk (T.n + 1))) (((T.n + 1) :: Tok.drop (.tk T.n) (T.n :: Tok.drop b4k T.l))))⟩)))))))))) ∧
 ((p2 == (115 : Int)) = false → k0 (S45_0 l0 ((b4 ++ ([(IntKind.wrap .u8 (t9.getD (t11).toNat (0, (0, (0, ([], []))))).2.1)] : List Int))) (.tk T.n) t9 t10 ((IntKind.wrap .i64 (t11 + (1 : Int)))) ⟨(T.n + 1), (T.n :: Tok.drop b4k T.l)⟩)))))))))))))))))) ∧
 ((decide (t11 < t10)) = false → (((((l0).length : Int) == (0 : Int)) = true → R (.tup [(.str ([] : List UInt8)), (.int .i64 (5 : Int))])) ∧
 ((((l0).length : Int) == (0 : Int)) = false → (((decide (((b4).length : Int) > (4096 : Int))) = true → R (.tup [(.str ([] : List UInt8)), (.int .i64 (2 : Int))])) ∧
 ((decide (((b4).length : Int) > (4096 : Int))) = false → (∃ p3 : Int, PC Try.prog 64 [(.list (.pair (.int .i64) (.pair (.int .i64) (.pair (.int .i64) (.pair (.slice (.int .i64)) (.slice (.int .i64)))))) l0 .no)] (.int .i64 p3) ∧ (((p3 != (0 : Int)) = true → R (.tup [(.str ([] : List UInt8)), (.int .i64 p3)])) ∧
 ((p3 != (0 : Int)) = false → R (.tup [(.str (ofBytes b4)), (.int .i64 (0 : Int))]))))))))))) :
  B45_0 (loopQ M45_0 k0 (Q45_0 R)) (S45_0 l0 b4 b4k t9 t10 t11 T) := Eq.mp (by kernel_rfl) h
theorem L45c10_2_1 (b0 : List Int) (b0k : Tok) (t59 : List Int) (t60 : Int) (t61 : Int) (hq0_0 : Int) (hq0_1 : Int) (hq0_2 : Int) (hq0_3 : List Int) (hq0_3k : Tok) (hq0_4 : List Int) (hq0_4k : Tok) (hq1_0 : Int) (hq1_1 : Int) (hq1_2 : Int) (hq1_3 : List Int) (hq1_3k : Tok) (hq1_4 : List Int) (hq1_4k : Tok) (T : Toks) {R : V → Prop} {k0 : St → Prop} {z10_2_l0 : List (Int × (Int × (Int × ((List Int) × (List Int)))))} {z10_2_b4 : List Int} {z10_2_b4k : Tok} {z10_2_err7 : Int} {z10_2_t9 : List (Int × (Int × (Int × ((List Int) × (List Int)))))} {z10_2_t10 : Int} {z10_2_t11 : Int} {z10_2_t12 : Bool} {z10_2_t13_0 : Int} {z10_2_t13_1 : Int} {z10_2_t13_2 : Int} {z10_2_t13_3 : List Int} {z10_2_t13_3k : Tok} {z10_2_t13_4 : List Int} {z10_2_t13_4k : Tok} {z10_2_t14_0 : Int} {z10_2_t14_1 : Int} {z10_2_t14_2 : Int} {z10_2_t14_3 : List Int} {z10_2_t14_3k : Tok} {z10_2_t14_4 : List Int} {z10_2_t14_4k : Tok} {z10_2_t15_0 : Int} {z10_2_t15_1 : Int} {z10_2_t15_2 : Int} {z10_2_t15_3 : List Int} {z10_2_t15_3k : Tok} {z10_2_t15_4 : List Int} {z10_2_t15_4k : Tok} {z10_2_t16 : Int} {z10_2_t17 : Int} {z10_2_t18 : Bool} {z10_2_t21 : Int} {z10_2_t22 : List Int} {z10_2_t22k : Tok} {z10_2_t23 : Int} {z10_2_t24 : Bool} {z10_2_t25 : List Int} {z10_2_t25k : Tok} {z10_2_t26_0 : Int} {z10_2_t26_1 : Int} {z10_2_t26_2 : Int} {z10_2_t26_3 : List Int} {z10_2_t26_3k : Tok} {z10_2_t26_4 : List Int} {z10_2_t26_4k : Tok} {kc10_2_1 : St → Prop}
 (h : (((decide (t61 < t60)) = true → (0 ≤ t61 ∧ t61 < ((t59).length : Int) ∧ (0 ≤ (IntKind.wrap .i64 (t61 + (1 : Int))) ∧ (IntKind.wrap .i64 (t61 + (1 : Int))) < ((hq1_4).length : Int) ∧ (0 ≤ (0 : Int) ∧ (0 : Int) < ((([(t59.getD (t61).toNat 0), (IntKind.wrap .i64 ((hq1_4.getD ((IntKind.wrap .i64 (t61 + (1 : Int)))).toNat 0) - hq1_0))] : List Int)).length : Int) ∧ (0 ≤ (8 : Int) ∧ (Tok.own b0k T.l ∧ ((b0).length + (([(IntKind.wrap .u8 (Int.fdiv ((([(t59.getD (t61).toNat 0), (IntKind.wrap .i64 ((hq1_4.getD ((IntKind.wrap .i64 (t61 + (1 : Int)))).toNat 0) - hq1_0))] : List Int)).getD ((0 : Int)).toNat 0) (2 ^ min ((8 : Int)).toNat (IntKind.bits .i64)))), (IntKind.wrap .u8 ((([(t59.getD (t61).toNat 0), (IntKind.wrap .i64 ((hq1_4.getD ((IntKind.wrap .i64 (t61 + (1 : Int)))).toNat 0) - hq1_0))] : List Int)).getD ((0 : Int)).toNat 0))] : List Int)).length) * 1 ≤ room ∧ (0 ≤ (1 : Int) ∧ (1 : Int) < ((([(t59.getD (t61).toNat 0), (IntKind.wrap .i64 ((hq1_4.getD ((IntKind.wrap .i64 (t61 + (1 : Int)))).toNat 0) - hq1_0))] : List Int)).length : Int) ∧ (0 ≤ (8 : Int) ∧ (Tok.own (.tk T.n) (T.n :: Tok.drop b0k T.l) ∧ (((b0 ++ ([(IntKind.wrap .u8 (Int.fdiv ((([(t59.getD (t61).toNat 0), (IntKind.wrap .i64 ((hq1_4.getD ((IntKind.wrap .i64 (t61 + (1 : Int)))).toNat 0) - hq1_0))] : List Int)).getD ((0 : Int)).toNat 0) (2 ^ min ((8 : Int)).toNat (IntKind.bits .i64)))), (IntKind.wrap .u8 ((([(t59.getD (t61).toNat 0), (IntKind.wrap .i64 ((hq1_4.getD ((IntKind.wrap .i64 (t61 + (1 : Int)))).toNat 0) - hq1_0))] : List Int)).getD ((0 : Int)).toNat 0))] : List Int))).length + (([(IntKind.wrap .u8 (Int.fdiv ((([(t59.getD (t61).toNat 0), (IntKind.wrap .i64 ((hq1_4.getD ((IntKind.wrap .i64 (t61 + (1 : Int)))).toNat 0) - hq1_0))] : List Int)).getD ((1 : Int)).toNat 0) (2 ^ min ((8 : Int)).toNat (IntKind.bits .i64)))), (IntKind.wrap .u8 ((([(t59.getD (t61).toNat 0), (IntKind.wrap .i64 ((hq1_4.getD ((IntKind.wrap .i64 (t61 + (1 : Int)))).toNat 0) - hq1_0))] : List Int)).getD ((1 : Int)).toNat 0))] : List Int)).length) * 1 ≤ room ∧ kc10_2_1 (S45c10_2_1 (((b0 ++ ([(IntKind.wrap .u8 (Int.fdiv ((([(t59.getD (t61).toNat 0), (IntKind.wrap .i64 ((hq1_4.getD ((IntKind.wrap .i64 (t61 + (1 : Int)))).toNat 0) - hq1_0))] : List Int)).getD ((0 : Int)).toNat 0) (2 ^ min ((8 : Int)).toNat (IntKind.bits .i64)))), (IntKind.wrap .u8 ((([(t59.getD (t61).toNat 0), (IntKind.wrap .i64 ((hq1_4.getD ((IntKind.wrap .i64 (t61 + (1 : Int)))).toNat 0) - hq1_0))] : List Int)).getD ((0 : Int)).toNat 0))] : List Int)) ++ ([(IntKind.wrap .u8 (Int.fdiv ((([(t59.getD (t61).toNat 0), (IntKind.wrap .i64 ((hq1_4.getD ((IntKind.wrap .i64 (t61 + (1 : Int)))).toNat 0) - hq1_0))] : List Int)).getD ((1 : Int)).toNat 0) (2 ^ min ((8 : Int)).toNat (IntKind.bits .i64)))), (IntKind.wrap .u8 ((([(t59.getD (t61).toNat 0), (IntKind.wrap .i64 ((hq1_4.getD ((IntKind.wrap .i64 (t61 + (1 : Int)))).toNat 0) - hq1_0))] : List Int)).getD ((1 : Int)).toNat 0))] : List Int))) ((.tk (T.n + 1))) t59 t60 ((IntKind.wrap .i64 (t61 + (1 : Int)))) hq0_0 hq0_1 hq0_2 hq0_3 hq0_3k hq0_4 hq0_4k hq1_0 hq1_1 hq1_2 hq1_3 hq1_3k hq1_4 hq1_4k ⟨((T.n + 1) + 1), ((T.n + 1) :: Tok.drop (.tk T.n) (T.n :: Tok.drop b0k T.l))⟩)))))))))) ∧
 ((decide (t61 < t60)) = false → k0 (S45_0 z10_2_l0 b0 b0k z10_2_t9 z10_2_t10 ((IntKind.wrap .i64 (z10_2_t11 + (1 : Int)))) T)))) :
  B45c10_2_1 (loopQ M45c10_2_1 kc10_2_1 (Q45c10_2_1 R k0 z10_2_l0 z10_2_b4 z10_2_b4k z10_2_err7 z10_2_t9 z10_2_t10 z10_2_t11 z10_2_t12 z10_2_t13_0 z10_2_t13_1 z10_2_t13_2 z10_2_t13_3 z10_2_t13_3k z10_2_t13_4 z10_2_t13_4k z10_2_t14_0 z10_2_t14_1 z10_2_t14_2 z10_2_t14_3 z10_2_t14_3k z10_2_t14_4 z10_2_t14_4k z10_2_t15_0 z10_2_t15_1 z10_2_t15_2 z10_2_t15_3 z10_2_t15_3k z10_2_t15_4 z10_2_t15_4k z10_2_t16 z10_2_t17 z10_2_t18 z10_2_t21 z10_2_t22 z10_2_t22k z10_2_t23 z10_2_t24 z10_2_t25 z10_2_t25k z10_2_t26_0 z10_2_t26_1 z10_2_t26_2 z10_2_t26_3 z10_2_t26_3k z10_2_t26_4 z10_2_t26_4k)) (S45c10_2_1 b0 b0k t59 t60 t61 hq0_0 hq0_1 hq0_2 hq0_3 hq0_3k hq0_4 hq0_4k hq1_0 hq1_1 hq1_2 hq1_3 hq1_3k hq1_4 hq1_4k T) := Eq.mp (by kernel_rfl) h
end Go.Proofs.Ytaaedebknacheaa.AB

set_option linter.unusedVariables false
set_option linter.unusedSimpArgs false
set_option maxRecDepth 100000
set_option maxHeartbeats 2000000
namespace Go.Proofs.Ytaaedebknacheaa.AB
open Go
/-! crucible/crucibleref4.Encode -/
noncomputable def X46 : Cx := ⟨tt, [(29, [.cd (.int .u8)]), (66, [.cd (.int .i64)]), (71, [.cd (.int .i64), .cd (.int .i64)]), (72, [.cd (.slice (.int .u8))])], [], [(46, [(0, mkM 138 0 [0, 4, 5], 0), (2, mkM 138 0 [0, 9, 10], 0), (5, mkM 138 0 [0, 9, 10, 11, 12], 1)])], []⟩
theorem FN46 : fnsB Try.prog X46.fns := (show True from trivial)
def M46_0 : List Bool × Nat := (mkM 138 0 [0, 4, 5], 0)
def S46_0 (l0 : List (Int × (Int × (Int × ((List Int) × (List Int)))))) (pc4 : Int) (i5 : Int) (T : Toks) : St :=
  mkS 138 [(0, (.v (.list (.pair (.int .i64) (.pair (.int .i64) (.pair (.int .i64) (.pair (.slice (.int .i64)) (.slice (.int .i64)))))) l0 .no))), (4, (.v (.int .i64 pc4))), (5, (.v (.int .i64 i5)))] [] T
noncomputable def B46_0 : (Exit → St → Prop) → St → Prop := (awp X46.tt (callN Try.prog X46 0) (X46.md 46) 0 (X46.mk1 46) 0 (codeAt [1, 1, 0, 1, 0, 0] (bd Try.f46)))
def M46_2 : List Bool × Nat := (mkM 138 0 [0, 9, 10], 0)
def S46_2 (l0 : List (Int × (Int × (Int × ((List Int) × (List Int)))))) (b9 : List Int) (b9k : Tok) (i10 : Int) (T : Toks) : St :=
  mkS 138 [(0, (.v (.list (.pair (.int .i64) (.pair (.int .i64) (.pair (.int .i64) (.pair (.slice (.int .i64)) (.slice (.int .i64)))))) l0 .no))), (9, (.v (.list (.int .u8) b9 b9k))), (10, (.v (.int .i64 i10)))] [] T
noncomputable def B46_2 : (Exit → St → Prop) → St → Prop := (awp X46.tt (callN Try.prog X46 0) (X46.md 46) 0 (X46.mk1 46) 2 (codeAt [1, 1, 1, 1, 1, 1, 1, 1, 0, 1, 0, 0] (bd Try.f46)))
def M46_5 : List Bool × Nat := (mkM 138 0 [0, 9, 10, 11, 12], 1)
def S46_5 (l0 : List (Int × (Int × (Int × ((List Int) × (List Int)))))) (b9 : List Int) (b9k : Tok) (i10 : Int) (k12 : Int) (hq0_0 : Int) (hq0_1 : Int) (hq0_2 : Int) (hq0_3 : List Int) (hq0_3k : Tok) (hq0_4 : List Int) (hq0_4k : Tok) (T : Toks) : St :=
  mkS 138 [(0, (.v (.list (.pair (.int .i64) (.pair (.int .i64) (.pair (.int .i64) (.pair (.slice (.int .i64)) (.slice (.int .i64)))))) l0 .no))), (9, (.v (.list (.int .u8) b9 b9k))), (10, (.v (.int .i64 i10))), (11, (.ptr 0 0 0 0)), (12, (.v (.int .i64 k12)))] [(some (.box (.v (.agg [(.int .i64 hq0_0), (.int .i64 hq0_1), (.int .i64 hq0_2), (.list (.int .i64) hq0_3 hq0_3k), (.list (.int .i64) hq0_4 hq0_4k)]))))] T
noncomputable def B46_5 : (Exit → St → Prop) → St → Prop := (awp X46.tt (callN Try.prog X46 0) (X46.md 46) 0 (X46.mk1 46) 5 (codeAt [1, 1, 1, 1, 1, 1, 1, 1, 0, 1, 0, 0, 1, 0, 0, 1, 1, 1, 0, 1, 1, 1, 1, 1, 1, 1, 0, 1, 1, 1, 0, 0] (bd Try.f46)))
noncomputable def K46_0 (R : V → Prop) : Exit → St → Prop := seqK ((awp X46.tt (callN Try.prog X46 0) (X46.md 46) 0 (X46.mk1 46) 0 (codeAt [1, 1, 1] (bd Try.f46))) (retK tt Try.f46.results.toList fun x s' => topK R x ⟨[], s'.hp, s'.T⟩)) (retK tt Try.f46.results.toList fun x s' => topK R x ⟨[], s'.hp, s'.T⟩)
noncomputable def Q46_0 (R : V → Prop) : Exit → St → Prop := (blockK 0 (K46_0 R))
noncomputable def K46_1 (R : V → Prop) : Exit → St → Prop := seqK ((awp X46.tt (callN Try.prog X46 0) (X46.md 46) 0 (X46.mk1 46) 0 (codeAt [1, 1, 1, 1, 1, 1, 1, 1, 1] (bd Try.f46))) (retK tt Try.f46.results.toList fun x s' => topK R x ⟨[], s'.hp, s'.T⟩)) (retK tt Try.f46.results.toList fun x s' => topK R x ⟨[], s'.hp, s'.T⟩)
noncomputable def Q46_2 (R : V → Prop) : Exit → St → Prop := (blockK 2 (K46_1 R))
noncomputable def K46_2 (R : V → Prop) (k2 : St → Prop) : Exit → St → Prop := seqK ((awp X46.tt (callN Try.prog X46 0) (X46.md 46) 0 (X46.mk1 46) 2 (codeAt [1, 1, 1, 1, 1, 1, 1, 1, 0, 1, 0, 0, 1, 1] (bd Try.f46))) (loopQ M46_2 k2 (blockK 2 (K46_1 R)))) (loopQ M46_2 k2 (blockK 2 (K46_1 R)))
noncomputable def Q46_5 (R : V → Prop) (k2 : St → Prop) : Exit → St → Prop := (blockK 5 (blockK 4 (blockK 3 (K46_2 R k2))))
theorem E46 (l0 : (List (Int × (Int × (Int × ((List Int) × (List Int))))))) {R : V → Prop} (h : (Loops B46_0 M46_0 (Q46_0 R)
  (S46_0 l0 (0 : Int) (0 : Int) ⟨0, []⟩))) :
  fnK X46.tt (callN Try.prog X46 0) (X46.md 46) (X46.mk1 46) Try.f46 [(.v (.list (.pair (.int .i64) (.pair (.int .i64) (.pair (.int .i64) (.pair (.slice (.int .i64)) (.slice (.int .i64)))))) l0 .no))] ⟨[], [], ⟨0, []⟩⟩ (topK R) := Eq.mp (by kernel_rfl) h
theorem L46_0 (l0 : List (Int × (Int × (Int × ((List Int) × (List Int)))))) (pc4 : Int) (i5 : Int) (T : Toks) {R : V → Prop} {k0 : St → Prop}
 (h : (((decide (i5 < ((l0).length : Int))) = true → (0 ≤ i5 ∧ i5 < ((l0).length : Int) ∧ (∃ p1 : Int × Int, PC Try.prog 71 [(.agg [(.int .i64 ((l0.getD (i5).toNat (0, (0, (0, ([], []))))).1)), (.int .i64 ((l0.getD (i5).toNat (0, (0, (0, ([], []))))).2.1)), (.int .i64 ((l0.getD (i5).toNat (0, (0, (0, ([], []))))).2.2.1)), (.list (.int .i64) ((l0.getD (i5).toNat (0, (0, (0, ([], []))))).2.2.2.1) .no), (.list (.int .i64) ((l0.getD (i5).toNat (0, (0, (0, ([], []))))).2.2.2.2) .no)]), (.int .i64 pc4)] ((.tup [(.int .i64 p1.1), (.int .i64 p1.2)])) ∧ (((p1.2 != (0 : Int)) = true → R (.tup [(.str ([] : List UInt8)), (.int .i64 p1.2)])) ∧
 ((p1.2 != (0 : Int)) = false → k0 (S46_0 l0 ((IntKind.wrap .i64 (pc4 + p1.1))) ((IntKind.wrap .i64 (i5 + (1 : Int)))) T)))))) ∧
 ((decide (i5 < ((l0).length : Int))) = false → (((((l0).length : Int) == (0 : Int)) = true → R (.tup [(.str ([] : List UInt8)), (.int .i64 (5 : Int))])) ∧
 ((((l0).length : Int) == (0 : Int)) = false → (((decide (pc4 > (4096 : Int))) = true → R (.tup [(.str ([] : List UInt8)), (.int .i64 (2 : Int))])) ∧
 ((decide (pc4 > (4096 : Int))) = false → (∃ p2 : Int, PC Try.prog 66 [(.list (.pair (.int .i64) (.pair (.int .i64) (.pair (.int .i64) (.pair (.slice (.int .i64)) (.slice (.int .i64)))))) l0 .no), (.int .i64 pc4)] (.int .i64 p2) ∧ (((p2 != (0 : Int)) = true → R (.tup [(.str ([] : List UInt8)), (.int .i64 p2)])) ∧
 ((p2 != (0 : Int)) = false → (Loops B46_2 M46_2 (Q46_2 R)
  (S46_2 l0 ([] : List Int) .exact (0 : Int) T)))))))))))) :
  B46_0 (loopQ M46_0 k0 (Q46_0 R)) (S46_0 l0 pc4 i5 T) := Eq.mp (by kernel_rfl) h
theorem L46_2 (l0 : List (Int × (Int × (Int × ((List Int) × (List Int)))))) (b9 : List Int) (b9k : Tok) (i10 : Int) (T : Toks) {R : V → Prop} {k2 : St → Prop}
 (h : (((decide (i10 < ((l0).length : Int))) = true → (0 ≤ i10 ∧ i10 < ((l0).length : Int) ∧ (Tok.own b9k T.l ∧ ((b9).length + (([(IntKind.wrap .u8 (l0.getD (i10).toNat (0, (0, (0, ([], []))))).2.1)] : List Int)).length) * 1 ≤ room ∧ (∃ p3 : Int, PC Try.prog 29 [(.int .i64 ((l0.getD (i10).toNat (0, (0, (0, ([], []))))).2.1))] (.int .u8 p3) ∧ (((p3 == (98 : Int)) = true → (Tok.own (.tk T.n) (T.n :: Tok.drop b9k T.l) ∧ (((b9 ++ ([(IntKind.wrap .u8 (l0.getD (i10).toNat (0, (0, (0, ([], []))))).2.1)] : List Int))).length + (([(IntKind.wrap .u8 (l0.getD (i10).toNat (0, (0, (0, ([], []))))).2.2.1)] : List Int)).length) * 1 ≤ room ∧ k2 (S46_2 l0 (((b9 ++ ([(IntKind.wrap .u8 (l0.getD (i10).toNat (0, (0, (0, ([], []))))).2.1)] : List Int)) ++ ([(IntKind.wrap .u8 (l0.getD (i10).toNat (0, (0, (0, ([], []))))).2.2.1)] : List Int))) ((.tk (T.n + 1))) ((IntKind.wrap .i64 (i10 + (1 : Int)))) ⟨((T.n + 1) + 1), ((T.n + 1) :: Tok.drop (.tk T.n) (T.n :: Tok.drop b9k T.l))⟩))) ∧
 ((p3 == (98 : Int)) = false → (((p3 == (110 : Int)) = true → (∃ p4 : (List Int), PC Try.prog 72 [(.int .i64 ((l0.getD (i10).toNat (0, (0, (0, ([], []))))).2.2.1))] ((.list (.int .u8) p4 .no)) ∧ (Tok.own (.tk T.n) (T.n :: Tok.drop b9k T.l) ∧ (((b9 ++ ([(IntKind.wrap .u8 (l0.getD (i10).toNat (0, (0, (0, ([], []))))).2.1)] : List Int))).length + (p4).length) * 1 ≤ room ∧ k2 (S46_2 l0 (((b9 ++ ([(IntKind.wrap .u8 (l0.getD (i10).toNat (0, (0, (0, ([], []))))).2.1)] : List Int)) ++ p4)) ((.tk (T.n + 1))) ((IntKind.wrap .i64 (i10 + (1 : Int)))) ⟨((T.n + 1) + 1), ((T.n + 1) :: Tok.drop (.tk T.n) (T.n :: Tok.drop b9k T.l))⟩)))) ∧
 ((p3 == (110 : Int)) = false → (((p3 == (106 : Int)) = true → (0 ≤ (0 : Int) ∧ (0 : Int) < (((l0.getD (i10).toNat (0, (0, (0, ([], []))))).2.2.2.2).length : Int) ∧ (∃ p5 : (List Int), PC Try.prog 72 [(.int .i64 ((IntKind.wrap .i64 ((((l0.getD (i10).toNat (0, (0, (0, ([], []))))).2.2.2.2).getD ((0 : Int)).toNat 0) - (l0.getD (i10).toNat (0, (0, (0, ([], []))))).1))))] ((.list (.int .u8) p5 .no)) ∧ (Tok.own (.tk T.n) (T.n :: Tok.drop b9k T.l) ∧ (((b9 ++ ([(IntKind.wrap .u8 (l0.getD (i10).toNat (0, (0, (0, ([], []))))).2.1)] : List Int))).length + (p5).length) * 1 ≤ room ∧ (∀ (m6 : Nat), ((T.n + 1) + 1) ≤ m6 → k2 (S46_2 l0 (((b9 ++ ([(IntKind.wrap .u8 (l0.getD (i10).toNat (0, (0, (0, ([], []))))).2.1)] : List Int)) ++ p5)) ((.tk (T.n + 1))) ((IntKind.wrap .i64 (i10 + (1 : Int)))) ⟨m6, ((T.n + 1) :: Tok.drop (.tk T.n) (T.n :: Tok.drop b9k T.l))⟩)))))) ∧
 ((p3 == (106 : Int)) = false → (((p3 == (115 : Int)) = true → (0 ≤ (0 : Int) ∧ (0 : Int) < (((l0.getD (i10).toNat (0, (0, (0, ([], []))))).2.2.2.2).length : Int) ∧ (∃ p7 : (List Int), PC Try.prog 72 [(.int .i64 ((IntKind.wrap .i64 ((((l0.getD (i10).toNat (0, (0, (0, ([], []))))).2.2.2.2).getD ((0 : Int)).toNat 0) - (l0.getD (i10).toNat (0, (0, (0, ([], []))))).1))))] ((.list (.int .u8) p7 .no)) ∧ (Tok.own (.tk T.n) (T.n :: Tok.drop b9k T.l) ∧ (((b9 ++ ([(IntKind.wrap .u8 (l0.getD (i10).toNat (0, (0, (0, ([], []))))).2.1)] : List Int))).length + (p7).length) * 1 ≤ room ∧ (∀ (m8 : Nat), ((T.n + 1) + 1) ≤ m8 → (∃ p9 : (List Int), PC Try.prog 72 [(.int .i64 ((((l0.getD (i10).toNat (0, (0, (0, ([], []))))).2.2.2.1).length : Int)))] ((.list (.int .u8) p9 .no)) ∧ (Tok.own ((.tk (T.n + 1))) (((T.n + 1) :: Tok.drop (.tk T.n) (T.n :: Tok.drop b9k T.l))) ∧ ((((b9 ++ ([(IntKind.wrap .u8 (l0.getD (i10).toNat (0, (0, (0, ([], []))))).2.1)] : List Int)) ++ p7)).length + (p9).length) * 1 ≤ room ∧ (Loops B46_5 M46_5 (Q46_5 R k2)
  (S46_5 l0 ((((b9 ++ ([(IntKind.wrap .u8 (l0.getD (i10).toNat (0, (0, (0, ([], []))))).2.1)] : List Int)) ++ p7) ++ p9)) (.tk m8) i10 (0 : Int) ((l0.getD (i10).toNat (0, (0, (0, ([], []))))).1) ((l0.getD (i10).toNat (0, (0, (0, ([], []))))).2.1) ((l0.getD (i10).toNat (0, (0, (0, ([], []))))).2.2.1) ((l0.getD (i10).toNat (0, (0, (0, ([], []))))).2.2.2.1) .no ((l0.getD (i10).toNat (0, (0, (0, ([], []))))).2.2.2.2) .no ⟨(m8 + 1), (m8 :: Tok.drop ((.tk (T.n + 1))) (((T.n + 1) :: Tok.drop (.tk T.n) (T.n :: Tok.drop b9k T.l))))⟩))))))))) ∧
 ((p3 == (115 : Int)) = false → k2 (S46_2 l0 ((b9 ++ ([(IntKind.wrap .u8 (l0.getD (i10).toNat (0, (0, (0, ([], []))))).2.1)] : List Int))) (.tk T.n) ((IntKind.wrap .i64 (i10 + (1 : Int)))) ⟨(T.n + 1), (T.n :: Tok.drop b9k T.l)⟩))))))))))))) ∧
 ((decide (i10 < ((l0).length : Int))) = false → R (.tup [(.str (ofBytes b9)), (.int .i64 (0 : Int))])))) :
  B46_2 (loopQ M46_2 k2 (Q46_2 R)) (S46_2 l0 b9 b9k i10 T) := Eq.mp (by kernel_rfl) h
theorem L46_5 (l0 : List (Int × (Int × (Int × ((List Int) × (List Int)))))) (b9 : List Int) (b9k : Tok) (i10 : Int) (k12 : Int) (hq0_0 : Int) (hq0_1 : Int) (hq0_2 : Int) (hq0_3 : List Int) (hq0_3k : Tok) (hq0_4 : List Int) (hq0_4k : Tok) (T : Toks) {R : V → Prop} {k2 : St → Prop} {k5 : St → Prop}
 (h : (((decide (k12 < ((hq0_3).length : Int))) = true → (0 ≤ k12 ∧ k12 < ((hq0_3).length : Int) ∧ (∃ p10 : (List Int), PC Try.prog 72 [(.int .i64 ((hq0_3.getD (k12).toNat 0)))] ((.list (.int .u8) p10 .no)) ∧ (Tok.own b9k T.l ∧ ((b9).length + (p10).length) * 1 ≤ room ∧ (0 ≤ (IntKind.wrap .i64 (k12 + (1 : Int))) ∧ (IntKind.wrap .i64 (k12 + (1 : Int))) < ((hq0_4).length : Int) ∧ (∃ p11 : (List Int), PC Try.prog 72 [(.int .i64 ((IntKind.wrap .i64 ((hq0_4.getD ((IntKind.wrap .i64 (k12 + (1 : Int)))).toNat 0) - hq0_0))))] ((.list (.int .u8) p11 .no)) ∧ (Tok.own (.tk T.n) (T.n :: Tok.drop b9k T.l) ∧ (((b9 ++ p10)).length + (p11).length) * 1 ≤ room ∧ (∀ (m12 : Nat), ((T.n + 1) + 1) ≤ m12 → k5 (S46_5 l0 (((b9 ++ p10) ++ p11)) ((.tk (T.n + 1))) i10 ((IntKind.wrap .i64 (k12 + (1 : Int)))) hq0_0 hq0_1 hq0_2 hq0_3 hq0_3k hq0_4 hq0_4k ⟨m12, ((T.n + 1) :: Tok.drop (.tk T.n) (T.n :: Tok.drop b9k T.l))⟩))))))))) ∧
 ((decide (k12 < ((hq0_3).length : Int))) = false → k2 (S46_2 l0 b9 b9k ((IntKind.wrap .i64 (i10 + (1 : Int)))) T)))) :
  B46_5 (loopQ M46_5 k5 (Q46_5 R k2)) (S46_5 l0 b9 b9k i10 k12 hq0_0 hq0_1 hq0_2 hq0_3 hq0_3k hq0_4 hq0_4k T) := Eq.mp (by kernel_rfl) h
end Go.Proofs.Ytaaedebknacheaa.AB

set_option linter.unusedVariables false
set_option linter.unusedSimpArgs false
set_option maxRecDepth 100000
set_option maxHeartbeats 2000000
namespace Go.Proofs.Ytaaedebknacheaa.AB
open Go
/-! crucible/cruciblelaw4.CodeWrites -/
noncomputable def X11 : Cx := ⟨tt, [(23, [.cd .bool]), (37, [.cd (.int .i64)]), (38, [.cd (.int .i64)]), (44, [.cd .bool]), (45, [.cd .str, .cd (.int .i64)]), (46, [.cd .str, .cd (.int .i64)])], [], [], []⟩
theorem FN11 : fnsB Try.prog X11.fns := (show True from trivial)
theorem E11 (l0 : (List (Int × (Int × (Int × ((List Int) × (List Int))))))) (pc1 : Int) {R : V → Prop} (h : (∃ p1 : Bool, PC Try.prog 23 [] (.bool p1) ∧ (((!p1) = true → R (.bool false)) ∧
 ((!p1) = false → (∃ p2 : Bool, PC Try.prog 44 [(.list (.pair (.int .i64) (.pair (.int .i64) (.pair (.int .i64) (.pair (.slice (.int .i64)) (.slice (.int .i64)))))) l0 .no)] (.bool p2) ∧ (((!p2) = true → R (.bool p1)) ∧
 ((!p2) = false → (∃ p3 : (List UInt8) × Int, PC Try.prog 45 [(.list (.pair (.int .i64) (.pair (.int .i64) (.pair (.int .i64) (.pair (.slice (.int .i64)) (.slice (.int .i64)))))) l0 .no)] ((.tup [(.str p3.1), (.int .i64 p3.2)])) ∧ (∃ p4 : (List UInt8) × Int, PC Try.prog 46 [(.list (.pair (.int .i64) (.pair (.int .i64) (.pair (.int .i64) (.pair (.slice (.int .i64)) (.slice (.int .i64)))))) l0 .no)] ((.tup [(.str p4.1), (.int .i64 p4.2)])) ∧ ((p1 = true → (((p3.1 == p4.1) = true → (((p3.2 == p4.2) = true → (∃ p5 : Int, PC Try.prog 37 [(.list (.pair (.int .i64) (.pair (.int .i64) (.pair (.int .i64) (.pair (.slice (.int .i64)) (.slice (.int .i64)))))) l0 .no), (.int .i64 pc1)] (.int .i64 p5) ∧ (∃ p6 : Int, PC Try.prog 38 [(.list (.pair (.int .i64) (.pair (.int .i64) (.pair (.int .i64) (.pair (.slice (.int .i64)) (.slice (.int .i64)))))) l0 .no), (.int .i64 pc1)] (.int .i64 p6) ∧ R (.bool (p5 == p6))))) ∧ ((p3.2 == p4.2) = false → R (.bool false)))) ∧ ((p3.1 == p4.1) = false → R (.bool false)))) ∧ (p1 = false → R (.bool false)))))))))))) :
  fnK X11.tt (callN Try.prog X11 0) (X11.md 11) (X11.mk1 11) Try.f11 [(.v (.list (.pair (.int .i64) (.pair (.int .i64) (.pair (.int .i64) (.pair (.slice (.int .i64)) (.slice (.int .i64)))))) l0 .no)), (.v (.int .i64 pc1))] ⟨[], [], ⟨0, []⟩⟩ (topK R) := Eq.mp (by kernel_rfl) h
end Go.Proofs.Ytaaedebknacheaa.AB

set_option linter.unusedVariables false
set_option linter.unusedSimpArgs false
set_option maxHeartbeats 2000000
set_option maxRecDepth 10000
namespace Go.Proofs.Ytaaedebknacheaa.AB
open Go Go.RowKit

/-- the bytes of a key and where it leads -/
def keyB (x : Ins) (i : Nat) : List Int := b2 (x.2.2.2.1.getD i 0) ++ b2 (IntKind.wrap .i64 (x.2.2.2.2.getD (i + 1) 0 - x.1))

/-- the bytes of an instruction -/
def encB (x : Ins) : List Int := [IntKind.wrap .u8 x.2.1] ++
  (if form x.2.1 = 98 then [IntKind.wrap .u8 x.2.2.1]
  else if form x.2.1 = 110 then b2 x.2.2.1
  else if form x.2.1 = 106 then b2 (IntKind.wrap .i64 (x.2.2.2.2.getD 0 0 - x.1))
  else if form x.2.1 = 115 then b2 (IntKind.wrap .i64 (x.2.2.2.2.getD 0 0 - x.1)) ++ (b2 (x.2.2.2.1.length : Int) ++ (List.range x.2.2.2.1.length).flatMap (keyB x))
  else [])

theorem b2_len (n : Int) : (b2 n).length = 2 := rfl

theorem keysB_len (x : Ins) (n : Nat) : ((List.range n).flatMap (keyB x)).length = 4 * n := by
  induction n with
  | zero => rfl
  | succ n ih =>
    rw [List.range_succ, List.flatMap_append, List.length_append, ih]
    simp [keyB, b2_len]; omega

theorem encB_len (x : Ins) : ((encB x).length : Int) = sizeI x := by
  unfold encB sizeI
  rcases form_cases x.2.1 with hf | hf | hf | hf | hf | hf
  all_goals simp [hf, b2_len]
  have := keysB_len x x.2.2.2.1.length
  rw [List.length_flatMap] at this
  omega

def total : List Ins → Int
  | [] => 0
  | x :: l => sizeI x + total l

def firstErr : List Ins → Int → Int
  | [], _ => 0
  | x :: l, pc => if errAt x pc ≠ 0 then errAt x pc else firstErr l (pc + sizeI x)

theorem firstErr_cons (x : Ins) (l : List Ins) (pc : Int) : firstErr (x :: l) pc = if errAt x pc ≠ 0 then errAt x pc else firstErr l (pc + sizeI x) := rfl

def encodeI (l : List Ins) : List UInt8 × Int :=
  if firstErr l 0 ≠ 0 then ([], firstErr l 0) else if l = [] then ([], 5) else if total l > 4096 then ([], 2) else if endsE l ≠ 0 then ([], endsE l) else (ofBytes (l.flatMap encB), 0)

theorem sizeI_pos (x : Ins) : 1 ≤ sizeI x := by
  unfold sizeI
  repeat' split
  all_goals omega

theorem total_append (a b : List Ins) : total (a ++ b) = total a + total b := by
  induction a with
  | nil => simp [total]
  | cons x a ih => simp only [List.cons_append, total, ih]; omega

theorem total_take {l : List Ins} {n : Nat} (h : n < l.length) : total (l.take (n + 1)) = total (l.take n) + sizeI (l.getD n D0) := by
  rw [List.take_succ_eq_append_getElem h, total_append, getD_lt h]; simp [total]

theorem flat_take_succ {l : List Ins} {n : Nat} (h : n < l.length) : (l.take (n + 1)).flatMap encB = (l.take n).flatMap encB ++ encB (l.getD n D0) := by
  rw [List.take_succ_eq_append_getElem h, List.flatMap_append, getD_lt h]; simp

theorem flat_len (l : List Ins) : ((l.flatMap encB).length : Int) = total l := by
  induction l with
  | nil => rfl
  | cons x l ih =>
    simp only [List.flatMap_cons, List.length_append, total, Int.natCast_add]
    rw [ih, encB_len]

theorem drop_cons {l : List Ins} {n : Nat} (h : n < l.length) : l.drop n = l.getD n D0 :: l.drop (n + 1) := by
  rw [List.drop_eq_getElem_cons h, getD_lt h]

theorem len_total (l : List Ins) : (l.length : Int) ≤ total l := by
  induction l with
  | nil => simp [total]
  | cons x l ih =>
    have := sizeI_pos x
    simp only [List.length_cons, total, Int.natCast_add]; omega

theorem errAt_zero {x : Ins} {pc : Int} (h : errAt x pc = 0) : form x.2.1 ≠ 0 ∧ okArg x ∧ x.1 = pc := by
  unfold errAt rightE at h
  by_cases hf : form x.2.1 = 0
  · rw [hf] at h; simp at h
  · rw [if_neg hf] at h
    by_cases ha : okArg x
    · rw [if_pos ha] at h
      refine ⟨hf, ha, ?_⟩
      by_cases e : x.1 = pc
      · exact e
      · simp [e] at h
    · rw [if_neg ha] at h; simp at h

theorem firstErr_zero {l : List Ins} : ∀ {pc : Int}, firstErr l pc = 0 → ∀ x ∈ l, form x.2.1 ≠ 0 ∧ okArg x ∧ pc ≤ x.1 ∧ x.1 < pc + total l := by
  induction l with
  | nil => intro pc _ x hx; cases hx
  | cons y l ih =>
    intro pc h x hx
    unfold firstErr at h
    have hs := sizeI_pos y
    have ht := len_total l
    by_cases he : errAt y pc = 0
    · rw [if_neg (by simp [he])] at h
      simp only [total]
      rcases List.mem_cons.1 hx with rfl | hx
      · obtain ⟨a1, a2, a3⟩ := errAt_zero he
        exact ⟨a1, a2, by omega, by omega⟩
      · obtain ⟨a1, a2, a3, a4⟩ := ih h x hx
        exact ⟨a1, a2, by omega, by omega⟩
    · rw [if_pos (by simpa using he)] at h
      exact absurd h he

theorem okArg_tos {x : Ins} (h : okArg x) : x.2.2.2.2.length ≤ 1023 := by
  have h1 := h.2.1
  have h2 := h.2.2.2.1
  unfold jumpsI at h1
  repeat' split at h1
  all_goals omega

theorem okArg_size {x : Ins} (h : okArg x) : sizeI x ≤ 5000 := by
  have h2 := h.2.2.2.1
  unfold sizeI
  repeat' split
  all_goals omega

abbrev encV (p : List UInt8 × Int) : V := .tup [.str p.1, .int .i64 p.2]

theorem fr_put {n m : Nat} {l l' : List Nat} : (Tok.tk n).fresh ⟨n + 1, n :: l⟩ := Tok.fresh_new n l

theorem p45 (l : List Ins) (hl : l.length ≤ 1048576) (hk : ∀ x ∈ l, x.2.2.2.1.length ≤ 1048576) : PC Try.prog 45 [.list cIns l .no] (encV (encodeI l)) := by
  have hroom : room = 140737488355328 := rfl
  have hD : ((0, (0, (0, ([], [])))) : Ins) = D0 := rfl
  refine pcOf (X := X45) (d := 2) rfl FN45 (by kernel_rfl) (by decide) (E45 l ?_)
  let F : Nat × Tok × Toks → St := fun a => S45_0 l ((l.take a.1).flatMap encB) a.2.1 l l.length a.1 a.2.2
  let J : Nat × Tok × Toks → Prop := fun a => a.1 ≤ l.length ∧ a.2.1.fresh a.2.2 ∧ firstErr l 0 = firstErr (l.drop a.1) (total (l.take a.1)) ∧ total (l.take a.1) ≤ 5000 * a.1
  refine Loops.intro F J (fun a => l.length - a.1) (0, .exact, ⟨0, []⟩) rfl ⟨Nat.zero_le _, trivial, by simp [total], by simp [total]⟩ ?_
  rintro ⟨n, tk, T⟩ ⟨j1, j2, j3, j4⟩
  simp only at j1 j2 j3 j4
  have ret : ∀ {p : List UInt8 × Int}, encodeI l = p → ((encV p).norm = encV (encodeI l) ∧ (encV (encodeI l)).nt = true) := by
    rintro p rfl; exact ⟨rfl, rfl⟩
  have hfl := flat_len (l.take n)
  simp only [F]
  refine L45_0 l ((l.take n).flatMap encB) tk l l.length n T ?_
  simp only [hD, Int.toNat_natCast, decide_eq_true_eq, decide_eq_false_iff_not]
  refine ⟨fun hlt => ?_, fun hge => ?_⟩
  · have hlt : n < l.length := by omega
    have hm : l.getD n D0 ∈ l := by rw [getD_lt hlt]; exact List.getElem_mem hlt
    have hstep := flat_take_succ hlt
    have htot := total_take hlt
    rw [drop_cons hlt] at j3
    have hkx := hk _ hm
    have wn : IntKind.wrap .i64 ((n : Int) + 1) = ((n + 1 : Nat) : Int) := by rw [wrap64 (by omega) (by omega)]; omega
    generalize hx : l.getD n D0 = x at *
    refine ⟨by omega, by omega, _, p69 x hkx, fun he => ?_, fun he => ?_⟩
    · have he : rightE x ≠ 0 := by simpa using he
      have hee : errAt x (total (l.take n)) = rightE x := by unfold errAt; rw [if_pos he]
      refine ret (p := ([], rightE x)) ?_
      rw [firstErr_cons] at j3
      rw [hee, if_pos he] at j3
      unfold encodeI
      rw [j3, if_pos he]
    have he : rightE x = 0 := by simpa using he
    refine ⟨fun hp => ?_, fun hp => ?_⟩
    · have hp : x.1 ≠ total (l.take n) := by rw [← hfl]; simpa using hp
      have hee : errAt x (total (l.take n)) = 1 := by unfold errAt; rw [if_neg (by simp [he]), if_neg hp]
      refine ret (p := ([], 1)) ?_
      rw [firstErr_cons] at j3
      rw [hee] at j3
      unfold encodeI
      rw [j3]; rfl
    have hp : x.1 = total (l.take n) := by rw [← hfl]; simpa using hp
    have hee : errAt x (total (l.take n)) = 0 := by unfold errAt; rw [if_neg (by simp [he]), if_pos hp]
    obtain ⟨a1, a2, _⟩ := errAt_zero hee
    rw [firstErr_cons] at j3
    rw [if_neg (by simp [hee]), ← htot] at j3
    have hsz := okArg_size a2
    have hks := a2.2.2.2.1
    have htl := a2.2.1
    have hlen : ((l.take n).flatMap encB).length ≤ 6000000000 := by omega
    have hJ : ∀ (tk' : Tok) (T' : Toks), tk'.fresh T' → J (n + 1, tk', T') := fun tk' T' hf => ⟨by simp only; omega, hf, j3, by simp only; rw [htot]; omega⟩
    have go : ∀ (b : List Int) (tk' : Tok) (T' : Toks), b = encB x → tk'.fresh T' → Again F J (fun a => l.length - a.1) (l.length - n) (S45_0 l ((l.take n).flatMap encB ++ b) tk' l l.length ((n + 1 : Nat) : Int) T') := by
      intro b tk' T' hb hf
      subst hb
      exact Again.mk (n + 1, tk', T') (by simp only [F, hstep]) (hJ tk' T' hf) (by simp only; omega)
    generalize hbb : (l.take n).flatMap encB = bb at *
    rw [wn]
    refine ⟨j2.own, by simp; omega, _, p28 _, ?_⟩
    rcases form_cases x.2.1 with hf | hf | hf | hf | hf | hf
    · exact absurd hf a1
    all_goals simp only [hf, Int.reduceBEq, Bool.false_eq_true, Bool.true_eq_false, forall_const, false_implies, true_and, and_true, List.append_assoc]
    · exact go _ _ _ (by simp [encB, hf]) (Tok.fresh_new _ _)
    · exact ⟨own_new _ _, by simp; omega, go _ _ _ (by simp [encB, hf]) (Tok.fresh_new _ _)⟩
    · exact ⟨by omega, by simp, by omega, own_new _ _, by simp; omega, go _ _ _ (by simp [encB, hf, b2]) (Tok.fresh_new _ _)⟩
    · have hj : x.2.2.2.2.length = 1 := by
        have := htl
        simp [jumpsI, hf] at this; omega
      exact ⟨by omega, by omega, by omega, by simp, by omega, own_new _ _, by simp; omega, go _ _ _ (by simp [encB, hf, b2]) (Tok.fresh_new _ _)⟩
    · have hj : x.2.2.2.2.length = x.2.2.2.1.length + 1 := by
        have := htl
        simp [jumpsI, hf] at this; omega
      refine ⟨by omega, by omega, by omega, by simp, by omega, own_new _ _, by simp; omega, by omega, by simp, by omega, own_new _ _, by simp; omega, ?_⟩
      generalize hbase : ([IntKind.wrap .u8 x.2.1] ++ ([IntKind.wrap .u8 (Int.fdiv (([IntKind.wrap .i64 (x.2.2.2.2.getD (0 : Int).toNat 0 - x.1), (x.2.2.2.1.length : Int)] : List Int).getD (0 : Int).toNat 0) (2 ^ min (8 : Int).toNat (IntKind.bits .i64))), IntKind.wrap .u8 (([IntKind.wrap .i64 (x.2.2.2.2.getD (0 : Int).toNat 0 - x.1), (x.2.2.2.1.length : Int)] : List Int).getD (0 : Int).toNat 0)] ++
        [IntKind.wrap .u8 (Int.fdiv (([IntKind.wrap .i64 (x.2.2.2.2.getD (0 : Int).toNat 0 - x.1), (x.2.2.2.1.length : Int)] : List Int).getD (1 : Int).toNat 0) (2 ^ min (8 : Int).toNat (IntKind.bits .i64))), IntKind.wrap .u8 (([IntKind.wrap .i64 (x.2.2.2.2.getD (0 : Int).toNat 0 - x.1), (x.2.2.2.1.length : Int)] : List Int).getD (1 : Int).toNat 0)]) : List Int) = base
      have hbl : base.length = 5 := by rw [← hbase]; rfl
      have hbe : base ++ (List.range x.2.2.2.1.length).flatMap (keyB x) = encB x := by
        rw [← hbase]; simp [encB, hf, b2]
      refine Loops.intro (fun a : Nat × Tok × Toks => S45c10_2_1 (bb ++ (base ++ (List.range a.1).flatMap (keyB x))) a.2.1 x.2.2.2.1 x.2.2.2.1.length a.1 x.1 x.2.1 x.2.2.1 x.2.2.2.1 .no x.2.2.2.2 .no x.1 x.2.1 x.2.2.1 x.2.2.2.1 .no x.2.2.2.2 .no a.2.2)
        (fun a => a.1 ≤ x.2.2.2.1.length ∧ a.2.1.fresh a.2.2) (fun a => x.2.2.2.1.length - a.1) (0, .tk (T.n + 1 + 1), _) (by simp only [List.range_zero, List.flatMap_nil, List.append_nil]; rfl) ⟨Nat.zero_le _, Tok.fresh_new _ _⟩ ?_
      rintro ⟨i, tk2, T2⟩ ⟨i1, i2⟩
      simp only at i1 i2
      have hkl := keysB_len x i
      refine L45c10_2_1 (bb ++ (base ++ (List.range i).flatMap (keyB x))) tk2 x.2.2.2.1 x.2.2.2.1.length i x.1 x.2.1 x.2.2.1 x.2.2.2.1 .no x.2.2.2.2 .no x.1 x.2.1 x.2.2.1 x.2.2.2.1 .no x.2.2.2.2 .no T2 ?_
      simp only [Int.toNat_natCast, decide_eq_true_eq, decide_eq_false_iff_not]
      have wi : (i : Int) < x.2.2.2.1.length → IntKind.wrap .i64 ((i : Int) + 1) = ((i + 1 : Nat) : Int) := fun h => by rw [wrap64 (by omega) (by omega)]; omega
      refine ⟨fun hil => ?_, fun hil => ?_⟩
      · have hil' : i < x.2.2.2.1.length := by omega
        rw [wi hil]
        refine ⟨by omega, by omega, by omega, by omega, by omega, by simp, by omega, i2.own, by simp [hkl, hbl]; omega, by omega, by simp, by omega, own_new _ _, by simp [hkl, hbl]; omega, ?_⟩
        refine Again.mk (i + 1, .tk (T2.n + 1), ⟨T2.n + 1 + 1, (T2.n + 1) :: Tok.drop (.tk T2.n) (T2.n :: Tok.drop tk2 T2.l)⟩) ?_ ⟨by simp only; omega, Tok.fresh_new _ _⟩ (by simp only; omega)
        simp only [List.range_succ, List.flatMap_append, List.append_assoc, Int.toNat_natCast]
        simp [keyB, b2]
      · have : i = x.2.2.2.1.length := by omega
        subst this
        rw [wn]
        exact go _ _ _ hbe i2
  · have hn : n = l.length := by omega
    subst hn
    rw [List.take_length, List.drop_length] at j3
    have hfe : firstErr l 0 = 0 := j3
    rw [List.take_length] at hfl ⊢
    have hz := firstErr_zero hfe
    refine ⟨fun h => ?_, fun h => ⟨fun h2 => ?_, fun h2 => ?_⟩⟩
    · have h : l = [] := by simpa using h
      refine ret (p := ([], 5)) ?_
      subst h
      rfl
    · have h : l ≠ [] := by simpa using h
      refine ret (p := ([], 2)) ?_
      unfold encodeI
      rw [if_neg (by simp [hfe]), if_neg h, if_pos (by omega)]
    · have h : l ≠ [] := by simpa using h
      have hlt := len_total l
      have ht : ¬ total l > 4096 := by omega
      refine ⟨_, p64 l (List.length_pos_iff.2 h) (by omega) (fun x hx => by have := okArg_tos (hz x hx).2.1; omega), fun h3 => ret (p := ([], endsE l)) ?_, fun h3 => ret (p := (ofBytes (l.flatMap encB), 0)) ?_⟩
      · have h3 : endsE l ≠ 0 := by simpa using h3
        unfold encodeI
        rw [if_neg (by simp [hfe]), if_neg h, if_neg ht, if_pos h3]
      · have h3 : endsE l = 0 := by simpa using h3
        unfold encodeI
        rw [if_neg (by simp [hfe]), if_neg h, if_neg ht, if_neg (by simp [h3])]

end Go.Proofs.Ytaaedebknacheaa.AB

set_option linter.unusedVariables false
set_option linter.unusedSimpArgs false
set_option maxHeartbeats 2000000
set_option maxRecDepth 10000
namespace Go.Proofs.Ytaaedebknacheaa.AB
open Go Go.RowKit

theorem p46 (l : List Ins) (hl : l.length ≤ 1048576) (hk : ∀ x ∈ l, x.2.2.2.1.length ≤ 1048576) : PC Try.prog 46 [.list cIns l .no] (encV (encodeI l)) := by
  have hroom : room = 140737488355328 := rfl
  have hD : ((0, (0, (0, ([], [])))) : Ins) = D0 := rfl
  have t0 : (0 : Int).toNat = 0 := rfl
  have ret : ∀ {p : List UInt8 × Int}, encodeI l = p → ((encV p).norm = encV (encodeI l) ∧ (encV (encodeI l)).nt = true) := by
    rintro p rfl; exact ⟨rfl, rfl⟩
  refine pcOf (X := X46) (d := 0) rfl FN46 (by kernel_rfl) (by decide) (E46 l ?_)
  refine Loops.intro (fun n : Nat => S46_0 l (total (l.take n)) n ⟨0, []⟩)
    (fun n => n ≤ l.length ∧ firstErr l 0 = firstErr (l.drop n) (total (l.take n)) ∧ total (l.take n) ≤ 5000 * n) (fun n => l.length - n) 0 (by simp [total]) ⟨Nat.zero_le _, by simp [total], by simp [total]⟩ ?_
  rintro n ⟨j1, j3, j4⟩
  have hnn := len_total (l.take n)
  have wn : (n : Int) < l.length → IntKind.wrap .i64 ((n : Int) + 1) = ((n + 1 : Nat) : Int) := fun h => by rw [wrap64 (by omega) (by omega)]; omega
  refine L46_0 l (total (l.take n)) n ⟨0, []⟩ ?_
  simp only [hD, Int.toNat_natCast, decide_eq_true_eq, decide_eq_false_iff_not]
  refine ⟨fun hlt => ?_, fun hge => ?_⟩
  · rw [wn hlt]
    have hlt : n < l.length := by omega
    have hm : l.getD n D0 ∈ l := by rw [getD_lt hlt]; exact List.getElem_mem hlt
    have htot := total_take hlt
    rw [drop_cons hlt, firstErr_cons] at j3
    have hkx := hk _ hm
    generalize hx : l.getD n D0 = x at *
    refine ⟨by omega, by omega, ((if errAt x (total (l.take n)) = 0 then sizeI x else 0), errAt x (total (l.take n))), p71 x (total (l.take n)) hkx, fun he => ?_, fun he => ?_⟩
    · have he : errAt x (total (l.take n)) ≠ 0 := by simpa using he
      refine ret (p := ([], errAt x (total (l.take n)))) ?_
      rw [if_pos he] at j3
      unfold encodeI
      rw [j3, if_pos he]
    · have he : errAt x (total (l.take n)) = 0 := by simpa using he
      obtain ⟨a1, a2, _⟩ := errAt_zero he
      have hsz := okArg_size a2
      have hs1 := sizeI_pos x
      rw [if_neg (by simp [he]), ← htot] at j3
      have e1 : (if errAt x (total (l.take n)) = 0 then sizeI x else 0) = sizeI x := if_pos he
      rw [e1]
      rw [wrap64 (x := _ + sizeI x) (by omega) (by omega), ← htot]
      exact Again.mk (n + 1) rfl ⟨by omega, j3, by rw [htot]; omega⟩ (by omega)
  · have hn : n = l.length := by omega
    subst hn
    rw [List.take_length, List.drop_length] at j3
    have hfe : firstErr l 0 = 0 := j3
    rw [List.take_length]
    have hz := firstErr_zero hfe
    refine ⟨fun h => ?_, fun h => ⟨fun h2 => ?_, fun h2 => ?_⟩⟩
    · have h : l = [] := by simpa using h
      refine ret (p := ([], 5)) ?_
      subst h
      rfl
    · have h : l ≠ [] := by simpa using h
      refine ret (p := ([], 2)) ?_
      unfold encodeI
      rw [if_neg (by simp [hfe]), if_neg h, if_pos (by omega)]
    · have h : l ≠ [] := by simpa using h
      have hlt := len_total l
      have ht : ¬ total l > 4096 := by omega
      obtain ⟨k, hkk⟩ : ∃ k : Nat, total l = k := ⟨(total l).toNat, by omega⟩
      have q := p66 l k (by omega) (List.length_pos_iff.2 h) (by omega) (fun x hx => by obtain ⟨_, _, c1, c2⟩ := hz x hx; omega) (fun x hx => by have := okArg_tos (hz x hx).2.1; omega)
      rw [← hkk] at q
      refine ⟨_, q, fun h3 => ret (p := ([], endsE l)) ?_, fun h3 => ?_⟩
      · have h3 : endsE l ≠ 0 := by simpa using h3
        unfold encodeI
        rw [if_neg (by simp [hfe]), if_neg h, if_neg ht, if_pos h3]
      have h3 : endsE l = 0 := by simpa using h3
      have hfin : encodeI l = (ofBytes (l.flatMap encB), 0) := by
        unfold encodeI
        rw [if_neg (by simp [hfe]), if_neg h, if_neg ht, if_neg (by simp [h3])]
      let F : Nat × Tok × Toks → St := fun a => S46_2 l ((l.take a.1).flatMap encB) a.2.1 a.1 a.2.2
      let J : Nat × Tok × Toks → Prop := fun a => a.1 ≤ l.length ∧ a.2.1.fresh a.2.2
      refine Loops.intro F J (fun a => l.length - a.1) (0, .exact, ⟨0, []⟩) rfl ⟨Nat.zero_le _, trivial⟩ ?_
      clear j1 j3 j4 hnn wn
      rintro ⟨n, tk, T⟩ ⟨j1, j2⟩
      simp only at j1 j2
      have hfl := flat_len (l.take n)
      have hfl2 : total (l.take n) ≤ total l := by
        have := total_append (l.take n) (l.drop n)
        rw [List.take_append_drop] at this
        have h5 := len_total (l.drop n)
        omega
      simp only [F]
      refine L46_2 l ((l.take n).flatMap encB) tk n T ?_
      simp only [hD, t0, Int.toNat_natCast, decide_eq_true_eq, decide_eq_false_iff_not]
      refine ⟨fun hlt => ?_, fun hge => ?_⟩
      · have hlt : n < l.length := by omega
        have hm : l.getD n D0 ∈ l := by rw [getD_lt hlt]; exact List.getElem_mem hlt
        have hstep := flat_take_succ hlt
        have hkx := hk _ hm
        obtain ⟨a1, a2, _, _⟩ := hz _ hm
        have wn : IntKind.wrap .i64 ((n : Int) + 1) = ((n + 1 : Nat) : Int) := by rw [wrap64 (by omega) (by omega)]; omega
        generalize hx : l.getD n D0 = x at *
        have hks := a2.2.2.2.1
        have htl := a2.2.1
        have hlen : ((l.take n).flatMap encB).length ≤ 4096 := by omega
        have go : ∀ (b : List Int) (tk' : Tok) (T' : Toks), b = encB x → tk'.fresh T' → Again F J (fun a => l.length - a.1) (l.length - n) (S46_2 l ((l.take n).flatMap encB ++ b) tk' ((n + 1 : Nat) : Int) T') := by
          intro b tk' T' hb hf
          subst hb
          exact Again.mk (n + 1, tk', T') (by simp only [F, hstep]) ⟨by simp only; omega, hf⟩ (by simp only; omega)
        generalize hbb : (l.take n).flatMap encB = bb at *
        rw [wn]
        refine ⟨by omega, by omega, j2.own, by simp; omega, _, p29 _, ?_⟩
        rcases form_cases x.2.1 with hf | hf | hf | hf | hf | hf
        · exact absurd hf a1
        all_goals simp only [hf, Int.reduceBEq, Bool.false_eq_true, Bool.true_eq_false, forall_const, false_implies, true_and, and_true, List.append_assoc]
        · exact go _ _ _ (by simp [encB, hf]) (Tok.fresh_new _ _)
        · exact ⟨own_new _ _, by simp; omega, go _ _ _ (by simp [encB, hf]) (Tok.fresh_new _ _)⟩
        · exact ⟨_, p72 _, own_new _ _, by simp [b2_len]; omega, go _ _ _ (by simp [encB, hf]) (Tok.fresh_new _ _)⟩
        · have hj : x.2.2.2.2.length = 1 := by
            have := htl
            simp [jumpsI, hf] at this; omega
          exact ⟨by omega, by omega, _, p72 _, own_new _ _, by simp [b2_len]; omega, fun m hm => go _ _ _ (by simp [encB, hf]) ((Tok.fresh_new _ _).up hm)⟩
        · have hj : x.2.2.2.2.length = x.2.2.2.1.length + 1 := by
            have := htl
            simp [jumpsI, hf] at this; omega
          refine ⟨by omega, by omega, _, p72 _, own_new _ _, by simp [b2_len]; omega, fun m hm => ⟨_, p72 _, own_new _ _, by simp [b2_len]; omega, ?_⟩⟩
          have hbe : [IntKind.wrap .u8 x.2.1] ++ (b2 (IntKind.wrap .i64 (x.2.2.2.2.getD 0 0 - x.1)) ++ (b2 (x.2.2.2.1.length : Int) ++ (List.range x.2.2.2.1.length).flatMap (keyB x))) = encB x := by
            simp [encB, hf]
          refine Loops.intro (fun a : Nat × Tok × Toks => S46_5 l (bb ++ ([IntKind.wrap .u8 x.2.1] ++ (b2 (IntKind.wrap .i64 (x.2.2.2.2.getD 0 0 - x.1)) ++ (b2 (x.2.2.2.1.length : Int) ++ (List.range a.1).flatMap (keyB x))))) a.2.1 n a.1 x.1 x.2.1 x.2.2.1 x.2.2.2.1 .no x.2.2.2.2 .no a.2.2)
            (fun a => a.1 ≤ x.2.2.2.1.length ∧ a.2.1.fresh a.2.2) (fun a => x.2.2.2.1.length - a.1) (0, .tk m, _) (by simp only [List.range_zero, List.flatMap_nil, List.append_nil]; rfl) ⟨Nat.zero_le _, Tok.fresh_new _ _⟩ ?_
          rintro ⟨i, tk2, T2⟩ ⟨i1, i2⟩
          simp only at i1 i2
          have hkl := keysB_len x i
          refine L46_5 l _ tk2 n i x.1 x.2.1 x.2.2.1 x.2.2.2.1 .no x.2.2.2.2 .no T2 ?_
          simp only [Int.toNat_natCast, decide_eq_true_eq, decide_eq_false_iff_not]
          have wi : (i : Int) < x.2.2.2.1.length → IntKind.wrap .i64 ((i : Int) + 1) = ((i + 1 : Nat) : Int) := fun h => by rw [wrap64 (by omega) (by omega)]; omega
          refine ⟨fun hil => ?_, fun hil => ?_⟩
          · have hil' : i < x.2.2.2.1.length := by omega
            rw [wi hil]
            refine ⟨by omega, by omega, _, p72 _, i2.own, by simp [hkl, b2_len]; omega, by omega, by omega, _, p72 _, own_new _ _, by simp [hkl, b2_len]; omega, fun m2 hm2 => ?_⟩
            refine Again.mk (i + 1, .tk (T2.n + 1), ⟨m2, (T2.n + 1) :: Tok.drop (.tk T2.n) (T2.n :: Tok.drop tk2 T2.l)⟩) ?_ ⟨by simp only; omega, (Tok.fresh_new _ _).up hm2⟩ (by simp only; omega)
            simp only [List.range_succ, List.flatMap_append, List.append_assoc, Int.toNat_natCast]
            simp [keyB]
          · have : i = x.2.2.2.1.length := by omega
            subst this
            rw [wn]
            exact go _ _ _ hbe i2
      · have hn : n = l.length := by omega
        subst hn
        rw [List.take_length]
        exact ret hfin

theorem p11 (l : List Ins) (pc : Int) (hl : l.length ≤ 1048576) (hk : ∀ x ∈ l, x.2.2.2.1.length ≤ 1048576) : PC Try.prog 11 [.list cIns l .no, .int .i64 pc] (.bool true) := by
  obtain ⟨b, hb⟩ := p44 l (by omega)
  refine pcOf (X := X11) (d := 0) rfl trivial (by kernel_rfl) (by decide) (E11 l pc ⟨_, p23, fun h => absurd h (by simp), fun _ => ⟨_, hb, fun _ => retB rfl, fun _ => ?_⟩⟩)
  exact ⟨_, p45 l hl hk, _, p46 l hl hk, fun _ => ⟨fun _ => ⟨fun _ => ⟨_, p37 l pc (by omega), _, p38 l pc (by omega), retB (by simp)⟩, fun h => absurd h (by simp)⟩, fun h => absurd h (by simp)⟩, fun h => absurd h (by simp)⟩

theorem law_CodeWritesUpto (l : List Ins) (pc : Int) (f0 : Cd.wf (.slice cIns) l) (f1 : Cd.wf (.int .i64) pc) (z0 : Cd.wt (.slice cIns) l ≤ 1048576) : PC Try.prog 11 [Cd.enc (.slice cIns) l, Cd.enc (.int .i64) pc] (.bool true) := by
  have h1 : Cd.wt (.slice cIns) l = l.length + (l.map cIns.wt).sum := rfl
  refine p11 l pc (by omega) fun x hx => ?_
  have h2 := wt_le cIns.wt hx
  have h3 : cIns.wt x = 0 + (0 + (0 + ((x.2.2.2.1.length + (x.2.2.2.1.map (Cd.wt (.int .i64))).sum) + (x.2.2.2.2.length + (x.2.2.2.2.map (Cd.wt (.int .i64))).sum)))) := rfl
  omega

end Go.Proofs.Ytaaedebknacheaa.AB

