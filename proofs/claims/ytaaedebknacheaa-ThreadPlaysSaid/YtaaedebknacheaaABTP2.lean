/- Parts of the proof: what functions of the program compute, on plain values. -/
import Derived.Test.YtaaedebknacheaaABTP1
import Derived.Test.YtaaedebknacheaaProg
import Derived.KernelRfl
import Derived.Shelf.SlIterI.Nil
import Derived.Shelf.SortM.Plain
import Derived.Shelf.SortM.SortNone
import Derived.Ground.GgzProg
import Derived.Ground.SlgmProg
import Derived.Test.YtaaedebknacheaaABx4
import Derived.Maps.OwnSet
set_option linter.unusedVariables false
set_option linter.unusedSimpArgs false
set_option maxRecDepth 100000
set_option maxHeartbeats 2000000
namespace Go.Proofs.Ytaaedebknacheaa.AB
open Go
noncomputable def X76 : Cx := ⟨tt, [(101, [.cd (.pair (.int .i64) (.pair (.int .i64) (.pair (.slice (.int .i64)) (.slice (.int .i64)))))])], [(103, [(.pure .bool)])], [(76, [(1, 2, .rd), (6, 6, .x (.pure (.pair (.int .i64) (.pair (.int .i64) (.pair (.slice (.int .i64)) (.slice (.int .i64))))))), (6, 16, .x (.pure (.pair (.int .i64) (.pair (.int .i64) (.pair (.slice (.int .i64)) (.slice (.int .i64))))))), (6, 20, .x (.pure (.pair (.int .i64) (.pair (.int .i64) (.pair (.slice (.int .i64)) (.slice (.int .i64))))))), (16000006, 24023022021020019018017016015014011004013012010009008007006005003002001, .dflt), (26000006, 24023022021020019017018016015014011004013012010009008007006005003002001, .dflt), (36000006, 24023022021020019018004017016015014011013012010009008007006005003002001, .dflt), (46000006, 24023022004021020019018017016015014011013012010009008007006005003002001, .dflt), (56000006, 24023022021004020019017018016015014011013012010009008007006005003002001, .dflt), (66000006, 24023022004021020019017018016015014011013012010009008007006005003002001, .dflt), (3000006, 16003, .dflt), (3000006, 17016, .dflt), (3000006, 0, .dflt), (3000006, 0, .dflt), (3000006, 17016, .dflt), (3000006, 20003, .dflt), (3000006, 0, .dflt), (3000006, 0, .dflt), (3000006, 20003, .dflt), (3000006, 0, .dflt), (3000006, 0, .dflt)])], [], []⟩
theorem FN76 : fnsB Try.prog X76.fns := (show True from trivial)
theorem E76 (X : XH) (t0 : Nat) (id1 : Int) (f2 : (Int × (Int × ((List Int) × (List Int))))) {R : (Int) → XH → Prop} (h : (∃ (p1 : Bool), RC Try.prog 103 [(.pure .bool)] [(.ref (some t0) yZ0 0 []), (.v (.int .i64 id1))] X p1 ∧ (((!p1) = true → R (24 : Int) X) ∧
 ((!p1) = false → (∃ (a2 : ((Option SlH) × ((Option SlH) × (Option SlH)))), XH.el X yZ0 t0 0 = some a2 ∧ (∃ (u3 : SlH), a2.1 = some u3 ∧ 0 ≤ (IntKind.wrap .i64 (id1 - (1 : Int))) ∧ (IntKind.wrap .i64 (id1 - (1 : Int))) < ((u3.len : Nat) : Int) ∧ (∃ (a4 : ((Option SlH) × (Int × Int))), XH.el X yZ1 u3.h ((u3.off + ((IntKind.wrap .i64 (id1 - (1 : Int)))).toNat)) = some a4 ∧ (((decide ((((slN a4.1) : Nat) : Int) ≥ (200 : Int))) = true → R (3 : Int) X) ∧
 ((decide ((((slN a4.1) : Nat) : Int) ≥ (200 : Int))) = false → ((∃ (a85 : ((Option SlH) × ((Option SlH) × (Option SlH)))), XH.el X yZ0 t0 0 = some a85 ∧ (∃ (a86 : ((Option SlH) × ((Option SlH) × (Option SlH)))), XH.el X yZ0 t0 0 = some a86 ∧ (∃ (u87 : SlH), a86.1 = some u87 ∧ 0 ≤ (IntKind.wrap .i64 (id1 - (1 : Int))) ∧ (IntKind.wrap .i64 (id1 - (1 : Int))) < ((u87.len : Nat) : Int) ∧ (∃ (a88 : ((Option SlH) × (Int × Int))), XH.el X yZ1 u87.h ((u87.off + ((IntKind.wrap .i64 (id1 - (1 : Int)))).toNat)) = some a88 ∧ (∃ (l89 l90 : List (Int × (Int × ((List Int) × (List Int))))), XH.view X (.pure (.pair (.int .i64) (.pair (.int .i64) (.pair (.slice (.int .i64)) (.slice (.int .i64)))))) none = some l89 ∧ (srcX X (.pure (.pair (.int .i64) (.pair (.int .i64) (.pair (.slice (.int .i64)) (.slice (.int .i64)))))) (.sl (.pure (.pair (.int .i64) (.pair (.int .i64) (.pair (.slice (.int .i64)) (.slice (.int .i64)))))) a88.1)) = some l90 ∧ (0 + (l90).length) * 64 ≤ room ∧ ∀ (X91 : XH) (s92 : Option SlH), XApp X (.pure (.pair (.int .i64) (.pair (.int .i64) (.pair (.slice (.int .i64)) (.slice (.int .i64)))))) (((0 : Int), ((0 : Int), (([] : List Int), ([] : List Int))))) l89 l90 none X91 s92 → (∃ p93 : (Int × (Int × ((List Int) × (List Int)))), PC Try.prog 101 [(.agg [(.int .i64 f2.1), (.int .i64 f2.2.1), (.list (.int .i64) f2.2.2.1 .no), (.list (.int .i64) f2.2.2.2 .no)])] ((.agg [(.int .i64 p93.1), (.int .i64 p93.2.1), (.list (.int .i64) p93.2.2.1 .no), (.list (.int .i64) p93.2.2.2 .no)])) ∧ (∃ (l94 l95 : List (Int × (Int × ((List Int) × (List Int))))), XH.view X91 (.pure (.pair (.int .i64) (.pair (.int .i64) (.pair (.slice (.int .i64)) (.slice (.int .i64)))))) s92 = some l94 ∧ (srcX X91 (.pure (.pair (.int .i64) (.pair (.int .i64) (.pair (.slice (.int .i64)) (.slice (.int .i64)))))) (.v (.list (.pair (.int .i64) (.pair (.int .i64) (.pair (.slice (.int .i64)) (.slice (.int .i64))))) (([(p93.1, (p93.2.1, (p93.2.2.1, p93.2.2.2)))] : List (Int × (Int × ((List Int) × (List Int)))))) .exact))) = some l95 ∧ ((slN s92) + (l95).length) * 64 ≤ room ∧ ∀ (X96 : XH) (s97 : Option SlH), XApp X91 (.pure (.pair (.int .i64) (.pair (.int .i64) (.pair (.slice (.int .i64)) (.slice (.int .i64)))))) (((0 : Int), ((0 : Int), (([] : List Int), ([] : List Int))))) l94 l95 s92 X96 s97 → (∃ (u98 : SlH), a85.1 = some u98 ∧ 0 ≤ (IntKind.wrap .i64 (id1 - (1 : Int))) ∧ (IntKind.wrap .i64 (id1 - (1 : Int))) < ((u98.len : Nat) : Int) ∧ (∃ (a99 : ((Option SlH) × (Int × Int))), XH.el X96 yZ1 u98.h ((u98.off + ((IntKind.wrap .i64 (id1 - (1 : Int)))).toNat)) = some a99 ∧ (∀ (X100 : XH), X100 = (XH.setEl X96 yZ1 u98.h ((u98.off + ((IntKind.wrap .i64 (id1 - (1 : Int)))).toNat)) (s97, a99.2)) → R (0 : Int) X100)))))))))) ∧ ((∃ (a69 : ((Option SlH) × ((Option SlH) × (Option SlH)))), XH.el X yZ0 t0 0 = some a69 ∧ (∃ (a70 : ((Option SlH) × ((Option SlH) × (Option SlH)))), XH.el X yZ0 t0 0 = some a70 ∧ (∃ (u71 : SlH), a70.1 = some u71 ∧ 0 ≤ (IntKind.wrap .i64 (id1 - (1 : Int))) ∧ (IntKind.wrap .i64 (id1 - (1 : Int))) < ((u71.len : Nat) : Int) ∧ (∃ (a72 : ((Option SlH) × (Int × Int))), XH.el X yZ1 u71.h ((u71.off + ((IntKind.wrap .i64 (id1 - (1 : Int)))).toNat)) = some a72 ∧ (∃ (l73 l74 : List (Int × (Int × ((List Int) × (List Int))))), XH.view X (.pure (.pair (.int .i64) (.pair (.int .i64) (.pair (.slice (.int .i64)) (.slice (.int .i64)))))) none = some l73 ∧ (srcX X (.pure (.pair (.int .i64) (.pair (.int .i64) (.pair (.slice (.int .i64)) (.slice (.int .i64)))))) (.sl (.pure (.pair (.int .i64) (.pair (.int .i64) (.pair (.slice (.int .i64)) (.slice (.int .i64)))))) a72.1)) = some l74 ∧ (0 + (l74).length) * 64 ≤ room ∧ ∀ (X75 : XH) (s76 : Option SlH), XApp X (.pure (.pair (.int .i64) (.pair (.int .i64) (.pair (.slice (.int .i64)) (.slice (.int .i64)))))) (((0 : Int), ((0 : Int), (([] : List Int), ([] : List Int))))) l73 l74 none X75 s76 → (∃ p77 : (Int × (Int × ((List Int) × (List Int)))), PC Try.prog 101 [(.agg [(.int .i64 f2.1), (.int .i64 f2.2.1), (.list (.int .i64) f2.2.2.1 .no), (.list (.int .i64) f2.2.2.2 .no)])] ((.agg [(.int .i64 p77.1), (.int .i64 p77.2.1), (.list (.int .i64) p77.2.2.1 .no), (.list (.int .i64) p77.2.2.2 .no)])) ∧ (∃ (l78 l79 : List (Int × (Int × ((List Int) × (List Int))))), XH.view X75 (.pure (.pair (.int .i64) (.pair (.int .i64) (.pair (.slice (.int .i64)) (.slice (.int .i64)))))) s76 = some l78 ∧ (srcX X75 (.pure (.pair (.int .i64) (.pair (.int .i64) (.pair (.slice (.int .i64)) (.slice (.int .i64)))))) (.v (.list (.pair (.int .i64) (.pair (.int .i64) (.pair (.slice (.int .i64)) (.slice (.int .i64))))) (([(p77.1, (p77.2.1, (p77.2.2.1, p77.2.2.2)))] : List (Int × (Int × ((List Int) × (List Int)))))) .exact))) = some l79 ∧ ((slN s76) + (l79).length) * 64 ≤ room ∧ ∀ (X80 : XH) (s81 : Option SlH), XApp X75 (.pure (.pair (.int .i64) (.pair (.int .i64) (.pair (.slice (.int .i64)) (.slice (.int .i64)))))) (((0 : Int), ((0 : Int), (([] : List Int), ([] : List Int))))) l78 l79 s76 X80 s81 → (∃ (u82 : SlH), a69.1 = some u82 ∧ 0 ≤ (IntKind.wrap .i64 (id1 - (1 : Int))) ∧ (IntKind.wrap .i64 (id1 - (1 : Int))) < ((u82.len : Nat) : Int) ∧ (∃ (a83 : ((Option SlH) × (Int × Int))), XH.el X80 yZ1 u82.h ((u82.off + ((IntKind.wrap .i64 (id1 - (1 : Int)))).toNat)) = some a83 ∧ (∀ (X84 : XH), X84 = (XH.setEl X80 yZ1 u82.h ((u82.off + ((IntKind.wrap .i64 (id1 - (1 : Int)))).toNat)) (s81, a83.2)) → R (0 : Int) X84)))))))))) ∧ ((∃ (a53 : ((Option SlH) × ((Option SlH) × (Option SlH)))), XH.el X yZ0 t0 0 = some a53 ∧ (∃ (u54 : SlH), a53.1 = some u54 ∧ 0 ≤ (IntKind.wrap .i64 (id1 - (1 : Int))) ∧ (IntKind.wrap .i64 (id1 - (1 : Int))) < ((u54.len : Nat) : Int) ∧ (∃ (a55 : ((Option SlH) × (Int × Int))), XH.el X yZ1 u54.h ((u54.off + ((IntKind.wrap .i64 (id1 - (1 : Int)))).toNat)) = some a55 ∧ (∃ (l56 l57 : List (Int × (Int × ((List Int) × (List Int))))), XH.view X (.pure (.pair (.int .i64) (.pair (.int .i64) (.pair (.slice (.int .i64)) (.slice (.int .i64)))))) none = some l56 ∧ (srcX X (.pure (.pair (.int .i64) (.pair (.int .i64) (.pair (.slice (.int .i64)) (.slice (.int .i64)))))) (.sl (.pure (.pair (.int .i64) (.pair (.int .i64) (.pair (.slice (.int .i64)) (.slice (.int .i64)))))) a55.1)) = some l57 ∧ (0 + (l57).length) * 64 ≤ room ∧ ∀ (X58 : XH) (s59 : Option SlH), XApp X (.pure (.pair (.int .i64) (.pair (.int .i64) (.pair (.slice (.int .i64)) (.slice (.int .i64)))))) (((0 : Int), ((0 : Int), (([] : List Int), ([] : List Int))))) l56 l57 none X58 s59 → (∃ (a60 : ((Option SlH) × ((Option SlH) × (Option SlH)))), XH.el X58 yZ0 t0 0 = some a60 ∧ (∃ p61 : (Int × (Int × ((List Int) × (List Int)))), PC Try.prog 101 [(.agg [(.int .i64 f2.1), (.int .i64 f2.2.1), (.list (.int .i64) f2.2.2.1 .no), (.list (.int .i64) f2.2.2.2 .no)])] ((.agg [(.int .i64 p61.1), (.int .i64 p61.2.1), (.list (.int .i64) p61.2.2.1 .no), (.list (.int .i64) p61.2.2.2 .no)])) ∧ (∃ (l62 l63 : List (Int × (Int × ((List Int) × (List Int))))), XH.view X58 (.pure (.pair (.int .i64) (.pair (.int .i64) (.pair (.slice (.int .i64)) (.slice (.int .i64)))))) s59 = some l62 ∧ (srcX X58 (.pure (.pair (.int .i64) (.pair (.int .i64) (.pair (.slice (.int .i64)) (.slice (.int .i64)))))) (.v (.list (.pair (.int .i64) (.pair (.int .i64) (.pair (.slice (.int .i64)) (.slice (.int .i64))))) (([(p61.1, (p61.2.1, (p61.2.2.1, p61.2.2.2)))] : List (Int × (Int × ((List Int) × (List Int)))))) .exact))) = some l63 ∧ ((slN s59) + (l63).length) * 64 ≤ room ∧ ∀ (X64 : XH) (s65 : Option SlH), XApp X58 (.pure (.pair (.int .i64) (.pair (.int .i64) (.pair (.slice (.int .i64)) (.slice (.int .i64)))))) (((0 : Int), ((0 : Int), (([] : List Int), ([] : List Int))))) l62 l63 s59 X64 s65 → (∃ (u66 : SlH), a60.1 = some u66 ∧ 0 ≤ (IntKind.wrap .i64 (id1 - (1 : Int))) ∧ (IntKind.wrap .i64 (id1 - (1 : Int))) < ((u66.len : Nat) : Int) ∧ (∃ (a67 : ((Option SlH) × (Int × Int))), XH.el X64 yZ1 u66.h ((u66.off + ((IntKind.wrap .i64 (id1 - (1 : Int)))).toNat)) = some a67 ∧ (∀ (X68 : XH), X68 = (XH.setEl X64 yZ1 u66.h ((u66.off + ((IntKind.wrap .i64 (id1 - (1 : Int)))).toNat)) (s65, a67.2)) → R (0 : Int) X68)))))))))) ∧ ((∃ (a37 : ((Option SlH) × ((Option SlH) × (Option SlH)))), XH.el X yZ0 t0 0 = some a37 ∧ (∃ (u38 : SlH), a37.1 = some u38 ∧ 0 ≤ (IntKind.wrap .i64 (id1 - (1 : Int))) ∧ (IntKind.wrap .i64 (id1 - (1 : Int))) < ((u38.len : Nat) : Int) ∧ (∃ (a39 : ((Option SlH) × (Int × Int))), XH.el X yZ1 u38.h ((u38.off + ((IntKind.wrap .i64 (id1 - (1 : Int)))).toNat)) = some a39 ∧ (∃ (l40 l41 : List (Int × (Int × ((List Int) × (List Int))))), XH.view X (.pure (.pair (.int .i64) (.pair (.int .i64) (.pair (.slice (.int .i64)) (.slice (.int .i64)))))) none = some l40 ∧ (srcX X (.pure (.pair (.int .i64) (.pair (.int .i64) (.pair (.slice (.int .i64)) (.slice (.int .i64)))))) (.sl (.pure (.pair (.int .i64) (.pair (.int .i64) (.pair (.slice (.int .i64)) (.slice (.int .i64)))))) a39.1)) = some l41 ∧ (0 + (l41).length) * 64 ≤ room ∧ ∀ (X42 : XH) (s43 : Option SlH), XApp X (.pure (.pair (.int .i64) (.pair (.int .i64) (.pair (.slice (.int .i64)) (.slice (.int .i64)))))) (((0 : Int), ((0 : Int), (([] : List Int), ([] : List Int))))) l40 l41 none X42 s43 → (∃ p44 : (Int × (Int × ((List Int) × (List Int)))), PC Try.prog 101 [(.agg [(.int .i64 f2.1), (.int .i64 f2.2.1), (.list (.int .i64) f2.2.2.1 .no), (.list (.int .i64) f2.2.2.2 .no)])] ((.agg [(.int .i64 p44.1), (.int .i64 p44.2.1), (.list (.int .i64) p44.2.2.1 .no), (.list (.int .i64) p44.2.2.2 .no)])) ∧ (∃ (l45 l46 : List (Int × (Int × ((List Int) × (List Int))))), XH.view X42 (.pure (.pair (.int .i64) (.pair (.int .i64) (.pair (.slice (.int .i64)) (.slice (.int .i64)))))) s43 = some l45 ∧ (srcX X42 (.pure (.pair (.int .i64) (.pair (.int .i64) (.pair (.slice (.int .i64)) (.slice (.int .i64)))))) (.v (.list (.pair (.int .i64) (.pair (.int .i64) (.pair (.slice (.int .i64)) (.slice (.int .i64))))) (([(p44.1, (p44.2.1, (p44.2.2.1, p44.2.2.2)))] : List (Int × (Int × ((List Int) × (List Int)))))) .exact))) = some l46 ∧ ((slN s43) + (l46).length) * 64 ≤ room ∧ ∀ (X47 : XH) (s48 : Option SlH), XApp X42 (.pure (.pair (.int .i64) (.pair (.int .i64) (.pair (.slice (.int .i64)) (.slice (.int .i64)))))) (((0 : Int), ((0 : Int), (([] : List Int), ([] : List Int))))) l45 l46 s43 X47 s48 → (∃ (a49 : ((Option SlH) × ((Option SlH) × (Option SlH)))), XH.el X47 yZ0 t0 0 = some a49 ∧ (∃ (u50 : SlH), a49.1 = some u50 ∧ 0 ≤ (IntKind.wrap .i64 (id1 - (1 : Int))) ∧ (IntKind.wrap .i64 (id1 - (1 : Int))) < ((u50.len : Nat) : Int) ∧ (∃ (a51 : ((Option SlH) × (Int × Int))), XH.el X47 yZ1 u50.h ((u50.off + ((IntKind.wrap .i64 (id1 - (1 : Int)))).toNat)) = some a51 ∧ (∀ (X52 : XH), X52 = (XH.setEl X47 yZ1 u50.h ((u50.off + ((IntKind.wrap .i64 (id1 - (1 : Int)))).toNat)) (s48, a51.2)) → R (0 : Int) X52)))))))))) ∧ ((∃ (a21 : ((Option SlH) × ((Option SlH) × (Option SlH)))), XH.el X yZ0 t0 0 = some a21 ∧ (∃ (u22 : SlH), a21.1 = some u22 ∧ 0 ≤ (IntKind.wrap .i64 (id1 - (1 : Int))) ∧ (IntKind.wrap .i64 (id1 - (1 : Int))) < ((u22.len : Nat) : Int) ∧ (∃ (a23 : ((Option SlH) × (Int × Int))), XH.el X yZ1 u22.h ((u22.off + ((IntKind.wrap .i64 (id1 - (1 : Int)))).toNat)) = some a23 ∧ (∃ (l24 l25 : List (Int × (Int × ((List Int) × (List Int))))), XH.view X (.pure (.pair (.int .i64) (.pair (.int .i64) (.pair (.slice (.int .i64)) (.slice (.int .i64)))))) none = some l24 ∧ (srcX X (.pure (.pair (.int .i64) (.pair (.int .i64) (.pair (.slice (.int .i64)) (.slice (.int .i64)))))) (.sl (.pure (.pair (.int .i64) (.pair (.int .i64) (.pair (.slice (.int .i64)) (.slice (.int .i64)))))) a23.1)) = some l25 ∧ (0 + (l25).length) * 64 ≤ room ∧ ∀ (X26 : XH) (s27 : Option SlH), XApp X (.pure (.pair (.int .i64) (.pair (.int .i64) (.pair (.slice (.int .i64)) (.slice (.int .i64)))))) (((0 : Int), ((0 : Int), (([] : List Int), ([] : List Int))))) l24 l25 none X26 s27 → (∃ p28 : (Int × (Int × ((List Int) × (List Int)))), PC Try.prog 101 [(.agg [(.int .i64 f2.1), (.int .i64 f2.2.1), (.list (.int .i64) f2.2.2.1 .no), (.list (.int .i64) f2.2.2.2 .no)])] ((.agg [(.int .i64 p28.1), (.int .i64 p28.2.1), (.list (.int .i64) p28.2.2.1 .no), (.list (.int .i64) p28.2.2.2 .no)])) ∧ (∃ (a29 : ((Option SlH) × ((Option SlH) × (Option SlH)))), XH.el X26 yZ0 t0 0 = some a29 ∧ (∃ (l30 l31 : List (Int × (Int × ((List Int) × (List Int))))), XH.view X26 (.pure (.pair (.int .i64) (.pair (.int .i64) (.pair (.slice (.int .i64)) (.slice (.int .i64)))))) s27 = some l30 ∧ (srcX X26 (.pure (.pair (.int .i64) (.pair (.int .i64) (.pair (.slice (.int .i64)) (.slice (.int .i64)))))) (.v (.list (.pair (.int .i64) (.pair (.int .i64) (.pair (.slice (.int .i64)) (.slice (.int .i64))))) (([(p28.1, (p28.2.1, (p28.2.2.1, p28.2.2.2)))] : List (Int × (Int × ((List Int) × (List Int)))))) .exact))) = some l31 ∧ ((slN s27) + (l31).length) * 64 ≤ room ∧ ∀ (X32 : XH) (s33 : Option SlH), XApp X26 (.pure (.pair (.int .i64) (.pair (.int .i64) (.pair (.slice (.int .i64)) (.slice (.int .i64)))))) (((0 : Int), ((0 : Int), (([] : List Int), ([] : List Int))))) l30 l31 s27 X32 s33 → (∃ (u34 : SlH), a29.1 = some u34 ∧ 0 ≤ (IntKind.wrap .i64 (id1 - (1 : Int))) ∧ (IntKind.wrap .i64 (id1 - (1 : Int))) < ((u34.len : Nat) : Int) ∧ (∃ (a35 : ((Option SlH) × (Int × Int))), XH.el X32 yZ1 u34.h ((u34.off + ((IntKind.wrap .i64 (id1 - (1 : Int)))).toNat)) = some a35 ∧ (∀ (X36 : XH), X36 = (XH.setEl X32 yZ1 u34.h ((u34.off + ((IntKind.wrap .i64 (id1 - (1 : Int)))).toNat)) (s33, a35.2)) → R (0 : Int) X36)))))))))) ∧ ((∃ (a5 : ((Option SlH) × ((Option SlH) × (Option SlH)))), XH.el X yZ0 t0 0 = some a5 ∧ (∃ (u6 : SlH), a5.1 = some u6 ∧ 0 ≤ (IntKind.wrap .i64 (id1 - (1 : Int))) ∧ (IntKind.wrap .i64 (id1 - (1 : Int))) < ((u6.len : Nat) : Int) ∧ (∃ (a7 : ((Option SlH) × (Int × Int))), XH.el X yZ1 u6.h ((u6.off + ((IntKind.wrap .i64 (id1 - (1 : Int)))).toNat)) = some a7 ∧ (∃ (l8 l9 : List (Int × (Int × ((List Int) × (List Int))))), XH.view X (.pure (.pair (.int .i64) (.pair (.int .i64) (.pair (.slice (.int .i64)) (.slice (.int .i64)))))) none = some l8 ∧ (srcX X (.pure (.pair (.int .i64) (.pair (.int .i64) (.pair (.slice (.int .i64)) (.slice (.int .i64)))))) (.sl (.pure (.pair (.int .i64) (.pair (.int .i64) (.pair (.slice (.int .i64)) (.slice (.int .i64)))))) a7.1)) = some l9 ∧ (0 + (l9).length) * 64 ≤ room ∧ ∀ (X10 : XH) (s11 : Option SlH), XApp X (.pure (.pair (.int .i64) (.pair (.int .i64) (.pair (.slice (.int .i64)) (.slice (.int .i64)))))) (((0 : Int), ((0 : Int), (([] : List Int), ([] : List Int))))) l8 l9 none X10 s11 → (∃ p12 : (Int × (Int × ((List Int) × (List Int)))), PC Try.prog 101 [(.agg [(.int .i64 f2.1), (.int .i64 f2.2.1), (.list (.int .i64) f2.2.2.1 .no), (.list (.int .i64) f2.2.2.2 .no)])] ((.agg [(.int .i64 p12.1), (.int .i64 p12.2.1), (.list (.int .i64) p12.2.2.1 .no), (.list (.int .i64) p12.2.2.2 .no)])) ∧ (∃ (l13 l14 : List (Int × (Int × ((List Int) × (List Int))))), XH.view X10 (.pure (.pair (.int .i64) (.pair (.int .i64) (.pair (.slice (.int .i64)) (.slice (.int .i64)))))) s11 = some l13 ∧ (srcX X10 (.pure (.pair (.int .i64) (.pair (.int .i64) (.pair (.slice (.int .i64)) (.slice (.int .i64)))))) (.v (.list (.pair (.int .i64) (.pair (.int .i64) (.pair (.slice (.int .i64)) (.slice (.int .i64))))) (([(p12.1, (p12.2.1, (p12.2.2.1, p12.2.2.2)))] : List (Int × (Int × ((List Int) × (List Int)))))) .exact))) = some l14 ∧ ((slN s11) + (l14).length) * 64 ≤ room ∧ ∀ (X15 : XH) (s16 : Option SlH), XApp X10 (.pure (.pair (.int .i64) (.pair (.int .i64) (.pair (.slice (.int .i64)) (.slice (.int .i64)))))) (((0 : Int), ((0 : Int), (([] : List Int), ([] : List Int))))) l13 l14 s11 X15 s16 → (∃ (a17 : ((Option SlH) × ((Option SlH) × (Option SlH)))), XH.el X15 yZ0 t0 0 = some a17 ∧ (∃ (u18 : SlH), a17.1 = some u18 ∧ 0 ≤ (IntKind.wrap .i64 (id1 - (1 : Int))) ∧ (IntKind.wrap .i64 (id1 - (1 : Int))) < ((u18.len : Nat) : Int) ∧ (∃ (a19 : ((Option SlH) × (Int × Int))), XH.el X15 yZ1 u18.h ((u18.off + ((IntKind.wrap .i64 (id1 - (1 : Int)))).toNat)) = some a19 ∧ (∀ (X20 : XH), X20 = (XH.setEl X15 yZ1 u18.h ((u18.off + ((IntKind.wrap .i64 (id1 - (1 : Int)))).toNat)) (s16, a19.2)) → R (0 : Int) X20)))))))))) ∧ True))))))))))))))) :
  fnK X76.tt (callN Try.prog X76 0) (X76.md 76) (X76.mk1 76) Try.f76 [(.ref (some t0) yZ0 0 []), (.v (.int .i64 id1)), (.v (.agg [(.int .i64 f2.1), (.int .i64 f2.2.1), (.list (.int .i64) f2.2.2.1 .no), (.list (.int .i64) f2.2.2.2 .no)]))] ⟨[], [some (.heap X)], ⟨0, []⟩⟩ (xfin [(.pure (.int .i64))] R) := Eq.mp (by kernel_rfl) h
end Go.Proofs.Ytaaedebknacheaa.AB

set_option maxRecDepth 100000
set_option maxHeartbeats 2000000
namespace Go.Proofs.Ytaaedebknacheaa.AB
open Go
noncomputable def X77 : Cx := ⟨tt, [], [(88, [(.pure (.pair (.int .i64) (.pair (.int .i64) (.pair (.slice (.int .i64)) (.slice (.int .i64)))))), (.pure .bool)]), (103, [(.pure .bool)])], [(77, [(1, 2, .rd), (2, 2, .rd)])], [], []⟩
theorem FN77 : fnsB Try.prog X77.fns := (show True from trivial)
theorem E77 (X : XH) (t0 : Nat) (id1 : Int) {R : ((Int × (Int × ((List Int) × (List Int)))) × Int) → XH → Prop} (h : (∃ (p1 : Bool), RC Try.prog 103 [(.pure .bool)] [(.ref (some t0) yZ0 0 []), (.v (.int .i64 id1))] X p1 ∧ (∃ (p2 : (Int × (Int × ((List Int) × (List Int)))) × Bool), RC Try.prog 88 [(.pure (.pair (.int .i64) (.pair (.int .i64) (.pair (.slice (.int .i64)) (.slice (.int .i64)))))), (.pure .bool)] [(.ref (some t0) yZ0 0 []), (.v (.int .i64 id1))] X p2 ∧ (((!p1) = true → R (((0 : Int), ((0 : Int), (([] : List Int), ([] : List Int)))), (24 : Int)) X) ∧
 ((!p1) = false → (((!p2.2) = true → R (((0 : Int), ((0 : Int), (([] : List Int), ([] : List Int)))), (25 : Int)) X) ∧
 ((!p2.2) = false → (∃ (a3 : ((Option SlH) × ((Option SlH) × (Option SlH)))), XH.el X yZ0 t0 0 = some a3 ∧ (∃ (a4 : ((Option SlH) × ((Option SlH) × (Option SlH)))), XH.el X yZ0 t0 0 = some a4 ∧ (∃ (u5 : SlH), a4.1 = some u5 ∧ 0 ≤ (IntKind.wrap .i64 (id1 - (1 : Int))) ∧ (IntKind.wrap .i64 (id1 - (1 : Int))) < ((u5.len : Nat) : Int) ∧ (∃ (a6 : ((Option SlH) × (Int × Int))), XH.el X yZ1 u5.h ((u5.off + ((IntKind.wrap .i64 (id1 - (1 : Int)))).toNat)) = some a6 ∧ (∃ (a7 : ((Option SlH) × ((Option SlH) × (Option SlH)))), XH.el X yZ0 t0 0 = some a7 ∧ (∃ (u8 : SlH), a7.1 = some u8 ∧ 0 ≤ (IntKind.wrap .i64 (id1 - (1 : Int))) ∧ (IntKind.wrap .i64 (id1 - (1 : Int))) < ((u8.len : Nat) : Int) ∧ (∃ (a9 : ((Option SlH) × (Int × Int))), XH.el X yZ1 u8.h ((u8.off + ((IntKind.wrap .i64 (id1 - (1 : Int)))).toNat)) = some a9 ∧ (0 ≤ (IntKind.wrap .i64 ((((slN a9.1) : Nat) : Int) - (1 : Int))) ∧ (IntKind.wrap .i64 ((((slN a9.1) : Nat) : Int) - (1 : Int))) ≤ (((slC a6.1) : Nat) : Int) ∧ (∃ (u10 : SlH), a3.1 = some u10 ∧ 0 ≤ (IntKind.wrap .i64 (id1 - (1 : Int))) ∧ (IntKind.wrap .i64 (id1 - (1 : Int))) < ((u10.len : Nat) : Int) ∧ (∃ (a11 : ((Option SlH) × (Int × Int))), XH.el X yZ1 u10.h ((u10.off + ((IntKind.wrap .i64 (id1 - (1 : Int)))).toNat)) = some a11 ∧ (∀ (X12 : XH), X12 = (XH.setEl X yZ1 u10.h ((u10.off + ((IntKind.wrap .i64 (id1 - (1 : Int)))).toNat)) (((slCut a6.1 0 (((IntKind.wrap .i64 ((((slN a9.1) : Nat) : Int) - (1 : Int)))).toNat) (slC a6.1)), a11.2))) → R ((p2.1.1, (p2.1.2.1, (p2.1.2.2.1, p2.1.2.2.2))), (0 : Int)) X12)))))))))))))))))) :
  fnK X77.tt (callN Try.prog X77 0) (X77.md 77) (X77.mk1 77) Try.f77 [(.ref (some t0) yZ0 0 []), (.v (.int .i64 id1))] ⟨[], [some (.heap X)], ⟨0, []⟩⟩ (xfin [(.pure (.pair (.int .i64) (.pair (.int .i64) (.pair (.slice (.int .i64)) (.slice (.int .i64)))))), (.pure (.int .i64))] R) := Eq.mp (by kernel_rfl) h
end Go.Proofs.Ytaaedebknacheaa.AB

set_option maxRecDepth 100000
set_option maxHeartbeats 2000000
namespace Go.Proofs.Ytaaedebknacheaa.AB
open Go
noncomputable def X79 : Cx := ⟨tt, [(101, [.cd (.pair (.int .i64) (.pair (.int .i64) (.pair (.slice (.int .i64)) (.slice (.int .i64)))))])], [(88, [(.pure (.pair (.int .i64) (.pair (.int .i64) (.pair (.slice (.int .i64)) (.slice (.int .i64)))))), (.pure .bool)]), (103, [(.pure .bool)])], [(79, [(1, 2, .rd), (2, 2, .rd)])], [], []⟩
theorem FN79 : fnsB Try.prog X79.fns := (show True from trivial)
theorem E79 (X : XH) (t0 : Nat) (id1 : Int) (f2 : (Int × (Int × ((List Int) × (List Int))))) {R : (Int) → XH → Prop} (h : (∃ (p1 : Bool), RC Try.prog 103 [(.pure .bool)] [(.ref (some t0) yZ0 0 []), (.v (.int .i64 id1))] X p1 ∧ (∃ (p2 : (Int × (Int × ((List Int) × (List Int)))) × Bool), RC Try.prog 88 [(.pure (.pair (.int .i64) (.pair (.int .i64) (.pair (.slice (.int .i64)) (.slice (.int .i64)))))), (.pure .bool)] [(.ref (some t0) yZ0 0 []), (.v (.int .i64 id1))] X p2 ∧ (((!p1) = true → R (24 : Int) X) ∧
 ((!p1) = false → (((!p2.2) = true → R (25 : Int) X) ∧
 ((!p2.2) = false → (∃ (a3 : ((Option SlH) × ((Option SlH) × (Option SlH)))), XH.el X yZ0 t0 0 = some a3 ∧ (∃ (u4 : SlH), a3.1 = some u4 ∧ 0 ≤ (IntKind.wrap .i64 (id1 - (1 : Int))) ∧ (IntKind.wrap .i64 (id1 - (1 : Int))) < ((u4.len : Nat) : Int) ∧ (∃ (a5 : ((Option SlH) × (Int × Int))), XH.el X yZ1 u4.h ((u4.off + ((IntKind.wrap .i64 (id1 - (1 : Int)))).toNat)) = some a5 ∧ (∃ (a6 : ((Option SlH) × ((Option SlH) × (Option SlH)))), XH.el X yZ0 t0 0 = some a6 ∧ (∃ (u7 : SlH), a6.1 = some u7 ∧ 0 ≤ (IntKind.wrap .i64 (id1 - (1 : Int))) ∧ (IntKind.wrap .i64 (id1 - (1 : Int))) < ((u7.len : Nat) : Int) ∧ (∃ (a8 : ((Option SlH) × (Int × Int))), XH.el X yZ1 u7.h ((u7.off + ((IntKind.wrap .i64 (id1 - (1 : Int)))).toNat)) = some a8 ∧ (∃ p9 : (Int × (Int × ((List Int) × (List Int)))), PC Try.prog 101 [(.agg [(.int .i64 f2.1), (.int .i64 f2.2.1), (.list (.int .i64) f2.2.2.1 .no), (.list (.int .i64) f2.2.2.2 .no)])] ((.agg [(.int .i64 p9.1), (.int .i64 p9.2.1), (.list (.int .i64) p9.2.2.1 .no), (.list (.int .i64) p9.2.2.2 .no)])) ∧ (∃ (u10 : SlH), a5.1 = some u10 ∧ 0 ≤ (IntKind.wrap .i64 ((((slN a8.1) : Nat) : Int) - (1 : Int))) ∧ (IntKind.wrap .i64 ((((slN a8.1) : Nat) : Int) - (1 : Int))) < ((u10.len : Nat) : Int) ∧ (∃ (a11 : (Int × (Int × ((List Int) × (List Int))))), XH.el X (.pure (.pair (.int .i64) (.pair (.int .i64) (.pair (.slice (.int .i64)) (.slice (.int .i64)))))) u10.h ((u10.off + ((IntKind.wrap .i64 ((((slN a8.1) : Nat) : Int) - (1 : Int)))).toNat)) = some a11 ∧ (∀ (X12 : XH), X12 = (XH.setEl X (.pure (.pair (.int .i64) (.pair (.int .i64) (.pair (.slice (.int .i64)) (.slice (.int .i64)))))) u10.h ((u10.off + ((IntKind.wrap .i64 ((((slN a8.1) : Nat) : Int) - (1 : Int)))).toNat)) ((p9.1, (p9.2.1, (p9.2.2.1, p9.2.2.2))))) → R (0 : Int) X12))))))))))))))))) :
  fnK X79.tt (callN Try.prog X79 0) (X79.md 79) (X79.mk1 79) Try.f79 [(.ref (some t0) yZ0 0 []), (.v (.int .i64 id1)), (.v (.agg [(.int .i64 f2.1), (.int .i64 f2.2.1), (.list (.int .i64) f2.2.2.1 .no), (.list (.int .i64) f2.2.2.2 .no)]))] ⟨[], [some (.heap X)], ⟨0, []⟩⟩ (xfin [(.pure (.int .i64))] R) := Eq.mp (by kernel_rfl) h
end Go.Proofs.Ytaaedebknacheaa.AB

set_option maxRecDepth 100000
set_option maxHeartbeats 2000000
namespace Go.Proofs.Ytaaedebknacheaa.AB
open Go
noncomputable def X81 : Cx := ⟨tt, [], [(54, [(.pure (.int .i64))]), (102, [])], [(81, [(1, 1, .rd), (4, 2, .xc)])], [], []⟩
theorem FN81 : fnsB Try.prog X81.fns := (show True from trivial)
theorem E81 (X : XH) (t0 : Nat) {R : (Int) → XH → Prop} (h : (∃ (p1 : Int), RC Try.prog 54 [(.pure (.int .i64))] [(.ref (some t0) yZ0 0 [])] X p1 ∧ (((p1 == (0 : Int)) = true → R (25 : Int) X) ∧
 ((p1 == (0 : Int)) = false → (XC Try.prog 102 [] [(.ref (some t0) yZ0 0 []), (.v (.int .i64 p1))] X (fun (p2 : Unit) (X3 : XH) => R (0 : Int) X3)))))) :
  fnK X81.tt (callN Try.prog X81 0) (X81.md 81) (X81.mk1 81) Try.f81 [(.ref (some t0) yZ0 0 [])] ⟨[], [some (.heap X)], ⟨0, []⟩⟩ (xfin [(.pure (.int .i64))] R) := Eq.mp (by kernel_rfl) h
end Go.Proofs.Ytaaedebknacheaa.AB

set_option maxRecDepth 100000
set_option maxHeartbeats 2000000
namespace Go.Proofs.Ytaaedebknacheaa.AB
open Go
noncomputable def X83 : Cx := ⟨tt, [], [(54, [(.pure (.int .i64))])], [(83, [(1, 1, .rd)])], [], []⟩
theorem FN83 : fnsB Try.prog X83.fns := (show True from trivial)
theorem E83 (X : XH) (t0 : Nat) {R : (Int) → XH → Prop} (h : (∃ (p1 : Int), RC Try.prog 54 [(.pure (.int .i64))] [(.ref (some t0) yZ0 0 [])] X p1 ∧ (((p1 == (0 : Int)) = true → R (25 : Int) X) ∧
 ((p1 == (0 : Int)) = false → (∃ (a2 : ((Option SlH) × ((Option SlH) × (Option SlH)))), XH.el X yZ0 t0 0 = some a2 ∧ (∃ (u3 : SlH), a2.1 = some u3 ∧ 0 ≤ (IntKind.wrap .i64 (p1 - (1 : Int))) ∧ (IntKind.wrap .i64 (p1 - (1 : Int))) < ((u3.len : Nat) : Int) ∧ (∃ (a4 : ((Option SlH) × (Int × Int))), XH.el X yZ1 u3.h ((u3.off + ((IntKind.wrap .i64 (p1 - (1 : Int)))).toNat)) = some a4 ∧ (∀ (X5 : XH), X5 = (XH.setEl X yZ1 u3.h ((u3.off + ((IntKind.wrap .i64 (p1 - (1 : Int)))).toNat)) ((a4.1, ((3 : Int), a4.2.2)))) → R (0 : Int) X5)))))))) :
  fnK X83.tt (callN Try.prog X83 0) (X83.md 83) (X83.mk1 83) Try.f83 [(.ref (some t0) yZ0 0 [])] ⟨[], [some (.heap X)], ⟨0, []⟩⟩ (xfin [(.pure (.int .i64))] R) := Eq.mp (by kernel_rfl) h
end Go.Proofs.Ytaaedebknacheaa.AB

set_option maxRecDepth 100000
set_option maxHeartbeats 2000000
namespace Go.Proofs.Ytaaedebknacheaa.AB
open Go
noncomputable def X85 : Cx := ⟨tt, [], [(102, [])], [(85, [(5, 2, .xc)])], [], []⟩
theorem FN85 : fnsB Try.prog X85.fns := (show True from trivial)
theorem E85 (X : XH) (t0 : Nat) (id1 : Int) {R : (Int) → XH → Prop} (h : (((decide (id1 < (1 : Int))) = true → R (24 : Int) X) ∧ ((decide (id1 < (1 : Int))) = false → (∃ (a1 : ((Option SlH) × ((Option SlH) × (Option SlH)))), XH.el X yZ0 t0 0 = some a1 ∧ (((decide (id1 > (((slN a1.1) : Nat) : Int))) = true → R (24 : Int) X) ∧
 ((decide (id1 > (((slN a1.1) : Nat) : Int))) = false → (∃ (a2 : ((Option SlH) × ((Option SlH) × (Option SlH)))), XH.el X yZ0 t0 0 = some a2 ∧ (∃ (u3 : SlH), a2.1 = some u3 ∧ 0 ≤ (IntKind.wrap .i64 (id1 - (1 : Int))) ∧ (IntKind.wrap .i64 (id1 - (1 : Int))) < ((u3.len : Nat) : Int) ∧ (∃ (a4 : ((Option SlH) × (Int × Int))), XH.el X yZ1 u3.h ((u3.off + ((IntKind.wrap .i64 (id1 - (1 : Int)))).toNat)) = some a4 ∧ (((a4.2.1 != (3 : Int)) = true → R (25 : Int) X) ∧
 ((a4.2.1 != (3 : Int)) = false → (XC Try.prog 102 [] [(.ref (some t0) yZ0 0 []), (.v (.int .i64 id1))] X (fun (p5 : Unit) (X6 : XH) => R (0 : Int) X6))))))))))))) :
  fnK X85.tt (callN Try.prog X85 0) (X85.md 85) (X85.mk1 85) Try.f85 [(.ref (some t0) yZ0 0 []), (.v (.int .i64 id1))] ⟨[], [some (.heap X)], ⟨0, []⟩⟩ (xfin [(.pure (.int .i64))] R) := Eq.mp (by kernel_rfl) h
end Go.Proofs.Ytaaedebknacheaa.AB

set_option maxRecDepth 100000
set_option maxHeartbeats 2000000
namespace Go.Proofs.Ytaaedebknacheaa.AB
open Go
noncomputable def X86 : Cx := ⟨tt, [], [(54, [(.pure (.int .i64))])], [(86, [(1, 1, .rd), (12, 7, .x (.pure (.int .i64)))])], [], []⟩
theorem FN86 : fnsB Try.prog X86.fns := (show True from trivial)
theorem E86 (X : XH) (t0 : Nat) (other1 : Int) {R : (Bool × Int) → XH → Prop} (h : (∃ (p1 : Int), RC Try.prog 54 [(.pure (.int .i64))] [(.ref (some t0) yZ0 0 [])] X p1 ∧ (((p1 == (0 : Int)) = true → R (false, (25 : Int)) X) ∧
 ((p1 == (0 : Int)) = false → (((decide (other1 < (1 : Int))) = true → R (false, (24 : Int)) X) ∧ ((decide (other1 < (1 : Int))) = false → (∃ (a2 : ((Option SlH) × ((Option SlH) × (Option SlH)))), XH.el X yZ0 t0 0 = some a2 ∧ (((decide (other1 > (((slN a2.1) : Nat) : Int))) = true → R (false, (24 : Int)) X) ∧
 ((decide (other1 > (((slN a2.1) : Nat) : Int))) = false → (((other1 == p1) = true → R (false, (25 : Int)) X) ∧
 ((other1 == p1) = false → (∃ (a3 : ((Option SlH) × ((Option SlH) × (Option SlH)))), XH.el X yZ0 t0 0 = some a3 ∧ (∃ (u4 : SlH), a3.1 = some u4 ∧ 0 ≤ (IntKind.wrap .i64 (other1 - (1 : Int))) ∧ (IntKind.wrap .i64 (other1 - (1 : Int))) < ((u4.len : Nat) : Int) ∧ (∃ (a5 : ((Option SlH) × (Int × Int))), XH.el X yZ1 u4.h ((u4.off + ((IntKind.wrap .i64 (other1 - (1 : Int)))).toNat)) = some a5 ∧ (((a5.2.1 == (5 : Int)) = true → R (true, (0 : Int)) X) ∧
 ((a5.2.1 == (5 : Int)) = false → (∃ (a6 : ((Option SlH) × ((Option SlH) × (Option SlH)))), XH.el X yZ0 t0 0 = some a6 ∧ (∃ (u7 : SlH), a6.1 = some u7 ∧ 0 ≤ (IntKind.wrap .i64 (p1 - (1 : Int))) ∧ (IntKind.wrap .i64 (p1 - (1 : Int))) < ((u7.len : Nat) : Int) ∧ (∃ (a8 : ((Option SlH) × (Int × Int))), XH.el X yZ1 u7.h ((u7.off + ((IntKind.wrap .i64 (p1 - (1 : Int)))).toNat)) = some a8 ∧ (∀ (X9 : XH), X9 = (XH.setEl X yZ1 u7.h ((u7.off + ((IntKind.wrap .i64 (p1 - (1 : Int)))).toNat)) ((a8.1, ((4 : Int), a8.2.2)))) → (∃ (a10 : ((Option SlH) × ((Option SlH) × (Option SlH)))), XH.el X9 yZ0 t0 0 = some a10 ∧ (∃ (u11 : SlH), a10.1 = some u11 ∧ 0 ≤ (IntKind.wrap .i64 (p1 - (1 : Int))) ∧ (IntKind.wrap .i64 (p1 - (1 : Int))) < ((u11.len : Nat) : Int) ∧ (∃ (a12 : ((Option SlH) × (Int × Int))), XH.el X9 yZ1 u11.h ((u11.off + ((IntKind.wrap .i64 (p1 - (1 : Int)))).toNat)) = some a12 ∧ (∀ (X13 : XH), X13 = (XH.setEl X9 yZ1 u11.h ((u11.off + ((IntKind.wrap .i64 (p1 - (1 : Int)))).toNat)) ((a12.1, (a12.2.1, other1)))) → (∃ (a14 : ((Option SlH) × ((Option SlH) × (Option SlH)))), XH.el X13 yZ0 t0 0 = some a14 ∧ (∃ (l15 l16 : List Int), XH.view X13 (.pure (.int .i64)) a14.2.2 = some l15 ∧ (srcX X13 (.pure (.int .i64)) (.v (.list (.int .i64) ([p1] : List Int) .exact))) = some l16 ∧ ((slN a14.2.2) + (l16).length) * 8 ≤ room ∧ ∀ (X17 : XH) (s18 : Option SlH), XApp X13 (.pure (.int .i64)) (0 : Int) l15 l16 a14.2.2 X17 s18 → (∃ (a19 : ((Option SlH) × ((Option SlH) × (Option SlH)))), XH.el X17 yZ0 t0 0 = some a19 ∧ (∀ (X20 : XH), X20 = (XH.setEl X17 yZ0 t0 0 ((a19.1, (a19.2.1, s18)))) → R (false, (0 : Int)) X20)))))))))))))))))))))))))))) :
  fnK X86.tt (callN Try.prog X86 0) (X86.md 86) (X86.mk1 86) Try.f86 [(.ref (some t0) yZ0 0 []), (.v (.int .i64 other1))] ⟨[], [some (.heap X)], ⟨0, []⟩⟩ (xfin [(.pure .bool), (.pure (.int .i64))] R) := Eq.mp (by kernel_rfl) h
end Go.Proofs.Ytaaedebknacheaa.AB

namespace Go.Proofs.Ytaaedebknacheaa.AB
open Go

variable {X X' : XH} {r : Nat} {d : RD} {id : Int} {x : TH}

def RTab.upd (R : RTab) (id : Int) (f : TH → TH) : RTab := { R with l := R.l.modify (id - 1).toNat f }
def RTab.ready (R : RTab) (id : Int) : RTab := { R.upd id (fun x => { x with st := 1 }) with queue := R.queue ++ [id] }
def RTab.start (R : RTab) (f : Fr) : RTab := (⟨R.l ++ [⟨[f], 0, 0⟩], R.queue, R.joins⟩ : RTab).ready ((R.l.length : Int) + 1)

def RTab.startR (R : RTab) (f : Fr) : (Int × Int) × RTab := if 64 ≤ R.lives.length then ((0, 3), R) else (((R.l.length : Int) + 1, 0), R.start f)
def RTab.pushR (R : RTab) (id : Int) (f : Fr) : Int × RTab :=
 match R.at id with
 | none => (24, R)
 | some x => if x.st = 5 then (24, R) else if 200 ≤ x.fr.length then (3, R) else (0, R.upd id fun x => { x with fr := x.fr ++ [f] })
def RTab.errTop (R : RTab) (id : Int) : Int :=
 match R.at id with
 | none => 24
 | some x => if x.st = 5 then 24 else if x.fr = [] then 25 else 0
def RTab.popR (R : RTab) (id : Int) : (Fr × Int) × RTab :=
 if R.errTop id = 0 then (((R.top id).1, 0), R.upd id fun x => { x with fr := x.fr.dropLast }) else ((F0, R.errTop id), R)
def RTab.setR (R : RTab) (id : Int) (f : Fr) : Int × RTab :=
 if R.errTop id = 0 then (0, R.upd id fun x => { x with fr := x.fr.set (x.fr.length - 1) f }) else (R.errTop id, R)
def RTab.yieldR (R : RTab) : Int × RTab := if R.cur = 0 then (25, R) else (0, R.ready R.cur)
def RTab.blockR (R : RTab) : Int × RTab := if R.cur = 0 then (25, R) else (0, R.upd R.cur fun x => { x with st := 3 })
def RTab.wakeR (R : RTab) (id : Int) : Int × RTab :=
 match R.at id with
 | none => (24, R)
 | some x => if x.st ≠ 3 then (25, R) else (0, R.ready id)
def RTab.joinR (R : RTab) (other : Int) : (Bool × Int) × RTab :=
 if R.cur = 0 then ((false, 25), R) else
  match R.at other with
  | none => ((false, 24), R)
  | some x => if other = R.cur then ((false, 25), R) else if x.st = 5 then ((true, 0), R) else ((false, 0), { R.upd R.cur (fun x => { x with st := 4, jn := other }) with joins := R.joins ++ [R.cur] })

theorem srcX_sl {c : Xd} {y : Option SlH} : srcX X c (.sl c y) = X.view c y := by
 unfold srcX
 simp

theorem modify_split {α : Type} {f : α → α} {a : α} : ∀ {A C : List α}, (A ++ a :: C).modify A.length f = A ++ f a :: C
 | [], C => rfl
 | y :: A, C => by
  have := modify_split (f := f) (a := a) (A := A) (C := C)
  simp only [List.cons_append, List.length_cons, List.modify_succ_cons, this]

theorem el_setEl {c : Xd} {h e : Nat} {a : c.T} (hel : X.el c h e = some a) : X.setEl c h e a = X := by
 unfold XH.el at hel
 unfold XH.setEl
 cases ha : X.arr c h with
 | none => rfl
 | some l =>
  rw [ha] at hel
  dsimp only at hel ⊢
  have hl : l.set e a = l := by
   refine List.ext_getElem? fun i => ?_
   rw [List.getElem?_set]
   by_cases hi : e = i
   ·subst hi
    have := (List.getElem?_eq_some_iff.1 hel).1
    rw [if_pos rfl, if_pos this, hel]
   ·rw [if_neg hi]
  rw [hl]
  have hat := arr_at.1 ha
  have hf := at_get hat
  unfold XH.set
  have : (fun k => if k = h then some (XO.arr c l) else X.f k) = X.f := by
   funext k
   by_cases hk : k = h
   ·subst hk; rw [if_pos rfl]; exact hf.1.symm
   ·rw [if_neg hk]
  rw [this]

theorem RRep.updTo (h : RRep X r d) {A C : List RE} {e : RE} {u : SlH} (hs : d.hs = A ++ e :: C) (he : e.1 = x) (hid : id = (A.length : Int) + 1) (hu : d.L = some u) (hw : (IntKind.wrap .i64 (id - (1 : Int))).toNat = A.length)
  (f : TH → TH) {X1 X2 : XH} {x1 : Option SlH} (hq : SlAt X1 cF x1 (f x).fr) (mv : Mv X (hl e.2) X1 (hl x1))
  (e2 : X2 = X1.setEl cRH u.h (u.off + (IntKind.wrap .i64 (id - (1 : Int))).toNat) (x1, ((f x).st, (f x).jn))) :
  ∃ d2, RRep X2 r d2 ∧ Mv X (d.ks r) X2 (d2.ks r) ∧ d2.ab = d.ab.upd id f ∧ d2.hs.length = d.hs.length := by
 rw [hw] at e2
 obtain ⟨k1, k2⟩ := h.put hs hu (f x) hq mv e2
 refine ⟨_, k1, k2, ?_, by simp [hs]⟩
 unfold RD.ab RTab.upd
 have h1 : (id - 1).toNat = (A.map (·.1)).length := by rw [List.length_map]; omega
 dsimp only
 rw [h1, hs, List.map_append, List.map_cons, List.map_append, List.map_cons, modify_split, he]

theorem at_upd {R : RTab} {j : Int} {f : TH → TH} (h1 : 1 ≤ id) : (R.upd id f).at j = if j = id then (R.at j).map f else R.at j := by
 unfold RTab.at RTab.upd
 dsimp only
 by_cases hj : 1 ≤ j
 ·simp only [if_pos hj, List.getElem?_modify]
  by_cases e : j = id
  ·subst e
   cases R.l[(j - 1).toNat]? <;> simp
  ·have hne : ¬ (id - 1).toNat = (j - 1).toNat := by omega
   rw [if_neg e]
   cases R.l[(j - 1).toNat]? with
   | none => rfl
   | some w => exact congrArg some (if_neg hne)
 ·rw [if_neg hj]
  split <;> rfl

theorem upd_len {R : RTab} {f : TH → TH} : (R.upd id f).l.length = R.l.length := by unfold RTab.upd; simp

theorem c102 (h : RRep X r d) (hn : d.hs.length ≤ 1000000) (hx : d.ab.at id = some x) (hq : d.ab.queue.length < 1000000) :
  XC Try.prog 102 [] [.ref (some r) cRT 0 [], .v (.int .i64 id)] X fun _ X' => RGoes X r d X' (d.ab.ready id) := by
 obtain ⟨A, y, C, u, hs, hy, hid, hu, w0, w1, wel, hw⟩ := h.get hn hx
 have hsl := h.ws y (by rw [hs]; simp)
 rw [hy] at hsl
 refine xcOf (X := X102) rfl FN102 (by kernel_rfl) (by decide) (E102 X r id ⟨_, h.box.el, u, hu, w0, w1, _, wel, fun X4 e4 => ?_⟩)
 obtain ⟨d4, h4, m4, a4, n4⟩ := h.updTo hs hy hid hu hw (fun x => { x with st := 1 }) hsl (.refl _ _) e4
 have hq4 : d4.queue = d.queue := congrArg RTab.queue a4
 refine ⟨_, h4.box.el, d4.queue, [id], h4.qs.view, rfl, ?_, fun X8 s9 hx => ?_⟩
 ·have : d.queue.length < 1000000 := hq
  rw [h4.qs.len, hq4]
  simp only [List.length_cons, List.length_nil]
  unfold room; omega
 ·obtain ⟨b1, b2⟩ := hx.spec h4.qs
  have hb8 : Box X8 cRT r (d4.L, (d4.q, d4.jx)) := h4.box.keep (b2.keep r h4.box.lt h4.qj.2.1)
  refine ⟨_, hb8.el, fun X11 e11 => ?_⟩
  obtain ⟨k1, k2⟩ := h4.queueTo b2 b1 e11
  refine ⟨_, k1, m4.trans k2, ?_⟩
  show (⟨d4.ab.l, d4.queue ++ [id], d4.ab.joins⟩ : RTab) = _
  rw [a4, hq4]; rfl

theorem c75 (h : RRep X r d) (hf : d.ab.Fit) {f : Fr} (hs : Small f) (hn2 : d.ab.l.length < 1000000) (hq : d.ab.queue.length < 1000000) :
  XC Try.prog 75 [cI, cI] [.ref (some r) cRT 0 [], .v (.agg [.int .i64 f.1, .int .i64 f.2.1, .list (.int .i64) f.2.2.1 .no, .list (.int .i64) f.2.2.2 .no])] X
   fun p X' => p = (d.ab.startR f).1 ∧ RGoes X r d X' (d.ab.startR f).2 := by
 have hn : d.hs.length ≤ 1000000 := by have := hf.n; rwa [RD.ab_len] at this
 have hn2 : d.hs.length < 1000000 := by rwa [RD.ab_len] at hn2
 have hlen := h.arr.len
 refine xcOf (X := X75) rfl FN75 (by kernel_rfl) (by decide) (E75 X r f ⟨_, c52 h hn, fun e => ?_, fun e => ⟨_, h.box.el, f, c101 hs, fun X4 e4 X5 e5 => ?_⟩⟩)
 ·have e0 := of_decide_eq_true e
  have e : 64 ≤ d.ab.lives.length := by omega
  unfold RTab.startR
  rw [if_pos e]
  exact ⟨rfl, .refl h⟩
 ·have e0 := of_decide_eq_false e
  have e : ¬ 64 ≤ d.ab.lives.length := by omega
  have n4 : X4.n = X.n + 1 := by rw [e4]; rfl
  have k5 : ∀ k, k < X.n → X5.at k = X.at k := fun k hk => by rw [e5, at_add_old (by omega), e4, at_add_old hk]
  have a5 : SlAt X5 cRH d.L (d.hs.map fun e => e.1.v e.2) := h.arr.keep fun k hk => k5 k (h.arr.lt k hk)
  have sn : SlAt X5 cRH (some ⟨X4.n, 0, 1, 1⟩) [((some ⟨X.n, 0, 1, 1⟩ : Option SlH), ((0 : Int), (0 : Int)))] := ⟨_, by rw [e5]; exact at_add_new _ _, Nat.le_refl _, Nat.le_refl _, rfl⟩
  refine ⟨_, [((some ⟨X.n, 0, 1, 1⟩ : Option SlH), ((0 : Int), (0 : Int)))], a5.view, srcX_sl.trans sn.view, ?_, fun X8 s9 hx => ?_⟩
  ·dsimp only
   rw [hlen]
   simp only [List.length_map, List.length_cons, List.length_nil]
   unfold room; omega
  have hb8 : Box X8 cRT r (d.L, (d.q, d.jx)) := by
   obtain ⟨b1, b2⟩ := hx.spec a5
   have hlt := h.box.lt
   have : r ∉ hl d.L := by
    have s := h.sep
    unfold RD.ks at s
    simp only [List.append_assoc, List.cons_append] at s
    exact fun q => (List.nodup_cons.1 s).1 (List.mem_append_left _ q)
   have n5 : X5.n = X4.n + 1 := by rw [e5]; rfl
   exact h.box.keep ((b2.keep r (by omega) this).trans (k5 r hlt))
  refine ⟨_, hb8.el, fun X11 e11 => ?_⟩
  obtain ⟨h11, m11⟩ := h.more e4 e5 hx e11
  have hl11 := h11.len
  have hid : ((slN s9 : Nat) : Int) = (d.ab.l.length : Int) + 1 := by
   have : slN s9 = (d.hs ++ [((⟨[f], 0, 0⟩ : TH), (some ⟨X.n, 0, 1, 1⟩ : Option SlH))]).length := hl11
   rw [this, List.length_append, RD.ab_len]; simp
  refine ⟨_, h11.box.el, ?_⟩
  dsimp only
  rw [hid]
  have hab : RD.ab { d with L := s9, hs := d.hs ++ [(⟨[f], 0, 0⟩, some ⟨X.n, 0, 1, 1⟩)] } = ⟨d.ab.l ++ [⟨[f], 0, 0⟩], d.ab.queue, d.ab.joins⟩ := by simp [RD.ab]
  refine (c102 h11 (by simp; omega) (x := ⟨[f], 0, 0⟩) ?_ ?_).mono ?_
  ·rw [hab]
   unfold RTab.at
   rw [if_pos (by omega), show ((d.ab.l.length : Int) + 1 - 1).toNat = d.ab.l.length by omega]
   simp
  ·rw [hab]; exact hq
  ·rintro _ X14 hg
   have hg := RGoes.trans m11 hg
   rw [hab] at hg
   have hg0 := hg
   obtain ⟨d14, g1, g2, g3⟩ := hg
   refine ⟨_, g1.box.el, ?_⟩
   have hl14 := g1.len
   have : d14.hs.length = d.ab.l.length + 1 := by
    rw [← RD.ab_len, g3]
    show (RTab.upd _ _ _).l.length = _
    rw [upd_len]; simp
   unfold RTab.startR
   rw [if_neg e]
   refine ⟨?_, hg0⟩
   dsimp only
   rw [hl14, this]
   exact congrArg (fun z => (z, (0 : Int))) (by omega)

theorem live_not {R : RTab} (h : R.isLive id = false) : (R.at id = none ∨ ∃ x, R.at id = some x ∧ x.st = 5) := by
 unfold RTab.isLive at h
 cases hx : R.at id with
 | none => exact .inl rfl
 | some x =>
  rw [hx] at h
  exact .inr ⟨x, rfl, by simpa using h⟩

theorem live_yes {R : RTab} (h : R.isLive id = true) : ∃ x, R.at id = some x ∧ x.st ≠ 5 := by
 unfold RTab.isLive at h
 cases hx : R.at id with
 | none => rw [hx] at h; cases h
 | some x =>
  rw [hx] at h
  exact ⟨x, rfl, by simpa using h⟩

theorem c76 (h : RRep X r d) (hf : d.ab.Fit) (id : Int) {f : Fr} (hs : Small f) :
  XC Try.prog 76 [cI] [.ref (some r) cRT 0 [], .v (.int .i64 id), .v (.agg [.int .i64 f.1, .int .i64 f.2.1, .list (.int .i64) f.2.2.1 .no, .list (.int .i64) f.2.2.2 .no])] X
   fun p X' => p = (d.ab.pushR id f).1 ∧ RGoes X r d X' (d.ab.pushR id f).2 := by
 have hn : d.hs.length ≤ 1000000 := by have := hf.n; rwa [RD.ab_len] at this
 refine xcOf (X := X76) rfl FN76 (by kernel_rfl) (by decide) (E76 X r id f ⟨_, c103 h hn id, fun e => ?_, fun e => ?_⟩)
 ·have e : d.ab.isLive id = false := by simpa using e
  have : d.ab.pushR id f = (24, d.ab) := by
   unfold RTab.pushR
   rcases live_not e with q | ⟨x, q, q2⟩
   ·rw [q]
   ·rw [q]; simp only [if_pos q2]
  rw [this]
  exact ⟨rfl, .refl h⟩
 ·have e : d.ab.isLive id = true := by simpa using e
  obtain ⟨x, hx, h5⟩ := live_yes e
  obtain ⟨A, y, C, u, hA, hy, hid, hu, w0, w1, wel, hw⟩ := h.get hn hx
  have hym : y ∈ d.hs := by rw [hA]; simp
  have hsl := h.ws y hym
  rw [hy] at hsl
  have hlen := hsl.len
  have hfx := hf.fr x (RTab.at_mem hx)
  refine ⟨_, h.box.el, u, hu, w0, w1, _, wel, fun e2 => ?_, fun e2 => ?_⟩
  ·have e2 : (200 : Int) ≤ ((slN y.2 : Nat) : Int) := by simpa [TH.v] using e2
   have : d.ab.pushR id f = (3, d.ab) := by
    unfold RTab.pushR
    rw [hx]
    simp only [if_neg h5]
    rw [if_pos (by omega)]
   rw [this]
   exact ⟨rfl, .refl h⟩
  ·have e2 : ¬ (200 : Int) ≤ ((slN y.2 : Nat) : Int) := by simpa [TH.v] using e2
   have hres : d.ab.pushR id f = (0, d.ab.upd id fun x => { x with fr := x.fr ++ [f] }) := by
    unfold RTab.pushR
    rw [hx]
    simp only [if_neg h5]
    rw [if_neg (by omega)]
   have nil0 : SlAt X cF none [] := rfl
   have sz1 : (0 + x.fr.length) * 64 ≤ room := by unfold room; omega
   have fin : ∀ {X2 X3 : XH} {s1 s2 : Option SlH}, XApp X cF F0 [] x.fr none X2 s1 → XApp X2 cF F0 ([] ++ x.fr) [f] s1 X3 s2 → ∀ Y : XH, Y = X3.setEl cRH u.h (u.off + (IntKind.wrap .i64 (id - (1 : Int))).toNat) (s2, (x.st, x.jn)) →
     (0 : Int) = (d.ab.pushR id f).1 ∧ RGoes X r d Y (d.ab.pushR id f).2 := by
    intro X2 X3 s1 s2 x1 x2 Y eY
    obtain ⟨t1, t2⟩ := x1.spec nil0
    obtain ⟨t3, t4⟩ := x2.spec t1
    obtain ⟨d4, h4, m4, a4, n4⟩ := h.updTo hA hy hid hu hw (fun x => { x with fr := x.fr ++ [f] }) (X1 := X3) (x1 := s2) t3 ((t2.trans t4).weak (fun k hk => by cases hk) fun k hk => .inl hk) eY
    rw [hres]
    exact ⟨rfl, d4, h4, m4, a4⟩
   have at2 : ∀ {X2 : XH} {s1 : Option SlH}, XApp X cF F0 [] x.fr none X2 s1 → SlAt X2 cF s1 ([] ++ x.fr) ∧ Box X2 cRT r (d.L, (d.q, d.jx)) ∧ (slN s1 + [f].length) * 64 ≤ room := by
    intro X2 s1 x1
    obtain ⟨t1, t2⟩ := x1.spec nil0
    refine ⟨t1, h.box.keep (t2.keep r h.box.lt (by simp [hl])), ?_⟩
    rw [t1.len]; simp only [List.nil_append, List.length_cons, List.length_nil]; unfold room; omega
   have at3 : ∀ {X2 X3 : XH} {s1 s2 : Option SlH}, XApp X cF F0 [] x.fr none X2 s1 → XApp X2 cF F0 ([] ++ x.fr) [f] s1 X3 s2 → Box X3 cRT r (d.L, (d.q, d.jx)) ∧
     X3.el cRH u.h (u.off + (IntKind.wrap .i64 (id - (1 : Int))).toNat) = some (x.v y.2) := by
    intro X2 X3 s1 s2 x1 x2
    obtain ⟨t1, t2⟩ := x1.spec nil0
    obtain ⟨t3, t4⟩ := x2.spec t1
    have m := t2.trans t4
    have h3 : RRep X3 r d := h.mv m fun k _ => by simp [hl]
    obtain ⟨u', q1, q2, q3⟩ := h3.at hA
    rw [hu] at q1; cases q1
    rw [hw, ← hy]
    exact ⟨h3.box, q3⟩
   refine ⟨?_, ?_, ?_, ?_, ?_, ?_, trivial⟩
   ·exact ⟨_, h.box.el, _, h.box.el, u, hu, w0, w1, _, wel, [], x.fr, rfl, srcX_sl.trans hsl.view, sz1, fun X2 s1 x1 => ⟨f, c101 hs, _, [f], (at2 x1).1.view, rfl, (at2 x1).2.2, fun X3 s2 x2 => ⟨u, hu, w0, w1, _, (at3 x1 x2).2, fin x1 x2⟩⟩⟩
   ·exact ⟨_, h.box.el, _, h.box.el, u, hu, w0, w1, _, wel, [], x.fr, rfl, srcX_sl.trans hsl.view, sz1, fun X2 s1 x1 => ⟨f, c101 hs, _, [f], (at2 x1).1.view, rfl, (at2 x1).2.2, fun X3 s2 x2 => ⟨u, hu, w0, w1, _, (at3 x1 x2).2, fin x1 x2⟩⟩⟩
   ·exact ⟨_, h.box.el, u, hu, w0, w1, _, wel, [], x.fr, rfl, srcX_sl.trans hsl.view, sz1, fun X2 s1 x1 => ⟨_, (at2 x1).2.1.el, f, c101 hs, _, [f], (at2 x1).1.view, rfl, (at2 x1).2.2, fun X3 s2 x2 => ⟨u, hu, w0, w1, _, (at3 x1 x2).2, fin x1 x2⟩⟩⟩
   ·exact ⟨_, h.box.el, u, hu, w0, w1, _, wel, [], x.fr, rfl, srcX_sl.trans hsl.view, sz1, fun X2 s1 x1 => ⟨f, c101 hs, _, [f], (at2 x1).1.view, rfl, (at2 x1).2.2, fun X3 s2 x2 => ⟨_, (at3 x1 x2).1.el, u, hu, w0, w1, _, (at3 x1 x2).2, fin x1 x2⟩⟩⟩
   ·exact ⟨_, h.box.el, u, hu, w0, w1, _, wel, [], x.fr, rfl, srcX_sl.trans hsl.view, sz1, fun X2 s1 x1 => ⟨f, c101 hs, _, (at2 x1).2.1.el, _, [f], (at2 x1).1.view, rfl, (at2 x1).2.2, fun X3 s2 x2 => ⟨u, hu, w0, w1, _, (at3 x1 x2).2, fin x1 x2⟩⟩⟩
   ·exact ⟨_, h.box.el, u, hu, w0, w1, _, wel, [], x.fr, rfl, srcX_sl.trans hsl.view, sz1, fun X2 s1 x1 => ⟨f, c101 hs, _, [f], (at2 x1).1.view, rfl, (at2 x1).2.2, fun X3 s2 x2 => ⟨_, (at3 x1 x2).1.el, u, hu, w0, w1, _, (at3 x1 x2).2, fin x1 x2⟩⟩⟩

theorem top_not {R : RTab} (h1 : x.st ≠ 5) (hx : R.at id = some x) (h : (R.top id).2 = false) : x.fr = [] := by
 unfold RTab.top at h
 rw [hx] at h
 simp only [if_neg h1] at h
 cases hl : x.fr.getLast? with
 | none => exact List.getLast?_eq_none_iff.1 hl
 | some f => rw [hl] at h; cases h

theorem top_yes {R : RTab} (h1 : x.st ≠ 5) (hx : R.at id = some x) (h : (R.top id).2 = true) : ∃ f, x.fr.getLast? = some f ∧ R.top id = (f, true) ∧ x.fr ≠ [] := by
 unfold RTab.top at h ⊢
 rw [hx] at h ⊢
 simp only [if_neg h1] at h ⊢
 cases hl : x.fr.getLast? with
 | none => rw [hl] at h; cases h
 | some f => exact ⟨f, rfl, rfl, fun q => by rw [q] at hl; cases hl⟩

theorem err_dead {R : RTab} (h : R.isLive id = false) : R.errTop id = 24 := by
 unfold RTab.errTop
 rcases live_not h with q | ⟨x, q, q2⟩
 ·rw [q]
 ·rw [q]; simp only [if_pos q2]

theorem err_live {R : RTab} (h5 : x.st ≠ 5) (hx : R.at id = some x) : R.errTop id = if x.fr = [] then 25 else 0 := by
 unfold RTab.errTop
 rw [hx]; simp only [if_neg h5]

theorem c77 (h : RRep X r d) (hf : d.ab.Fit) (id : Int) :
  XC Try.prog 77 [cF, cI] [.ref (some r) cRT 0 [], .v (.int .i64 id)] X fun p X' => p = (d.ab.popR id).1 ∧ RGoes X r d X' (d.ab.popR id).2 := by
 have hn : d.hs.length ≤ 1000000 := by have := hf.n; rwa [RD.ab_len] at this
 refine xcOf (X := X77) rfl FN77 (by kernel_rfl) (by decide) (E77 X r id ⟨_, c103 h hn id, _, c88 h hf id, fun e => ?_, fun e => ⟨fun e2 => ?_, fun e2 => ?_⟩⟩)
 ·have e : d.ab.isLive id = false := by simpa using e
  unfold RTab.popR
  rw [err_dead e, if_neg (by decide)]
  exact ⟨rfl, .refl h⟩
 ·have e : d.ab.isLive id = true := by simpa using e
  have e2 : (d.ab.top id).2 = false := by simpa using e2
  obtain ⟨x, hx, h5⟩ := live_yes e
  unfold RTab.popR
  rw [err_live h5 hx, if_pos (top_not h5 hx e2), if_neg (by decide)]
  exact ⟨rfl, .refl h⟩
 ·have e : d.ab.isLive id = true := by simpa using e
  have e2 : (d.ab.top id).2 = true := by simpa using e2
  obtain ⟨x, hx, h5⟩ := live_yes e
  obtain ⟨f, g1, g2, g3⟩ := top_yes h5 hx e2
  obtain ⟨A, y, C, u, hA, hy, hid, hu, w0, w1, wel, hw⟩ := h.get hn hx
  have hsl := h.ws y (by rw [hA]; simp)
  rw [hy] at hsl
  have hfx := hf.fr x (RTab.at_mem hx)
  obtain ⟨s, hs2, v0, v1, f', hf1, hf2, hf3, hf4⟩ := last_el hsl hfx.1 g3
  refine ⟨_, h.box.el, _, h.box.el, u, hu, w0, w1, _, wel, _, h.box.el, u, hu, w0, w1, _, wel, v0, hf4, u, hu, w0, w1, _, wel, fun X12 e12 => ?_⟩
  have hpos : 0 < x.fr.length := List.length_pos_iff.2 g3
  have hcut : SlAt X cF (slCut y.2 0 (IntKind.wrap .i64 (((slN y.2 : Nat) : Int) - (1 : Int))).toNat (slC y.2)) x.fr.dropLast := by
   have hlen := hsl.len
   have hle := hsl.le
   rw [hf3]
   rw [hs2] at hsl hlen hle ⊢
   have hlen : s.len = x.fr.length := hlen
   have hle : s.len ≤ s.cap := hle
   have := hsl.cut (p := 0) (q := x.fr.length - 1) (m := s.cap) (Nat.zero_le _) (by omega) (Nat.le_refl _) (by omega)
   rw [List.drop_zero, ← List.dropLast_eq_take] at this
   exact this
  have hh : hl (slCut y.2 0 (IntKind.wrap .i64 (((slN y.2 : Nat) : Int) - (1 : Int))).toNat (slC y.2)) = hl y.2 := by rw [hs2]; rfl
  obtain ⟨d4, h4, m4, a4, n4⟩ := h.updTo hA hy hid hu hw (fun x => { x with fr := x.fr.dropLast }) hcut (by rw [hh]; exact .refl _ _) e12
  unfold RTab.popR
  rw [err_live h5 hx, if_neg g3, if_pos rfl]
  exact ⟨rfl, d4, h4, m4, a4⟩

theorem c79 (h : RRep X r d) (hf : d.ab.Fit) (id : Int) {f : Fr} (hs : Small f) :
  XC Try.prog 79 [cI] [.ref (some r) cRT 0 [], .v (.int .i64 id), .v (.agg [.int .i64 f.1, .int .i64 f.2.1, .list (.int .i64) f.2.2.1 .no, .list (.int .i64) f.2.2.2 .no])] X
   fun p X' => p = (d.ab.setR id f).1 ∧ RGoes X r d X' (d.ab.setR id f).2 := by
 have hn : d.hs.length ≤ 1000000 := by have := hf.n; rwa [RD.ab_len] at this
 refine xcOf (X := X79) rfl FN79 (by kernel_rfl) (by decide) (E79 X r id f ⟨_, c103 h hn id, _, c88 h hf id, fun e => ?_, fun e => ⟨fun e2 => ?_, fun e2 => ?_⟩⟩)
 ·have e : d.ab.isLive id = false := by simpa using e
  unfold RTab.setR
  rw [err_dead e, if_neg (by decide)]
  exact ⟨rfl, .refl h⟩
 ·have e : d.ab.isLive id = true := by simpa using e
  have e2 : (d.ab.top id).2 = false := by simpa using e2
  obtain ⟨x, hx, h5⟩ := live_yes e
  unfold RTab.setR
  rw [err_live h5 hx, if_pos (top_not h5 hx e2), if_neg (by decide)]
  exact ⟨rfl, .refl h⟩
 ·have e : d.ab.isLive id = true := by simpa using e
  have e2 : (d.ab.top id).2 = true := by simpa using e2
  obtain ⟨x, hx, h5⟩ := live_yes e
  obtain ⟨f0, g1, g2, g3⟩ := top_yes h5 hx e2
  obtain ⟨A, y, C, u, hA, hy, hid, hu, w0, w1, wel, hw⟩ := h.get hn hx
  have hsl := h.ws y (by rw [hA]; simp)
  rw [hy] at hsl
  have hfx := hf.fr x (RTab.at_mem hx)
  obtain ⟨s, hs2, v0, v1, f', hf1, hf2, hf3, hf4⟩ := last_el hsl hfx.1 g3
  refine ⟨_, h.box.el, u, hu, w0, w1, _, wel, _, h.box.el, u, hu, w0, w1, _, wel, f, c101 hs, s, hs2, v0, v1, f', hf2, fun X12 e12 => ?_⟩
  have e12 : X12 = X.setEl cF s.h (s.off + (IntKind.wrap .i64 (((slN y.2 : Nat) : Int) - (1 : Int))).toNat) f := e12
  rw [hf3] at e12
  have hsl' := hsl
  rw [hs2] at hsl'
  have hpos : 0 < x.fr.length := List.length_pos_iff.2 g3
  obtain ⟨a, k1, k2⟩ := hsl'.setEl (i := x.fr.length - 1) (by omega) f
  rw [k1] at e12
  rw [← e12] at k2
  have hm : Mv X (hl y.2) X12 (hl y.2) := by rw [e12, hs2]; exact Mv.set (by simp [hl])
  have huL : u.h ∈ hl d.L := by rw [hu]; simp [hl]
  have hne : u.h ∉ hl y.2 := by
   intro q
   have s0 := h.sep
   unfold RD.ks at s0
   rw [List.append_assoc, List.nodup_append] at s0
   exact s0.2.2 u.h (List.mem_cons_of_mem _ huL) u.h (List.mem_append_right _ (mem_fl.2 ⟨y, by rw [hA]; simp, q⟩)) rfl
  have harr : SlAt X12 cRH d.L (d.hs.map fun e => e.1.v e.2) := h.arr.keep fun k hk => by
   rw [hu] at hk
   simp only [hl, List.mem_singleton] at hk
   subst hk
   exact hm.keep u.h (h.arr.lt _ huL) hne
  have hel12 : X12.el cRH u.h (u.off + (IntKind.wrap .i64 (id - (1 : Int))).toNat) = some (x.v y.2) := by
   rw [hu] at harr
   rw [hw]
   have := harr.el (i := A.length) (by rw [hA]; simp)
   rw [this]
   have h1 : (d.hs.map fun e => e.1.v e.2)[A.length]? = some (x.v y.2) := by rw [hA, List.map_append, List.map_cons, List.getElem?_append_right (by simp)]; simp [hy]
   obtain ⟨q1, q2⟩ := List.getElem?_eq_some_iff.1 h1
   exact congrArg some q2
  obtain ⟨d4, h4, m4, a4, n4⟩ := h.updTo hA hy hid hu hw (fun x => { x with fr := x.fr.set (x.fr.length - 1) f }) (X1 := X12) (x1 := y.2) (X2 := X12) (by rw [hs2]; exact k2) hm (el_setEl hel12).symm
  unfold RTab.setR
  rw [err_live h5 hx, if_neg g3, if_pos rfl]
  exact ⟨rfl, d4, h4, m4, a4⟩

theorem cur_le {R : RTab} : 0 ≤ R.cur ∧ R.cur ≤ R.l.length := by
 unfold RTab.cur
 cases h : R.l.findIdx? (fun x => x.st == 2) with
 | none => dsimp only; omega
 | some i =>
  have := (List.findIdx?_eq_some_iff_getElem.1 h).1
  dsimp only; omega

theorem cur_some {R : RTab} (h : R.cur ≠ 0) : ∃ x, R.at R.cur = some x ∧ x.st = 2 := by
 unfold RTab.cur at h ⊢
 cases hf : R.l.findIdx? (fun x => x.st == 2) with
 | none => rw [hf] at h; exact absurd rfl h
 | some i =>
  obtain ⟨h1, h2, h3⟩ := List.findIdx?_eq_some_iff_getElem.1 hf
  dsimp only
  unfold RTab.at
  rw [if_pos (by omega), show ((i : Int) + 1 - 1).toNat = i by omega, List.getElem?_eq_getElem h1]
  exact ⟨_, rfl, by simpa using h2⟩

theorem c81 (h : RRep X r d) (hn : d.hs.length ≤ 1000000) (hq : d.ab.queue.length < 1000000) :
  XC Try.prog 81 [cI] [.ref (some r) cRT 0 []] X fun p X' => p = d.ab.yieldR.1 ∧ RGoes X r d X' d.ab.yieldR.2 := by
 refine xcOf (X := X81) rfl FN81 (by kernel_rfl) (by decide) (E81 X r ⟨_, c54 h hn, fun e => ?_, fun e => ?_⟩)
 ·have e : d.ab.cur = 0 := by simpa using e
  unfold RTab.yieldR
  rw [if_pos e]
  exact ⟨rfl, .refl h⟩
 ·have e : d.ab.cur ≠ 0 := by simpa using e
  obtain ⟨x, hx, _⟩ := cur_some e
  refine (c102 h hn hx hq).mono fun _ X3 hg => ?_
  unfold RTab.yieldR
  rw [if_neg e]
  exact ⟨rfl, hg⟩

theorem c83 (h : RRep X r d) (hn : d.hs.length ≤ 1000000) :
  XC Try.prog 83 [cI] [.ref (some r) cRT 0 []] X fun p X' => p = d.ab.blockR.1 ∧ RGoes X r d X' d.ab.blockR.2 := by
 refine xcOf (X := X83) rfl FN83 (by kernel_rfl) (by decide) (E83 X r ⟨_, c54 h hn, fun e => ?_, fun e => ?_⟩)
 ·have e : d.ab.cur = 0 := by simpa using e
  unfold RTab.blockR
  rw [if_pos e]
  exact ⟨rfl, .refl h⟩
 ·have e : d.ab.cur ≠ 0 := by simpa using e
  obtain ⟨x, hx, _⟩ := cur_some e
  obtain ⟨A, y, C, u, hA, hy, hid, hu, w0, w1, wel, hw⟩ := h.get hn hx
  have hsl := h.ws y (by rw [hA]; simp)
  rw [hy] at hsl
  refine ⟨_, h.box.el, u, hu, w0, w1, _, wel, fun X5 e5 => ?_⟩
  obtain ⟨d4, h4, m4, a4, n4⟩ := h.updTo hA hy hid hu hw (fun x => { x with st := 3 }) hsl (.refl _ _) e5
  unfold RTab.blockR
  rw [if_neg e]
  exact ⟨rfl, d4, h4, m4, a4⟩

theorem c85 (h : RRep X r d) (hn : d.hs.length ≤ 1000000) (hq : d.ab.queue.length < 1000000) (id : Int) :
  XC Try.prog 85 [cI] [.ref (some r) cRT 0 [], .v (.int .i64 id)] X fun p X' => p = (d.ab.wakeR id).1 ∧ RGoes X r d X' (d.ab.wakeR id).2 := by
 have hlen := h.len
 have none' : d.ab.at id = none → (24 : Int) = (d.ab.wakeR id).1 ∧ RGoes X r d X (d.ab.wakeR id).2 := fun q => by
  unfold RTab.wakeR
  rw [q]
  exact ⟨rfl, .refl h⟩
 refine xcOf (X := X85) rfl FN85 (by kernel_rfl) (by decide) (E85 X r id ⟨fun e => ?_, fun e => ⟨_, h.box.el, fun e2 => ?_, fun e2 => ?_⟩⟩)
 ·exact none' (RTab.at_none (.inl (by simpa using e)))
 ·have e2 : ((slN d.L : Nat) : Int) < id := by simpa using e2
  exact none' (RTab.at_none (.inr (by rw [RD.ab_len]; omega)))
 ·have e : ¬ id < 1 := by simpa using e
  have e2 : ¬ ((slN d.L : Nat) : Int) < id := by simpa using e2
  obtain ⟨x, hx⟩ := RTab.at_some (R := d.ab) (id := id) (by omega) (by rw [RD.ab_len]; omega)
  obtain ⟨A, y, C, u, hA, hy, hid, hu, w0, w1, wel, hw⟩ := h.get hn hx
  refine ⟨_, h.box.el, u, hu, w0, w1, _, wel, fun e3 => ?_, fun e3 => ?_⟩
  ·have e3 : x.st ≠ 3 := by simpa [TH.v] using e3
   unfold RTab.wakeR
   rw [hx]
   simp only [if_pos e3]
   exact ⟨rfl, .refl h⟩
  ·have e3 : x.st = 3 := by simpa [TH.v] using e3
   refine (c102 h hn hx hq).mono fun _ X3 hg => ?_
   unfold RTab.wakeR
   rw [hx]
   simp only [if_neg (show ¬ x.st ≠ 3 from fun q => q e3)]
   exact ⟨rfl, hg⟩

theorem c86 (h : RRep X r d) (hn : d.hs.length ≤ 1000000) (hj : d.ab.joins.length < 1000000) (other : Int) :
  XC Try.prog 86 [.pure .bool, cI] [.ref (some r) cRT 0 [], .v (.int .i64 other)] X fun p X' => p = (d.ab.joinR other).1 ∧ RGoes X r d X' (d.ab.joinR other).2 := by
 have hlen := h.len
 refine xcOf (X := X86) rfl FN86 (by kernel_rfl) (by decide) (E86 X r other ⟨_, c54 h hn, fun e => ?_, fun e => ?_⟩)
 ·have e : d.ab.cur = 0 := by simpa using e
  unfold RTab.joinR
  rw [if_pos e]
  exact ⟨rfl, .refl h⟩
 have e : d.ab.cur ≠ 0 := by simpa using e
 have none' : d.ab.at other = none → (false, (24 : Int)) = (d.ab.joinR other).1 ∧ RGoes X r d X (d.ab.joinR other).2 := fun q => by
  unfold RTab.joinR
  rw [if_neg e, q]
  exact ⟨rfl, .refl h⟩
 refine ⟨fun e1 => none' (RTab.at_none (.inl (by simpa using e1))), fun e1 => ⟨_, h.box.el, fun e2 => ?_, fun e2 => ?_⟩⟩
 ·have e2 : ((slN d.L : Nat) : Int) < other := by simpa using e2
  exact none' (RTab.at_none (.inr (by rw [RD.ab_len]; omega)))
 have e1 : ¬ other < 1 := by simpa using e1
 have e2 : ¬ ((slN d.L : Nat) : Int) < other := by simpa using e2
 obtain ⟨x, hx⟩ := RTab.at_some (R := d.ab) (id := other) (by omega) (by rw [RD.ab_len]; omega)
 refine ⟨fun e3 => ?_, fun e3 => ?_⟩
 ·have e3 : other = d.ab.cur := by simpa using e3
  have : d.ab.joinR other = ((false, 25), d.ab) := by
   unfold RTab.joinR
   rw [if_neg e, hx]
   simp only [if_pos e3]
  rw [this]
  exact ⟨rfl, .refl h⟩
 have e3 : other ≠ d.ab.cur := by simpa using e3
 obtain ⟨A, y, C, u, hA, hy, hid, hu, w0, w1, wel, hw⟩ := h.get hn hx
 refine ⟨_, h.box.el, u, hu, w0, w1, _, wel, fun e4 => ?_, fun e4 => ?_⟩
 ·have e4 : x.st = 5 := by simpa [TH.v] using e4
  have : d.ab.joinR other = ((true, 0), d.ab) := by
   unfold RTab.joinR
   rw [if_neg e, hx]
   simp only [if_neg e3, if_pos e4]
  rw [this]
  exact ⟨rfl, .refl h⟩
 have e4 : x.st ≠ 5 := by simpa [TH.v] using e4
 have hres : d.ab.joinR other = ((false, 0), { d.ab.upd d.ab.cur (fun x => { x with st := 4, jn := other }) with joins := d.ab.joins ++ [d.ab.cur] }) := by
  unfold RTab.joinR
  rw [if_neg e, hx]
  simp only [if_neg e3, if_neg e4]
 obtain ⟨z, hz, _⟩ := cur_some e
 obtain ⟨A, y, C, u, hA, hy, hid, hu, w0, w1, wel, hw⟩ := h.get hn hz
 have hsl := h.ws y (by rw [hA]; simp)
 rw [hy] at hsl
 refine ⟨_, h.box.el, u, hu, w0, w1, _, wel, fun X9 e9 => ?_⟩
 obtain ⟨d9, h9, m9, a9, n9⟩ := h.updTo hA hy hid hu hw (fun x => { x with st := 4 }) hsl (.refl _ _) e9
 have hz9 : d9.ab.at d.ab.cur = some { z with st := 4 } := by
  rw [a9, at_upd (by have := cur_le (R := d.ab); omega), if_pos rfl, hz]; rfl
 obtain ⟨A', y', C', u', hA', hy', hid', hu', w0', w1', wel', hw'⟩ := h9.get (by rw [n9]; exact hn) hz9
 have hsl' := h9.ws y' (by rw [hA']; simp)
 rw [hy'] at hsl'
 refine ⟨_, h9.box.el, u', hu', w0', w1', _, wel', fun X13 e13 => ?_⟩
 obtain ⟨d13, h13, m13, a13, n13⟩ := h9.updTo hA' hy' hid' hu' hw' (fun x => { x with jn := other }) hsl' (.refl _ _) e13
 have hj13 : d13.joins = d.joins := by
  have q1 : d13.ab.joins = d9.ab.joins := by rw [a13]; rfl
  have q2 : d9.ab.joins = d.ab.joins := by rw [a9]; rfl
  exact q1.trans q2
 refine ⟨_, h13.box.el, d13.joins, [d.ab.cur], h13.js.view, rfl, ?_, fun X17 s18 hxa => ?_⟩
 ·have : d.joins.length < 1000000 := hj
  rw [h13.js.len, hj13]
  simp only [List.length_cons, List.length_nil]
  unfold room; omega
 obtain ⟨b1, b2⟩ := hxa.spec h13.js
 have hb17 : Box X17 cRT r (d13.L, (d13.q, d13.jx)) := h13.box.keep (b2.keep r h13.box.lt h13.qj.2.2)
 refine ⟨_, hb17.el, fun X20 e20 => ?_⟩
 obtain ⟨k1, k2⟩ := h13.joinsTo b2 b1 e20
 rw [hres]
 refine ⟨rfl, _, k1, (m9.trans m13).trans k2, ?_⟩
 show (⟨d13.ab.l, d13.ab.queue, d13.joins ++ [d.ab.cur]⟩ : RTab) = _
 rw [a13, a9, hj13]
 unfold RTab.upd
 dsimp only
 congr 1
 refine List.ext_getElem? fun i => ?_
 rw [List.getElem?_modify, List.getElem?_modify, List.getElem?_modify]
 cases d.ab.l[i]? with
 | none => split <;> rfl
 | some w => split <;> rfl

end Go.Proofs.Ytaaedebknacheaa.AB

set_option maxRecDepth 100000
set_option maxHeartbeats 2000000
namespace Go.Proofs.Ytaaedebknacheaa.AB
open Go
noncomputable def X80 : Cx := ⟨tt, [], [(54, [(.pure (.int .i64))])], [(80, [(1, 1, .rd), (7, 1, .x (.pure (.int .i64))), (7, 8, .x (.pure (.int .i64))), (7, 16, .x (.pure (.int .i64))), (16000007, 20019018017016013009008006015014012011010007005004003002001, .dflt), (26000007, 20019018017009016013008006015014012011010007005004003002001, .dflt), (3000007, 12008, .dflt), (3000007, 0, .dflt), (3000007, 0, .dflt)])], [], []⟩
theorem FN80 : fnsB Try.prog X80.fns := (show True from trivial)
theorem E80 (X : XH) (t0 : Nat) (pick1 : Int) {R : (Int × Bool) → XH → Prop} (h : (∃ (p1 : Int), RC Try.prog 54 [(.pure (.int .i64))] [(.ref (some t0) yZ0 0 [])] X p1 ∧ (((decide (p1 > (0 : Int))) = true → R ((0 : Int), false) X) ∧ ((decide (p1 > (0 : Int))) = false → (∃ (a2 : ((Option SlH) × ((Option SlH) × (Option SlH)))), XH.el X yZ0 t0 0 = some a2 ∧ ((((((slN a2.2.1) : Nat) : Int) == (0 : Int)) = true → R ((0 : Int), false) X) ∧
 (((((slN a2.2.1) : Nat) : Int) == (0 : Int)) = false → (((decide (pick1 < (0 : Int))) = true → (∃ (a3 : ((Option SlH) × ((Option SlH) × (Option SlH)))), XH.el X yZ0 t0 0 = some a3 ∧ ((((slN a3.2.1) : Nat) : Int) ≠ 0 ∧ (∃ (a4 : ((Option SlH) × ((Option SlH) × (Option SlH)))), XH.el X yZ0 t0 0 = some a4 ∧ (∃ (u5 : SlH), a4.2.1 = some u5 ∧ 0 ≤ (Int.tmod (IntKind.wrap .i64 (0 - (IntKind.wrap .i64 (pick1 + (1 : Int))))) (((slN a3.2.1) : Nat) : Int)) ∧ (Int.tmod (IntKind.wrap .i64 (0 - (IntKind.wrap .i64 (pick1 + (1 : Int))))) (((slN a3.2.1) : Nat) : Int)) < ((u5.len : Nat) : Int) ∧ (∃ (a6 : Int), XH.el X (.pure (.int .i64)) u5.h ((u5.off + ((Int.tmod (IntKind.wrap .i64 (0 - (IntKind.wrap .i64 (pick1 + (1 : Int))))) (((slN a3.2.1) : Nat) : Int))).toNat)) = some a6 ∧ ((∃ (a23 : ((Option SlH) × ((Option SlH) × (Option SlH)))), XH.el X yZ0 t0 0 = some a23 ∧ (0 ≤ (Int.tmod (IntKind.wrap .i64 (0 - (IntKind.wrap .i64 (pick1 + (1 : Int))))) (((slN a3.2.1) : Nat) : Int)) ∧ (Int.tmod (IntKind.wrap .i64 (0 - (IntKind.wrap .i64 (pick1 + (1 : Int))))) (((slN a3.2.1) : Nat) : Int)) ≤ (((slC a23.2.1) : Nat) : Int) ∧ (∃ (l24 l25 : List Int), XH.view X (.pure (.int .i64)) none = some l24 ∧ (srcX X (.pure (.int .i64)) (.sl (.pure (.int .i64)) (slCut a23.2.1 0 (((Int.tmod (IntKind.wrap .i64 (0 - (IntKind.wrap .i64 (pick1 + (1 : Int))))) (((slN a3.2.1) : Nat) : Int))).toNat) (slC a23.2.1)))) = some l25 ∧ (0 + (l25).length) * 8 ≤ room ∧ ∀ (X26 : XH) (s27 : Option SlH), XApp X (.pure (.int .i64)) (0 : Int) l24 l25 none X26 s27 → (∃ (a28 : ((Option SlH) × ((Option SlH) × (Option SlH)))), XH.el X26 yZ0 t0 0 = some a28 ∧ (0 ≤ (IntKind.wrap .i64 ((Int.tmod (IntKind.wrap .i64 (0 - (IntKind.wrap .i64 (pick1 + (1 : Int))))) (((slN a3.2.1) : Nat) : Int)) + (1 : Int))) ∧ (IntKind.wrap .i64 ((Int.tmod (IntKind.wrap .i64 (0 - (IntKind.wrap .i64 (pick1 + (1 : Int))))) (((slN a3.2.1) : Nat) : Int)) + (1 : Int))) ≤ (((slN a28.2.1) : Nat) : Int) ∧ (∃ (l29 l30 : List Int), XH.view X26 (.pure (.int .i64)) s27 = some l29 ∧ (srcX X26 (.pure (.int .i64)) (.sl (.pure (.int .i64)) (slCut a28.2.1 (((IntKind.wrap .i64 ((Int.tmod (IntKind.wrap .i64 (0 - (IntKind.wrap .i64 (pick1 + (1 : Int))))) (((slN a3.2.1) : Nat) : Int)) + (1 : Int)))).toNat) (slN a28.2.1) (slC a28.2.1)))) = some l30 ∧ ((slN s27) + (l30).length) * 8 ≤ room ∧ ∀ (X31 : XH) (s32 : Option SlH), XApp X26 (.pure (.int .i64)) (0 : Int) l29 l30 s27 X31 s32 → (∃ (a33 : ((Option SlH) × ((Option SlH) × (Option SlH)))), XH.el X31 yZ0 t0 0 = some a33 ∧ (∀ (X34 : XH), X34 = (XH.setEl X31 yZ0 t0 0 ((a33.1, (s32, a33.2.2)))) → (∃ (a35 : ((Option SlH) × ((Option SlH) × (Option SlH)))), XH.el X34 yZ0 t0 0 = some a35 ∧ (∃ (u36 : SlH), a35.1 = some u36 ∧ 0 ≤ (IntKind.wrap .i64 (a6 - (1 : Int))) ∧ (IntKind.wrap .i64 (a6 - (1 : Int))) < ((u36.len : Nat) : Int) ∧ (∃ (a37 : ((Option SlH) × (Int × Int))), XH.el X34 yZ1 u36.h ((u36.off + ((IntKind.wrap .i64 (a6 - (1 : Int)))).toNat)) = some a37 ∧ (∀ (X38 : XH), X38 = (XH.setEl X34 yZ1 u36.h ((u36.off + ((IntKind.wrap .i64 (a6 - (1 : Int)))).toNat)) ((a37.1, ((2 : Int), a37.2.2)))) → R (a6, true) X38)))))))))))) ∧ ((∃ (a7 : ((Option SlH) × ((Option SlH) × (Option SlH)))), XH.el X yZ0 t0 0 = some a7 ∧ (0 ≤ (Int.tmod (IntKind.wrap .i64 (0 - (IntKind.wrap .i64 (pick1 + (1 : Int))))) (((slN a3.2.1) : Nat) : Int)) ∧ (Int.tmod (IntKind.wrap .i64 (0 - (IntKind.wrap .i64 (pick1 + (1 : Int))))) (((slN a3.2.1) : Nat) : Int)) ≤ (((slC a7.2.1) : Nat) : Int) ∧ (∃ (a8 : ((Option SlH) × ((Option SlH) × (Option SlH)))), XH.el X yZ0 t0 0 = some a8 ∧ (0 ≤ (IntKind.wrap .i64 ((Int.tmod (IntKind.wrap .i64 (0 - (IntKind.wrap .i64 (pick1 + (1 : Int))))) (((slN a3.2.1) : Nat) : Int)) + (1 : Int))) ∧ (IntKind.wrap .i64 ((Int.tmod (IntKind.wrap .i64 (0 - (IntKind.wrap .i64 (pick1 + (1 : Int))))) (((slN a3.2.1) : Nat) : Int)) + (1 : Int))) ≤ (((slN a8.2.1) : Nat) : Int) ∧ (∃ (l9 l10 : List Int), XH.view X (.pure (.int .i64)) none = some l9 ∧ (srcX X (.pure (.int .i64)) (.sl (.pure (.int .i64)) (slCut a7.2.1 0 (((Int.tmod (IntKind.wrap .i64 (0 - (IntKind.wrap .i64 (pick1 + (1 : Int))))) (((slN a3.2.1) : Nat) : Int))).toNat) (slC a7.2.1)))) = some l10 ∧ (0 + (l10).length) * 8 ≤ room ∧ ∀ (X11 : XH) (s12 : Option SlH), XApp X (.pure (.int .i64)) (0 : Int) l9 l10 none X11 s12 → (∃ (l13 l14 : List Int), XH.view X11 (.pure (.int .i64)) s12 = some l13 ∧ (srcX X11 (.pure (.int .i64)) (.sl (.pure (.int .i64)) (slCut a8.2.1 (((IntKind.wrap .i64 ((Int.tmod (IntKind.wrap .i64 (0 - (IntKind.wrap .i64 (pick1 + (1 : Int))))) (((slN a3.2.1) : Nat) : Int)) + (1 : Int)))).toNat) (slN a8.2.1) (slC a8.2.1)))) = some l14 ∧ ((slN s12) + (l14).length) * 8 ≤ room ∧ ∀ (X15 : XH) (s16 : Option SlH), XApp X11 (.pure (.int .i64)) (0 : Int) l13 l14 s12 X15 s16 → (∃ (a17 : ((Option SlH) × ((Option SlH) × (Option SlH)))), XH.el X15 yZ0 t0 0 = some a17 ∧ (∀ (X18 : XH), X18 = (XH.setEl X15 yZ0 t0 0 ((a17.1, (s16, a17.2.2)))) → (∃ (a19 : ((Option SlH) × ((Option SlH) × (Option SlH)))), XH.el X18 yZ0 t0 0 = some a19 ∧ (∃ (u20 : SlH), a19.1 = some u20 ∧ 0 ≤ (IntKind.wrap .i64 (a6 - (1 : Int))) ∧ (IntKind.wrap .i64 (a6 - (1 : Int))) < ((u20.len : Nat) : Int) ∧ (∃ (a21 : ((Option SlH) × (Int × Int))), XH.el X18 yZ1 u20.h ((u20.off + ((IntKind.wrap .i64 (a6 - (1 : Int)))).toNat)) = some a21 ∧ (∀ (X22 : XH), X22 = (XH.setEl X18 yZ1 u20.h ((u20.off + ((IntKind.wrap .i64 (a6 - (1 : Int)))).toNat)) ((a21.1, ((2 : Int), a21.2.2)))) → R (a6, true) X22)))))))))))) ∧ True)))))))) ∧
 ((decide (pick1 < (0 : Int))) = false → (∃ (a39 : ((Option SlH) × ((Option SlH) × (Option SlH)))), XH.el X yZ0 t0 0 = some a39 ∧ ((((slN a39.2.1) : Nat) : Int) ≠ 0 ∧ (∃ (a40 : ((Option SlH) × ((Option SlH) × (Option SlH)))), XH.el X yZ0 t0 0 = some a40 ∧ (∃ (u41 : SlH), a40.2.1 = some u41 ∧ 0 ≤ (Int.tmod pick1 (((slN a39.2.1) : Nat) : Int)) ∧ (Int.tmod pick1 (((slN a39.2.1) : Nat) : Int)) < ((u41.len : Nat) : Int) ∧ (∃ (a42 : Int), XH.el X (.pure (.int .i64)) u41.h ((u41.off + ((Int.tmod pick1 (((slN a39.2.1) : Nat) : Int))).toNat)) = some a42 ∧ ((∃ (a59 : ((Option SlH) × ((Option SlH) × (Option SlH)))), XH.el X yZ0 t0 0 = some a59 ∧ (0 ≤ (Int.tmod pick1 (((slN a39.2.1) : Nat) : Int)) ∧ (Int.tmod pick1 (((slN a39.2.1) : Nat) : Int)) ≤ (((slC a59.2.1) : Nat) : Int) ∧ (∃ (l60 l61 : List Int), XH.view X (.pure (.int .i64)) none = some l60 ∧ (srcX X (.pure (.int .i64)) (.sl (.pure (.int .i64)) (slCut a59.2.1 0 (((Int.tmod pick1 (((slN a39.2.1) : Nat) : Int))).toNat) (slC a59.2.1)))) = some l61 ∧ (0 + (l61).length) * 8 ≤ room ∧ ∀ (X62 : XH) (s63 : Option SlH), XApp X (.pure (.int .i64)) (0 : Int) l60 l61 none X62 s63 → (∃ (a64 : ((Option SlH) × ((Option SlH) × (Option SlH)))), XH.el X62 yZ0 t0 0 = some a64 ∧ (0 ≤ (IntKind.wrap .i64 ((Int.tmod pick1 (((slN a39.2.1) : Nat) : Int)) + (1 : Int))) ∧ (IntKind.wrap .i64 ((Int.tmod pick1 (((slN a39.2.1) : Nat) : Int)) + (1 : Int))) ≤ (((slN a64.2.1) : Nat) : Int) ∧ (∃ (l65 l66 : List Int), XH.view X62 (.pure (.int .i64)) s63 = some l65 ∧ (srcX X62 (.pure (.int .i64)) (.sl (.pure (.int .i64)) (slCut a64.2.1 (((IntKind.wrap .i64 ((Int.tmod pick1 (((slN a39.2.1) : Nat) : Int)) + (1 : Int)))).toNat) (slN a64.2.1) (slC a64.2.1)))) = some l66 ∧ ((slN s63) + (l66).length) * 8 ≤ room ∧ ∀ (X67 : XH) (s68 : Option SlH), XApp X62 (.pure (.int .i64)) (0 : Int) l65 l66 s63 X67 s68 → (∃ (a69 : ((Option SlH) × ((Option SlH) × (Option SlH)))), XH.el X67 yZ0 t0 0 = some a69 ∧ (∀ (X70 : XH), X70 = (XH.setEl X67 yZ0 t0 0 ((a69.1, (s68, a69.2.2)))) → (∃ (a71 : ((Option SlH) × ((Option SlH) × (Option SlH)))), XH.el X70 yZ0 t0 0 = some a71 ∧ (∃ (u72 : SlH), a71.1 = some u72 ∧ 0 ≤ (IntKind.wrap .i64 (a42 - (1 : Int))) ∧ (IntKind.wrap .i64 (a42 - (1 : Int))) < ((u72.len : Nat) : Int) ∧ (∃ (a73 : ((Option SlH) × (Int × Int))), XH.el X70 yZ1 u72.h ((u72.off + ((IntKind.wrap .i64 (a42 - (1 : Int)))).toNat)) = some a73 ∧ (∀ (X74 : XH), X74 = (XH.setEl X70 yZ1 u72.h ((u72.off + ((IntKind.wrap .i64 (a42 - (1 : Int)))).toNat)) ((a73.1, ((2 : Int), a73.2.2)))) → R (a42, true) X74)))))))))))) ∧ ((∃ (a43 : ((Option SlH) × ((Option SlH) × (Option SlH)))), XH.el X yZ0 t0 0 = some a43 ∧ (0 ≤ (Int.tmod pick1 (((slN a39.2.1) : Nat) : Int)) ∧ (Int.tmod pick1 (((slN a39.2.1) : Nat) : Int)) ≤ (((slC a43.2.1) : Nat) : Int) ∧ (∃ (a44 : ((Option SlH) × ((Option SlH) × (Option SlH)))), XH.el X yZ0 t0 0 = some a44 ∧ (0 ≤ (IntKind.wrap .i64 ((Int.tmod pick1 (((slN a39.2.1) : Nat) : Int)) + (1 : Int))) ∧ (IntKind.wrap .i64 ((Int.tmod pick1 (((slN a39.2.1) : Nat) : Int)) + (1 : Int))) ≤ (((slN a44.2.1) : Nat) : Int) ∧ (∃ (l45 l46 : List Int), XH.view X (.pure (.int .i64)) none = some l45 ∧ (srcX X (.pure (.int .i64)) (.sl (.pure (.int .i64)) (slCut a43.2.1 0 (((Int.tmod pick1 (((slN a39.2.1) : Nat) : Int))).toNat) (slC a43.2.1)))) = some l46 ∧ (0 + (l46).length) * 8 ≤ room ∧ ∀ (X47 : XH) (s48 : Option SlH), XApp X (.pure (.int .i64)) (0 : Int) l45 l46 none X47 s48 → (∃ (l49 l50 : List Int), XH.view X47 (.pure (.int .i64)) s48 = some l49 ∧ (srcX X47 (.pure (.int .i64)) (.sl (.pure (.int .i64)) (slCut a44.2.1 (((IntKind.wrap .i64 ((Int.tmod pick1 (((slN a39.2.1) : Nat) : Int)) + (1 : Int)))).toNat) (slN a44.2.1) (slC a44.2.1)))) = some l50 ∧ ((slN s48) + (l50).length) * 8 ≤ room ∧ ∀ (X51 : XH) (s52 : Option SlH), XApp X47 (.pure (.int .i64)) (0 : Int) l49 l50 s48 X51 s52 → (∃ (a53 : ((Option SlH) × ((Option SlH) × (Option SlH)))), XH.el X51 yZ0 t0 0 = some a53 ∧ (∀ (X54 : XH), X54 = (XH.setEl X51 yZ0 t0 0 ((a53.1, (s52, a53.2.2)))) → (∃ (a55 : ((Option SlH) × ((Option SlH) × (Option SlH)))), XH.el X54 yZ0 t0 0 = some a55 ∧ (∃ (u56 : SlH), a55.1 = some u56 ∧ 0 ≤ (IntKind.wrap .i64 (a42 - (1 : Int))) ∧ (IntKind.wrap .i64 (a42 - (1 : Int))) < ((u56.len : Nat) : Int) ∧ (∃ (a57 : ((Option SlH) × (Int × Int))), XH.el X54 yZ1 u56.h ((u56.off + ((IntKind.wrap .i64 (a42 - (1 : Int)))).toNat)) = some a57 ∧ (∀ (X58 : XH), X58 = (XH.setEl X54 yZ1 u56.h ((u56.off + ((IntKind.wrap .i64 (a42 - (1 : Int)))).toNat)) ((a57.1, ((2 : Int), a57.2.2)))) → R (a42, true) X58)))))))))))) ∧ True)))))))))))))))) :
  fnK X80.tt (callN Try.prog X80 0) (X80.md 80) (X80.mk1 80) Try.f80 [(.ref (some t0) yZ0 0 []), (.v (.int .i64 pick1))] ⟨[], [some (.heap X)], ⟨0, []⟩⟩ (xfin [(.pure (.int .i64)), (.pure .bool)] R) := Eq.mp (by kernel_rfl) h
end Go.Proofs.Ytaaedebknacheaa.AB

set_option maxRecDepth 100000
set_option maxHeartbeats 2000000
namespace Go.Proofs.Ytaaedebknacheaa.AB
open Go
noncomputable def X87 : Cx := ⟨tt, [], [(54, [(.pure (.int .i64))]), (102, [])], [(87, [(1, 1, .rd), (7, 0, .x (.sl (.pure (.int .i64)))), (13, 8, .xc), (14, 9, .x (.pure (.int .i64)))])], [(87, [(0, mkM 88 0 [0, 4, 5, 6, 7], 0)])], []⟩
theorem FN87 : fnsB Try.prog X87.fns := (show True from trivial)
def M87_0 : List Bool × Nat := (mkM 88 0 [0, 4, 5, 6, 7], 1)
def S87_0 (t0 : Nat) (id4 : Int) (out5 : List Int) (out5k : Tok) (left6 : Option SlH) (i7 : Int) (hq0 : XH) (T : Toks) : St :=
  mkS 88 [(0, (.ref (some t0) yZ0 0 [])), (4, (.v (.int .i64 id4))), (5, (.v (.list (.int .i64) out5 out5k))), (6, (.sl (.pure (.int .i64)) left6)), (7, (.v (.int .i64 i7)))] [(some (.heap hq0))] T
noncomputable def B87_0 : (Exit → St → Prop) → St → Prop := (awp X87.tt (callN Try.prog X87 0) (X87.md 87) 1 (X87.mk1 87) 0 (codeAt [1, 1, 1, 1, 1, 1, 1, 0, 1, 0, 0] (bd Try.f87)))
noncomputable def K87_0 (R : ((List Int) × Int) → XH → Prop) : Exit → St → Prop := seqK ((awp X87.tt (callN Try.prog X87 0) (X87.md 87) 1 (X87.mk1 87) 0 (codeAt [1, 1, 1, 1, 1, 1, 1, 1] (bd Try.f87))) (retK tt Try.f87.results.toList fun x s' => xfin [(.pure (.slice (.int .i64))), (.pure (.int .i64))] R x ⟨[], s'.hp, s'.T⟩)) (retK tt Try.f87.results.toList fun x s' => xfin [(.pure (.slice (.int .i64))), (.pure (.int .i64))] R x ⟨[], s'.hp, s'.T⟩)
noncomputable def Q87_0 (R : ((List Int) × Int) → XH → Prop) : Exit → St → Prop := (blockK 0 (K87_0 R))
theorem E87 (X : XH) (t0 : Nat) {R : ((List Int) × Int) → XH → Prop} (h : (∃ (p1 : Int), RC Try.prog 54 [(.pure (.int .i64))] [(.ref (some t0) yZ0 0 [])] X p1 ∧ (((p1 == (0 : Int)) = true → R (([] : List Int), (25 : Int)) X) ∧
 ((p1 == (0 : Int)) = false → (∃ (a2 : ((Option SlH) × ((Option SlH) × (Option SlH)))), XH.el X yZ0 t0 0 = some a2 ∧ (∃ (u3 : SlH), a2.1 = some u3 ∧ 0 ≤ (IntKind.wrap .i64 (p1 - (1 : Int))) ∧ (IntKind.wrap .i64 (p1 - (1 : Int))) < ((u3.len : Nat) : Int) ∧ (∃ (a4 : ((Option SlH) × (Int × Int))), XH.el X yZ1 u3.h ((u3.off + ((IntKind.wrap .i64 (p1 - (1 : Int)))).toNat)) = some a4 ∧ (∀ (X5 : XH), X5 = (XH.setEl X yZ1 u3.h ((u3.off + ((IntKind.wrap .i64 (p1 - (1 : Int)))).toNat)) ((a4.1, ((5 : Int), a4.2.2)))) → (∃ (a6 : ((Option SlH) × ((Option SlH) × (Option SlH)))), XH.el X5 yZ0 t0 0 = some a6 ∧ (∃ (u7 : SlH), a6.1 = some u7 ∧ 0 ≤ (IntKind.wrap .i64 (p1 - (1 : Int))) ∧ (IntKind.wrap .i64 (p1 - (1 : Int))) < ((u7.len : Nat) : Int) ∧ (∃ (a8 : ((Option SlH) × (Int × Int))), XH.el X5 yZ1 u7.h ((u7.off + ((IntKind.wrap .i64 (p1 - (1 : Int)))).toNat)) = some a8 ∧ (∀ (X9 : XH), X9 = (XH.setEl X5 yZ1 u7.h ((u7.off + ((IntKind.wrap .i64 (p1 - (1 : Int)))).toNat)) (none, a8.2)) → (Loops B87_0 M87_0 (Q87_0 R)
  (S87_0 t0 p1 ([] : List Int) .exact none (0 : Int) X9 ⟨0, []⟩)))))))))))))) :
  fnK X87.tt (callN Try.prog X87 0) (X87.md 87) (X87.mk1 87) Try.f87 [(.ref (some t0) yZ0 0 [])] ⟨[], [some (.heap X)], ⟨0, []⟩⟩ (xfin [(.pure (.slice (.int .i64))), (.pure (.int .i64))] R) := Eq.mp (by kernel_rfl) h
theorem L87_0 (t0 : Nat) (id4 : Int) (out5 : List Int) (out5k : Tok) (left6 : Option SlH) (i7 : Int) (hq0 : XH) (T : Toks) {R : ((List Int) × Int) → XH → Prop} {k0 : St → Prop}
 (h : (∃ (a10 : ((Option SlH) × ((Option SlH) × (Option SlH)))), XH.el hq0 yZ0 t0 0 = some a10 ∧ (((decide (i7 < (((slN a10.2.2) : Nat) : Int))) = true → (∃ (a11 : ((Option SlH) × ((Option SlH) × (Option SlH)))), XH.el hq0 yZ0 t0 0 = some a11 ∧ (∃ (a12 : ((Option SlH) × ((Option SlH) × (Option SlH)))), XH.el hq0 yZ0 t0 0 = some a12 ∧ (∃ (u13 : SlH), a12.2.2 = some u13 ∧ 0 ≤ i7 ∧ i7 < ((u13.len : Nat) : Int) ∧ (∃ (a14 : Int), XH.el hq0 (.pure (.int .i64)) u13.h ((u13.off + (i7).toNat)) = some a14 ∧ (∃ (u15 : SlH), a11.1 = some u15 ∧ 0 ≤ (IntKind.wrap .i64 (a14 - (1 : Int))) ∧ (IntKind.wrap .i64 (a14 - (1 : Int))) < ((u15.len : Nat) : Int) ∧ (∃ (a16 : ((Option SlH) × (Int × Int))), XH.el hq0 yZ1 u15.h ((u15.off + ((IntKind.wrap .i64 (a14 - (1 : Int)))).toNat)) = some a16 ∧ (((a16.2.2 == id4) = true → (∃ (a17 : ((Option SlH) × ((Option SlH) × (Option SlH)))), XH.el hq0 yZ0 t0 0 = some a17 ∧ (∃ (u18 : SlH), a17.2.2 = some u18 ∧ 0 ≤ i7 ∧ i7 < ((u18.len : Nat) : Int) ∧ (∃ (a19 : Int), XH.el hq0 (.pure (.int .i64)) u18.h ((u18.off + (i7).toNat)) = some a19 ∧ (Tok.own out5k T.l ∧ ((out5).length + (([a19] : List Int)).length) * 8 ≤ room ∧ (∃ (a20 : ((Option SlH) × ((Option SlH) × (Option SlH)))), XH.el hq0 yZ0 t0 0 = some a20 ∧ (∃ (u21 : SlH), a20.2.2 = some u21 ∧ 0 ≤ i7 ∧ i7 < ((u21.len : Nat) : Int) ∧ (∃ (a22 : Int), XH.el hq0 (.pure (.int .i64)) u21.h ((u21.off + (i7).toNat)) = some a22 ∧ (XC Try.prog 102 [] [(.ref (some t0) yZ0 0 []), (.v (.int .i64 a22))] hq0 (fun (p23 : Unit) (X24 : XH) => k0 (S87_0 t0 id4 ((out5 ++ ([a19] : List Int))) (.tk T.n) left6 ((IntKind.wrap .i64 (i7 + (1 : Int)))) X24 ⟨(T.n + 1), (T.n :: Tok.drop out5k T.l)⟩))))))))))) ∧
 ((a16.2.2 == id4) = false → (∃ (a25 : ((Option SlH) × ((Option SlH) × (Option SlH)))), XH.el hq0 yZ0 t0 0 = some a25 ∧ (∃ (u26 : SlH), a25.2.2 = some u26 ∧ 0 ≤ i7 ∧ i7 < ((u26.len : Nat) : Int) ∧ (∃ (a27 : Int), XH.el hq0 (.pure (.int .i64)) u26.h ((u26.off + (i7).toNat)) = some a27 ∧ (∃ (l28 l29 : List Int), XH.view hq0 (.pure (.int .i64)) left6 = some l28 ∧ (srcX hq0 (.pure (.int .i64)) (.v (.list (.int .i64) ([a27] : List Int) .exact))) = some l29 ∧ ((slN left6) + (l29).length) * 8 ≤ room ∧ ∀ (X30 : XH) (s31 : Option SlH), XApp hq0 (.pure (.int .i64)) (0 : Int) l28 l29 left6 X30 s31 → k0 (S87_0 t0 id4 out5 out5k s31 ((IntKind.wrap .i64 (i7 + (1 : Int)))) X30 T)))))))))))))) ∧
 ((decide (i7 < (((slN a10.2.2) : Nat) : Int))) = false → (∃ (a32 : ((Option SlH) × ((Option SlH) × (Option SlH)))), XH.el hq0 yZ0 t0 0 = some a32 ∧ (∀ (X33 : XH), X33 = (XH.setEl hq0 yZ0 t0 0 ((a32.1, (a32.2.1, left6)))) → R (out5, (0 : Int)) X33)))))) :
  B87_0 (loopQ M87_0 k0 (Q87_0 R)) (S87_0 t0 id4 out5 out5k left6 i7 hq0 T) := Eq.mp (by kernel_rfl) h
end Go.Proofs.Ytaaedebknacheaa.AB

namespace Go.Proofs.Ytaaedebknacheaa.AB
open Go

variable {X X' : XH} {r : Nat} {d : RD} {id : Int} {x : TH}

def RTab.next (R : RTab) (k : Nat) : RTab := { R.upd (R.queue.getD k 0) (fun x => { x with st := 2 }) with queue := R.queue.eraseIdx k }
def RTab.nextR (R : RTab) (pick : Int) : (Int × Bool) × RTab :=
 if 0 < R.cur ∨ R.queue = [] then ((0, false), R) else ((R.queue.getD (pickN pick R.queue.length).toNat 0, true), R.next (pickN pick R.queue.length).toNat)

theorem rnext_tail (h : RRep X r d) (hn : d.hs.length ≤ 1000000) {i : Int} {k : Nat} (hi : i = (k : Int)) (hk : k < d.queue.length) (hids : ∀ id ∈ d.queue, ∃ x, d.ab.at id = some x) (hlen : d.queue.length ≤ 1000000)
  {R : Int × Bool → XH → Prop} (hR : ∀ X', RGoes X r d X' (d.ab.next k) → R (d.queue.getD k 0, true) X') :
  (∃ (a4 : cRT.T), XH.el X cRT r 0 = some a4 ∧ (∃ (u5 : SlH), a4.2.1 = some u5 ∧ 0 ≤ i ∧ i < ((u5.len : Nat) : Int) ∧ (∃ (a6 : Int), XH.el X cI u5.h ((u5.off + (i).toNat)) = some a6 ∧ ((∃ (a23 : cRT.T), XH.el X cRT r 0 = some a23 ∧ (0 ≤ i ∧ i ≤ (((slC a23.2.1) : Nat) : Int) ∧ (∃ (l24 l25 : List Int), XH.view X cI none = some l24 ∧ (srcX X cI (.sl cI (slCut a23.2.1 0 ((i).toNat) (slC a23.2.1)))) = some l25 ∧ (0 + (l25).length) * 8 ≤ room ∧ ∀ (X26 : XH) (s27 : Option SlH), XApp X cI (0 : Int) l24 l25 none X26 s27 → (∃ (a28 : cRT.T), XH.el X26 cRT r 0 = some a28 ∧ (0 ≤ (IntKind.wrap .i64 (i + (1 : Int))) ∧ (IntKind.wrap .i64 (i + (1 : Int))) ≤ (((slN a28.2.1) : Nat) : Int) ∧ (∃ (l29 l30 : List Int), XH.view X26 cI s27 = some l29 ∧ (srcX X26 cI (.sl cI (slCut a28.2.1 (((IntKind.wrap .i64 (i + (1 : Int)))).toNat) (slN a28.2.1) (slC a28.2.1)))) = some l30 ∧ ((slN s27) + (l30).length) * 8 ≤ room ∧ ∀ (X31 : XH) (s32 : Option SlH), XApp X26 cI (0 : Int) l29 l30 s27 X31 s32 → (∃ (a33 : cRT.T), XH.el X31 cRT r 0 = some a33 ∧ (∀ (X34 : XH), X34 = (XH.setEl X31 cRT r 0 ((a33.1, (s32, a33.2.2)))) → (∃ (a35 : cRT.T), XH.el X34 cRT r 0 = some a35 ∧ (∃ (u36 : SlH), a35.1 = some u36 ∧ 0 ≤ (IntKind.wrap .i64 (a6 - (1 : Int))) ∧ (IntKind.wrap .i64 (a6 - (1 : Int))) < ((u36.len : Nat) : Int) ∧ (∃ (a37 : cRH.T), XH.el X34 cRH u36.h ((u36.off + ((IntKind.wrap .i64 (a6 - (1 : Int)))).toNat)) = some a37 ∧ (∀ (X38 : XH), X38 = (XH.setEl X34 cRH u36.h ((u36.off + ((IntKind.wrap .i64 (a6 - (1 : Int)))).toNat)) ((a37.1, ((2 : Int), a37.2.2)))) → R (a6, true) X38)))))))))))) ∧ ((∃ (a7 : cRT.T), XH.el X cRT r 0 = some a7 ∧ (0 ≤ i ∧ i ≤ (((slC a7.2.1) : Nat) : Int) ∧ (∃ (a8 : cRT.T), XH.el X cRT r 0 = some a8 ∧ (0 ≤ (IntKind.wrap .i64 (i + (1 : Int))) ∧ (IntKind.wrap .i64 (i + (1 : Int))) ≤ (((slN a8.2.1) : Nat) : Int) ∧ (∃ (l9 l10 : List Int), XH.view X cI none = some l9 ∧ (srcX X cI (.sl cI (slCut a7.2.1 0 ((i).toNat) (slC a7.2.1)))) = some l10 ∧ (0 + (l10).length) * 8 ≤ room ∧ ∀ (X11 : XH) (s12 : Option SlH), XApp X cI (0 : Int) l9 l10 none X11 s12 → (∃ (l13 l14 : List Int), XH.view X11 cI s12 = some l13 ∧ (srcX X11 cI (.sl cI (slCut a8.2.1 (((IntKind.wrap .i64 (i + (1 : Int)))).toNat) (slN a8.2.1) (slC a8.2.1)))) = some l14 ∧ ((slN s12) + (l14).length) * 8 ≤ room ∧ ∀ (X15 : XH) (s16 : Option SlH), XApp X11 cI (0 : Int) l13 l14 s12 X15 s16 → (∃ (a17 : cRT.T), XH.el X15 cRT r 0 = some a17 ∧ (∀ (X18 : XH), X18 = (XH.setEl X15 cRT r 0 ((a17.1, (s16, a17.2.2)))) → (∃ (a19 : cRT.T), XH.el X18 cRT r 0 = some a19 ∧ (∃ (u20 : SlH), a19.1 = some u20 ∧ 0 ≤ (IntKind.wrap .i64 (a6 - (1 : Int))) ∧ (IntKind.wrap .i64 (a6 - (1 : Int))) < ((u20.len : Nat) : Int) ∧ (∃ (a21 : cRH.T), XH.el X18 cRH u20.h ((u20.off + ((IntKind.wrap .i64 (a6 - (1 : Int)))).toNat)) = some a21 ∧ (∀ (X22 : XH), X22 = (XH.setEl X18 cRH u20.h ((u20.off + ((IntKind.wrap .i64 (a6 - (1 : Int)))).toNat)) ((a21.1, ((2 : Int), a21.2.2)))) → R (a6, true) X22)))))))))))) ∧ True))))) := by
 subst hi
 have hq0 := h.qs.len
 obtain ⟨u, hu⟩ : ∃ u, d.q = some u := by
  cases hq : d.q with
  | none => rw [hq] at hq0; simp [slN] at hq0; omega
  | some u => exact ⟨u, rfl⟩
 have hul : u.len = d.queue.length := by rw [hu] at hq0; exact hq0
 have hsl : SlAt X cI (some u) d.queue := by rw [← hu]; exact h.qs
 have hule : u.len ≤ u.cap := hsl.le
 have hel := hsl.el hk
 have hget : d.queue.getD k 0 = d.queue[k] := by simp [List.getD, List.getElem?_eq_getElem hk]
 have hw : IntKind.wrap .i64 ((k : Int) + (1 : Int)) = ((k + 1 : Nat) : Int) := wrap_succ (by omega)
 have c1 : ∀ {Y : XH}, SlAt Y cI (some u) d.queue → SlAt Y cI (slCut d.q 0 ((k : Int)).toNat (slC d.q)) (d.queue.take k) := fun {Y} ha => by
  rw [hu, Int.toNat_natCast]
  have := ha.cut (p := 0) (q := k) (m := u.cap) (by omega) (by omega) (Nat.le_refl _) (by omega)
  rwa [List.drop_zero] at this
 have c2 : ∀ {Y : XH}, SlAt Y cI (some u) d.queue → SlAt Y cI (slCut d.q (IntKind.wrap .i64 ((k : Int) + (1 : Int))).toNat (slN d.q) (slC d.q)) (d.queue.drop (k + 1)) := fun {Y} ha => by
  rw [hu, hw, Int.toNat_natCast]
  have := ha.cut (p := k + 1) (q := u.len) (m := u.cap) (by omega) (by omega) (Nat.le_refl _) (by omega)
  rwa [List.take_of_length_le (by omega)] at this
 have nil0 : ∀ {Y : XH}, SlAt Y cI none [] := fun {Y} => rfl
 have sz1 : (0 + (d.queue.take k).length) * 8 ≤ room := by rw [List.length_take]; unfold room; omega
 have b1 : (0 : Int) ≤ (k : Int) := by omega
 have b2 : (k : Int) ≤ ((slC d.q : Nat) : Int) := by rw [hu]; show (k : Int) ≤ ((u.cap : Nat) : Int); omega
 have b3 : 0 ≤ IntKind.wrap .i64 ((k : Int) + (1 : Int)) := by rw [hw]; omega
 have b4 : IntKind.wrap .i64 ((k : Int) + (1 : Int)) ≤ ((slN d.q : Nat) : Int) := by rw [hw, hq0]; omega
 have at2 : ∀ {X2 : XH} {s1 : Option SlH}, XApp X cI (0 : Int) [] (d.queue.take k) none X2 s1 → SlAt X2 cI s1 ([] ++ d.queue.take k) ∧ Box X2 cRT r (d.L, (d.q, d.jx)) ∧ (slN s1 + (d.queue.drop (k + 1)).length) * 8 ≤ room ∧ SlAt X2 cI (some u) d.queue := by
  intro X2 s1 x1
  obtain ⟨t1, t2⟩ := x1.spec nil0
  refine ⟨t1, h.box.keep (t2.keep r h.box.lt (by simp [hl])), ?_, hsl.keep fun j hj => t2.keep j (hsl.lt j hj) (by simp [hl])⟩
  rw [t1.len]; simp only [List.nil_append, List.length_take, List.length_drop]; unfold room; omega
 have fin : ∀ {X2 X3 : XH} {s1 s2 : Option SlH}, XApp X cI (0 : Int) [] (d.queue.take k) none X2 s1 → XApp X2 cI (0 : Int) ([] ++ d.queue.take k) (d.queue.drop (k + 1)) s1 X3 s2 →
   Box X3 cRT r (d.L, (d.q, d.jx)) ∧ ∀ Y : XH, Y = X3.setEl cRT r 0 (d.L, (s2, d.jx)) → ∃ d4, RRep Y r d4 ∧ Mv X (d.ks r) Y (d4.ks r) ∧ d4.ab = ⟨d.ab.l, d.queue.eraseIdx k, d.ab.joins⟩ ∧ d4.hs.length = d.hs.length := by
  intro X2 X3 s1 s2 x1 x2
  obtain ⟨t1, t2⟩ := x1.spec nil0
  obtain ⟨t3, t4⟩ := x2.spec t1
  have m := t2.trans t4
  refine ⟨h.box.keep (m.keep r h.box.lt (by simp [hl])), fun Y eY => ?_⟩
  rw [List.nil_append, ← List.eraseIdx_eq_take_drop_succ] at t3
  obtain ⟨k1, k2⟩ := h.queueTo (m.weak (fun j hj => by cases hj) fun j hj => .inl hj) t3 eY
  exact ⟨_, k1, k2, rfl, rfl⟩
 obtain ⟨x, hx⟩ := hids _ (List.getElem_mem hk)
 have last : ∀ {Y : XH} {d4 : RD}, RRep Y r d4 → Mv X (d.ks r) Y (d4.ks r) → d4.ab = ⟨d.ab.l, d.queue.eraseIdx k, d.ab.joins⟩ → d4.hs.length = d.hs.length →
   (∃ (a35 : cRT.T), XH.el Y cRT r 0 = some a35 ∧ (∃ (u36 : SlH), a35.1 = some u36 ∧ 0 ≤ (IntKind.wrap .i64 (d.queue[k] - (1 : Int))) ∧ (IntKind.wrap .i64 (d.queue[k] - (1 : Int))) < ((u36.len : Nat) : Int) ∧ (∃ (a37 : cRH.T), XH.el Y cRH u36.h ((u36.off + ((IntKind.wrap .i64 (d.queue[k] - (1 : Int)))).toNat)) = some a37 ∧ (∀ (X38 : XH), X38 = (XH.setEl Y cRH u36.h ((u36.off + ((IntKind.wrap .i64 (d.queue[k] - (1 : Int)))).toNat)) ((a37.1, ((2 : Int), a37.2.2)))) → R (d.queue[k], true) X38)))) := by
  intro Y d4 h4 m4 a4 n4
  have hx4 : d4.ab.at d.queue[k] = some x := by rw [a4]; exact hx
  obtain ⟨A, y, C, u, hA, hy, hid, hu, w0, w1, wel, hw⟩ := h4.get (by rw [n4]; exact hn) hx4
  have hsl := h4.ws y (by rw [hA]; simp)
  rw [hy] at hsl
  refine ⟨_, h4.box.el, u, hu, w0, w1, _, wel, fun X38 e38 => ?_⟩
  obtain ⟨d5, h5, m5, a5, n5⟩ := h4.updTo hA hy hid hu hw (fun x => { x with st := 2 }) hsl (.refl _ _) e38
  rw [← hget]
  refine hR _ ⟨d5, h5, m4.trans m5, ?_⟩
  rw [a5, a4, ← hget]
  rfl
 refine ⟨_, h.box.el, u, hu, by omega, by omega, d.queue[k], by rw [Int.toNat_natCast]; exact hel, ?_, ?_, trivial⟩
 ·refine ⟨_, h.box.el, b1, b2, [], _, rfl, srcX_sl.trans (c1 hsl).view, sz1, fun X2 s1 x1 => ⟨_, (at2 x1).2.1.el, b3, b4, _, _, (at2 x1).1.view, srcX_sl.trans (c2 (at2 x1).2.2.2).view, (at2 x1).2.2.1, fun X3 s2 x2 => ⟨_, (fin x1 x2).1.el, fun Y eY => ?_⟩⟩⟩
  obtain ⟨d4, h4, m4, a4, n4⟩ := (fin x1 x2).2 Y eY
  exact last h4 m4 a4 n4
 ·refine ⟨_, h.box.el, b1, b2, _, h.box.el, b3, b4, [], _, rfl, srcX_sl.trans (c1 hsl).view, sz1, fun X2 s1 x1 => ⟨_, _, (at2 x1).1.view, srcX_sl.trans (c2 (at2 x1).2.2.2).view, (at2 x1).2.2.1, fun X3 s2 x2 => ⟨_, (fin x1 x2).1.el, fun Y eY => ?_⟩⟩⟩
  obtain ⟨d4, h4, m4, a4, n4⟩ := (fin x1 x2).2 Y eY
  exact last h4 m4 a4 n4

theorem neg64 {c : Int} (h1 : -9223372036854775808 ≤ c) (h2 : c < 0) : IntKind.wrap .i64 (0 - (IntKind.wrap .i64 (c + (1 : Int)))) = -(c + 1) := by
 rw [wrap64 (x := c + 1) (by omega) (by omega), wrap64 (by omega) (by omega)]; omega

theorem c80 (h : RRep X r d) (hn : d.hs.length ≤ 1000000) {pick : Int} (h1 : -9223372036854775808 ≤ pick) (h2 : pick ≤ 9223372036854775807) (hids : ∀ id ∈ d.ab.queue, ∃ x, d.ab.at id = some x) (hlen : d.ab.queue.length ≤ 1000000) :
  XC Try.prog 80 [cI, .pure .bool] [.ref (some r) cRT 0 [], .v (.int .i64 pick)] X fun p X' => p = (d.ab.nextR pick).1 ∧ RGoes X r d X' (d.ab.nextR pick).2 := by
 have hlen : d.queue.length ≤ 1000000 := hlen
 refine xcOf (X := X80) rfl FN80 (by kernel_rfl) (by decide) (E80 X r pick ⟨_, c54 h hn, fun e => ?_, fun e => ⟨_, h.box.el, fun e2 => ?_, fun e2 => ?_⟩⟩)
 ·have e : 0 < d.ab.cur := by simpa using e
  unfold RTab.nextR
  rw [if_pos (.inl e)]
  exact ⟨rfl, .refl h⟩
 ·have e2 : slN d.q = 0 := by simpa using e2
  rw [h.qs.len] at e2
  unfold RTab.nextR
  rw [if_pos (.inr (show d.ab.queue = [] from List.length_eq_zero_iff.1 e2))]
  exact ⟨rfl, .refl h⟩
 ·have e : ¬ 0 < d.ab.cur := by simpa using e
  have e2 : slN d.q ≠ 0 := by simpa using e2
  rw [h.qs.len] at e2
  have hne : d.queue ≠ [] := fun q => e2 (by rw [q]; rfl)
  have hr := pickN_range pick (n := (d.queue.length : Int)) (by omega)
  have hk : (pickN pick d.queue.length).toNat < d.queue.length := by omega
  have hres : d.ab.nextR pick = ((d.queue.getD (pickN pick d.queue.length).toNat 0, true), d.ab.next (pickN pick d.queue.length).toNat) := by
   unfold RTab.nextR
   rw [if_neg (fun q : 0 < d.ab.cur ∨ d.ab.queue = [] => q.elim e hne)]
   rfl
  have hR : ∀ X', RGoes X r d X' (d.ab.next (pickN pick d.queue.length).toNat) → (d.queue.getD (pickN pick d.queue.length).toNat 0, true) = (d.ab.nextR pick).1 ∧ RGoes X r d X' (d.ab.nextR pick).2 :=
   fun X' hp => by rw [hres]; exact ⟨rfl, hp⟩
  have hsl : (((slN d.q : Nat) : Int)) ≠ 0 := by rw [h.qs.len]; omega
  refine ⟨fun e3 => ⟨_, h.box.el, hsl, ?_⟩, fun e3 => ⟨_, h.box.el, hsl, ?_⟩⟩
  ·have e3 : pick < 0 := by simpa using e3
   refine rnext_tail (R := fun p X' => p = (d.ab.nextR pick).1 ∧ RGoes X r d X' (d.ab.nextR pick).2) h hn ?_ hk hids hlen hR
   rw [neg64 h1 e3]
   show Int.tmod (-(pick + 1)) ((slN d.q : Nat) : Int) = _
   rw [h.qs.len, Int.tmod_eq_emod_of_nonneg (by omega), Int.toNat_of_nonneg hr.1, pickN, if_pos e3]
  ·have e3 : ¬ pick < 0 := by simpa using e3
   refine rnext_tail (R := fun p X' => p = (d.ab.nextR pick).1 ∧ RGoes X r d X' (d.ab.nextR pick).2) h hn ?_ hk hids hlen hR
   show Int.tmod pick ((slN d.q : Nat) : Int) = _
   rw [h.qs.len, Int.tmod_eq_emod_of_nonneg (by omega), Int.toNat_of_nonneg hr.1, pickN, if_neg e3]

def RTab.jn (R : RTab) (j : Int) : Int :=
 match R.at j with
 | some x => x.jn
 | none => 0

theorem jn_upd {R : RTab} {f : TH → TH} (h1 : 1 ≤ id) (hf : ∀ x, (f x).jn = x.jn) (j : Int) : (R.upd id f).jn j = R.jn j := by
 unfold RTab.jn
 rw [at_upd h1]
 by_cases e : j = id
 ·rw [if_pos e]
  cases R.at j with
  | none => rfl
  | some x => exact hf x
 ·rw [if_neg e]

theorem jn_ready {R : RTab} (h1 : 1 ≤ id) (j : Int) : (R.ready id).jn j = R.jn j := jn_upd (R := R) (f := fun x => { x with st := 1 }) h1 (fun _ => rfl) j

theorem at_ready {R : RTab} (h1 : 1 ≤ id) (j : Int) : (R.ready id).at j = if j = id then (R.at j).map (fun x => { x with st := 1 }) else R.at j := at_upd (R := R) (f := fun x => { x with st := 1 }) h1

theorem ready_len {R : RTab} : (R.ready id).l.length = R.l.length := upd_len

def RTab.endR (R : RTab) : (List Int × Int) × RTab :=
 if R.cur = 0 then (([], 25), R) else
  ((R.joins.filter fun j => R.jn j == R.cur, 0),
   { (R.joins.filter fun j => R.jn j == R.cur).foldl RTab.ready (R.upd R.cur fun x => { x with st := 5, fr := [] }) with joins := R.joins.filter fun j => !(R.jn j == R.cur) })

theorem fold_ready {R : RTab} : ∀ (l : List Int), (∀ j ∈ l, 1 ≤ j) → (l.foldl RTab.ready R).l.length = R.l.length ∧ (l.foldl RTab.ready R).joins = R.joins ∧ (l.foldl RTab.ready R).queue = R.queue ++ l ∧ (∀ j, (l.foldl RTab.ready R).jn j = R.jn j) ∧
  ∀ j, ((l.foldl RTab.ready R).at j) = if j ∈ l then (R.at j).map (fun x => { x with st := 1 }) else R.at j
 | [], _ => ⟨rfl, rfl, by simp, fun _ => rfl, fun j => by simp⟩
 | a :: l, h => by
  obtain ⟨h1, h2, h3, h4, h5⟩ := fold_ready (R := R.ready a) l fun j hj => h j (List.mem_cons_of_mem _ hj)
  have ha := h a (List.mem_cons_self ..)
  refine ⟨h1.trans ready_len, h2, h3.trans (by simp [RTab.ready]), fun j => (h4 j).trans (jn_ready ha j), fun j => ?_⟩
  rw [List.foldl_cons, h5 j, at_ready ha]
  by_cases e1 : j = a
  ·subst e1
   rw [if_pos rfl]
   rw [if_pos (List.mem_cons_self ..)]
   split
   ·cases R.at j <;> rfl
   ·rfl
  ·rw [if_neg e1]
   by_cases e2 : j ∈ l
   ·rw [if_pos e2, if_pos (List.mem_cons_of_mem _ e2)]
   ·rw [if_neg e2, if_neg (fun q => (List.mem_cons.1 q).elim e1 e2)]

theorem RRep.joinsIn (h : RRep X r d) {X2 : XH} {j1 : Option SlH} {joins : List Int} (hj : SlAt X cI j1 joins) (hn : ∀ k ∈ hl j1, k ∉ d.ks r) (e2 : X2 = X.setEl cRT r 0 (d.L, (d.q, j1))) :
  RRep X2 r { d with jx := j1, joins := joins } ∧ X2.n = X.n ∧ (∀ k, k ≠ r → X2.at k = X.at k) := by
 rw [h.box.setEl] at e2
 subst e2
 have hsep := h.sep
 have nr : ∀ k, k ∈ hl d.L ∨ k ∈ hl d.q ∨ k ∈ fl d.hs → k ≠ r := by
  have s := hsep
  unfold RD.ks at s
  simp only [List.append_assoc, List.cons_append] at s
  have s1 := (List.nodup_cons.1 s).1
  intro k hk q
  subst q
  refine s1 ?_
  simp only [List.mem_append] at hk ⊢
  rcases hk with hk | hk | hk
  ·exact .inl hk
  ·exact .inr (.inl hk)
  ·exact .inr (.inr (.inr hk))
 have nj : ∀ k ∈ hl j1, k ≠ r := fun k hk q => hn k hk (q ▸ mem_rks.2 (.inl rfl))
 have sep' : (RD.ks { d with jx := j1, joins := joins } r).Nodup := by
  have s := hsep
  unfold RD.ks at s ⊢
  dsimp only
  rw [List.append_assoc, List.append_assoc] at s ⊢
  obtain ⟨s1, s2, s3⟩ := List.nodup_append.1 s
  obtain ⟨s4, s5, s6⟩ := List.nodup_append.1 s2
  obtain ⟨s7, s8, s9⟩ := List.nodup_append.1 s5
  refine List.nodup_append.2 ⟨s1, List.nodup_append.2 ⟨s4, List.nodup_append.2 ⟨hl_nodup _, s8, fun a ha b hb q => ?_⟩, fun a ha b hb q => ?_⟩, fun a ha b hb q => ?_⟩
  ·subst q
   exact hn a ha (mem_rks.2 (.inr (.inr (.inr (.inr (mem_fl.1 hb))))))
  ·subst q
   rcases List.mem_append.1 hb with hb | hb
   ·exact hn a hb (mem_rks.2 (.inr (.inr (.inl ha))))
   ·exact s6 a ha a (List.mem_append_right _ hb) rfl
  ·subst q
   rcases List.mem_append.1 hb with hb | hb
   ·exact s3 a ha a (List.mem_append_left _ hb) rfl
   ·rcases List.mem_append.1 hb with hb | hb
    ·refine hn a hb ?_
     rcases List.mem_cons.1 ha with ha | ha
     ·exact mem_rks.2 (.inl ha)
     ·exact mem_rks.2 (.inr (.inl ha))
    ·exact s3 a ha a (List.mem_append_right _ (List.mem_append_right _ hb)) rfl
 exact ⟨⟨h.box.set, h.arr.keep fun k hk => at_set_ne (nr k (.inl hk)), h.qs.keep fun k hk => at_set_ne (nr k (.inr (.inl hk))), hj.keep fun k hk => at_set_ne (nj k hk), fun y hy => (h.ws y hy).keep fun k hk => at_set_ne (nr k (.inr (.inr (mem_fl.2 ⟨y, hy, hk⟩)))), sep'⟩, rfl, fun k hk => at_set_ne hk⟩

theorem c87 (h : RRep X r d) (hn : d.hs.length ≤ 1000000) (hj : ∀ j ∈ d.ab.joins, ∃ x, d.ab.at j = some x) (hjl : d.ab.joins.length < 400000) (hq : d.ab.queue.length < 400000) :
  XC Try.prog 87 [.pure (.slice (.int .i64)), cI] [.ref (some r) cRT 0 []] X fun p X' => p = d.ab.endR.1 ∧ RGoes X r d X' d.ab.endR.2 := by
 refine xcOf (X := X87) rfl FN87 (by kernel_rfl) (by decide) (E87 X r ⟨_, c54 h hn, fun e => ?_, fun e => ?_⟩)
 ·have e : d.ab.cur = 0 := by simpa using e
  unfold RTab.endR
  rw [if_pos e]
  exact ⟨rfl, .refl h⟩
 have e : d.ab.cur ≠ 0 := by simpa using e
 obtain ⟨c, hc⟩ : ∃ c, d.ab.cur = c := ⟨_, rfl⟩
 have hc1 : 1 ≤ c := by have := cur_le (R := d.ab); omega
 have hres : d.ab.endR = ((d.ab.joins.filter fun j => d.ab.jn j == c, 0),
   { (d.ab.joins.filter fun j => d.ab.jn j == c).foldl RTab.ready (d.ab.upd c fun x => { x with st := 5, fr := [] }) with joins := d.ab.joins.filter fun j => !(d.ab.jn j == c) }) := by
  unfold RTab.endR
  rw [if_neg e, hc]
 obtain ⟨z, hz, _⟩ := cur_some e
 rw [hc] at hz ⊢
 obtain ⟨A, y, C, u, hA, hy, hid, hu, w0, w1, wel, hw⟩ := h.get hn hz
 have hsl := h.ws y (by rw [hA]; simp)
 rw [hy] at hsl
 refine ⟨_, h.box.el, u, hu, w0, w1, _, wel, fun X5 e5 => ?_⟩
 obtain ⟨d5, h5, m5, a5, n5⟩ := h.updTo hA hy hid hu hw (fun x => { x with st := 5 }) hsl (.refl _ _) e5
 have hz5 : d5.ab.at c = some { z with st := 5 } := by rw [a5, at_upd hc1, if_pos rfl, hz]; rfl
 obtain ⟨A', y', C', u', hA', hy', hid', hu', w0', w1', wel', hw'⟩ := h5.get (by rw [n5]; exact hn) hz5
 have hsl' := h5.ws y' (by rw [hA']; simp)
 rw [hy'] at hsl'
 refine ⟨_, h5.box.el, u', hu', w0', w1', _, wel', fun X9 e9 => ?_⟩
 obtain ⟨d9, h9, m9, a9, n9⟩ := h5.updTo hA' hy' hid' hu' hw' (fun x => { x with fr := [] }) (X1 := X5) (x1 := none) rfl ⟨Nat.le_refl _, fun _ _ _ => rfl, fun k hk => by cases hk⟩ e9
 have hab9 : d9.ab = d.ab.upd c fun x => { x with st := 5, fr := [] } := by
  rw [a9, a5]
  unfold RTab.upd
  dsimp only
  congr 1
  refine List.ext_getElem? fun i => ?_
  rw [List.getElem?_modify, List.getElem?_modify, List.getElem?_modify]
  cases d.ab.l[i]? with
  | none => split <;> rfl
  | some w => split <;> rfl
 obtain ⟨R1, hR1⟩ : ∃ R1, R1 = d.ab.upd c fun x => { x with st := 5, fr := [] } := ⟨_, rfl⟩
 have jn1 : ∀ j, R1.jn j = d.ab.jn j := fun j => by rw [hR1]; exact jn_upd (f := fun x => { x with st := 5, fr := [] }) hc1 (fun _ => rfl) j
 have jo1 : R1.joins = d.ab.joins := by rw [hR1]; rfl
 have ql1 : R1.queue = d.ab.queue := by rw [hR1]; rfl
 have ln1 : R1.l.length = d.ab.l.length := by rw [hR1]; exact upd_len
 have at1 : ∀ j ∈ d.ab.joins, ∃ x, R1.at j = some x := fun j hj' => by
  obtain ⟨x, hx⟩ := hj j hj'
  rw [hR1, at_upd hc1, hx]
  split
  ·exact ⟨_, rfl⟩
  ·exact ⟨_, rfl⟩
 rw [← hR1] at hab9
 have m09 := m5.trans m9
 refine Loops.intro (fun q : Nat × Option SlH × Tok × XH × RD × Toks => S87_0 r c ((d.ab.joins.take q.1).filter fun j => d.ab.jn j == c) q.2.2.1 q.2.1 (q.1 : Int) q.2.2.2.1 q.2.2.2.2.2)
  (fun q => q.1 ≤ d.ab.joins.length ∧ q.2.2.1.fresh q.2.2.2.2.2 ∧ RRep q.2.2.2.1 r q.2.2.2.2.1 ∧ Mv X (d.ks r) q.2.2.2.1 (q.2.2.2.2.1.ks r) ∧ q.2.2.2.2.1.ab = ((d.ab.joins.take q.1).filter fun j => d.ab.jn j == c).foldl RTab.ready R1 ∧
   SlAt q.2.2.2.1 cI q.2.1 ((d.ab.joins.take q.1).filter fun j => !(d.ab.jn j == c)) ∧ ∀ k ∈ hl q.2.1, X.n ≤ k ∧ k ∉ q.2.2.2.2.1.ks r)
  (fun q => d.ab.joins.length - q.1) (0, none, .exact, X9, d9, ⟨0, []⟩) rfl ⟨Nat.zero_le _, trivial, h9, m09, hab9, rfl, fun k hk => by cases hk⟩ ?_
 rintro ⟨i, lf, tk, Xi, di, T⟩ ⟨j1, j2, j3, j4, j5, j6, j7⟩
 simp only at j1 j2 j3 j4 j5 j6 j7
 have pos : ∀ j ∈ (d.ab.joins.take i).filter (fun j => d.ab.jn j == c), 1 ≤ j := fun j hj' => by
  obtain ⟨x, hx⟩ := hj j (List.mem_of_mem_take (List.mem_filter.1 hj').1)
  exact (RTab.at_le hx).1
 obtain ⟨f1, f2, f3, f4, f5⟩ := fold_ready (R := R1) _ pos
 have hjs : di.joins = d.ab.joins := by
  have : di.ab.joins = _ := congrArg RTab.joins j5
  rw [f2, jo1] at this
  exact this
 have hjlen := j3.js.len
 rw [hjs] at hjlen
 have hnl : di.hs.length ≤ 1000000 := by
  rw [← RD.ab_len, j5, f1, ln1, RD.ab_len]; exact hn
 have hll : ((d.ab.joins.take i).filter fun j => d.ab.jn j == c).length ≤ i := Nat.le_trans (List.length_filter_le _ _) (by rw [List.length_take]; omega)
 have hlr : ((d.ab.joins.take i).filter fun j => !(d.ab.jn j == c)).length ≤ i := Nat.le_trans (List.length_filter_le _ _) (by rw [List.length_take]; omega)
 refine L87_0 r c _ tk lf (i : Int) Xi T ⟨_, j3.box.el, fun e1 => ?_, fun e1 => ?_⟩
 ·have e1 : (i : Int) < ((slN di.jx : Nat) : Int) := of_decide_eq_true e1
  have hi : i < d.ab.joins.length := by omega
  obtain ⟨s, hs⟩ : ∃ s, di.jx = some s := by
   cases hc2 : di.jx with
   | none => rw [hc2] at hjlen; simp [slN] at hjlen; omega
   | some s => exact ⟨s, rfl⟩
  have hsl2 := j3.js
  rw [hs, hjs] at hsl2
  have hslen : s.len = d.ab.joins.length := by rw [hs] at hjlen; exact hjlen
  have hel2 : Xi.el cI s.h (s.off + ((i : Int)).toNat) = some d.ab.joins[i] := by rw [Int.toNat_natCast]; exact hsl2.el hi
  obtain ⟨x0, hx0⟩ := at1 _ (List.getElem_mem hi)
  obtain ⟨x, hx, hxj⟩ : ∃ x, di.ab.at d.ab.joins[i] = some x ∧ x.jn = d.ab.jn d.ab.joins[i] := by
   have hjn : di.ab.jn d.ab.joins[i] = d.ab.jn d.ab.joins[i] := by rw [j5, f4, jn1]
   have hat := f5 d.ab.joins[i]
   rw [← j5, hx0] at hat
   obtain ⟨x, hx⟩ : ∃ x, di.ab.at d.ab.joins[i] = some x := by
    rw [hat]
    split
    ·exact ⟨_, rfl⟩
    ·exact ⟨_, rfl⟩
   refine ⟨x, hx, ?_⟩
   rw [← hjn]
   unfold RTab.jn
   rw [hx]
  obtain ⟨B, w, D, v, hB, hwx, hidx, hv, v0, v1, vel, hvw⟩ := j3.get hnl hx
  have htake : d.ab.joins.take (i + 1) = d.ab.joins.take i ++ [d.ab.joins[i]] := List.take_succ_eq_append_getElem hi
  refine ⟨_, j3.box.el, _, j3.box.el, s, hs, by omega, by omega, _, hel2, v, hv, v0, v1, _, vel, fun e2 => ?_, fun e2 => ?_⟩
  ·have e2 : d.ab.jn d.ab.joins[i] = c := by rw [← hxj]; simpa [TH.v] using e2
   refine ⟨_, j3.box.el, s, hs, by omega, by omega, _, hel2, j2.own, ?_, _, j3.box.el, s, hs, by omega, by omega, _, hel2, ?_⟩
   ·simp only [List.length_cons, List.length_nil]; unfold room; omega
   refine (c102 j3 hnl hx ?_).mono ?_
   ·rw [j5, f3, ql1, List.length_append]; omega
   ·rintro _ X24 ⟨d24, g1, g2, g3⟩
    rw [wrap_succ (by omega)]
    refine Again.mk (i + 1, lf, .tk T.n, X24, d24, ⟨T.n + 1, T.n :: Tok.drop tk T.l⟩) ?_ ⟨hi, Tok.fresh_new _ _, g1, j4.trans g2, ?_, ?_, ?_⟩ (by show d.ab.joins.length - (i + 1) < d.ab.joins.length - i; omega)
    ·simp only
     rw [htake, List.filter_append]
     simp [e2]
    ·simp only
     rw [htake, List.filter_append, g3, j5]
     simp [e2]
    ·simp only
     rw [htake, List.filter_append]
     simp only [e2, List.filter_cons, beq_self_eq_true, Bool.not_true, List.filter_nil, if_neg Bool.false_ne_true, List.append_nil]
     exact j6.keep fun k hk => g2.keep k (j6.lt k hk) (j7 k hk).2
    ·intro k hk
     refine ⟨(j7 k hk).1, fun q => ?_⟩
     rcases g2.own k q with q | q
     ·exact (j7 k hk).2 q
     ·have := j6.lt k hk; omega
  ·have e2 : d.ab.jn d.ab.joins[i] ≠ c := by rw [← hxj]; simpa [TH.v] using e2
   refine ⟨_, j3.box.el, s, hs, by omega, by omega, _, hel2, _, [d.ab.joins[i]], j6.view, rfl, ?_, fun X30 s31 hxa => ?_⟩
   ·have hlr' : slN lf ≤ i := by rw [j6.len]; exact hlr
    simp only [List.length_cons, List.length_nil]; unfold room; omega
   obtain ⟨b1, b2⟩ := hxa.spec j6
   rw [wrap_succ (by omega)]
   have hks : ∀ k ∈ di.ks r, k ∉ hl lf := fun k hk q => (j7 k q).2 hk
   refine Again.mk (i + 1, s31, tk, X30, di, T) ?_ ⟨hi, j2, j3.mv b2 hks, ?_, ?_, ?_, ?_⟩ (by show d.ab.joins.length - (i + 1) < d.ab.joins.length - i; omega)
   ·simp only
    rw [htake, List.filter_append]
    simp [e2]
   ·refine ⟨Nat.le_trans j4.n b2.n, fun k hk hkn => ?_, j4.own⟩
    have hk' := Nat.lt_of_lt_of_le hk j4.n
    simp only
    rw [b2.keep k hk' fun q => by have := (j7 k q).1; omega]
    exact j4.keep k hk hkn
   ·simp only
    rw [htake, List.filter_append, j5]
    simp [e2]
   ·simp only
    rw [htake, List.filter_append]
    have : ([d.ab.joins[i]].filter fun j => !(d.ab.jn j == c)) = [d.ab.joins[i]] := by simp [e2]
    rw [this]
    exact b1
   ·intro k hk
    rcases b2.own k hk with q | q
    ·exact j7 k q
    ·have := j4.n
     exact ⟨by omega, fun q2 => by have := j3.lt k q2; omega⟩
 ·have e1 : ¬ (i : Int) < ((slN di.jx : Nat) : Int) := of_decide_eq_false e1
  have hi : i = d.ab.joins.length := by omega
  subst hi
  rw [List.take_length] at j5 j6 ⊢
  refine ⟨_, j3.box.el, fun X33 e33 => ?_⟩
  obtain ⟨k1, k2, k3⟩ := j3.joinsIn j6 (fun k hk => (j7 k hk).2) e33
  rw [hres]
  refine ⟨rfl, _, k1, ⟨by rw [k2]; exact j4.n, fun k hk hkn => ?_, fun k hk => ?_⟩, ?_⟩
  ·rw [k3 k fun q => hkn (q ▸ mem_rks.2 (.inl rfl))]
   exact j4.keep k hk hkn
  ·rcases mem_rks.1 hk with hk | hk | hk | hk | hk
   ·exact j4.own k (mem_rks.2 (.inl hk))
   ·exact j4.own k (mem_rks.2 (.inr (.inl hk)))
   ·exact j4.own k (mem_rks.2 (.inr (.inr (.inl hk))))
   ·exact .inr (j7 k hk).1
   ·exact j4.own k (mem_rks.2 (.inr (.inr (.inr (.inr hk)))))
  ·show (⟨di.ab.l, di.ab.queue, _⟩ : RTab) = _
   rw [j5, hR1]

end Go.Proofs.Ytaaedebknacheaa.AB

set_option maxRecDepth 100000
set_option maxHeartbeats 2000000
namespace Go.Proofs.Ytaaedebknacheaa.AB
open Go
noncomputable def X41 : Cx := ⟨tt, [(55, [.cd (.pair (.int .i64) (.pair (.int .i64) (.pair (.slice (.int .i64)) (.slice (.int .i64)))))])], [], [], [(41, [(0, mkM 33 0 [6, 20, 21, 22], 0)])], []⟩
theorem FN41 : fnsB Try.prog X41.fns := (show True from trivial)
def M41_0 : List Bool × Nat := (mkM 33 0 [6, 20, 21, 22], 1)
def S41_0 (l6 : List (Int × (Int × ((List Int) × (List Int))))) (l6k : Tok) (t20 : Option SlH) (t21 : Int) (t22 : Int) (hq0 : XH) (T : Toks) : St :=
  mkS 33 [(6, (.v (.list (.pair (.int .i64) (.pair (.int .i64) (.pair (.slice (.int .i64)) (.slice (.int .i64))))) l6 l6k))), (20, (.sl (.pure (.pair (.int .i64) (.pair (.int .i64) (.pair (.slice (.int .i64)) (.slice (.int .i64)))))) t20)), (21, (.v (.int .i64 t21))), (22, (.v (.int .i64 t22)))] [(some (.heap hq0))] T
noncomputable def B41_0 : (Exit → St → Prop) → St → Prop := (awp X41.tt (callN Try.prog X41 0) (X41.md 41) 1 (X41.mk1 41) 0 (codeAt [1, 1, 1, 1, 0, 1, 0, 0] (bd Try.f41)))
noncomputable def K41_0 (R : ((List (Int × (Int × ((List Int) × (List Int)))))) → XH → Prop) : Exit → St → Prop := seqK ((awp X41.tt (callN Try.prog X41 0) (X41.md 41) 1 (X41.mk1 41) 0 (codeAt [1, 1, 1, 1, 1] (bd Try.f41))) (retK tt Try.f41.results.toList fun x s' => xfin [(.pure (.slice (.pair (.int .i64) (.pair (.int .i64) (.pair (.slice (.int .i64)) (.slice (.int .i64)))))))] R x ⟨[], s'.hp, s'.T⟩)) (retK tt Try.f41.results.toList fun x s' => xfin [(.pure (.slice (.pair (.int .i64) (.pair (.int .i64) (.pair (.slice (.int .i64)) (.slice (.int .i64)))))))] R x ⟨[], s'.hp, s'.T⟩)
noncomputable def Q41_0 (R : ((List (Int × (Int × ((List Int) × (List Int)))))) → XH → Prop) : Exit → St → Prop := (blockK 0 (K41_0 R))
theorem E41 (X : XH) (t0 : Nat) (id1 : Int) {R : ((List (Int × (Int × ((List Int) × (List Int)))))) → XH → Prop} (h : (∃ (a1 : ((Option Nat) × (Int × (Int × (Option SlH))))), XH.el X yZ2 t0 0 = some a1 ∧ (∃ (es2 : List (Int × (Option Nat))), XH.vmp X (.int .i64) (.ref yZ3) a1.1 = some es2 ∧ (∀ (v3 : (Option Nat)), mfind (Cd.keq (.int .i64) id1) es2 = some v3 → (((Option.isNone v3) = true → R (([] : List (Int × (Int × ((List Int) × (List Int)))))) X) ∧
 ((Option.isNone v3) = false → (refK v3 (fun (h4 : Nat) => (∃ (a5 : ((Option SlH) × (Int × (Option SlH)))), XH.el X yZ3 h4 0 = some a5 ∧ (Loops B41_0 M41_0 (Q41_0 R)
  (S41_0 (([] : List (Int × (Int × ((List Int) × (List Int)))))) .exact a5.1 ((((slN a5.1) : Nat) : Int)) (0 : Int) X ⟨0, []⟩)))))))) ∧ (mfind (Cd.keq (.int .i64) id1) es2 = none → ((true = true → R (([] : List (Int × (Int × ((List Int) × (List Int)))))) X) ∧
 (true = false → False)))))) :
  fnK X41.tt (callN Try.prog X41 0) (X41.md 41) (X41.mk1 41) Try.f41 [(.ref (some t0) yZ2 0 []), (.v (.int .i64 id1))] ⟨[], [some (.heap X)], ⟨0, []⟩⟩ (xfin [(.pure (.slice (.pair (.int .i64) (.pair (.int .i64) (.pair (.slice (.int .i64)) (.slice (.int .i64)))))))] R) := Eq.mp (by kernel_rfl) h
theorem L41_0 (l6 : List (Int × (Int × ((List Int) × (List Int))))) (l6k : Tok) (t20 : Option SlH) (t21 : Int) (t22 : Int) (hq0 : XH) (T : Toks) {R : ((List (Int × (Int × ((List Int) × (List Int)))))) → XH → Prop} {k0 : St → Prop}
 (h : (((decide (t22 < t21)) = true → (∃ (u6 : SlH), t20 = some u6 ∧ 0 ≤ t22 ∧ t22 < ((u6.len : Nat) : Int) ∧ (∃ (a7 : (Int × (Int × ((List Int) × (List Int))))), XH.el hq0 (.pure (.pair (.int .i64) (.pair (.int .i64) (.pair (.slice (.int .i64)) (.slice (.int .i64)))))) u6.h ((u6.off + (t22).toNat)) = some a7 ∧ (∃ p8 : (Int × (Int × ((List Int) × (List Int)))), PC Try.prog 55 [(.agg [(.int .i64 a7.1), (.int .i64 a7.2.1), (.list (.int .i64) a7.2.2.1 .no), (.list (.int .i64) a7.2.2.2 .no)])] ((.agg [(.int .i64 p8.1), (.int .i64 p8.2.1), (.list (.int .i64) p8.2.2.1 .no), (.list (.int .i64) p8.2.2.2 .no)])) ∧ (Tok.own l6k T.l ∧ ((l6).length + (([(p8.1, (p8.2.1, (p8.2.2.1, p8.2.2.2)))] : List (Int × (Int × ((List Int) × (List Int)))))).length) * 64 ≤ room ∧ k0 (S41_0 ((l6 ++ ([(p8.1, (p8.2.1, (p8.2.2.1, p8.2.2.2)))] : List (Int × (Int × ((List Int) × (List Int))))))) (.tk T.n) t20 t21 ((IntKind.wrap .i64 (t22 + (1 : Int)))) hq0 ⟨(T.n + 1), (T.n :: Tok.drop l6k T.l)⟩)))))) ∧
 ((decide (t22 < t21)) = false → R l6 hq0))) :
  B41_0 (loopQ M41_0 k0 (Q41_0 R)) (S41_0 l6 l6k t20 t21 t22 hq0 T) := Eq.mp (by kernel_rfl) h
end Go.Proofs.Ytaaedebknacheaa.AB

set_option maxRecDepth 100000
set_option maxHeartbeats 2000000
namespace Go.Proofs.Ytaaedebknacheaa.AB
open Go
noncomputable def X78 : Cx := ⟨tt, [(55, [.cd (.pair (.int .i64) (.pair (.int .i64) (.pair (.slice (.int .i64)) (.slice (.int .i64)))))])], [(60, [(.ref yZ3), (.pure (.int .i64))])], [(78, [(1, 2, .rd)])], [], []⟩
theorem FN78 : fnsB Try.prog X78.fns := (show True from trivial)
theorem E78 (X : XH) (t0 : Nat) (id1 : Int) (f2 : (Int × (Int × ((List Int) × (List Int))))) {R : (Int) → XH → Prop} (h : (∃ (p1 : (Option Nat) × Int), RC Try.prog 60 [(.ref yZ3), (.pure (.int .i64))] [(.ref (some t0) yZ2 0 []), (.v (.int .i64 id1))] X p1 ∧ (((p1.2 == (0 : Int)) = true → (refK p1.1 (fun (h2 : Nat) => (∃ (a3 : ((Option SlH) × (Int × (Option SlH)))), XH.el X yZ3 h2 0 = some a3 ∧ (refK p1.1 (fun (h4 : Nat) => (∃ (a5 : ((Option SlH) × (Int × (Option SlH)))), XH.el X yZ3 h4 0 = some a5 ∧ (∃ p6 : (Int × (Int × ((List Int) × (List Int)))), PC Try.prog 55 [(.agg [(.int .i64 f2.1), (.int .i64 f2.2.1), (.list (.int .i64) f2.2.2.1 .no), (.list (.int .i64) f2.2.2.2 .no)])] ((.agg [(.int .i64 p6.1), (.int .i64 p6.2.1), (.list (.int .i64) p6.2.2.1 .no), (.list (.int .i64) p6.2.2.2 .no)])) ∧ (∃ (u7 : SlH), a3.1 = some u7 ∧ 0 ≤ (IntKind.wrap .i64 ((((slN a5.1) : Nat) : Int) - (1 : Int))) ∧ (IntKind.wrap .i64 ((((slN a5.1) : Nat) : Int) - (1 : Int))) < ((u7.len : Nat) : Int) ∧ (∃ (a8 : (Int × (Int × ((List Int) × (List Int))))), XH.el X (.pure (.pair (.int .i64) (.pair (.int .i64) (.pair (.slice (.int .i64)) (.slice (.int .i64)))))) u7.h ((u7.off + ((IntKind.wrap .i64 ((((slN a5.1) : Nat) : Int) - (1 : Int)))).toNat)) = some a8 ∧ (∀ (X9 : XH), X9 = (XH.setEl X (.pure (.pair (.int .i64) (.pair (.int .i64) (.pair (.slice (.int .i64)) (.slice (.int .i64)))))) u7.h ((u7.off + ((IntKind.wrap .i64 ((((slN a5.1) : Nat) : Int) - (1 : Int)))).toNat)) ((p6.1, (p6.2.1, (p6.2.2.1, p6.2.2.2))))) → R p1.2 X9))))))))))) ∧
 ((p1.2 == (0 : Int)) = false → R p1.2 X)))) :
  fnK X78.tt (callN Try.prog X78 0) (X78.md 78) (X78.mk1 78) Try.f78 [(.ref (some t0) yZ2 0 []), (.v (.int .i64 id1)), (.v (.agg [(.int .i64 f2.1), (.int .i64 f2.2.1), (.list (.int .i64) f2.2.2.1 .no), (.list (.int .i64) f2.2.2.2 .no)]))] ⟨[], [some (.heap X)], ⟨0, []⟩⟩ (xfin [(.pure (.int .i64))] R) := Eq.mp (by kernel_rfl) h
end Go.Proofs.Ytaaedebknacheaa.AB

set_option maxRecDepth 100000
set_option maxHeartbeats 2000000
namespace Go.Proofs.Ytaaedebknacheaa.AB
open Go
noncomputable def X82 : Cx := ⟨tt, [], [(58, [(.pure (.int .i64)), (.pure (.int .i64))])], [(82, [(1, 1, .xc)])], [], []⟩
theorem FN82 : fnsB Try.prog X82.fns := (show True from trivial)
theorem E82 (X : XH) (t0 : Nat) {R : (Int) → XH → Prop} (h : (XC Try.prog 58 [(.pure (.int .i64)), (.pure (.int .i64))] [(.ref (some t0) yZ2 0 []), (.v (.int .i64 (3 : Int)))] X (fun (p1 : Int × Int) (X2 : XH) => R p1.2 X2))) :
 fnK X82.tt (callN Try.prog X82 0) (X82.md 82) (X82.mk1 82) Try.f82 [(.ref (some t0) yZ2 0 [])] ⟨[], [some (.heap X)], ⟨0, []⟩⟩ (xfin [(.pure (.int .i64))] R) := Eq.mp (by kernel_rfl) h
end Go.Proofs.Ytaaedebknacheaa.AB

set_option maxRecDepth 100000
set_option maxHeartbeats 2000000
namespace Go.Proofs.Ytaaedebknacheaa.AB
open Go
noncomputable def X84 : Cx := ⟨tt, [], [(21, [(.pure (.int .i64))]), (56, [])], [(84, [(3, 2, .rd), (5, 2, .xc)])], [], []⟩
theorem FN84 : fnsB Try.prog X84.fns := (show True from trivial)
theorem E84 (X : XH) (t0 : Nat) (id1 : Int) {R : (Int) → XH → Prop} (h : (((decide (id1 < (1 : Int))) = true → R (24 : Int) X) ∧ ((decide (id1 < (1 : Int))) = false → (∃ (a1 : ((Option Nat) × (Int × (Int × (Option SlH))))), XH.el X yZ2 t0 0 = some a1 ∧ (((decide (id1 > a1.2.1)) = true → R (24 : Int) X) ∧
 ((decide (id1 > a1.2.1)) = false → (∃ (p2 : Int), RC Try.prog 21 [(.pure (.int .i64))] [(.ref (some t0) yZ2 0 []), (.v (.int .i64 id1))] X p2 ∧ (((p2 != (3 : Int)) = true → R (25 : Int) X) ∧
 ((p2 != (3 : Int)) = false → (XC Try.prog 56 [] [(.ref (some t0) yZ2 0 []), (.v (.int .i64 id1))] X (fun (p3 : Unit) (X4 : XH) => R (0 : Int) X4))))))))))) :
  fnK X84.tt (callN Try.prog X84 0) (X84.md 84) (X84.mk1 84) Try.f84 [(.ref (some t0) yZ2 0 []), (.v (.int .i64 id1))] ⟨[], [some (.heap X)], ⟨0, []⟩⟩ (xfin [(.pure (.int .i64))] R) := Eq.mp (by kernel_rfl) h
end Go.Proofs.Ytaaedebknacheaa.AB

namespace Go.Proofs.Ytaaedebknacheaa.AB
open Go


variable {X X' : XH} {t : Nat} {d : DT}

def MT.putTop (m : MT) (id : Int) (f : Fr) : MT := { m with rows := updAb id (fun a => { a with frames := a.frames.set (a.frames.length - 1) f }) m.rows }
def MT.pushR (m : MT) (id : Int) (f : Fr) : Int × MT :=
 match m.get id with
 | none => (24, m)
 | some a => if 200 ≤ a.frames.length then (3, m) else (0, m.push id f)
def MT.popR (m : MT) (id : Int) : (Fr × Int) × MT := if errTop m id = 0 then (((m.top id).1, 0), m.pop id) else ((F0, errTop m id), m)
def MT.setR (m : MT) (id : Int) (f : Fr) : Int × MT := if errTop m id = 0 then (0, m.putTop id f) else (errTop m id, m)
def MT.blockR (m : MT) : Int × MT := if m.run = 0 then (25, m) else (0, m.rest 3)
def MT.wakeR (m : MT) (id : Int) : Int × MT := if id < 1 ∨ m.last < id then (24, m) else if m.state id ≠ 3 then (25, m) else (0, m.ready id)
def MT.framesOf (m : MT) (id : Int) : List Fr :=
 match m.get id with
 | some a => a.frames
 | none => []

def MFit (m : MT) : Prop := ∀ a ∈ m.rows, a.frames.length < 1000 ∧ ∀ f ∈ a.frames, Small f

theorem Rep.keep (h : Rep X t d) (e : ∀ k ∈ t :: d.hs, X'.at k = X.at k) : Rep X' t d := by
 have e2 : ∀ k ∈ hl d.q ++ d.rows.flatMap Thr.hs, X'.at k = X.at k := fun k hk => e k (List.mem_cons_of_mem _ (List.mem_cons_of_mem _ hk))
 exact ⟨h.box.keep (e t (List.mem_cons_self ..)), (e d.hm (by simp [DT.hs])).trans h.map, h.q.keep fun k hk => e2 k (List.mem_append_left _ hk), fun r hr => (h.rows r hr).keep fun k hk => e2 k (List.mem_append_right _ (List.mem_flatMap.2 ⟨r, hr, hk⟩)), h.ids, h.sep⟩

theorem Rep.mv {S S' : List Nat} (h : Rep X t d) (m : Mv X S X' S') (hd : ∀ k ∈ t :: d.hs, k ∉ S) : Rep X' t d := h.keep fun k hk => m.keep k (h.lt k hk) (hd k hk)

theorem x40 (h : Rep X t d) (hf : MFit d.ab) {id : Int} {f : Fr} (hs : Small f) :
  XC Try.prog 40 [cI] [.ref (some t) yZ2 0 [], .v (.int .i64 id), .v (.agg [.int .i64 f.1, .int .i64 f.2.1, .list (.int .i64) f.2.2.1 .no, .list (.int .i64) f.2.2.2 .no])] X fun p X' =>
   p = (d.ab.pushR id f).1 ∧ Post X t d X' (d.ab.pushR id f).2 := by
 by_cases hid : ∃ a ∈ d.ab.rows, a.id = id
 ·obtain ⟨l1, r, l2, hd, he, hm, hr, hn⟩ := h.one hid
  have hg := get_one h.ids hd he
  have hlen := hr.fr.len
  have hfr := hf r.toAb (by simp [DT.ab, hd])
  have hfr : r.frames.length < 1000 := hfr.1
  refine xcOf (X := X40) rfl FN40 (by kernel_rfl) (by decide) (E40 X t id f ⟨_, h.box.el, ents d.rows, h.mp, ?_, fun e => by rw [hm] at e; cases e⟩)
  intro v hv
  rw [hm] at hv; cases hv
  refine ⟨fun e => (by cases e), fun _ => ⟨_, hr.box.el, fun e => ?_, fun e => ⟨_, hr.box.el, f, c55 hs, fun X9 e9 => ?_⟩⟩⟩
  ·have e : (200 : Int) ≤ ((slN r.fr : Nat) : Int) := by simpa using e
   have e : 200 ≤ r.toAb.frames.length := by show 200 ≤ r.frames.length; omega
   have : d.ab.pushR id f = (3, d.ab) := by
    unfold MT.pushR
    rw [hg]
    simp only [if_pos e]
   rw [this]
   exact ⟨rfl, d, h, .refl _ _, rfl⟩
  have e : ¬ (200 : Int) ≤ ((slN r.fr : Nat) : Int) := by simpa using e
  have e : ¬ 200 ≤ r.toAb.frames.length := by show ¬ 200 ≤ r.frames.length; omega
  have hres : d.ab.pushR id f = (0, d.ab.push id f) := by
   unfold MT.pushR
   rw [hg]
   simp only [if_neg e]
  have k9 : ∀ k, k < X.n → X9.at k = X.at k := fun k hk => by rw [e9]; exact at_add_old hk
  have s9 : SlAt X9 cF r.fr r.frames := hr.fr.keep fun k hk => k9 k (hr.fr.lt k hk)
  have n9 : SlAt X9 cF (some ⟨X.n, 0, 1, 1⟩) [f] := ⟨[f], by rw [e9]; exact at_add_new _ _, by simp, by simp, rfl⟩
  refine ⟨r.frames, [f], s9.view, ?_, ?_, fun X12 s13 hx => ?_⟩
  ·show (if e : cF = cF then _ else none) = _
   rw [dif_pos rfl]
   exact n9.view
  ·dsimp only; rw [hlen]; unfold room; simp only [List.length_cons, List.length_nil]; omega
  obtain ⟨b1, b2⟩ := hx.spec s9
  obtain ⟨⟨n1, n2⟩, n3⟩ := Thr.nodup3 hn
  have mv : Mv X (hl r.fr) X12 (hl s13) := Mv.trans (S' := hl r.fr) ⟨by rw [e9]; exact Nat.le_succ _, fun k hk _ => k9 k hk, fun k hk => .inl hk⟩ b2
  have b12 := hr.box.keep (mv.keep _ hr.box.lt n1)
  refine ⟨_, b12.el, fun X16 e16 => ?_⟩
  rw [hres]
  exact ⟨rfl, h.setFr hd he hr hn mv b1 e16 rfl⟩
 ·have hid' : ∀ a ∈ d.ab.rows, a.id ≠ id := fun a ha e => hid ⟨a, ha, e⟩
  have hg := get_none hid'
  have hm := h.gone hid'
  have : d.ab.pushR id f = (24, d.ab) := by
   unfold MT.pushR
   rw [hg]
  rw [this]
  refine xcOf (X := X40) rfl FN40 (by kernel_rfl) (by decide) (E40 X t id f ⟨_, h.box.el, ents d.rows, h.mp, (fun v hv => by rw [hm] at hv; cases hv), fun _ => ⟨fun _ => ⟨rfl, d, h, .refl _ _, rfl⟩, fun e => by cases e⟩⟩)

theorem top_of {m : MT} {id : Int} {a : Ab} (hg : m.get id = some a) (hf : a.frames ≠ []) : ∃ f, a.frames.getLast? = some f ∧ m.top id = (f, true) := by
 unfold MT.top
 rw [hg]
 cases hl : a.frames.getLast? with
 | none => exact absurd (List.getLast?_eq_none_iff.1 hl) hf
 | some f => exact ⟨f, rfl, by simp only [hl]⟩

theorem x42 (h : Rep X t d) (hf : MFit d.ab) (id : Int) :
  XC Try.prog 42 [cF, cI] [.ref (some t) yZ2 0 [], .v (.int .i64 id)] X fun p X' => p = (d.ab.popR id).1 ∧ Post X t d X' (d.ab.popR id).2 := by
 obtain ⟨x, hc, hx⟩ := c60 h id
 by_cases he : errTop d.ab id = 0
 ·obtain ⟨l1, r, l2, hd, hid, rfl, hr, hn, hf0, hg⟩ := hx he
  obtain ⟨f, g1, g2⟩ := top_of hg hf0
  have : d.ab.popR id = ((f, 0), d.ab.pop id) := by
   unfold MT.popR
   rw [if_pos he, g2]
  rw [this]
  exact c42 h g2 fun a ha => (hf a ha).1
 ·have : d.ab.popR id = ((F0, errTop d.ab id), d.ab) := by
   unfold MT.popR
   rw [if_neg he]
  rw [this]
  refine xcOf (X := X42) rfl FN42 (by kernel_rfl) (by decide) (E42 X t id ⟨_, hc, fun e => ⟨rfl, d, h, .refl _ _, rfl⟩, fun e => ?_⟩)
  exact absurd (show errTop d.ab id = 0 by simpa using e) he

theorem x78 (h : Rep X t d) (hf : MFit d.ab) (id : Int) {f : Fr} (hs : Small f) :
  XC Try.prog 78 [cI] [.ref (some t) yZ2 0 [], .v (.int .i64 id), .v (.agg [.int .i64 f.1, .int .i64 f.2.1, .list (.int .i64) f.2.2.1 .no, .list (.int .i64) f.2.2.2 .no])] X fun p X' =>
   p = (d.ab.setR id f).1 ∧ Post X t d X' (d.ab.setR id f).2 := by
 obtain ⟨x, hc, hx⟩ := c60 h id
 refine xcOf (X := X78) rfl FN78 (by kernel_rfl) (by decide) (E78 X t id f ⟨_, hc, fun e => ?_, fun e => ?_⟩)
 ·have e0 : errTop d.ab id = 0 := by simpa using e
  obtain ⟨l1, r, l2, hd, hid, rfl, hr, hn, hf0, hg⟩ := hx e0
  have hfr := hf r.toAb (by simp [DT.ab, hd])
  have hfr : r.frames.length < 1000 := hfr.1
  obtain ⟨s, hs2, v0, v1, f', hf1, hf2, hf3, hf4⟩ := last_el hr.fr (Nat.le_of_lt hfr) hf0
  refine ⟨_, hr.box.el, _, hr.box.el, f, c55 hs, s, hs2, v0, v1, f', hf2, fun X9 e9 => ?_⟩
  have e9 : X9 = X.setEl cF s.h (s.off + (IntKind.wrap .i64 (((slN r.fr : Nat) : Int) - (1 : Int))).toNat) f := e9
  rw [hf3] at e9
  have hpos : 0 < r.frames.length := List.length_pos_iff.2 hf0
  have hsl := hr.fr
  rw [hs2] at hsl
  obtain ⟨a, k1, k2⟩ := hsl.setEl (i := r.frames.length - 1) (by omega) f
  rw [k1] at e9
  rw [← e9] at k2
  have hm : Mv X (hl r.fr) X9 (hl r.fr) := by rw [e9, hs2]; exact Mv.set (by simp [hl])
  obtain ⟨⟨n1, n2⟩, n3⟩ := Thr.nodup3 hn
  have b9 := hr.box.keep (hm.keep _ hr.box.lt n1)
  have hsame : X9 = X9.setEl yZ3 r.h 0 (r.fr, (r.st, r.jn)) := by
   have hat : X9.at r.h = some (.arr yZ3 [(r.fr, (r.st, r.jn))]) := b9
   rw [b9.setEl]
   have hf := at_get hat
   unfold XH.set
   have : (fun k => if k = r.h then some (XO.arr yZ3 [(r.fr, (r.st, r.jn))]) else X9.f k) = X9.f := by
    funext k
    by_cases hk : k = r.h
    ·subst hk; rw [if_pos rfl]; exact hf.1.symm
    ·rw [if_neg hk]
   rw [this]
  have hp := h.setFr (g := fun a => { a with frames := a.frames.set (a.frames.length - 1) f }) hd hid hr hn (X2 := X9) (X3 := X9) (q := r.fr) (fs := r.frames.set (r.frames.length - 1) f) hm (by rw [hs2]; exact k2) hsame rfl
  have : d.ab.setR id f = (0, d.ab.putTop id f) := by
   unfold MT.setR
   rw [if_pos e0]
  rw [this]
  exact ⟨e0, hp⟩
 ·have e : errTop d.ab id ≠ 0 := by simpa using e
  have : d.ab.setR id f = (errTop d.ab id, d.ab) := by
   unfold MT.setR
   rw [if_neg e]
  rw [this]
  exact ⟨rfl, d, h, .refl _ _, rfl⟩

theorem x82 (h : Rep X t d) (hid : d.ab.run ≠ 0 → d.ab.has d.ab.run) :
  XC Try.prog 82 [cI] [.ref (some t) yZ2 0 []] X fun p X' => p = d.ab.blockR.1 ∧ Post X t d X' d.ab.blockR.2 := by
 refine xcOf (X := X82) rfl FN82 (by kernel_rfl) (by decide) (E82 X t ((c58 h hid).mono ?_))
 rintro p X2 (⟨h1, rfl, rfl⟩ | ⟨h1, rfl, d2, s1, s2, s3, s4⟩)
 ·have h1 : d.ab.run = 0 := h1
  unfold MT.blockR
  rw [if_pos h1]
  exact ⟨rfl, d, h, .refl _ _, rfl⟩
 ·have h1 : d.ab.run ≠ 0 := h1
  unfold MT.blockR
  rw [if_neg h1]
  exact ⟨rfl, d2, s1, s2, s3⟩

theorem state_get {m : MT} {id : Int} (h : m.state id = 3) : m.has id := by
 unfold MT.state at h
 cases hg : m.get id with
 | none =>
  rw [hg] at h
  dsimp only at h
  split at h <;> omega
 | some a =>
  unfold MT.get at hg
  have h1 := List.mem_of_find?_eq_some hg
  have h2 := List.find?_some hg
  exact ⟨a, h1, by simpa using h2⟩

theorem x84 (h : Rep X t d) (hq : d.ab.queue.length < 1000000) (id : Int) :
  XC Try.prog 84 [cI] [.ref (some t) yZ2 0 [], .v (.int .i64 id)] X fun p X' => p = (d.ab.wakeR id).1 ∧ Post X t d X' (d.ab.wakeR id).2 := by
 have hq : d.queue.length < 1000000 := hq
 have gone : id < 1 ∨ d.last < id → (24 : Int) = (d.ab.wakeR id).1 ∧ Post X t d X (d.ab.wakeR id).2 := fun q => by
  have q : id < 1 ∨ d.ab.last < id := q
  unfold MT.wakeR
  rw [if_pos q]
  exact ⟨rfl, d, h, .refl _ _, rfl⟩
 refine xcOf (X := X84) rfl FN84 (by kernel_rfl) (by decide) (E84 X t id ⟨fun e => gone (.inl (by simpa using e)), fun e => ⟨_, h.box.el, fun e2 => gone (.inr (by simpa using e2)), fun e2 => ⟨_, c21 h id, fun e3 => ?_, fun e3 => ?_⟩⟩⟩)
 ·have e : ¬ id < 1 := by simpa using e
  have e2 : ¬ d.last < id := by simpa using e2
  have e3 : d.ab.state id ≠ 3 := by simpa using e3
  unfold MT.wakeR
  rw [if_neg (fun q : id < 1 ∨ d.ab.last < id => q.elim e e2), if_pos e3]
  exact ⟨rfl, d, h, .refl _ _, rfl⟩
 ·have e : ¬ id < 1 := by simpa using e
  have e2 : ¬ d.last < id := by simpa using e2
  have e3 : d.ab.state id = 3 := by simpa using e3
  refine (c56 h (id := id) (state_get e3) (by unfold room; omega)).mono fun _ X4 hp => ?_
  unfold MT.wakeR
  rw [if_neg (fun q : id < 1 ∨ d.ab.last < id => q.elim e e2), if_neg (fun q : d.ab.state id ≠ 3 => q e3)]
  exact ⟨rfl, hp⟩

theorem c41 (h : Rep X t d) (hf : MFit d.ab) (id : Int) : RC Try.prog 41 [.pure (.slice (.pair (.int .i64) (.pair (.int .i64) (.pair (.slice (.int .i64)) (.slice (.int .i64))))))] [.ref (some t) yZ2 0 [], .v (.int .i64 id)] X (d.ab.framesOf id) := by
 by_cases hid : ∃ a ∈ d.ab.rows, a.id = id
 ·obtain ⟨l1, r, l2, hd, he, hm, hr, hn⟩ := h.one hid
  have hg := get_one h.ids hd he
  have hs := hf r.toAb (by simp [DT.ab, hd])
  have hs : r.frames.length < 1000 ∧ ∀ f ∈ r.frames, Small f := hs
  have hlen := hr.fr.len
  have hres : d.ab.framesOf id = r.frames := by unfold MT.framesOf; rw [hg]
  rw [hres]
  refine xcOf (X := X41) rfl FN41 (by kernel_rfl) (by decide) (E41 X t id ⟨_, h.box.el, ents d.rows, h.mp, ?_, fun e => by rw [hm] at e; cases e⟩)
  intro v hv
  rw [hm] at hv; cases hv
  refine ⟨fun e => (by cases e), fun _ => ⟨_, hr.box.el, ?_⟩⟩
  show Loops B41_0 M41_0 _ (S41_0 [] .exact r.fr ((slN r.fr : Nat) : Int) 0 X ⟨0, []⟩)
  refine Loops.intro (fun b : Nat × Tok × Toks => S41_0 (r.frames.take b.1) b.2.1 r.fr ((slN r.fr : Nat) : Int) (b.1 : Int) X b.2.2) (fun b => b.1 ≤ r.frames.length ∧ b.2.1.fresh b.2.2) (fun b => r.frames.length - b.1) (0, .exact, ⟨0, []⟩) (by simp) ⟨Nat.zero_le _, trivial⟩ ?_
  rintro ⟨i, k, T⟩ ⟨hi, hk⟩
  have hi : i ≤ r.frames.length := hi
  refine L41_0 _ k r.fr _ (i : Int) X T ⟨fun e => ?_, fun e => ?_⟩
  ·have hi' : i < r.frames.length := by
    have : (i : Int) < ((slN r.fr : Nat) : Int) := by simpa using e
    rw [hlen] at this; omega
   obtain ⟨u, hu⟩ : ∃ u, r.fr = some u := by
    cases hq : r.fr with
    | none => rw [hq] at hlen; simp [slN] at hlen; omega
    | some u => exact ⟨u, rfl⟩
   have hul : u.len = r.frames.length := by rw [hu] at hlen; exact hlen
   have hsl : SlAt X cF (some u) r.frames := by rw [← hu]; exact hr.fr
   refine ⟨u, hu, by omega, by omega, r.frames[i], by rw [Int.toNat_natCast]; exact hsl.el hi', r.frames[i], c55 (hs.2 _ (List.getElem_mem _)), hk.own, ?_, ?_⟩
   ·simp only [List.length_take, List.length_cons, List.length_nil]; unfold room; omega
   ·rw [wrap_succ (by omega)]
    refine Again.mk (i + 1, .tk T.n, ⟨T.n + 1, T.n :: Tok.drop k T.l⟩) ?_ ⟨hi', Tok.fresh_new _ _⟩ (by show r.frames.length - (i + 1) < r.frames.length - i; omega)
    simp only
    rw [List.take_succ_eq_append_getElem hi']
  ·have hi' : i = r.frames.length := by
    have : ¬ (i : Int) < ((slN r.fr : Nat) : Int) := by simpa using e
    rw [hlen] at this; omega
   refine ⟨?_, rfl⟩
   show r.frames.take i = _
   rw [hi', List.take_length]
 ·have hid' : ∀ a ∈ d.ab.rows, a.id ≠ id := fun a ha e => hid ⟨a, ha, e⟩
  have hg := get_none hid'
  have hm := h.gone hid'
  have : d.ab.framesOf id = [] := by unfold MT.framesOf; rw [hg]
  rw [this]
  exact xcOf (X := X41) rfl FN41 (by kernel_rfl) (by decide) (E41 X t id ⟨_, h.box.el, ents d.rows, h.mp, (fun v hv => by rw [hm] at hv; cases hv), fun _ => ⟨fun _ => ⟨rfl, rfl⟩, fun e => by cases e⟩⟩)

end Go.Proofs.Ytaaedebknacheaa.AB

namespace Go.Proofs.Ytaaedebknacheaa.AB
open Go Go.Proofs Go.RowKit Go.Maps Go.Sort Go.Shelf

def keysL_ren : Go.Shelf.Ren :=
  {
  f := fun x =>
    match x with
    | 7 => 74
    | 10 => 100
    | n => n,
  t := fun x =>
    match x with
    | 23 => 89
    | 26 => 3
    | 3 => 92
    | 28 => 122
    | 0 => 0
    | 27 => 121
    | 33 => 44
    | 4 => 4
    | n => n,
  g := fun x =>
    x }

set_option maxRecDepth 100000 in
theorem keysL : SlLaysZI.n7 Try.prog keysL_ren :=
  { mixed := by kernel_rfl, f7 := Exists.intro "maps.Keys[map[int]*crucible/thread.one,int,*crucible/thread.one]" ⟨of_decide_eq_true (by kernel_rfl), Eq.trans Try.func74 (congrArg some (by kernel_rfl))⟩, f10 := Exists.intro "maps.Keys[map[int]*crucible/thread.one,int,*crucible/thread.one]$1" ⟨of_decide_eq_true (by kernel_rfl), Eq.trans Try.func100 (congrArg some (by kernel_rfl))⟩, t0 := Try.underlying0, a0 := Try.isAgg0, z0 := Try.sizeOf0, v0 := Try.zeroValue0, t4 := Try.underlying4, a4 := Try.isAgg4, z4 := Try.sizeOf4, v4 := Try.zeroValue4, t23 := Try.underlying89, a23 := Try.isAgg89, z23 := Try.sizeOf89, v23 := Try.zeroValue89, t26 := Try.underlying3, a26 := Try.isAgg3, z26 := Try.sizeOf3, v26 := Try.zeroValue3, t27 := Try.underlying121, a27 := Try.isAgg121, z27 := Try.sizeOf121, v27 := Try.zeroValue121, t28 := Try.underlying122, a28 := Try.isAgg122, z28 := Try.sizeOf122, v28 := Try.zeroValue122, t33 := Try.underlying44, a33 := Try.isAgg44, z33 := Try.sizeOf44, v33 := Try.zeroValue44 }

def sortedL_ren : Go.Shelf.Ren :=
  {
  f := fun x =>
    match x with
    | 6 => 73
    | 8 => 98
    | 9 => 99
    | 11 => 105
    | 13 => 107
    | 12 => 106
    | 23 => 117
    | 24 => 118
    | 14 => 108
    | 15 => 109
    | 16 => 110
    | 17 => 111
    | 18 => 112
    | 19 => 113
    | 20 => 114
    | 21 => 115
    | 22 => 116
    | 25 => 119
    | 26 => 120
    | 27 => 121
    | 28 => 122
    | 29 => 123
    | 30 => 124
    | 31 => 125
    | n => n,
  t := fun x =>
    match x with
    | 26 => 3
    | 28 => 122
    | 24 => 22
    | 0 => 0
    | 3 => 3
    | 37 => 139
    | 48 => 155
    | 50 => 157
    | 4 => 4
    | 40 => 149
    | 39 => 148
    | 45 => 32
    | 5 => 5
    | 9 => 9
    | 51 => 158
    | 55 => 132
    | 57 => 163
    | 58 => 164
    | 33 => 44
    | n => n,
  g := fun x =>
    x }

set_option maxRecDepth 100000 in
theorem sortedL : SlLaysZI.n6 Try.prog sortedL_ren :=
  { mixed := by kernel_rfl, f6 := Exists.intro "slices.Sorted[int]" ⟨of_decide_eq_true (by kernel_rfl), Eq.trans Try.func73 (congrArg some (by kernel_rfl))⟩, f8 := Exists.intro "slices.Collect[int]" ⟨of_decide_eq_true (by kernel_rfl), Eq.trans Try.func98 (congrArg some (by kernel_rfl))⟩, f11 := Exists.intro "slices.AppendSeq[[]int,int]" ⟨of_decide_eq_true (by kernel_rfl), Eq.trans Try.func105 (congrArg some (by kernel_rfl))⟩, t0 := Try.underlying0, a0 := Try.isAgg0, z0 := Try.sizeOf0, v0 := Try.zeroValue0, t24 := Try.underlying22, a24 := Try.isAgg22, z24 := Try.sizeOf22, v24 := Try.zeroValue22, t26 := Try.underlying3, a26 := Try.isAgg3, z26 := Try.sizeOf3, v26 := Try.zeroValue3, t28 := Try.underlying122, a28 := Try.isAgg122, z28 := Try.sizeOf122, v28 := Try.zeroValue122, i26 := Eq.refl (some (some (Value.int IntKind.i64 0), 1, 8)) }

def sortL_ren : Go.Shelf.Ren :=
  {
  f := fun x =>
    match x with
    | 5 => 99
    | 8 => 107
    | 7 => 106
    | 19 => 117
    | 20 => 118
    | 10 => 108
    | 11 => 109
    | 12 => 110
    | 13 => 111
    | 14 => 112
    | 15 => 113
    | 16 => 114
    | 17 => 115
    | 18 => 116
    | 30 => 119
    | 31 => 120
    | 32 => 121
    | 33 => 122
    | 34 => 123
    | 35 => 124
    | 40 => 125
    | n => n,
  t := fun x =>
    match x with
    | 23 => 22
    | 25 => 3
    | 3 => 3
    | 32 => 139
    | 22 => 22
    | 0 => 0
    | 44 => 155
    | 46 => 157
    | 4 => 4
    | 36 => 149
    | 35 => 148
    | 41 => 32
    | 5 => 5
    | 9 => 9
    | 53 => 158
    | 57 => 132
    | 63 => 163
    | 64 => 164
    | n => n,
  g := fun x =>
    x }

set_option maxRecDepth 100000 in
theorem sortL : SlLaysM.n5 Try.prog sortL_ren :=
  { mixed := by kernel_rfl, f5 := Exists.intro "slices.Sort[[]int,int]" ⟨of_decide_eq_true (by kernel_rfl), Eq.trans Try.func99 (congrArg some (by kernel_rfl))⟩, f7 := Exists.intro "slices.pdqsortOrdered[int]" ⟨of_decide_eq_true (by kernel_rfl), Eq.trans Try.func106 (congrArg some (by kernel_rfl))⟩, f8 := Eq.trans Try.func107 (congrArg some (by kernel_rfl)), f10 := Exists.intro "slices.insertionSortOrdered[int]" ⟨of_decide_eq_true (by kernel_rfl), Eq.trans Try.func108 (congrArg some (by kernel_rfl))⟩, f11 := Exists.intro "slices.heapSortOrdered[int]" ⟨of_decide_eq_true (by kernel_rfl), Eq.trans Try.func109 (congrArg some (by kernel_rfl))⟩, f12 := Exists.intro "slices.breakPatternsOrdered[int]" ⟨of_decide_eq_true (by kernel_rfl), Eq.trans Try.func110 (congrArg some (by kernel_rfl))⟩, f13 := Exists.intro "slices.choosePivotOrdered[int]" ⟨of_decide_eq_true (by kernel_rfl), Eq.trans Try.func111 (congrArg some (by kernel_rfl))⟩, f14 := Exists.intro "slices.reverseRangeOrdered[int]" ⟨of_decide_eq_true (by kernel_rfl), Eq.trans Try.func112 (congrArg some (by kernel_rfl))⟩, f15 := Exists.intro "slices.partialInsertionSortOrdered[int]" ⟨of_decide_eq_true (by kernel_rfl), Eq.trans Try.func113 (congrArg some (by kernel_rfl))⟩, f16 := Exists.intro "cmp.Less[int]" ⟨of_decide_eq_true (by kernel_rfl), Eq.trans Try.func114 (congrArg some (by kernel_rfl))⟩, f17 := Exists.intro "slices.partitionEqualOrdered[int]" ⟨of_decide_eq_true (by kernel_rfl), Eq.trans Try.func115 (congrArg some (by kernel_rfl))⟩, f18 := Exists.intro "slices.partitionOrdered[int]" ⟨of_decide_eq_true (by kernel_rfl), Eq.trans Try.func116 (congrArg some (by kernel_rfl))⟩, f19 := Eq.trans Try.func117 (congrArg some (by kernel_rfl)), f20 := Eq.trans Try.func118 (congrArg some (by kernel_rfl)), f30 := Exists.intro "slices.siftDownOrdered[int]" ⟨of_decide_eq_true (by kernel_rfl), Eq.trans Try.func119 (congrArg some (by kernel_rfl))⟩, f31 := Eq.trans Try.func120 (congrArg some (by kernel_rfl)), f32 := Eq.trans Try.func121 (congrArg some (by kernel_rfl)), f33 := Exists.intro "slices.medianAdjacentOrdered[int]" ⟨of_decide_eq_true (by kernel_rfl), Eq.trans Try.func122 (congrArg some (by kernel_rfl))⟩, f34 := Exists.intro "slices.medianOrdered[int]" ⟨of_decide_eq_true (by kernel_rfl), Eq.trans Try.func123 (congrArg some (by kernel_rfl))⟩, f35 := Exists.intro "cmp.isNaN[int]" ⟨of_decide_eq_true (by kernel_rfl), Eq.trans Try.func124 (congrArg some (by kernel_rfl))⟩, f40 := Exists.intro "slices.order2Ordered[int]" ⟨of_decide_eq_true (by kernel_rfl), Eq.trans Try.func125 (congrArg some (by kernel_rfl))⟩, t0 := Try.underlying0, a0 := Try.isAgg0, z0 := Try.sizeOf0, v0 := Try.zeroValue0, t3 := Try.underlying3, a3 := Try.isAgg3, z3 := Try.sizeOf3, v3 := Try.zeroValue3, t4 := Try.underlying4, a4 := Try.isAgg4, z4 := Try.sizeOf4, v4 := Try.zeroValue4, t5 := Try.underlying5, a5 := Try.isAgg5, z5 := Try.sizeOf5, v5 := Try.zeroValue5, t9 := Try.underlying9, a9 := Try.isAgg9, z9 := Try.sizeOf9, v9 := Try.zeroValue9, t22 := Try.underlying22, a22 := Try.isAgg22, z22 := Try.sizeOf22, v22 := Try.zeroValue22, t23 := Try.underlying22, a23 := Try.isAgg22, z23 := Try.sizeOf22, v23 := Try.zeroValue22, t25 := Try.underlying3, a25 := Try.isAgg3, z25 := Try.sizeOf3, v25 := Try.zeroValue3, t32 := Try.underlying139, a32 := Try.isAgg139, z32 := Try.sizeOf139, v32 := Try.zeroValue139, t35 := Try.underlying148, a35 := Try.isAgg148, z35 := Try.sizeOf148, v35 := Try.zeroValue148, t36 := Try.underlying149, a36 := Try.isAgg149, z36 := Try.sizeOf149, v36 := Try.zeroValue149, t41 := Try.underlying32, a41 := Try.isAgg32, z41 := Try.sizeOf32, v41 := Try.zeroValue32, t44 := Try.underlying155, a44 := Try.isAgg155, z44 := Try.sizeOf155, v44 := Try.zeroValue155, t46 := Try.underlying157, a46 := Try.isAgg157, z46 := Try.sizeOf157, v46 := Try.zeroValue157, t53 := Try.underlying158, a53 := Try.isAgg158, z53 := Try.sizeOf158, v53 := Try.zeroValue158, t57 := Try.underlying132, a57 := Try.isAgg132, z57 := Try.sizeOf132, v57 := Try.zeroValue132, t63 := Try.underlying163, a63 := Try.isAgg163, z63 := Try.sizeOf163, v63 := Try.zeroValue163, t64 := Try.underlying164, a64 := Try.isAgg164, z64 := Try.sizeOf164, v64 := Try.zeroValue164 }


theorem sortsL (m : Nat) : AnyZI.SortsIn Try.prog sortedL_ren Fence.wide m :=
  ⟨fun blk off cap ss W hH hblk hsz => callsIn_wide.2 (AnyM.slices_Sort_int sortL blk off cap ss W hH hblk hsz),
   fun p cap W => callsIn_wide.2 (AnyM.slices_Sort_int_none sortL p cap W)⟩

set_option maxHeartbeats 1000000 in
theorem live_calls {H : Type} (a b nn : Nat) (D0 : DataW H) (R : Value → Option (DataW H × List MemPlace)) (w : World) (hc : w.cell? ⟨a, 0, none⟩ = some (.map (some b))) (hown : w.ownsMap Try.prog 3 R b nn D0) (hmax : Maps.size D0 ≤ maxLen)
    (hbytes : Maps.size D0 * 8 ≤ 140737488355328) :
    Calls Try.prog 50 #[.pointer (some ⟨a, 0, none⟩)] w fun e w' => ∃ (v : Value) (ss : List Int), e = .returned v ∧ ss.Perm (intKeys D0) ∧
      w'.ownsRow w.heap.size 3 1 v ss.length ((ss.mergeSort (fun x y => decide (x ≤ y))).map encZ) ∧ Below w.heap.size w w' := by
  refine (callsIn_wide (n := 6)).1 ?_
  have hbl := hown.lt
  have hseq : SeqGives Fence.wide 2 Try.prog 100 #[.pointer (some ⟨w.heap.size, 0, none⟩)] encZ (fun ss => ss.Perm (intKeys D0)) (Maps.size D0) (w.alloc (.cells #[.map (some b)] 89)) :=
    AnyZI.keys_gives (ρ := keysL_ren) { keysL with } Fence.wide _ trivial rfl (by omega) w.heap.size b nn D0 _ (by simp) (by simp) (by
      obtain ⟨es, clock, hb, Ft, hs, hD⟩ := hown
      exact ⟨es, clock, (Below.heap_alloc _ _ b hbl).trans hb, Ft, hs, hD⟩)
  have cK : ∀ mb W, CallsIn Fence.wide 5 Try.prog 74 #[.map mb] W fun e w' => e = .returned (.func (.func 100) #[] #[.pointer (some ⟨W.heap.size, 0, none⟩)]) ∧ w' = W.alloc (.cells #[.map mb] 89) := fun mb W => AnyZI.keys_in keysL Fence.wide 5 trivial rfl mb W
  have cS := AnyZI.sorted_in sortedL Fence.wide 5 trivial trivial trivial trivial rfl (by omega) (sortsL _) (enters_of Try.func99 (by kernel_rfl) rfl) 100 #[.pointer (some ⟨w.heap.size, 0, none⟩)] trivial (enters_of Try.func100 (by kernel_rfl) rfl) _ _ hmax hbytes _ hseq
  change CallsIn _ _ Try.prog 73 _ _ _ at cS
  have hfK : Fence.wide.fn 74 := trivial
  have hfS : Fence.wide.fn 73 := trivial
  refine callsIn_of_wp Try.func50 rfl trivial ?_ rfl
  simp only [Try.ntmps50, List.size_toArray, List.length_cons, List.length_nil, Nat.reduceAdd, Nat.reduceSub, Array.replicate_succ, Array.replicate_zero, List.push_toArray, List.append_toArray, List.nil_append, List.cons_append]
  gi_wp2_with (first
    | (gi_at_call 74; refine (cK _ _).mono ?_; rintro e w' ⟨rfl, rfl⟩)
    | (gi_at_call 73; refine cS.mono ?_; rintro e w' ⟨v, ss, rfl, hS, hrow, hnil, hb⟩))
  go_ret
  exact ⟨v, ss, rfl, hS, ownsRow_base_a hrow (by simp), ((Below.refl _ w).alloc (Nat.le_refl _) _).trans (hb.mono (by simp))⟩

end Go.Proofs.Ytaaedebknacheaa.AB

namespace Go.Proofs.Ytaaedebknacheaa.AB
open Go

variable {X X' : XH} {t : Nat} {d : DT}

def leN : Int → Int → Bool := fun x y => decide (x ≤ y)

def noR : Value → Option (DataW Unit × List MemPlace) := fun _ => some (.nil, [])

theorem rg_int {a : Int} {x : MapEntry} (hx : x.key = .int .i64 a) (ha : I64 a) : WideElems.rd Try.prog 3 noR x = some (.int .i64 a, .nil) := by
 unfold WideElems.rd
 rw [hx, Go.Maps.keyOf_int_mk Try.underlying3 (by
  have h1 := ha.1
  have h2 := ha.2
  simp [Lit.wf, IntKind.min, IntKind.max, IntKind.bits, IntKind.signed]
  omega)]
 rfl

theorem c50 (h : Rep X t d) (hi64 : ∀ a ∈ d.ab.rows, I64 a.id) (hsz : d.ab.rows.length < 1000000) :
  RC Try.prog 50 [.pure (.slice (.int .i64))] [.ref (some t) yZ2 0 []] X ((d.ab.rows.map (·.id)).mergeSort leN) := by
 intro Mine G w vs hi hl hr
 obtain ⟨u, rfl⟩ : ∃ u, vs = #[u] := by
  have : vs.size = 1 := hl.symm
  exact ⟨vs[0], by
   apply Array.ext
   ·simpa using this
   ·intro i h1 h2
    have : i = 0 := by simp at h2; omega
    subst this; rfl⟩
 have hu := hr 0 (.ref (some t) yZ2 0 []) u rfl rfl
 refine .inl ⟨⟨Try.f50, by kernel_rfl, by decide, rfl⟩, ?_⟩
 cases hu with
 | ref _ _ _ _ b ct hl0 hp =>
 -- the table
 obtain ⟨b', h1, h2, h3, cur, el, h4, h5, h6⟩ := hi.xarr rfl h.box.arr
 rw [hl0] at h1; cases h1
 obtain ⟨u0, q1, q2, q3⟩ := h6 0 _ rfl 0 (.mp (.int .i64) (.ref yZ3) (some d.hm)) rfl
 cases q2 with
 | mp _ _ _ r sz ct' hlm =>
 obtain ⟨r', sz', ct'', g1, g2, g3, ents', ck, g4, g5, g6, g7⟩ := hi.xmp rfl (mp_at.2 h.map)
 rw [hlm] at g1; cases g1
 have hlen : ents'.size = d.ab.rows.length := by
  rw [← g5]; simp [ents, DT.ab]
 have hkey : ∀ (i : Nat) x, ents'[i]? = some x → ∃ a, d.ab.rows[i]? = some a ∧ x.key = .int .i64 a.id := by
  intro i x hx
  have hlt := (Array.getElem?_eq_some_iff.1 hx).1
  have hi2 : i < (ents d.rows).length := by rw [g5]; exact hlt
  have hi3 : i < d.rows.length := by simpa [ents] using hi2
  have he : (ents d.rows)[i]? = some (d.rows[i].id, some d.rows[i].h) := by
   simp [ents, List.getElem?_map, List.getElem?_eq_getElem hi3]
  have := (g6 i _ x he hx).1
  refine ⟨d.rows[i].toAb, by simp [DT.ab, List.getElem?_map, List.getElem?_eq_getElem hi3], ?_⟩
  have hk : VR G (.int .i64 d.rows[i].id) x.key := this
  generalize x.key = y at hk
  cases hk; rfl
 have hrd : ∀ (i : Nat) x, ents'[i]? = some x → ∃ a, d.ab.rows[i]? = some a ∧ WideElems.rd Try.prog 3 noR x = some (.int .i64 a.id, .nil) := by
  intro i x hx
  obtain ⟨a, ha, hk⟩ := hkey i x hx
  exact ⟨a, ha, rg_int hk (hi64 a (List.mem_of_getElem? ha))⟩
 have fit : WideElems.Fit Try.prog 3 noR ents' ck := by
  refine ⟨?_, g7, fun x hx => ?_⟩
  ·rw [hlen]; unfold maxLen; omega
  ·obtain ⟨i, hi'⟩ := List.getElem?_of_mem hx
   obtain ⟨a, _, ha⟩ := hrd i x (by simpa using hi')
   exact ⟨_, ha⟩
 have hown := World.ownsMap_of_fit (w := w) (R := noR) g4 fit (fun _ _ _ e => e)
 have hpm := WideShapes.sorted_perm (ents'.toList.map (WideElems.rg Try.prog 3 noR))
 have hkeys : intKeys (.map (ents'.toList.map (WideElems.rg Try.prog 3 noR))) = d.ab.rows.map (·.id) := by
  show (ents'.toList.map (WideElems.rg Try.prog 3 noR)).map (fun p => Go.intOf p.1) = _
  refine List.ext_getElem? fun i => ?_
  rw [List.map_map, List.getElem?_map, List.getElem?_map]
  cases hx : ents'.toList[i]? with
  | none =>
   have : d.ab.rows[i]? = none := by
    rw [List.getElem?_eq_none_iff] at hx ⊢
    rw [← hlen]; simpa using hx
   rw [this]; rfl
  | some x =>
   obtain ⟨a, ha, hk⟩ := hrd i x (by simpa using hx)
   rw [ha]
   simp only [Option.map_some, Function.comp, WideElems.rg, hk, Option.getD_some]
   rfl
 have hsize : Go.Maps.size (DataW.map ((ents'.toList.map (WideElems.rg Try.prog 3 noR)).foldr DataW.insert [])) = d.ab.rows.length := by
  show ((ents'.toList.map (WideElems.rg Try.prog 3 noR)).foldr DataW.insert []).length = _
  rw [hpm.length_eq]; simp [hlen]
 have hcell : w.cell? ⟨b, 0, none⟩ = some (.map (some r)) := by
  unfold World.cell?
  simp only [h4]
  simpa using q1
 have hcall := live_calls b r ents'.size _ noR w hcell hown (by rw [hsize]; unfold maxLen; omega) (by rw [hsize]; omega)
 refine hcall.mono ?_
 rintro e w' ⟨v, ss, rfl, hs, hrow, hbel⟩
 have hssp : ss.Perm (d.ab.rows.map (·.id)) := by
  refine hs.trans ?_
  rw [← hkeys]
  unfold intKeys
  exact hpm.map _
 have hms : ss.mergeSort (fun x y => decide (x ≤ y)) = (d.ab.rows.map (·.id)).mergeSort leN := mergeSort_of_perm_i hssp
 have hlen2 : ss.length = ((d.ab.rows.map (·.id)).mergeSort leN).length := by
  rw [← hms]; simp
 rw [hms, hlen2] at hrow
 obtain ⟨G', k1, k2, k3, k4, k5⟩ := hi.rowInt hbel hrow
 exact ⟨v, _, X, G', rfl, ⟨rfl, rfl⟩, k1, k2, k3, k4, k5⟩

end Go.Proofs.Ytaaedebknacheaa.AB

namespace Go.Proofs.Ytaaedebknacheaa.AB
open Go


def RTab.jof (R : RTab) (id : Int) : List Int := R.joins.filter fun j => R.jn j == id
def RTab.abs (R : RTab) (id : Int) : Option Ab :=
 match R.at id with
 | none => none
 | some x => if x.st = 5 then none else some ⟨id, x.st, x.fr, R.jof id⟩

structure Cq (m : MT) (R : RTab) : Prop where
 last : m.last = R.l.length
 queue : m.queue = R.queue
 ids : m.rows.map (·.id) = R.lives
 get : ∀ id, m.get id = R.abs id

structure RInv (R : RTab) (n : Nat) : Prop where
 one : ∀ i j x y, R.at i = some x → R.at j = some y → x.st = 2 → y.st = 2 → i = j
 qu : ∀ j ∈ R.queue, ∃ x, R.at j = some x ∧ x.st = 1
 qn : R.queue.Nodup
 jo : ∀ j ∈ R.joins, ∃ x, R.at j = some x ∧ x.st = 4 ∧ x.jn ≤ R.l.length
 jn : R.joins.Nodup
 dead : ∀ id x, R.at id = some x → x.st = 5 → x.fr = []
 fit : ∀ id x, R.at id = some x → x.fr.length ≤ 200 ∧ ∀ f ∈ x.fr, f.2.2.1.length ≤ 100 ∧ f.2.2.2.length ≤ 100
 ln : R.l.length ≤ n
 qj : R.queue.length + R.joins.length ≤ n

theorem RInv.mono {R : RTab} {n k : Nat} (h : RInv R n) (hk : n ≤ k) : RInv R k := ⟨h.one, h.qu, h.qn, h.jo, h.jn, h.dead, h.fit, Nat.le_trans h.ln hk, Nat.le_trans h.qj hk⟩

variable {m : MT} {R : RTab} {id : Int} {x : TH} {n : Nat}

theorem find_upd {f : Ab → Ab} (hf : ∀ a, (f a).id = a.id) (j : Int) : ∀ l : List Ab, (updAb id f l).find? (fun a => decide (a.id = j)) = if j = id then (l.find? fun a => decide (a.id = j)).map f else l.find? fun a => decide (a.id = j)
 | [] => by simp [updAb]
 | a :: l => by
  have ih := find_upd hf j l
  simp only [updAb, List.map_cons, List.find?_cons] at ih ⊢
  by_cases e1 : a.id = id
  ·rw [if_pos e1]
   by_cases e2 : a.id = j
   ·have : (f a).id = j := (hf a).trans e2
    simp only [this, decide_true, e2, if_pos (e2.symm.trans e1)]
    rfl
   ·have : ¬ (f a).id = j := fun q => e2 ((hf a).symm.trans q)
    simp only [this, decide_false, e2]
    exact ih
  ·rw [if_neg e1]
   by_cases e2 : a.id = j
   ·simp only [e2, decide_true, if_neg (fun q : j = id => e1 (e2.trans q))]
   ·simp only [e2, decide_false]
    exact ih

theorem ids_upd {f : Ab → Ab} (hf : ∀ a, (f a).id = a.id) (l : List Ab) : (updAb id f l).map (·.id) = l.map (·.id) := by
 unfold updAb
 rw [List.map_map]
 refine List.map_congr_left fun a _ => ?_
 simp only [Function.comp]
 split
 ·exact hf a
 ·rfl

theorem jof_upd {f : TH → TH} (h1 : 1 ≤ id) (hf : ∀ x, (f x).jn = x.jn) (j : Int) : (R.upd id f).jof j = R.jof j := by
 unfold RTab.jof
 show R.joins.filter _ = _
 congr 1
 funext k
 rw [jn_upd h1 hf]

theorem abs_upd {f : TH → TH} (h1 : 1 ≤ id) (hf : ∀ x, (f x).jn = x.jn) (j : Int) :
  (R.upd id f).abs j = if j = id then (R.at j).bind (fun x => if (f x).st = 5 then none else some ⟨j, (f x).st, (f x).fr, R.jof j⟩) else R.abs j := by
 unfold RTab.abs
 rw [at_upd h1, jof_upd h1 hf]
 by_cases e : j = id
 ·rw [if_pos e, if_pos e]
  cases R.at j <;> rfl
 ·rw [if_neg e, if_neg e]

theorem liveL_gt : ∀ (l : List TH) (k : Nat) (j : Int), j ∈ liveL k l → (k : Int) < j
 | [], k, j, h => by cases h
 | x :: l, k, j, h => by
  unfold liveL at h
  split at h
  ·have := liveL_gt l (k + 1) j h; omega
  ·rcases List.mem_cons.1 h with rfl | h
   ·omega
   ·have := liveL_gt l (k + 1) j h; omega

theorem liveL_sorted : ∀ (l : List TH) (k : Nat), (liveL k l).Pairwise (· < ·)
 | [], k => .nil
 | x :: l, k => by
  unfold liveL
  split
  ·exact liveL_sorted l (k + 1)
  ·exact List.pairwise_cons.2 ⟨fun j hj => by have := liveL_gt l (k + 1) j hj; omega, liveL_sorted l (k + 1)⟩

theorem liveL_modify {f : TH → TH} : ∀ (l : List TH) (i k : Nat), (∀ x, l[i]? = some x → ((f x).st = 5 ↔ x.st = 5)) → liveL k (l.modify i f) = liveL k l
 | [], i, k, h => by simp
 | x :: l, 0, k, h => by
  have := h x rfl
  simp only [List.modify_zero_cons, liveL, this]
 | x :: l, i + 1, k, h => by
  have := liveL_modify l i (k + 1) (fun y hy => h y (by simpa using hy))
  simp only [List.modify_succ_cons, liveL, this]

theorem liveL_die {f : TH → TH} : ∀ (l : List TH) (i k : Nat) (x : TH), l[i]? = some x → (f x).st = 5 → liveL k (l.modify i f) = (liveL k l).filter fun j => decide (j ≠ (k : Int) + i + 1)
 | [], i, k, x, h, _ => by simp at h
 | y :: l, 0, k, x, h, h5 => by
  simp only [List.getElem?_cons_zero, Option.some.injEq] at h
  subst h
  have hn : (liveL (k + 1) l).filter (fun j => decide (j ≠ (k : Int) + (0 : Nat) + 1)) = liveL (k + 1) l := List.filter_eq_self.2 fun j hj => by
   have := liveL_gt l (k + 1) j hj
   simp only [decide_eq_true_eq]; omega
  simp only [List.modify_zero_cons, liveL, if_pos h5]
  split
  ·exact hn.symm
  ·rw [List.filter_cons_of_neg (by simp)]
   exact hn.symm
 | y :: l, i + 1, k, x, h, h5 => by
  have ih := liveL_die l i (k + 1) x (by simpa using h) h5
  have he : (fun j : Int => decide (j ≠ ((k + 1 : Nat) : Int) + i + 1)) = fun j : Int => decide (j ≠ (k : Int) + ((i + 1 : Nat) : Int) + 1) := by
   funext j
   congr 1
   have : ((k + 1 : Nat) : Int) + i + 1 = (k : Int) + ((i + 1 : Nat) : Int) + 1 := by omega
   rw [this]
  rw [he] at ih
  simp only [List.modify_succ_cons, liveL, ih]
  split
  ·rfl
  ·rw [List.filter_cons_of_pos (by simp; omega)]

theorem at_idx (hx : R.at id = some x) : 1 ≤ id ∧ R.l[(id - 1).toNat]? = some x := by
 unfold RTab.at at hx
 split at hx
 ·exact ⟨by assumption, hx⟩
 ·cases hx

theorem lives_upd {f : TH → TH} (hx : R.at id = some x) (hf : (f x).st = 5 ↔ x.st = 5) : (R.upd id f).lives = R.lives := by
 obtain ⟨h1, h2⟩ := at_idx hx
 exact liveL_modify _ _ _ fun y hy => by rw [h2] at hy; cases hy; exact hf

theorem lives_die {f : TH → TH} (hx : R.at id = some x) (hf : (f x).st = 5) : (R.upd id f).lives = R.lives.filter fun j => decide (j ≠ id) := by
 obtain ⟨h1, h2⟩ := at_idx hx
 have := liveL_die R.l (id - 1).toNat 0 x h2 hf
 refine Eq.trans this ?_
 show (liveL 0 R.l).filter _ = _
 congr 1
 funext j
 congr 1
 have : ((0 : Nat) : Int) + (id - 1).toNat + 1 = id := by omega
 rw [this]

theorem Cq.upd (h : Cq m R) (hx : R.at id = some x) (h5 : x.st ≠ 5) {f : TH → TH} {g : Ab → Ab} (hj : ∀ x, (f x).jn = x.jn) (hf : (f x).st ≠ 5) (hi : ∀ a, (g a).id = a.id)
  (hg : g ⟨id, x.st, x.fr, R.jof id⟩ = ⟨id, (f x).st, (f x).fr, R.jof id⟩) : Cq { m with rows := updAb id g m.rows } (R.upd id f) := by
 have h1 := (at_idx hx).1
 refine ⟨h.last.trans (by rw [upd_len]), h.queue, (ids_upd hi _).trans (h.ids.trans (lives_upd hx ⟨fun q => absurd q hf, fun q => absurd q h5⟩).symm), fun j => ?_⟩
 show (updAb id g m.rows).find? _ = _
 rw [find_upd hi, abs_upd h1 hj]
 have hgj := h.get j
 unfold MT.get at hgj
 rw [hgj]
 by_cases e : j = id
 ·subst e
  rw [if_pos rfl, if_pos rfl]
  unfold RTab.abs
  rw [hx]
  simp only [if_neg h5, Option.map_some, hg, Option.bind_some, if_neg hf]
 ·rw [if_neg e, if_neg e]

theorem Cq.set (h : Cq m R) (hx : R.at id = some x) (h5 : x.st ≠ 5) {s : Int} (hs : s ≠ 5) : Cq (m.set id s) (R.upd id fun x => { x with st := s }) :=
 h.upd hx h5 (f := fun x => { x with st := s }) (fun _ => rfl) hs (fun _ => rfl) rfl

theorem Cq.turn (h : Cq m R) {r : Int} : Cq { m with run := r } R := ⟨h.last, h.queue, h.ids, h.get⟩

theorem Cq.qto (h : Cq m R) (q : List Int) : Cq { m with queue := q } { R with queue := q } := ⟨h.last, rfl, h.ids, h.get⟩

theorem Cq.ready (h : Cq m R) (hx : R.at id = some x) (h5 : x.st ≠ 5) : Cq (m.ready id) (R.ready id) := by
 have := (h.set hx h5 (s := 1) (by decide)).qto (m.queue ++ [id])
 rw [show (m.queue ++ [id]) = R.queue ++ [id] by rw [h.queue]] at this
 unfold MT.ready
 rw [show (m.queue ++ [id]) = R.queue ++ [id] by rw [h.queue]]
 exact this

theorem Cq.fold : ∀ (l : List Int) {m : MT} {R : RTab}, Cq m R → (∀ j ∈ l, ∃ x, R.at j = some x ∧ x.st ≠ 5) → Cq (l.foldl MT.ready m) (l.foldl RTab.ready R)
 | [], _, _, h, _ => h
 | a :: l, m, R, h, hl => by
  obtain ⟨x, hx, h5⟩ := hl a (List.mem_cons_self ..)
  refine Cq.fold l (h.ready hx h5) fun j hj => ?_
  obtain ⟨y, hy, h6⟩ := hl j (List.mem_cons_of_mem _ hj)
  rw [at_ready (at_idx hx).1, hy]
  split
  ·exact ⟨_, rfl, by show (1 : Int) ≠ 5; decide⟩
  ·exact ⟨_, rfl, h6⟩

theorem upd_upd {f g : TH → TH} : (R.upd id f).upd id g = R.upd id fun x => g (f x) := by
 unfold RTab.upd
 dsimp only
 congr 1
 refine List.ext_getElem? fun i => ?_
 rw [List.getElem?_modify, List.getElem?_modify, List.getElem?_modify]
 cases R.l[i]? with
 | none => split <;> rfl
 | some w => split <;> rfl

theorem at_mem' (hx : x ∈ R.l) : ∃ id, R.at id = some x := by
 obtain ⟨i, hi⟩ := List.getElem?_of_mem hx
 refine ⟨(i : Int) + 1, ?_⟩
 unfold RTab.at
 rw [if_pos (by omega), show ((i : Int) + 1 - 1).toNat = i by omega, hi]

theorem cur_zero (h : ∀ j x, R.at j = some x → x.st ≠ 2) : R.cur = 0 := cur_none fun x hx => by
 obtain ⟨j, hj⟩ := at_mem' hx
 exact h j x hj

theorem zero_cur (h : R.cur = 0) (hx : R.at id = some x) : x.st ≠ 2 := by
 intro h2
 unfold RTab.cur at h
 cases hf : R.l.findIdx? (fun x => x.st == 2) with
 | none =>
  have := List.findIdx?_eq_none_iff.1 hf x (RTab.at_mem hx)
  simp [h2] at this
 | some i => rw [hf] at h; dsimp only at h; omega

theorem cur_of (hi : ∀ i j x y, R.at i = some x → R.at j = some y → x.st = 2 → y.st = 2 → i = j) (hx : R.at id = some x) (h2 : x.st = 2) : R.cur = id := by
 by_cases h : R.cur = 0
 ·exact absurd h2 (zero_cur h hx)
 ·obtain ⟨y, hy, hy2⟩ := cur_some h
  exact hi _ _ _ _ hy hx hy2 h2

theorem Cq.err (h : Cq m R) (id : Int) : errTop m id = R.errTop id := by
 unfold AB.errTop RTab.errTop
 rw [h.get]
 unfold RTab.abs
 cases R.at id with
 | none => rfl
 | some x =>
  dsimp only
  by_cases h5 : x.st = 5
  ·rw [if_pos h5, if_pos h5]
  ·rw [if_neg h5, if_neg h5]

theorem Cq.top (h : Cq m R) (id : Int) : m.top id = R.top id := by
 unfold MT.top RTab.top
 rw [h.get]
 unfold RTab.abs
 cases R.at id with
 | none => rfl
 | some x =>
  dsimp only
  by_cases h5 : x.st = 5
  ·rw [if_pos h5, if_pos h5]
  ·rw [if_neg h5, if_neg h5]
   try rfl

theorem Cq.state (h : Cq m R) (id : Int) : m.state id = match R.at id with | some x => x.st | none => 0 := by
 unfold MT.state
 rw [h.get, h.last]
 unfold RTab.abs
 cases hx : R.at id with
 | none =>
  dsimp only
  rw [if_neg]
  intro q
  obtain ⟨y, hy⟩ := RTab.at_some (R := R) q.1 q.2
  rw [hx] at hy; cases hy
 | some x =>
  dsimp only
  by_cases h5 : x.st = 5
  ·rw [if_pos h5]
   dsimp only
   rw [if_pos (RTab.at_le hx), h5]
  ·rw [if_neg h5]

theorem Cq.frames (h : Cq m R) (hd : ∀ id x, R.at id = some x → x.st = 5 → x.fr = []) (id : Int) : m.framesOf id = match R.at id with | some x => x.fr | none => [] := by
 unfold MT.framesOf
 rw [h.get]
 unfold RTab.abs
 cases hx : R.at id with
 | none => rfl
 | some x =>
  dsimp only
  by_cases h5 : x.st = 5
  ·rw [if_pos h5, hd id x hx h5]
  ·rw [if_neg h5]

theorem Cq.has (h : Cq m R) (hx : R.at id = some x) (h5 : x.st ≠ 5) : m.has id := by
 have := h.get id
 unfold RTab.abs at this
 rw [hx] at this
 simp only [if_neg h5] at this
 unfold MT.get at this
 exact ⟨_, List.mem_of_find?_eq_some this, rfl⟩

theorem Cq.row (h : Cq m R) (hn : (m.rows.map (·.id)).Nodup) {a : Ab} (ha : a ∈ m.rows) : ∃ x, R.at a.id = some x ∧ x.st ≠ 5 ∧ a = ⟨a.id, x.st, x.fr, R.jof a.id⟩ := by
 have hg : m.get a.id = some a := by
  unfold MT.get
  generalize m.rows = l at hn ha
  induction l with
  | nil => cases ha
  | cons b l ih =>
   rw [List.map_cons, List.nodup_cons] at hn
   rcases List.mem_cons.1 ha with rfl | ha
   ·simp
   ·have : b.id ≠ a.id := fun q => hn.1 (by rw [q]; exact List.mem_map.2 ⟨a, ha, rfl⟩)
    simp only [List.find?_cons, this, decide_false]
    exact ih hn.2 ha
 rw [h.get] at hg
 unfold RTab.abs at hg
 cases hx : R.at a.id with
 | none => rw [hx] at hg; cases hg
 | some x =>
  rw [hx] at hg
  dsimp only at hg
  by_cases h5 : x.st = 5
  ·rw [if_pos h5] at hg; cases hg
  ·rw [if_neg h5] at hg
   exact ⟨x, rfl, h5, (Option.some.inj hg).symm⟩

theorem Cq.nodup (h : Cq m R) : (m.rows.map (·.id)).Nodup := by
 rw [h.ids]
 exact (liveL_sorted R.l 0).imp fun q => by omega

theorem Cq.live (h : Cq m R) : (m.rows.map (·.id)).mergeSort leN = R.lives := by
 rw [h.ids]
 exact List.mergeSort_of_pairwise ((liveL_sorted R.l 0).imp fun q => by simp only [leN, decide_eq_true_eq]; omega)

structure Cp (m : MT) (R : RTab) (n : Nat) : Prop where
 cq : Cq m R
 run : m.run = R.cur
 inv : RInv R n

theorem Cp.mono {k : Nat} (h : Cp m R n) (hk : n ≤ k) : Cp m R k := ⟨h.cq, h.run, h.inv.mono hk⟩

theorem Cp.same (h : Cp m R n) {α : Type} {a : α × MT} {b : α × RTab} (e1 : a.1 = b.1) (e2 : a.2 = m) (e3 : b.2 = R) : a.1 = b.1 ∧ Cp a.2 b.2 (n + 1) := ⟨e1, by rw [e2, e3]; exact h.mono (Nat.le_succ _)⟩

end Go.Proofs.Ytaaedebknacheaa.AB

namespace Go.Proofs.Ytaaedebknacheaa.AB
open Go


variable {m : MT} {R R' : RTab} {id : Int} {x x' : TH} {n : Nat}

theorem RInv.turn (h : RInv R n) (hl : R.l.length ≤ R'.l.length) (hl2 : R'.l.length ≤ n + 1) (hat : ∀ j, R'.at j = if j = id then some x' else R.at j) (h2 : x'.st = 2 → ∀ j x, j ≠ id → R.at j = some x → x.st ≠ 2)
  (qu : ∀ j ∈ R'.queue, if j = id then x'.st = 1 else j ∈ R.queue) (qn : R'.queue.Nodup) (jo : ∀ j ∈ R'.joins, if j = id then x'.st = 4 ∧ x'.jn ≤ R'.l.length else j ∈ R.joins) (jn : R'.joins.Nodup)
  (dead : x'.st = 5 → x'.fr = []) (fit : x'.fr.length ≤ 200 ∧ ∀ f ∈ x'.fr, f.2.2.1.length ≤ 100 ∧ f.2.2.2.length ≤ 100) (qj : R'.queue.length + R'.joins.length ≤ n + 1) : RInv R' (n + 1) := by
 have case' : ∀ {j : Int} {y : TH}, R'.at j = some y → (j = id ∧ y = x') ∨ (j ≠ id ∧ R.at j = some y) := fun {j y} hy => by
  rw [hat] at hy
  by_cases e : j = id
  ·rw [if_pos e] at hy; exact .inl ⟨e, (Option.some.inj hy).symm⟩
  ·rw [if_neg e] at hy; exact .inr ⟨e, hy⟩
 refine ⟨fun i j y z hy hz h3 h4 => ?_, fun j hj => ?_, qn, fun j hj => ?_, jn, fun j y hy h5 => ?_, fun j y hy => ?_, hl2, qj⟩
 ·rcases case' hy with ⟨e1, e2⟩ | ⟨e1, e2⟩
  ·rcases case' hz with ⟨e3, e4⟩ | ⟨e3, e4⟩
   ·exact e1.trans e3.symm
   ·subst e2; exact absurd h4 (h2 h3 j z e3 e4)
  ·rcases case' hz with ⟨e3, e4⟩ | ⟨e3, e4⟩
   ·subst e4; exact absurd h3 (h2 h4 i y e1 e2)
   ·exact h.one i j y z e2 e4 h3 h4
 ·have := qu j hj
  rw [hat]
  by_cases e : j = id
  ·rw [if_pos e] at this ⊢; exact ⟨_, rfl, this⟩
  ·rw [if_neg e] at this ⊢; exact h.qu j this
 ·have := jo j hj
  rw [hat]
  by_cases e : j = id
  ·rw [if_pos e] at this ⊢; exact ⟨_, rfl, this⟩
  ·rw [if_neg e] at this ⊢
   obtain ⟨y, hy, h4, h5⟩ := h.jo j this
   exact ⟨y, hy, h4, by omega⟩
 ·rcases case' hy with ⟨e1, e2⟩ | ⟨e1, e2⟩
  ·subst e2; exact dead h5
  ·exact h.dead j y e2 h5
 ·rcases case' hy with ⟨e1, e2⟩ | ⟨e1, e2⟩
  ·subst e2; exact fit
  ·exact h.fit j y e2

theorem cur_congr (hone : ∀ i j x y, R'.at i = some x → R'.at j = some y → x.st = 2 → y.st = 2 → i = j) (hc : ∀ j, (∃ x, R'.at j = some x ∧ x.st = 2) ↔ ∃ x, R.at j = some x ∧ x.st = 2) : R'.cur = R.cur := by
 by_cases h : R.cur = 0
 ·rw [h]
  refine cur_zero fun j x hx h2 => ?_
  obtain ⟨y, hy, hy2⟩ := (hc j).1 ⟨x, hx, h2⟩
  exact zero_cur h hy hy2
 ·obtain ⟨y, hy, hy2⟩ := cur_some h
  obtain ⟨x, hx, hx2⟩ := (hc R.cur).2 ⟨y, hy, hy2⟩
  exact cur_of hone hx hx2

theorem cur_keep (hi : RInv R' n) (hat : ∀ j, R'.at j = if j = id then some x' else R.at j) (hs : x'.st = 2 ↔ ∃ x, R.at id = some x ∧ x.st = 2) : R'.cur = R.cur := by
 refine cur_congr hi.one fun j => ?_
 rw [hat]
 by_cases e : j = id
 ·subst e
  rw [if_pos rfl]
  constructor
  ·rintro ⟨y, hy, h2⟩
   cases hy
   exact hs.1 h2
  ·intro h; exact ⟨_, rfl, hs.2 h⟩
 ·rw [if_neg e]

theorem Cp.fr (h : Cp m R n) (hx : R.at id = some x) (h5 : x.st ≠ 5) {f : TH → TH} {g : Ab → Ab} (hst : ∀ x, (f x).st = x.st) (hjn : ∀ x, (f x).jn = x.jn) (hi : ∀ a, (g a).id = a.id)
  (hg : g ⟨id, x.st, x.fr, R.jof id⟩ = ⟨id, x.st, (f x).fr, R.jof id⟩) (hfit : (f x).fr.length ≤ 200 ∧ ∀ f' ∈ (f x).fr, f'.2.2.1.length ≤ 100 ∧ f'.2.2.2.length ≤ 100) : Cp { m with rows := updAb id g m.rows } (R.upd id f) (n + 1) := by
 have h1 := (at_idx hx).1
 have hat : ∀ j, (R.upd id f).at j = if j = id then some (f x) else R.at j := fun j => by
  rw [at_upd h1]
  by_cases e : j = id
  ·rw [if_pos e, if_pos e, e, hx]; rfl
  ·rw [if_neg e, if_neg e]
 have hinv : RInv (R.upd id f) (n + 1) := by
  have hle := h.inv.ln
  have hqj := h.inv.qj
  refine h.inv.turn (by rw [upd_len]; exact Nat.le_refl _) (by rw [upd_len]; omega) hat ?_ (fun j hj => ?_) h.inv.qn (fun j hj => ?_) h.inv.jn (fun q => absurd ((hst x).symm.trans q) h5) hfit (by show R.queue.length + R.joins.length ≤ _; omega)
  ·intro h2 j y hne hy hy2
   exact hne (h.inv.one j id y x hy hx hy2 ((hst x).symm.trans h2))
  ·by_cases e : j = id
   ·rw [if_pos e]
    obtain ⟨y, hy, hy1⟩ := h.inv.qu j hj
    rw [e, hx] at hy; cases hy
    exact (hst x).trans hy1
   ·rw [if_neg e]; exact hj
  ·by_cases e : j = id
   ·rw [if_pos e]
    obtain ⟨y, hy, hy1, hy2⟩ := h.inv.jo j hj
    rw [e, hx] at hy; cases hy
    exact ⟨(hst x).trans hy1, by rw [hjn, upd_len]; exact hy2⟩
   ·rw [if_neg e]; exact hj
 refine ⟨h.cq.upd hx h5 hjn (by rw [hst]; exact h5) hi (by rw [hst]; exact hg), ?_, hinv⟩
 exact h.run.trans (cur_keep hinv hat (by rw [hst]; exact ⟨fun q => ⟨x, hx, q⟩, fun ⟨y, hy, q⟩ => by rw [hx] at hy; cases hy; exact q⟩)).symm

theorem get_of (h : Cq m R) (hx : R.at id = some x) (h5 : x.st ≠ 5) : m.get id = some ⟨id, x.st, x.fr, R.jof id⟩ := by
 rw [h.get]
 unfold RTab.abs
 rw [hx]
 simp only [if_neg h5]

theorem get_gone (h : Cq m R) (hx : R.at id = none ∨ ∃ x, R.at id = some x ∧ x.st = 5) : m.get id = none := by
 rw [h.get]
 unfold RTab.abs
 rcases hx with hx | ⟨x, hx, h5⟩
 ·rw [hx]
 ·rw [hx]; simp only [if_pos h5]

theorem ok_push (h : Cp m R n) {f : Fr} (hf : f.2.2.1.length ≤ 100 ∧ f.2.2.2.length ≤ 100) (id : Int) : (m.pushR id f).1 = (R.pushR id f).1 ∧ Cp (m.pushR id f).2 (R.pushR id f).2 (n + 1) := by
 unfold MT.pushR RTab.pushR
 cases hx : R.at id with
 | none =>
  rw [get_gone h.cq (.inl hx)]
  exact ⟨rfl, h.mono (Nat.le_succ _)⟩
 | some x =>
  dsimp only
  by_cases h5 : x.st = 5
  ·rw [get_gone h.cq (.inr ⟨x, hx, h5⟩), if_pos h5]
   exact ⟨rfl, h.mono (Nat.le_succ _)⟩
  ·rw [get_of h.cq hx h5, if_neg h5]
   dsimp only
   by_cases h2 : 200 ≤ x.fr.length
   ·rw [if_pos h2, if_pos h2]
    exact ⟨rfl, h.mono (Nat.le_succ _)⟩
   ·rw [if_neg h2, if_neg h2]
    refine ⟨rfl, h.fr hx h5 (f := fun x => { x with fr := x.fr ++ [f] }) (fun _ => rfl) (fun _ => rfl) (fun _ => rfl) rfl ⟨?_, fun f' hf' => ?_⟩⟩
    ·show (x.fr ++ [f]).length ≤ 200
     rw [List.length_append, List.length_singleton]; omega
    ·rcases List.mem_append.1 hf' with q | q
     ·exact (h.inv.fit id x hx).2 f' q
     ·rw [List.mem_singleton] at q; subst q; exact hf

theorem err_zero (he : R.errTop id = 0) : ∃ x, R.at id = some x ∧ x.st ≠ 5 ∧ x.fr ≠ [] := by
 unfold RTab.errTop at he
 cases hx : R.at id with
 | none => rw [hx] at he; cases he
 | some x =>
  rw [hx] at he
  dsimp only at he
  by_cases h5 : x.st = 5
  ·rw [if_pos h5] at he; cases he
  ·rw [if_neg h5] at he
   by_cases hf : x.fr = []
   ·rw [if_pos hf] at he; cases he
   ·exact ⟨x, rfl, h5, hf⟩

theorem ok_pop (h : Cp m R n) (id : Int) : (m.popR id).1 = (R.popR id).1 ∧ Cp (m.popR id).2 (R.popR id).2 (n + 1) := by
 unfold MT.popR RTab.popR
 rw [h.cq.err, h.cq.top]
 by_cases he : R.errTop id = 0
 ·rw [if_pos he, if_pos he]
  obtain ⟨x, hx, h5, hf⟩ := err_zero he
  have hfit := h.inv.fit id x hx
  refine ⟨rfl, h.fr hx h5 (f := fun x => { x with fr := x.fr.dropLast }) (fun _ => rfl) (fun _ => rfl) (fun _ => rfl) rfl ⟨?_, fun f' hf' => hfit.2 f' (List.dropLast_subset _ hf')⟩⟩
  show x.fr.dropLast.length ≤ 200
  rw [List.length_dropLast]; omega
 ·rw [if_neg he, if_neg he]
  exact ⟨rfl, h.mono (Nat.le_succ _)⟩

theorem ok_set (h : Cp m R n) {f : Fr} (hf : f.2.2.1.length ≤ 100 ∧ f.2.2.2.length ≤ 100) (id : Int) : (m.setR id f).1 = (R.setR id f).1 ∧ Cp (m.setR id f).2 (R.setR id f).2 (n + 1) := by
 unfold MT.setR RTab.setR
 rw [h.cq.err]
 by_cases he : R.errTop id = 0
 ·rw [if_pos he, if_pos he]
  obtain ⟨x, hx, h5, hf0⟩ := err_zero he
  have hfit := h.inv.fit id x hx
  refine ⟨rfl, h.fr hx h5 (f := fun x => { x with fr := x.fr.set (x.fr.length - 1) f }) (fun _ => rfl) (fun _ => rfl) (fun _ => rfl) rfl ⟨?_, fun f' hf' => ?_⟩⟩
  ·show (x.fr.set _ f).length ≤ 200
   rw [List.length_set]; exact hfit.1
  ·rcases List.mem_or_eq_of_mem_set hf' with q | q
   ·exact hfit.2 f' q
   ·subst q; exact hf
 ·rw [if_neg he, if_neg he]
  exact ⟨rfl, h.mono (Nat.le_succ _)⟩

theorem at_turn (hx : R.at id = some x) {f : TH → TH} (j : Int) : (R.upd id f).at j = if j = id then some (f x) else R.at j := by
 rw [at_upd (at_idx hx).1]
 by_cases e : j = id
 ·rw [if_pos e, if_pos e, e, hx]; rfl
 ·rw [if_neg e, if_neg e]

theorem Cp.rest (h : Cp m R n) (hx : R.at R.cur = some x) (h2 : x.st = 2) {s : Int} (hs : s ≠ 5 ∧ s ≠ 2 ∧ s ≠ 4) : Cp (m.rest s) (R.upd R.cur fun x => { x with st := s }) (n + 1) := by
 have hat := at_turn hx (f := fun x => { x with st := s })
 have hinv : RInv (R.upd R.cur fun x => { x with st := s }) (n + 1) := by
  have hle := h.inv.ln
  have hqj := h.inv.qj
  refine h.inv.turn (by rw [upd_len]; exact Nat.le_refl _) (by rw [upd_len]; omega) hat (fun q => absurd q hs.2.1) (fun j hj => ?_) h.inv.qn (fun j hj => ?_) h.inv.jn (fun q => absurd q hs.1) (h.inv.fit _ x hx) (by show R.queue.length + R.joins.length ≤ _; omega)
  ·by_cases e : j = R.cur
   ·obtain ⟨y, hy, hy1⟩ := h.inv.qu j hj
    rw [e, hx] at hy; cases hy; omega
   ·rw [if_neg e]; exact hj
  ·by_cases e : j = R.cur
   ·obtain ⟨y, hy, hy1, _⟩ := h.inv.jo j hj
    rw [e, hx] at hy; cases hy; omega
   ·rw [if_neg e]; exact hj
 refine ⟨?_, ?_, hinv⟩
 ·unfold MT.rest
  rw [h.run]
  exact (h.cq.set hx (by omega) hs.1).turn
 ·show (0 : Int) = _
  refine (cur_zero fun j y hy hy2 => ?_).symm
  rw [hat] at hy
  by_cases e : j = R.cur
  ·rw [if_pos e] at hy; cases hy; exact hs.2.1 hy2
  ·rw [if_neg e] at hy
   exact e (h.inv.one j R.cur y x hy hx hy2 h2)

theorem Cp.ready (h : Cp m R n) (hx : R.at id = some x) (h2 : x.st = 1 ∨ x.st = 3) (hnq : id ∉ R.queue) (hqj : R.queue.length + R.joins.length + 1 ≤ n + 1) : Cp (m.ready id) (R.ready id) (n + 1) := by
 have h5 : x.st ≠ 5 := by omega
 have hat : ∀ j, (R.ready id).at j = if j = id then some { x with st := 1 } else R.at j := at_turn hx (f := fun x => { x with st := 1 })
 have hinv : RInv (R.ready id) (n + 1) := by
  have hle := h.inv.ln
  refine h.inv.turn (by rw [ready_len]; exact Nat.le_refl _) (by rw [ready_len]; omega) hat (fun q => by cases q) (fun j hj => ?_) ?_ (fun j hj => ?_) h.inv.jn (fun q => by cases q) (h.inv.fit _ x hx) ?_
  ·by_cases e : j = id
   ·rw [if_pos e]
   ·rw [if_neg e]
    rcases List.mem_append.1 hj with q | q
    ·exact q
    ·rw [List.mem_singleton] at q; exact absurd q e
  ·exact List.nodup_append.2 ⟨h.inv.qn, by simp, fun a ha b hb q => by rw [List.mem_singleton] at hb; subst hb; subst q; exact hnq ha⟩
  ·by_cases e : j = id
   ·obtain ⟨y, hy, hy1, _⟩ := h.inv.jo j hj
    rw [e, hx] at hy; cases hy; omega
   ·rw [if_neg e]; exact hj
  ·show (R.queue ++ [id]).length + R.joins.length ≤ _
   rw [List.length_append, List.length_singleton]; omega
 refine ⟨h.cq.ready hx h5, ?_, hinv⟩
 refine h.run.trans (cur_keep hinv hat ⟨fun q => (by cases q), fun ⟨y, hy, q⟩ => ?_⟩).symm
 rw [hx] at hy; cases hy; omega

theorem ok_yield (h : Cp m R n) : m.yieldR.1 = R.yieldR.1 ∧ Cp m.yieldR.2 R.yieldR.2 (n + 1) := by
 unfold MT.yieldR RTab.yieldR
 rw [h.run]
 by_cases hc : R.cur = 0
 ·rw [if_pos hc, if_pos hc]
  exact ⟨rfl, h.mono (Nat.le_succ _)⟩
 ·rw [if_neg hc, if_neg hc]
  obtain ⟨x, hx, h2⟩ := cur_some hc
  have hqj := h.inv.qj
  have hle := h.inv.ln
  have hat := at_turn hx (f := fun x => { x with st := 1 })
  have hcq : Cq ((m.rest 1).ready R.cur) (R.ready R.cur) := by
   have h1 : Cq (m.rest 1) (R.upd R.cur fun x => { x with st := 1 }) := by
    unfold MT.rest
    rw [h.run]
    exact (h.cq.set hx (by omega) (by decide)).turn
   have := h1.ready (id := R.cur) (x := { x with st := 1 }) (by rw [hat, if_pos rfl]) (by show (1 : Int) ≠ 5; decide)
   have e : (R.upd R.cur fun x => { x with st := 1 }).ready R.cur = R.ready R.cur := by
    unfold RTab.ready
    rw [upd_upd]
    rfl
   rwa [e] at this
  have hat2 : ∀ j, (R.ready R.cur).at j = if j = R.cur then some { x with st := 1 } else R.at j := hat
  have hinv : RInv (R.ready R.cur) (n + 1) := by
   refine h.inv.turn (by rw [ready_len]; exact Nat.le_refl _) (by rw [ready_len]; omega) hat2 (fun q => by cases q) (fun j hj => ?_) ?_ (fun j hj => ?_) h.inv.jn (fun q => by cases q) (h.inv.fit _ x hx) ?_
   ·by_cases e : j = R.cur
    ·rw [if_pos e]
    ·rw [if_neg e]
     rcases List.mem_append.1 hj with q | q
     ·exact q
     ·rw [List.mem_singleton] at q; exact absurd q e
   ·refine List.nodup_append.2 ⟨h.inv.qn, by simp, fun a ha b hb q => ?_⟩
    rw [List.mem_singleton] at hb
    subst hb; subst q
    obtain ⟨y, hy, hy1⟩ := h.inv.qu _ ha
    rw [hx] at hy; cases hy; omega
   ·by_cases e : j = R.cur
    ·obtain ⟨y, hy, hy1, _⟩ := h.inv.jo j hj
     rw [e, hx] at hy; cases hy; omega
    ·rw [if_neg e]; exact hj
   ·show (R.queue ++ [R.cur]).length + R.joins.length ≤ _
    rw [List.length_append, List.length_singleton]; omega
  refine ⟨rfl, hcq, ?_, hinv⟩
  show (0 : Int) = _
  refine (cur_zero fun j y hy hy2 => ?_).symm
  rw [hat2] at hy
  by_cases e : j = R.cur
  ·rw [if_pos e] at hy; cases hy; cases hy2
  ·rw [if_neg e] at hy
   exact e (h.inv.one j R.cur y x hy hx hy2 h2)

theorem ok_block (h : Cp m R n) : m.blockR.1 = R.blockR.1 ∧ Cp m.blockR.2 R.blockR.2 (n + 1) := by
 unfold MT.blockR RTab.blockR
 rw [h.run]
 by_cases hc : R.cur = 0
 ·rw [if_pos hc, if_pos hc]
  exact ⟨rfl, h.mono (Nat.le_succ _)⟩
 ·rw [if_neg hc, if_neg hc]
  obtain ⟨x, hx, h2⟩ := cur_some hc
  exact ⟨rfl, h.rest hx h2 (by decide)⟩

theorem ok_wake (h : Cp m R n) (id : Int) : (m.wakeR id).1 = (R.wakeR id).1 ∧ Cp (m.wakeR id).2 (R.wakeR id).2 (n + 1) := by
 unfold MT.wakeR RTab.wakeR
 rw [h.cq.last, h.cq.state]
 cases hx : R.at id with
 | none =>
  rw [if_pos]
  ·exact ⟨rfl, h.mono (Nat.le_succ _)⟩
  ·apply Classical.byContradiction
   intro q
   obtain ⟨y, hy⟩ := RTab.at_some (R := R) (id := id) (by omega) (by omega)
   rw [hx] at hy; cases hy
 | some x =>
  have hle := RTab.at_le hx
  rw [if_neg (by omega)]
  dsimp only
  by_cases h3 : x.st = 3
  ·rw [if_neg (fun q => q h3), if_neg (fun q => q h3)]
   have hqj := h.inv.qj
   refine ⟨rfl, h.ready hx (.inr h3) (fun q => ?_) (by omega)⟩
   obtain ⟨y, hy, hy1⟩ := h.inv.qu _ q
   rw [hx] at hy; cases hy; omega
  ·rw [if_pos h3, if_pos h3]
   exact ⟨rfl, h.mono (Nat.le_succ _)⟩

theorem mem_erase {l : List Int} {k : Nat} (hn : l.Nodup) (hk : k < l.length) {j : Int} (hj : j ∈ l.eraseIdx k) : j ∈ l ∧ j ≠ l[k] := by
 rw [List.eraseIdx_eq_take_drop_succ] at hj
 have e : l = l.take k ++ l[k] :: l.drop (k + 1) := by simp
 have hn2 := hn
 rw [e] at hn2
 obtain ⟨s1, s2, s3⟩ := List.nodup_append.1 hn2
 rcases List.mem_append.1 hj with q | q
 ·exact ⟨List.mem_of_mem_take q, s3 j q _ (List.mem_cons_self ..)⟩
 ·exact ⟨List.mem_of_mem_drop q, fun q2 => (List.nodup_cons.1 s2).1 (q2 ▸ q)⟩

theorem ok_next (h : Cp m R n) (pick : Int) : (m.nextR pick).1 = (R.nextR pick).1 ∧ Cp (m.nextR pick).2 (R.nextR pick).2 (n + 1) := by
 unfold MT.nextR RTab.nextR
 rw [h.run, h.cq.queue]
 by_cases hc : 0 < R.cur ∨ R.queue = []
 ·rw [if_pos hc, if_pos hc]
  exact ⟨rfl, h.mono (Nat.le_succ _)⟩
 ·rw [if_neg hc, if_neg hc]
  have hc0 : R.cur = 0 := by have := cur_le (R := R); have : ¬ 0 < R.cur := fun q => hc (.inl q); omega
  have hpos : 0 < R.queue.length := List.length_pos_iff.2 fun q => hc (.inr q)
  have hr := pickN_range pick (n := (R.queue.length : Int)) (by omega)
  obtain ⟨k, hk⟩ : ∃ k, k = (pickN pick R.queue.length).toNat := ⟨_, rfl⟩
  have hkl : k < R.queue.length := by omega
  rw [← hk]
  have hget : R.queue.getD k 0 = R.queue[k] := by simp [List.getD, List.getElem?_eq_getElem hkl]
  obtain ⟨x, hx, h1⟩ := h.inv.qu _ (List.getElem_mem hkl)
  have hle := h.inv.ln
  have hqj := h.inv.qj
  have hat : ∀ j, (R.next k).at j = if j = R.queue[k] then some { x with st := 2 } else R.at j := fun j => by
   have := at_turn hx (f := fun x => { x with st := 2 }) j
   rw [← hget] at this ⊢
   exact this
  have hinv : RInv (R.next k) (n + 1) := by
   refine h.inv.turn (id := R.queue[k]) (by show _ ≤ (R.upd _ _).l.length; rw [upd_len]; exact Nat.le_refl _) (by show (R.upd _ _).l.length ≤ _; rw [upd_len]; omega) hat (fun _ j y _ hy => zero_cur hc0 hy) (fun j hj => ?_) ?_ (fun j hj => ?_) h.inv.jn (fun q => by cases q) (h.inv.fit _ x hx) ?_
   ·have hj : j ∈ R.queue.eraseIdx k := hj
    obtain ⟨q1, q2⟩ := mem_erase h.inv.qn hkl hj
    rw [if_neg q2]; exact q1
   ·exact h.inv.qn.sublist (List.eraseIdx_sublist _ _)
   ·by_cases e : j = R.queue[k]
    ·obtain ⟨y, hy, hy1, _⟩ := h.inv.jo j hj
     rw [e, hx] at hy; cases hy; omega
    ·rw [if_neg e]; exact hj
   ·show (R.queue.eraseIdx k).length + R.joins.length ≤ _
    have := List.length_eraseIdx_le R.queue k
    omega
  refine ⟨rfl, ?_, ?_, hinv⟩
  ·unfold MT.next RTab.next
   rw [h.cq.queue, hget]
   exact ((h.cq.set hx (by omega) (s := 2) (by decide)).turn (r := R.queue[k])).qto (R.queue.eraseIdx k)
  ·show m.queue.getD k 0 = _
   rw [h.cq.queue, hget]
   exact (cur_of hinv.one (x := { x with st := 2 }) (by rw [hat, if_pos rfl]) rfl).symm

theorem ok_start (h : Cp m R n) {f : Fr} (hf : f.2.2.1.length ≤ 100 ∧ f.2.2.2.length ≤ 100) : (m.startR f).1 = (R.startR f).1 ∧ Cp (m.startR f).2 (R.startR f).2 (n + 1) := by
 unfold MT.startR RTab.startR
 have hrl : m.rows.length = R.lives.length := by have := congrArg List.length h.cq.ids; simpa using this
 rw [hrl, h.cq.last]
 by_cases h6 : 64 ≤ R.lives.length
 ·rw [if_pos h6, if_pos h6]
  exact ⟨rfl, h.mono (Nat.le_succ _)⟩
 ·rw [if_neg h6, if_neg h6]
  have hle := h.inv.ln
  have hqj := h.inv.qj
  have at0 : ∀ j, (⟨R.l ++ [⟨[f], 0, 0⟩], R.queue, R.joins⟩ : RTab).at j = if j = (R.l.length : Int) + 1 then some ⟨[f], 0, 0⟩ else R.at j := fun j => by
   unfold RTab.at
   dsimp only
   by_cases hj : 1 ≤ j
   ·rw [if_pos hj, if_pos hj]
    by_cases e : j = (R.l.length : Int) + 1
    ·rw [if_pos e, List.getElem?_append_right (by omega), show (j - 1).toNat - R.l.length = 0 by omega]; rfl
    ·rw [if_neg e]
     rcases Nat.lt_or_ge (j - 1).toNat R.l.length with q | q
     ·rw [List.getElem?_append_left q]
     ·rw [List.getElem?_eq_none (by simp; omega), List.getElem?_eq_none q]
   ·rw [if_neg hj, if_neg hj, if_neg (by omega)]
  have hat : ∀ j, (R.start f).at j = if j = (R.l.length : Int) + 1 then some ⟨[f], 1, 0⟩ else R.at j := fun j => by
   unfold RTab.start
   rw [at_ready (by omega), at0]
   by_cases e : j = (R.l.length : Int) + 1
   ·rw [if_pos e, if_pos e, if_pos e]; rfl
   ·rw [if_neg e, if_neg e, if_neg e]
  have hnone : R.at ((R.l.length : Int) + 1) = none := RTab.at_none (.inr (by omega))
  have hlen : (R.start f).l.length = R.l.length + 1 := by
   show (RTab.ready _ _).l.length = _
   rw [ready_len]; simp
  have hinv : RInv (R.start f) (n + 1) := by
   refine h.inv.turn (id := (R.l.length : Int) + 1) (x' := ⟨[f], 1, 0⟩) (by omega) (by omega) hat (fun q => by cases q) (fun j hj => ?_) ?_ (fun j hj => ?_) h.inv.jn (fun q => by cases q) ⟨by simp, fun f' hf' => by rw [List.mem_singleton] at hf'; subst hf'; exact hf⟩ ?_
   ·by_cases e : j = (R.l.length : Int) + 1
    ·rw [if_pos e]
    ·rw [if_neg e]
     have hj : j ∈ R.queue ++ [(R.l.length : Int) + 1] := hj
     rcases List.mem_append.1 hj with q | q
     ·exact q
     ·rw [List.mem_singleton] at q; exact absurd q e
   ·refine List.nodup_append.2 ⟨h.inv.qn, by simp, fun a ha b hb q => ?_⟩
    rw [List.mem_singleton] at hb
    subst hb; subst q
    obtain ⟨y, hy, _⟩ := h.inv.qu _ ha
    rw [hnone] at hy; cases hy
   ·by_cases e : j = (R.l.length : Int) + 1
    ·obtain ⟨y, hy, hy1, _⟩ := h.inv.jo j hj
     rw [e, hnone] at hy; cases hy
    ·rw [if_neg e]; exact hj
   ·show (R.queue ++ [(R.l.length : Int) + 1]).length + R.joins.length ≤ _
    rw [List.length_append, List.length_singleton]; omega
  have hjn : ∀ j, (R.start f).jn j = R.jn j := fun j => by
   unfold RTab.jn
   rw [hat]
   by_cases e : j = (R.l.length : Int) + 1
   ·rw [if_pos e, e, hnone]
   ·rw [if_neg e]
  have hjof : ∀ j, (R.start f).jof j = R.jof j := fun j => by
   unfold RTab.jof
   show R.joins.filter _ = _
   congr 1
   funext k
   rw [hjn]
  have hjnew : R.jof ((R.l.length : Int) + 1) = [] := by
   unfold RTab.jof
   rw [List.filter_eq_nil_iff]
   intro j hj
   obtain ⟨y, hy, _, hy2⟩ := h.inv.jo j hj
   have : R.jn j = y.jn := by unfold RTab.jn; rw [hy]
   rw [this]
   simp only [beq_iff_eq]
   omega
  have habs : ∀ j, (R.start f).abs j = if j = (R.l.length : Int) + 1 then some ⟨j, 1, [f], []⟩ else R.abs j := fun j => by
   unfold RTab.abs
   rw [hat, hjof]
   by_cases e : j = (R.l.length : Int) + 1
   ·rw [if_pos e, if_pos e]
    dsimp only
    rw [if_neg (by decide), e, hjnew]
   ·rw [if_neg e, if_neg e]
  refine ⟨rfl, ⟨?_, ?_, ?_, fun j => ?_⟩, ?_, hinv⟩
  ·show m.last + 1 = _
   rw [hlen, h.cq.last]; omega
  ·show m.queue ++ [m.last + 1] = R.queue ++ [_]
   rw [h.cq.queue, h.cq.last]
  ·show (m.rows ++ [_]).map _ = _
   rw [List.map_append, h.cq.ids]
   unfold RTab.lives
   have : (R.start f).l = (R.l ++ [(⟨[f], 0, 0⟩ : TH)]).modify ((R.l.length : Int) + 1 - 1).toNat (fun x => { x with st := 1 }) := rfl
   rw [this, liveL_modify _ _ _ (fun x hx => by
    rw [show ((R.l.length : Int) + 1 - 1).toNat = R.l.length by omega] at hx
    simp at hx
    subst hx
    exact ⟨fun q => (by cases q), fun q => (by cases q)⟩), liveL_append, h.cq.last]
   simp only [liveL, Nat.zero_add, List.map_cons, List.map_nil]
   rw [if_neg (by decide)]
  ·show (m.rows ++ [_]).find? _ = _
   rw [List.find?_append, habs]
   have hg := h.cq.get j
   unfold MT.get at hg
   rw [hg]
   by_cases e : j = (R.l.length : Int) + 1
   ·have : R.abs j = none := by unfold RTab.abs; rw [e, hnone]
    rw [this, if_pos e]
    have e2 : m.last + 1 = j := by rw [h.cq.last, e]
    simp [e2]
   ·rw [if_neg e]
    have e2 : ¬ m.last + 1 = j := by rw [h.cq.last]; exact fun q => e q.symm
    simp [e2]
  ·show m.run = _
   exact h.run.trans (cur_keep (x' := ({ fr := [f], st := 1, jn := 0 } : TH)) (id := (R.l.length : Int) + 1) hinv hat (Iff.intro (fun q => by cases q) (fun ⟨y, hy, q⟩ => by rw [hnone] at hy; cases hy))).symm

end Go.Proofs.Ytaaedebknacheaa.AB

namespace Go.Proofs.Ytaaedebknacheaa.AB
open Go

variable {m : MT} {R R' : RTab} {id : Int} {x x' : TH} {n : Nat}

theorem jn_of {j : Int} (hx : R.at j = some x) : R.jn j = x.jn := by unfold RTab.jn; rw [hx]

theorem ok_join (h : Cp m R n) (other : Int) : (m.joinR other).1 = (R.joinR other).1 ∧ Cp (m.joinR other).2 (R.joinR other).2 (n + 1) := by
 unfold MT.joinR RTab.joinR
 rw [h.run, h.cq.last]
 by_cases hc : R.cur = 0
 ·rw [if_pos hc, if_pos hc]
  exact ⟨rfl, h.mono (Nat.le_succ _)⟩
 rw [if_neg hc, if_neg hc]
 cases ho : R.at other with
 | none =>
  rw [if_pos]
  ·exact ⟨rfl, h.mono (Nat.le_succ _)⟩
  ·apply Classical.byContradiction
   intro q
   obtain ⟨y, hy⟩ := RTab.at_some (R := R) (id := other) (by omega) (by omega)
   rw [ho] at hy; cases hy
 | some y =>
  have hle := RTab.at_le ho
  rw [if_neg (by omega)]
  dsimp only
  by_cases he : other = R.cur
  ·rw [if_pos he, if_pos he]
   exact ⟨rfl, h.mono (Nat.le_succ _)⟩
  rw [if_neg he, if_neg he]
  by_cases h5 : y.st = 5
  ·rw [get_gone h.cq (.inr ⟨y, ho, h5⟩), if_pos h5]
   exact ⟨rfl, h.mono (Nat.le_succ _)⟩
  rw [get_of h.cq ho h5, if_neg h5]
  dsimp only
  obtain ⟨x, hx, h2⟩ := cur_some hc
  have hln := h.inv.ln
  have hqj := h.inv.qj
  obtain ⟨c, hcc⟩ : ∃ c, c = R.cur := ⟨_, rfl⟩
  rw [← hcc] at hx he ⊢
  obtain ⟨R2, hR2⟩ : ∃ R2 : RTab, R2 = { R.upd c (fun x => { x with st := 4, jn := other }) with joins := R.joins ++ [c] } := ⟨_, rfl⟩
  rw [← hR2]
  have hat : ∀ j, R2.at j = if j = c then some { x with st := 4, jn := other } else R.at j := fun j => by rw [hR2]; exact at_turn hx (f := fun x => { x with st := 4, jn := other }) j
  have hj2 : R2.joins = R.joins ++ [c] := by rw [hR2]
  have hq2 : R2.queue = R.queue := by rw [hR2]; rfl
  have hl2 : R2.l.length = R.l.length := by rw [hR2]; exact upd_len
  have hnj : c ∉ R.joins := fun q => by
   obtain ⟨z, hz, hz1, _⟩ := h.inv.jo _ q
   rw [hx] at hz; cases hz; omega
  have hinv : RInv R2 (n + 1) := by
   refine h.inv.turn (id := c) (by omega) (by omega) hat (fun q => by cases q) (fun j hj => ?_) (by rw [hq2]; exact h.inv.qn) (fun j hj => ?_) ?_ (fun q => by cases q) (h.inv.fit _ x hx) ?_
   ·rw [hq2] at hj
    by_cases e : j = c
    ·obtain ⟨z, hz, hz1⟩ := h.inv.qu j hj
     rw [e, hx] at hz; cases hz; omega
    ·rw [if_neg e]; exact hj
   ·by_cases e : j = c
    ·rw [if_pos e]
     exact ⟨rfl, by rw [hl2]; exact hle.2⟩
    ·rw [if_neg e]
     rw [hj2] at hj
     rcases List.mem_append.1 hj with q | q
     ·exact q
     ·rw [List.mem_singleton] at q; exact absurd q e
   ·rw [hj2]
    exact List.nodup_append.2 ⟨h.inv.jn, by simp, fun a ha b hb q => by rw [List.mem_singleton] at hb; subst hb; subst q; exact hnj ha⟩
   ·rw [hq2, hj2, List.length_append, List.length_singleton]; omega
  have hjof : ∀ k, R2.jof k = R.jof k ++ (if other = k then [c] else []) := fun k => by
   unfold RTab.jof
   rw [hj2, List.filter_append]
   have e1 : R.joins.filter (fun j => R2.jn j == k) = R.joins.filter fun j => R.jn j == k := by
    refine List.filter_congr fun j hj => ?_
    have : j ≠ c := fun q => hnj (q ▸ hj)
    have : R2.jn j = R.jn j := by unfold RTab.jn; rw [hat, if_neg this]
    rw [this]
   have e2 : R2.jn c = other := jn_of (x := { x with st := 4, jn := other }) (by rw [hat, if_pos rfl])
   rw [e1]
   congr 1
   by_cases e : other = k
   ·rw [if_pos e]; simp [e2, e]
   ·rw [if_neg e]; simp [e2, e]
  refine ⟨rfl, ⟨?_, ?_, ?_, fun j => ?_⟩, ?_, hinv⟩
  ·show m.last = _
   rw [hl2, h.cq.last]
  ·show m.queue = _
   rw [hq2, h.cq.queue]
  ·show (updAb other _ (updAb m.run _ m.rows)).map _ = _
   rw [ids_upd (f := fun a => { a with joins := a.joins ++ [c] }) (fun _ => rfl), ids_upd (f := fun a => { a with st := 4 }) (fun _ => rfl), h.cq.ids, hR2]
   exact (lives_upd hx (f := fun x => { x with st := 4, jn := other }) ⟨fun q => (by cases q), fun q => by omega⟩).symm
  ·show (updAb other _ (updAb m.run _ m.rows)).find? _ = _
   rw [find_upd (f := fun a => { a with joins := a.joins ++ [c] }) (fun _ => rfl), find_upd (f := fun a => { a with st := 4 }) (fun _ => rfl), h.run, ← hcc]
   have hg := h.cq.get j
   unfold MT.get at hg
   rw [hg]
   unfold RTab.abs
   rw [hat, hjof]
   by_cases e1 : j = c
   ·subst e1
    rw [if_neg (fun q : j = other => he q.symm), if_pos rfl, if_pos rfl, hx]
    dsimp only
    rw [if_neg (by omega), if_neg (by decide), if_neg he, List.append_nil]
    rfl
   ·rw [if_neg e1, if_neg e1]
    by_cases e2 : j = other
    ·subst e2
     rw [if_pos rfl, if_pos rfl, ho]
     dsimp only
     rw [if_neg h5, if_neg h5]
     rfl
    ·rw [if_neg e2, if_neg (fun q : other = j => e2 q.symm), List.append_nil]
  ·show (0 : Int) = _
   refine (cur_zero fun j z hz hz2 => ?_).symm
   rw [hat] at hz
   by_cases e : j = c
   ·rw [if_pos e] at hz; cases hz; cases hz2
   ·rw [if_neg e] at hz
    exact e (h.inv.one j c z x hz hx hz2 h2)

theorem filter_two {α : Type} (p : α → Bool) : ∀ l : List α, (l.filter p).length + (l.filter fun a => !p a).length = l.length
 | [] => rfl
 | a :: l => by
  have ih := filter_two p l
  cases hp : p a with
  | true => simp only [List.filter_cons, hp, if_true, Bool.not_true, Bool.false_eq_true, if_false, List.length_cons]; omega
  | false => simp only [List.filter_cons, hp, if_true, Bool.not_false, Bool.false_eq_true, if_false, List.length_cons]; omega

theorem ok_end (h : Cp m R n) : m.endR.1 = R.endR.1 ∧ Cp m.endR.2 R.endR.2 (n + 1) := by
 unfold MT.endR RTab.endR
 rw [h.run]
 by_cases hc : R.cur = 0
 ·rw [if_pos hc, if_pos hc]
  exact ⟨rfl, h.mono (Nat.le_succ _)⟩
 rw [if_neg hc, if_neg hc]
 obtain ⟨x, hx, h2⟩ := cur_some hc
 rw [get_of h.cq hx (by omega)]
 dsimp only
 have hln := h.inv.ln
 have hqj := h.inv.qj
 obtain ⟨c, hcc⟩ : ∃ c, c = R.cur := ⟨_, rfl⟩
 rw [← hcc] at hx ⊢
 have hc1 := (at_idx hx).1
 have hL : R.jof c = R.joins.filter fun j => R.jn j == c := rfl
 rw [← hL]
 obtain ⟨R1, hR1⟩ : ∃ R1, R1 = R.upd c fun x => { x with st := 5, fr := [] } := ⟨_, rfl⟩
 rw [← hR1]
 have at1 : ∀ j, R1.at j = if j = c then some { x with st := 5, fr := [] } else R.at j := fun j => by rw [hR1]; exact at_turn hx (f := fun x => { x with st := 5, fr := [] }) j
 have jn1 : ∀ j, R1.jn j = R.jn j := fun j => by rw [hR1]; exact jn_upd (f := fun x => { x with st := 5, fr := [] }) hc1 (fun _ => rfl) j
 have jo1 : R1.joins = R.joins := by rw [hR1]; rfl
 have ln1 : R1.l.length = R.l.length := by rw [hR1]; exact upd_len
 have hmem : ∀ j ∈ R.jof c, j ≠ c ∧ ∃ y, R1.at j = some y ∧ y.st = 4 := fun j hj => by
  obtain ⟨y, hy, h4, _⟩ := h.inv.jo j (List.mem_filter.1 hj).1
  have hne : j ≠ c := fun q => by rw [q, hx] at hy; cases hy; omega
  exact ⟨hne, y, by rw [at1, if_neg hne]; exact hy, h4⟩
 have cq1 : Cq ((m.rest 5).del c) R1 := by
  refine ⟨?_, ?_, ?_, fun j => ?_⟩
  ·show m.last = _
   rw [ln1, h.cq.last]
  ·show m.queue = _
   rw [hR1]; exact h.cq.queue
  ·show ((updAb m.run _ m.rows).filter _).map _ = _
   have : R1.lives = R.lives.filter fun j => decide (j ≠ c) := by rw [hR1]; exact lives_die hx rfl
   rw [this, ← h.cq.ids, ← ids_upd (f := fun a => { a with st := 5 }) (id := m.run) (fun _ => rfl) m.rows, List.filter_map]
   rfl
  ·show ((updAb m.run _ m.rows).filter _).find? _ = _
   rw [List.find?_filter]
   unfold RTab.abs
   rw [at1]
   by_cases e : j = c
   ·rw [if_pos e]
    dsimp only
    rw [if_pos rfl, List.find?_eq_none]
    intro a _
    simp only [Bool.and_eq_true, decide_eq_true_eq]
    rintro ⟨q1, q2⟩
    exact q1 (q2.trans e)
   ·rw [if_neg e]
    have hjof : R1.jof j = R.jof j := by
     unfold RTab.jof
     rw [jo1]
     congr 1
     funext k
     rw [jn1]
    have hg := h.cq.get j
    unfold MT.get RTab.abs at hg
    rw [hjof]
    have h1 : (updAb m.run (fun a => { a with st := 5 }) m.rows).find? (fun a => decide (decide (a.id ≠ c) = true ∧ decide (a.id = j) = true)) = (updAb m.run (fun a => { a with st := 5 }) m.rows).find? fun a => decide (a.id = j) := by
     congr 1
     funext a
     by_cases q : a.id = j
     ·have : a.id ≠ c := fun q2 => e (q.symm.trans q2)
      simp [q, this, e]
     ·simp [q]
    refine h1.trans ?_
    rw [find_upd (f := fun a => { a with st := 5 }) (fun _ => rfl), h.run, ← hcc, if_neg e]
    exact hg
 have cq2 := Cq.fold (R.jof c) cq1 fun j hj => by
  obtain ⟨_, y, hy, h4⟩ := hmem j hj
  exact ⟨y, hy, by omega⟩
 have hpos : ∀ j ∈ R.jof c, 1 ≤ j := fun j hj => by
  obtain ⟨_, y, hy, _⟩ := hmem j hj
  exact (at_idx hy).1
 obtain ⟨f1, f2, f3, f4, f5⟩ := fold_ready (R := R1) (R.jof c) hpos
 obtain ⟨R2, hR2⟩ : ∃ R2 : RTab, R2 = { (R.jof c).foldl RTab.ready R1 with joins := R.joins.filter fun j => !(R.jn j == c) } := ⟨_, rfl⟩
 rw [← hR2]
 have at2 : ∀ j, R2.at j = if j ∈ R.jof c then (R1.at j).map (fun x => { x with st := 1 }) else R1.at j := fun j => by rw [hR2]; exact f5 j
 have jn2 : ∀ j, R2.jn j = R.jn j := fun j => by
  have : R2.jn j = ((R.jof c).foldl RTab.ready R1).jn j := by rw [hR2]; rfl
  rw [this, f4, jn1]
 have q2 : R2.queue = R.queue ++ R.jof c := by
  rw [hR2]
  show ((R.jof c).foldl RTab.ready R1).queue = _
  rw [f3, hR1]; rfl
 have j2 : R2.joins = R.joins.filter fun j => !(R.jn j == c) := by rw [hR2]
 have l2 : R2.l.length = R.l.length := by
  rw [hR2]
  show ((R.jof c).foldl RTab.ready R1).l.length = _
  rw [f1, ln1]
 have back : ∀ {j : Int} {y : TH}, R2.at j = some y → (j = c ∧ y.st = 5 ∧ y.fr = []) ∨ (j ∈ R.jof c ∧ ∃ z, R.at j = some z ∧ y = { z with st := 1 }) ∨ (j ≠ c ∧ j ∉ R.jof c ∧ R.at j = some y) := fun {j y} hy => by
  rw [at2] at hy
  by_cases e1 : j ∈ R.jof c
  ·rw [if_pos e1, at1, if_neg (hmem j e1).1] at hy
   cases hz : R.at j with
   | none => rw [hz] at hy; cases hy
   | some z => rw [hz] at hy; exact .inr (.inl ⟨e1, z, rfl, (Option.some.inj hy).symm⟩)
  ·rw [if_neg e1, at1] at hy
   by_cases e2 : j = c
   ·rw [if_pos e2] at hy
    cases hy
    exact .inl ⟨e2, rfl, rfl⟩
   ·rw [if_neg e2] at hy
    exact .inr (.inr ⟨e2, e1, hy⟩)
 have norun : ∀ {j : Int} {y : TH}, R2.at j = some y → y.st ≠ 2 := fun {j y} hy hy2 => by
  rcases back hy with ⟨_, q, _⟩ | ⟨_, z, _, q⟩ | ⟨q1, _, q3⟩
  ·omega
  ·subst q; cases hy2
  ·exact q1 (h.inv.one j c y x q3 hx hy2 h2)
 have hinv : RInv R2 (n + 1) := by
  refine ⟨fun i j y z hy hz h3 _ => absurd h3 (norun hy), fun j hj => ?_, ?_, fun j hj => ?_, ?_, fun j y hy h5 => ?_, fun j y hy => ?_, by omega, ?_⟩
  ·rw [q2] at hj
   rw [at2, at1]
   by_cases e1 : j ∈ R.jof c
   ·obtain ⟨hne, y, hy, h4⟩ := hmem j e1
    rw [at1, if_neg hne] at hy
    rw [if_pos e1, if_neg hne, hy]
    exact ⟨_, rfl, rfl⟩
   ·rw [if_neg e1]
    rcases List.mem_append.1 hj with q | q
    ·obtain ⟨y, hy, h1⟩ := h.inv.qu j q
     have hne : j ≠ c := fun q => by rw [q, hx] at hy; cases hy; omega
     rw [if_neg hne]
     exact ⟨y, hy, h1⟩
    ·exact absurd q e1
  ·rw [q2]
   refine List.nodup_append.2 ⟨h.inv.qn, h.inv.jn.sublist List.filter_sublist, fun a ha b hb q => ?_⟩
   subst q
   obtain ⟨y, hy, h1⟩ := h.inv.qu a ha
   obtain ⟨z, hz, h4, _⟩ := h.inv.jo a (List.mem_filter.1 hb).1
   rw [hy] at hz; cases hz; omega
  ·rw [j2] at hj
   obtain ⟨hj, hj3⟩ := List.mem_filter.1 hj
   have hnot : j ∉ R.jof c := fun q => by
    have := (List.mem_filter.1 q).2
    rw [this] at hj3; cases hj3
   obtain ⟨y, hy, h4, h6⟩ := h.inv.jo j hj
   have hne : j ≠ c := fun q => by rw [q, hx] at hy; cases hy; omega
   rw [at2, if_neg hnot, at1, if_neg hne]
   exact ⟨y, hy, h4, by omega⟩
  ·rw [j2]; exact h.inv.jn.sublist List.filter_sublist
  ·rcases back hy with ⟨_, _, q⟩ | ⟨_, z, _, q⟩ | ⟨_, _, q3⟩
   ·exact q
   ·subst q; cases h5
   ·exact h.inv.dead j y q3 h5
  ·rcases back hy with ⟨_, _, q⟩ | ⟨_, z, hz, q⟩ | ⟨_, _, q3⟩
   ·rw [q]; exact ⟨Nat.zero_le _, fun f hf => by cases hf⟩
   ·subst q; exact h.inv.fit j z hz
   ·exact h.inv.fit j y q3
  ·rw [q2, j2, List.length_append]
   have := filter_two (fun j => R.jn j == c) R.joins
   unfold RTab.jof
   omega
 refine ⟨rfl, ⟨?_, ?_, ?_, fun j => ?_⟩, ?_, hinv⟩
 ·rw [cq2.last, f1, l2, ln1]
 ·rw [cq2.queue, q2, f3, hR1]; rfl
 ·rw [cq2.ids, hR2]; rfl
 ·rw [cq2.get]
  have e0 : R2.at j = ((R.jof c).foldl RTab.ready R1).at j := by rw [hR2]; rfl
  unfold RTab.abs
  rw [e0]
  have hb : ∀ {y : TH}, ((R.jof c).foldl RTab.ready R1).at j = some y → _ := fun {y} hy => back (j := j) (y := y) (e0.trans hy)
  cases hy : ((R.jof c).foldl RTab.ready R1).at j with
  | none => rfl
  | some y =>
   dsimp only
   by_cases h5 : y.st = 5
   ·rw [if_pos h5, if_pos h5]
   ·rw [if_neg h5, if_neg h5]
    have hne : j ≠ c := by
     rcases hb hy with ⟨_, q, _⟩ | ⟨q, _⟩ | ⟨q, _⟩
     ·exact absurd q h5
     ·exact (hmem j q).1
     ·exact q
    have key : ∀ F : RTab, F.joins = R.joins → (∀ k, F.jn k = R.jn k) → R2.jof j = F.jof j := fun F g1 g2 => by
     unfold RTab.jof
     rw [j2, g1, List.filter_filter]
     refine List.filter_congr fun k hk => ?_
     rw [jn2, g2]
     by_cases q : R.jn k = j
     ·simp [q, hne]
     ·simp [q]
    have := key ((R.jof c).foldl RTab.ready R1) (f2.trans jo1) fun k => (f4 k).trans (jn1 k)
    rw [this]
 ·have : ∀ (l : List Int) (m : MT), (l.foldl MT.ready m).run = m.run := fun l => by
   induction l with
   | nil => intro m; rfl
   | cons a l ih => intro m; exact ih _
  rw [this]
  show (0 : Int) = _
  exact (cur_zero fun j y hy => norun hy).symm

end Go.Proofs.Ytaaedebknacheaa.AB

set_option maxRecDepth 100000
set_option maxHeartbeats 2000000
namespace Go.Proofs.Ytaaedebknacheaa.AB
open Go
noncomputable def X51 : Cx := ⟨tt, [(16, [.cd (.int .i64)]), (43, [.cd .bool])], [(17, [(.pure (.int .i64)), (.pure (.int .i64))]), (18, [(.pure (.int .i64)), (.pure .bool)]), (19, [(.pure (.int .i64))]), (22, [(.pure (.pair (.int .i64) (.pair (.int .i64) (.pair (.slice (.int .i64)) (.slice (.int .i64)))))), (.pure .bool)]), (40, [(.pure (.int .i64))]), (42, [(.pure (.pair (.int .i64) (.pair (.int .i64) (.pair (.slice (.int .i64)) (.slice (.int .i64)))))), (.pure (.int .i64))]), (47, [(.pure .bool), (.pure (.int .i64))]), (48, [(.sl (.pure (.int .i64))), (.pure (.int .i64))]), (49, [(.pure .bool)]), (75, [(.pure (.int .i64)), (.pure (.int .i64))]), (76, [(.pure (.int .i64))]), (77, [(.pure (.pair (.int .i64) (.pair (.int .i64) (.pair (.slice (.int .i64)) (.slice (.int .i64)))))), (.pure (.int .i64))]), (78, [(.pure (.int .i64))]), (79, [(.pure (.int .i64))]), (80, [(.pure (.int .i64)), (.pure .bool)]), (81, [(.pure (.int .i64))]), (82, [(.pure (.int .i64))]), (83, [(.pure (.int .i64))]), (84, [(.pure (.int .i64))]), (85, [(.pure (.int .i64))]), (86, [(.pure .bool), (.pure (.int .i64))]), (87, [(.pure (.slice (.int .i64))), (.pure (.int .i64))]), (88, [(.pure (.pair (.int .i64) (.pair (.int .i64) (.pair (.slice (.int .i64)) (.slice (.int .i64)))))), (.pure .bool)])], [(51, [(4, 3, .xc), (5, 2, .xc), (8, 5, .xc), (8, 10, .xc), (10, 3, .xc), (11, 3, .xc), (15, 5, .xc), (15, 10, .xc), (18, 3, .xc), (19, 3, .xc), (22, 1, .xc), (22, 3, .xc), (24, 1, .xc), (24, 3, .xc), (26, 3, .xc), (26, 7, .xc), (28, 3, .xc), (29, 3, .xc), (32, 1, .xc), (33, 1, .xc), (34, 2, .rd), (36, 3, .rd), (37, 3, .rd), (6000008, 13012011006010009008007005004003002001, .dflt), (6000015, 13012011006010009008007005004003002001, .dflt), (6000026, 10009008004007006005003002001, .dflt)])], [], []⟩
theorem FN51 : fnsB Try.prog X51.fns := (show True from trivial)
theorem E51 (X : XH) (t0 : Nat) (r1 : Nat) (o2 : (Int × (Int × (Int × (Int × ((List Int) × (List Int))))))) {R : (Bool) → XH → Prop} (h : (∃ p1 : Int, PC Try.prog 16 [(.int .i64 o2.1), (.int .i64 (12 : Int))] (.int .i64 p1) ∧ (((p1 == (0 : Int)) = true → (XC Try.prog 17 [(.pure (.int .i64)), (.pure (.int .i64))] [(.ref (some t0) yZ2 0 []), (.v (.agg [(.int .i64 o2.2.2.1), (.int .i64 o2.2.2.2.1), (.list (.int .i64) o2.2.2.2.2.1 .no), (.list (.int .i64) o2.2.2.2.2.2 .no)]))] X (fun (p2 : Int × Int) (X3 : XH) => (XC Try.prog 75 [(.pure (.int .i64)), (.pure (.int .i64))] [(.ref (some r1) yZ0 0 []), (.v (.agg [(.int .i64 o2.2.2.1), (.int .i64 o2.2.2.2.1), (.list (.int .i64) o2.2.2.2.2.1 .no), (.list (.int .i64) o2.2.2.2.2.2 .no)]))] X3 (fun (p4 : Int × Int) (X5 : XH) => (((p2.1 == p4.1) = true → R (p2.2 == p4.2) X5) ∧ ((p2.1 == p4.1) = false → R false X5))))))) ∧
 ((p1 == (0 : Int)) = false → (((p1 == (1 : Int)) = true → (XC Try.prog 40 [(.pure (.int .i64))] [(.ref (some t0) yZ2 0 []), (.v (.int .i64 o2.2.1)), (.v (.agg [(.int .i64 o2.2.2.1), (.int .i64 o2.2.2.2.1), (.list (.int .i64) o2.2.2.2.2.1 .no), (.list (.int .i64) o2.2.2.2.2.2 .no)]))] X (fun (p6 : Int) (X7 : XH) => (XC Try.prog 76 [(.pure (.int .i64))] [(.ref (some r1) yZ0 0 []), (.v (.int .i64 o2.2.1)), (.v (.agg [(.int .i64 o2.2.2.1), (.int .i64 o2.2.2.2.1), (.list (.int .i64) o2.2.2.2.2.1 .no), (.list (.int .i64) o2.2.2.2.2.2 .no)]))] X7 (fun (p8 : Int) (X9 : XH) => R (p6 == p8) X9))))) ∧
 ((p1 == (1 : Int)) = false → (((p1 == (2 : Int)) = true → (XC Try.prog 42 [(.pure (.pair (.int .i64) (.pair (.int .i64) (.pair (.slice (.int .i64)) (.slice (.int .i64)))))), (.pure (.int .i64))] [(.ref (some t0) yZ2 0 []), (.v (.int .i64 o2.2.1))] X (fun (p10 : (Int × (Int × ((List Int) × (List Int)))) × Int) (X11 : XH) => (XC Try.prog 77 [(.pure (.pair (.int .i64) (.pair (.int .i64) (.pair (.slice (.int .i64)) (.slice (.int .i64)))))), (.pure (.int .i64))] [(.ref (some r1) yZ0 0 []), (.v (.int .i64 o2.2.1))] X11 (fun (p12 : (Int × (Int × ((List Int) × (List Int)))) × Int) (X13 : XH) => (∃ p14 : Bool, PC Try.prog 43 [(.agg [(.int .i64 p10.1.1), (.int .i64 p10.1.2.1), (.list (.int .i64) p10.1.2.2.1 .no), (.list (.int .i64) p10.1.2.2.2 .no)]), (.agg [(.int .i64 p12.1.1), (.int .i64 p12.1.2.1), (.list (.int .i64) p12.1.2.2.1 .no), (.list (.int .i64) p12.1.2.2.2 .no)])] (.bool p14) ∧ ((p14 = true → R (p10.2 == p12.2) X13) ∧ (p14 = false → R false X13)))))))) ∧
 ((p1 == (2 : Int)) = false → (((p1 == (3 : Int)) = true → (XC Try.prog 78 [(.pure (.int .i64))] [(.ref (some t0) yZ2 0 []), (.v (.int .i64 o2.2.1)), (.v (.agg [(.int .i64 o2.2.2.1), (.int .i64 o2.2.2.2.1), (.list (.int .i64) o2.2.2.2.2.1 .no), (.list (.int .i64) o2.2.2.2.2.2 .no)]))] X (fun (p15 : Int) (X16 : XH) => (XC Try.prog 79 [(.pure (.int .i64))] [(.ref (some r1) yZ0 0 []), (.v (.int .i64 o2.2.1)), (.v (.agg [(.int .i64 o2.2.2.1), (.int .i64 o2.2.2.2.1), (.list (.int .i64) o2.2.2.2.2.1 .no), (.list (.int .i64) o2.2.2.2.2.2 .no)]))] X16 (fun (p17 : Int) (X18 : XH) => R (p15 == p17) X18))))) ∧
 ((p1 == (3 : Int)) = false → (((p1 == (4 : Int)) = true → (((p1 == (4 : Int)) = true → (XC Try.prog 18 [(.pure (.int .i64)), (.pure .bool)] [(.ref (some t0) yZ2 0 []), (.v (.int .i64 o2.2.1))] X (fun (p19 : Int × Bool) (X20 : XH) => (XC Try.prog 80 [(.pure (.int .i64)), (.pure .bool)] [(.ref (some r1) yZ0 0 []), (.v (.int .i64 o2.2.1))] X20 (fun (p21 : Int × Bool) (X22 : XH) => (((p19.1 == p21.1) = true → R (p19.2 == p21.2) X22) ∧ ((p19.1 == p21.1) = false → R false X22))))))) ∧
 ((p1 == (4 : Int)) = false → (((p1 == (6 : Int)) = true → (XC Try.prog 19 [(.pure (.int .i64))] [(.ref (some t0) yZ2 0 [])] X (fun (p23 : Int) (X24 : XH) => (XC Try.prog 81 [(.pure (.int .i64))] [(.ref (some r1) yZ0 0 [])] X24 (fun (p25 : Int) (X26 : XH) => R (p23 == p25) X26))))) ∧
 ((p1 == (6 : Int)) = false → (((p1 == (7 : Int)) = true → (XC Try.prog 82 [(.pure (.int .i64))] [(.ref (some t0) yZ2 0 [])] X (fun (p27 : Int) (X28 : XH) => (XC Try.prog 83 [(.pure (.int .i64))] [(.ref (some r1) yZ0 0 [])] X28 (fun (p29 : Int) (X30 : XH) => R (p27 == p29) X30))))) ∧
 ((p1 == (7 : Int)) = false → (((p1 == (8 : Int)) = true → (XC Try.prog 84 [(.pure (.int .i64))] [(.ref (some t0) yZ2 0 []), (.v (.int .i64 o2.2.1))] X (fun (p31 : Int) (X32 : XH) => (XC Try.prog 85 [(.pure (.int .i64))] [(.ref (some r1) yZ0 0 []), (.v (.int .i64 o2.2.1))] X32 (fun (p33 : Int) (X34 : XH) => R (p31 == p33) X34))))) ∧
 ((p1 == (8 : Int)) = false → (((p1 == (9 : Int)) = true → (XC Try.prog 47 [(.pure .bool), (.pure (.int .i64))] [(.ref (some t0) yZ2 0 []), (.v (.int .i64 o2.2.1))] X (fun (p35 : Bool × Int) (X36 : XH) => (XC Try.prog 86 [(.pure .bool), (.pure (.int .i64))] [(.ref (some r1) yZ0 0 []), (.v (.int .i64 o2.2.1))] X36 (fun (p37 : Bool × Int) (X38 : XH) => (((p35.1 == p37.1) = true → R (p35.2 == p37.2) X38) ∧ ((p35.1 == p37.1) = false → R false X38))))))) ∧
 ((p1 == (9 : Int)) = false → (((p1 == (10 : Int)) = true → (XC Try.prog 48 [(.sl (.pure (.int .i64))), (.pure (.int .i64))] [(.ref (some t0) yZ2 0 [])] X (fun (p39 : (Option SlH) × Int) (X40 : XH) => (XC Try.prog 87 [(.pure (.slice (.int .i64))), (.pure (.int .i64))] [(.ref (some r1) yZ0 0 [])] X40 (fun (p41 : (List Int) × Int) (X42 : XH) => (∃ (p43 : Bool), RC Try.prog 49 [(.pure .bool)] [(.sl (.pure (.int .i64)) p39.1), (.v (.list (.int .i64) p41.1 .no))] X42 p43 ∧ ((p43 = true → R (p39.2 == p41.2) X42) ∧ (p43 = false → R false X42)))))))) ∧
 ((p1 == (10 : Int)) = false → (∃ (p44 : (Int × (Int × ((List Int) × (List Int)))) × Bool), RC Try.prog 22 [(.pure (.pair (.int .i64) (.pair (.int .i64) (.pair (.slice (.int .i64)) (.slice (.int .i64)))))), (.pure .bool)] [(.ref (some t0) yZ2 0 []), (.v (.int .i64 o2.2.1))] X p44 ∧ (∃ (p45 : (Int × (Int × ((List Int) × (List Int)))) × Bool), RC Try.prog 88 [(.pure (.pair (.int .i64) (.pair (.int .i64) (.pair (.slice (.int .i64)) (.slice (.int .i64)))))), (.pure .bool)] [(.ref (some r1) yZ0 0 []), (.v (.int .i64 o2.2.1))] X p45 ∧ (∃ p46 : Bool, PC Try.prog 43 [(.agg [(.int .i64 p44.1.1), (.int .i64 p44.1.2.1), (.list (.int .i64) p44.1.2.2.1 .no), (.list (.int .i64) p44.1.2.2.2 .no)]), (.agg [(.int .i64 p45.1.1), (.int .i64 p45.1.2.1), (.list (.int .i64) p45.1.2.2.1 .no), (.list (.int .i64) p45.1.2.2.2 .no)])] (.bool p46) ∧ ((p46 = true → R (p44.2 == p45.2) X) ∧ (p46 = false → R false X)))))))))))))))))) ∧
 ((p1 == (4 : Int)) = false → (((p1 == (5 : Int)) = true → (XC Try.prog 18 [(.pure (.int .i64)), (.pure .bool)] [(.ref (some t0) yZ2 0 []), (.v (.int .i64 o2.2.1))] X (fun (p47 : Int × Bool) (X48 : XH) => (XC Try.prog 80 [(.pure (.int .i64)), (.pure .bool)] [(.ref (some r1) yZ0 0 []), (.v (.int .i64 o2.2.1))] X48 (fun (p49 : Int × Bool) (X50 : XH) => (((p47.1 == p49.1) = true → R (p47.2 == p49.2) X50) ∧ ((p47.1 == p49.1) = false → R false X50))))))) ∧
 ((p1 == (5 : Int)) = false → (((p1 == (6 : Int)) = true → (XC Try.prog 19 [(.pure (.int .i64))] [(.ref (some t0) yZ2 0 [])] X (fun (p51 : Int) (X52 : XH) => (XC Try.prog 81 [(.pure (.int .i64))] [(.ref (some r1) yZ0 0 [])] X52 (fun (p53 : Int) (X54 : XH) => R (p51 == p53) X54))))) ∧
 ((p1 == (6 : Int)) = false → (((p1 == (7 : Int)) = true → (XC Try.prog 82 [(.pure (.int .i64))] [(.ref (some t0) yZ2 0 [])] X (fun (p55 : Int) (X56 : XH) => (XC Try.prog 83 [(.pure (.int .i64))] [(.ref (some r1) yZ0 0 [])] X56 (fun (p57 : Int) (X58 : XH) => R (p55 == p57) X58))))) ∧
 ((p1 == (7 : Int)) = false → (((p1 == (8 : Int)) = true → (XC Try.prog 84 [(.pure (.int .i64))] [(.ref (some t0) yZ2 0 []), (.v (.int .i64 o2.2.1))] X (fun (p59 : Int) (X60 : XH) => (XC Try.prog 85 [(.pure (.int .i64))] [(.ref (some r1) yZ0 0 []), (.v (.int .i64 o2.2.1))] X60 (fun (p61 : Int) (X62 : XH) => R (p59 == p61) X62))))) ∧
 ((p1 == (8 : Int)) = false → (((p1 == (9 : Int)) = true → (XC Try.prog 47 [(.pure .bool), (.pure (.int .i64))] [(.ref (some t0) yZ2 0 []), (.v (.int .i64 o2.2.1))] X (fun (p63 : Bool × Int) (X64 : XH) => (XC Try.prog 86 [(.pure .bool), (.pure (.int .i64))] [(.ref (some r1) yZ0 0 []), (.v (.int .i64 o2.2.1))] X64 (fun (p65 : Bool × Int) (X66 : XH) => (((p63.1 == p65.1) = true → R (p63.2 == p65.2) X66) ∧ ((p63.1 == p65.1) = false → R false X66))))))) ∧
 ((p1 == (9 : Int)) = false → (((p1 == (10 : Int)) = true → (XC Try.prog 48 [(.sl (.pure (.int .i64))), (.pure (.int .i64))] [(.ref (some t0) yZ2 0 [])] X (fun (p67 : (Option SlH) × Int) (X68 : XH) => (XC Try.prog 87 [(.pure (.slice (.int .i64))), (.pure (.int .i64))] [(.ref (some r1) yZ0 0 [])] X68 (fun (p69 : (List Int) × Int) (X70 : XH) => (∃ (p71 : Bool), RC Try.prog 49 [(.pure .bool)] [(.sl (.pure (.int .i64)) p67.1), (.v (.list (.int .i64) p69.1 .no))] X70 p71 ∧ ((p71 = true → R (p67.2 == p69.2) X70) ∧ (p71 = false → R false X70)))))))) ∧
 ((p1 == (10 : Int)) = false → (∃ (p72 : (Int × (Int × ((List Int) × (List Int)))) × Bool), RC Try.prog 22 [(.pure (.pair (.int .i64) (.pair (.int .i64) (.pair (.slice (.int .i64)) (.slice (.int .i64)))))), (.pure .bool)] [(.ref (some t0) yZ2 0 []), (.v (.int .i64 o2.2.1))] X p72 ∧ (∃ (p73 : (Int × (Int × ((List Int) × (List Int)))) × Bool), RC Try.prog 88 [(.pure (.pair (.int .i64) (.pair (.int .i64) (.pair (.slice (.int .i64)) (.slice (.int .i64)))))), (.pure .bool)] [(.ref (some r1) yZ0 0 []), (.v (.int .i64 o2.2.1))] X p73 ∧ (∃ p74 : Bool, PC Try.prog 43 [(.agg [(.int .i64 p72.1.1), (.int .i64 p72.1.2.1), (.list (.int .i64) p72.1.2.2.1 .no), (.list (.int .i64) p72.1.2.2.2 .no)]), (.agg [(.int .i64 p73.1.1), (.int .i64 p73.1.2.1), (.list (.int .i64) p73.1.2.2.1 .no), (.list (.int .i64) p73.1.2.2.2 .no)])] (.bool p74) ∧ ((p74 = true → R (p72.2 == p73.2) X) ∧ (p74 = false → R false X))))))))))))))))))))))))))))) :
  Wrap (fnK X51.tt (callN Try.prog X51 0) (X51.md 51) (X51.mk1 51) Try.f51 [(.ref (some t0) yZ2 0 []), (.ref (some r1) yZ0 0 []), (.v (.agg [(.int .i64 o2.1), (.int .i64 o2.2.1), (.int .i64 o2.2.2.1), (.int .i64 o2.2.2.2.1), (.list (.int .i64) o2.2.2.2.2.1 .no), (.list (.int .i64) o2.2.2.2.2.2 .no)]))] ⟨[], [some (.heap X)], ⟨0, []⟩⟩ (xfin [(.pure .bool)] R)) := Wrap.cast (by kernel_rfl) ⟨h⟩
end Go.Proofs.Ytaaedebknacheaa.AB

namespace Go.Proofs.Ytaaedebknacheaa.AB
open Go


variable {X X' : XH} {t r : Nat} {d : DT} {e : RD} {n : Nat}

structure Two (X : XH) (t r : Nat) (d : DT) (e : RD) : Prop where
 pr : Rep X t d
 rr : RRep X r e
 far : ∀ k ∈ e.ks r, k ∉ t :: d.hs

theorem Two.left (h : Two X t r d e) {m : MT} (hp : Post X t d X' m) : ∃ d', Two X' t r d' e ∧ d'.ab = m := by
 obtain ⟨d', h1, h2, h3⟩ := hp
 exact ⟨d', ⟨h1, h.rr.mv h2 h.far, fun k hk q => (h2.own k q).elim (h.far k hk) fun q => absurd (h.rr.lt k hk) (by omega)⟩, h3⟩

theorem Two.right (h : Two X t r d e) {R : RTab} (hp : RGoes X r e X' R) : ∃ e', Two X' t r d e' ∧ e'.ab = R := by
 obtain ⟨e', h1, h2, h3⟩ := hp
 exact ⟨e', ⟨h.pr.mv h2 fun k hk q => h.far k q hk, h1, fun k hk q => (h2.own k hk).elim (fun q2 => h.far k q2 q) fun q2 => absurd (h.pr.lt k q) (by omega)⟩, h3⟩

def Both (X : XH) (t r n : Nat) : Prop := ∃ d e, Two X t r d e ∧ Cp d.ab e.ab n

theorem small_of {f : Fr} (h : f.2.2.1.length ≤ 100 ∧ f.2.2.2.length ≤ 100) : Small f := ⟨by unfold room; omega, by unfold room; omega⟩

theorem Cp.fitR (h : Cp d.ab e.ab n) (hn : n ≤ 1000) : e.ab.Fit := ⟨by have := h.inv.ln; omega, fun x hx => by
 obtain ⟨id, hid⟩ := at_mem' hx
 have := h.inv.fit id x hid
 exact ⟨by omega, fun f hf => small_of (this.2 f hf)⟩⟩

theorem Cp.fitM {m : MT} {R : RTab} (h : Cp m R n) : MFit m := fun a ha => by
 obtain ⟨x, hx, h5, hax⟩ := h.cq.row h.cq.nodup ha
 have := h.inv.fit _ x hx
 rw [hax]
 exact ⟨by show x.fr.length < 1000; omega, fun f hf => small_of (this.2 f hf)⟩

theorem fit_top {R : RTab} (h : RInv R n) (id : Int) : (R.top id).1.2.2.1.length ≤ 100 ∧ (R.top id).1.2.2.2.length ≤ 100 := by
 unfold RTab.top
 cases hx : R.at id with
 | none => exact ⟨Nat.zero_le _, Nat.zero_le _⟩
 | some x =>
  dsimp only
  by_cases h5 : x.st = 5
  ·rw [if_pos h5]; exact ⟨Nat.zero_le _, Nat.zero_le _⟩
  ·rw [if_neg h5]
   cases hl : x.fr.getLast? with
   | none => exact ⟨Nat.zero_le _, Nat.zero_le _⟩
   | some f => exact (h.fit id x hx).2 f (List.mem_of_getLast? hl)

theorem xcOfW {X : Cx} (hX : X.tt = tt) (hfn : fnsB Try.prog X.fns) {d : Nat} {f : FuncId} {fn : Func} (hf : Try.prog.funcs[f]? = some fn) (hname : fn.name ≠ "runtime.NumGoroutine") {cs : List Xd} {args : List TV} {H : XH}
  {Q : xresT cs → XH → Prop} (h : Wrap (fnK X.tt (callN Try.prog X d) (X.md f) (X.mk1 f) fn args ⟨[], [some (.heap H)], ⟨0, []⟩⟩ (xfin cs Q))) : XC Try.prog f cs args H Q := xcOf hX hfn hf hname h.out

abbrev DQ (t r n : Nat) (b : Bool) (X' : XH) : Prop := b = true ∧ Both X' t r (n + 1)

theorem c51 (h2 : Two X t r d e) (hc : Cp d.ab e.ab n) (hn : n ≤ 300) {o : Int × (Int × Fr)} (hk : I64 o.1) (ha : I64 o.2.1) (hf : o.2.2.2.2.1.length ≤ 100 ∧ o.2.2.2.2.2.length ≤ 100) :
  XC Try.prog 51 [.pure .bool] [.ref (some t) yZ2 0 [], .ref (some r) cRT 0 [], .v (.agg [.int .i64 o.1, .int .i64 o.2.1, .int .i64 o.2.2.1, .int .i64 o.2.2.2.1, .list (.int .i64) o.2.2.2.2.1 .no, .list (.int .i64) o.2.2.2.2.2 .no])] X (DQ t r n) := by
 have hs : Small o.2.2 := small_of hf
 have hfr := hc.fitR (by omega)
 have hfm := hc.fitM
 have hln := hc.inv.ln
 have hqj := hc.inv.qj
 have hnl : e.hs.length ≤ 1000000 := by rw [← RD.ab_len]; omega
 have hql : d.ab.queue.length ≤ 300 := by rw [hc.cq.queue]; omega
 have hrun : d.ab.run ≠ 0 → d.ab.has d.ab.run := fun q => by
  rw [hc.run] at q ⊢
  obtain ⟨x, hx, hx2⟩ := cur_some q
  exact hc.cq.has hx (by omega)
 have hin : ∀ id ∈ d.ab.queue, d.ab.has id := fun id hid => by
  rw [hc.cq.queue] at hid
  obtain ⟨x, hx, hx1⟩ := hc.inv.qu id hid
  exact hc.cq.has hx (by omega)
 have hnum : Nums d.ab := by
  refine ⟨by rw [hc.cq.last]; omega, by rw [hc.cq.last]; omega, fun a ha => ?_⟩
  obtain ⟨x, hx, _, _⟩ := hc.cq.row hc.cq.nodup ha
  rw [hc.cq.last]
  exact (RTab.at_le hx).2
 have hjl : ∀ a ∈ d.ab.rows, a.joins.length ≤ 300 := fun a ha => by
  obtain ⟨x, hx, _, hax⟩ := hc.cq.row hc.cq.nodup ha
  rw [hax]
  have := List.length_filter_le (fun j => e.ab.jn j == a.id) e.ab.joins
  show (e.ab.joins.filter _).length ≤ 300
  omega
 have fin : ∀ {X3 X5 : XH} {α β : Type} {a b : α} {m : MT} {R : RTab}, a = b ∧ Cp m R (n + 1) → Post X t d X3 m → ∀ (_ : RGoes X3 r e X5 R → RGoes X3 r e X5 R), RGoes X3 r e X5 R → Both X5 t r (n + 1) := by
  intro X3 X5 α β a b m R hab hp _ hg
  obtain ⟨d', q1, q2⟩ := h2.left hp
  obtain ⟨e', q3, q4⟩ := q1.right hg
  exact ⟨d', e', q3, by rw [q2, q4]; exact hab.2⟩
 have R2 : ∀ {X3 : XH} {m : MT}, Post X t d X3 m → RRep X3 r e := fun hp => by
  obtain ⟨d', q1, _⟩ := h2.left hp
  exact q1.rr
 have bb : ∀ {α : Type} [BEq α] [LawfulBEq α] {a b : α}, a = b → (a == b) = true := fun q => by subst q; exact beq_self_eq_true _
 have K0 : XC Try.prog 17 [cI, cI] [(.ref (some t) yZ2 0 []), (.v (.agg [(.int .i64 o.2.2.1), (.int .i64 o.2.2.2.1), (.list (.int .i64) o.2.2.2.2.1 .no), (.list (.int .i64) o.2.2.2.2.2 .no)]))] X (fun (p2 : Int × Int) (X3 : XH) => (XC Try.prog 75 [cI, cI] [(.ref (some r) cRT 0 []), (.v (.agg [(.int .i64 o.2.2.1), (.int .i64 o.2.2.2.1), (.list (.int .i64) o.2.2.2.2.1 .no), (.list (.int .i64) o.2.2.2.2.2 .no)]))] X3 (fun (p4 : Int × Int) (X5 : XH) => (((p2.1 == p4.1) = true → DQ t r n (p2.2 == p4.2) X5) ∧ ((p2.1 == p4.1) = false → DQ t r n false X5))))) := by
  have ok := ok_start hc (f := o.2.2) hf
  refine (x17 h2.pr hs hnum (by unfold room; omega)).mono fun p X3 ⟨e1, hp⟩ => (c75 (R2 hp) hfr hs (by omega) (by omega)).mono fun p4 X5 ⟨e2, hg⟩ => ?_
  have e3 : p = p4 := e1.trans (ok.1.trans e2.symm)
  subst e3
  exact ⟨fun _ => ⟨bb rfl, fin (α := Int × Int) (β := Unit) ok hp id hg⟩, fun q => absurd (bb rfl) (by rw [q]; decide)⟩
 have K1 : XC Try.prog 40 [cI] [(.ref (some t) yZ2 0 []), (.v (.int .i64 o.2.1)), (.v (.agg [(.int .i64 o.2.2.1), (.int .i64 o.2.2.2.1), (.list (.int .i64) o.2.2.2.2.1 .no), (.list (.int .i64) o.2.2.2.2.2 .no)]))] X (fun (p6 : Int) (X7 : XH) => (XC Try.prog 76 [cI] [(.ref (some r) cRT 0 []), (.v (.int .i64 o.2.1)), (.v (.agg [(.int .i64 o.2.2.1), (.int .i64 o.2.2.2.1), (.list (.int .i64) o.2.2.2.2.1 .no), (.list (.int .i64) o.2.2.2.2.2 .no)]))] X7 (fun (p8 : Int) (X9 : XH) => DQ t r n (p6 == p8) X9))) := by
  have ok := ok_push hc (f := o.2.2) hf o.2.1
  refine (x40 h2.pr hfm hs).mono fun p X3 ⟨e1, hp⟩ => (c76 (R2 hp) hfr _ hs).mono fun p4 X5 ⟨e2, hg⟩ => ?_
  exact ⟨bb (e1.trans (ok.1.trans e2.symm)), fin (α := Int) (β := Unit) ok hp id hg⟩
 have K2 : XC Try.prog 42 [cF, cI] [(.ref (some t) yZ2 0 []), (.v (.int .i64 o.2.1))] X (fun (p10 : Fr × Int) (X11 : XH) => (XC Try.prog 77 [cF, cI] [(.ref (some r) cRT 0 []), (.v (.int .i64 o.2.1))] X11 (fun (p12 : Fr × Int) (X13 : XH) => (∃ p14 : Bool, PC Try.prog 43 [(.agg [(.int .i64 p10.1.1), (.int .i64 p10.1.2.1), (.list (.int .i64) p10.1.2.2.1 .no), (.list (.int .i64) p10.1.2.2.2 .no)]), (.agg [(.int .i64 p12.1.1), (.int .i64 p12.1.2.1), (.list (.int .i64) p12.1.2.2.1 .no), (.list (.int .i64) p12.1.2.2.2 .no)])] (.bool p14) ∧ ((p14 = true → DQ t r n (p10.2 == p12.2) X13) ∧ (p14 = false → DQ t r n false X13)))))) := by
  have ok := ok_pop hc o.2.1
  refine (x42 h2.pr hfm _).mono fun p X3 ⟨e1, hp⟩ => (c77 (R2 hp) hfr _).mono fun p4 X5 ⟨e2, hg⟩ => ?_
  have e3 : p = p4 := e1.trans (ok.1.trans e2.symm)
  have hsz : p4.1.2.2.1.length ≤ 100 ∧ p4.1.2.2.2.length ≤ 100 := by
   rw [e2]
   unfold RTab.popR
   split
   ·exact fit_top hc.inv _
   ·exact ⟨Nat.zero_le _, Nat.zero_le _⟩
  subst e3
  refine ⟨_, p43 p.1 p.1 (by omega) (by omega), fun _ => ⟨bb rfl, fin (α := Fr × Int) (β := Unit) ok hp id hg⟩, fun q => ?_⟩
  exact absurd rfl (of_decide_eq_false q)
 have K3 : XC Try.prog 78 [cI] [(.ref (some t) yZ2 0 []), (.v (.int .i64 o.2.1)), (.v (.agg [(.int .i64 o.2.2.1), (.int .i64 o.2.2.2.1), (.list (.int .i64) o.2.2.2.2.1 .no), (.list (.int .i64) o.2.2.2.2.2 .no)]))] X (fun (p6 : Int) (X7 : XH) => (XC Try.prog 79 [cI] [(.ref (some r) cRT 0 []), (.v (.int .i64 o.2.1)), (.v (.agg [(.int .i64 o.2.2.1), (.int .i64 o.2.2.2.1), (.list (.int .i64) o.2.2.2.2.1 .no), (.list (.int .i64) o.2.2.2.2.2 .no)]))] X7 (fun (p8 : Int) (X9 : XH) => DQ t r n (p6 == p8) X9))) := by
  have ok := ok_set hc (f := o.2.2) hf o.2.1
  refine (x78 h2.pr hfm _ hs).mono fun p X3 ⟨e1, hp⟩ => (c79 (R2 hp) hfr _ hs).mono fun p4 X5 ⟨e2, hg⟩ => ?_
  exact ⟨bb (e1.trans (ok.1.trans e2.symm)), fin (α := Int) (β := Unit) ok hp id hg⟩
 have K4 : XC Try.prog 18 [cI, (.pure .bool)] [(.ref (some t) yZ2 0 []), (.v (.int .i64 o.2.1))] X (fun (p19 : Int × Bool) (X20 : XH) => (XC Try.prog 80 [cI, (.pure .bool)] [(.ref (some r) cRT 0 []), (.v (.int .i64 o.2.1))] X20 (fun (p21 : Int × Bool) (X22 : XH) => (((p19.1 == p21.1) = true → DQ t r n (p19.2 == p21.2) X22) ∧ ((p19.1 == p21.1) = false → DQ t r n false X22))))) := by
  have ok := ok_next hc o.2.1
  refine (x18 h2.pr ha.1 ha.2 hin (by unfold room; omega)).mono fun p X3 ⟨e1, hp⟩ => (c80 (R2 hp) hnl ha.1 ha.2 (fun id hid => by
   obtain ⟨x, hx, _⟩ := hc.inv.qu id hid
   exact ⟨x, hx⟩) (by omega)).mono fun p4 X5 ⟨e2, hg⟩ => ?_
  have e3 : p = p4 := e1.trans (ok.1.trans e2.symm)
  subst e3
  exact ⟨fun _ => ⟨bb rfl, fin (α := Int × Bool) (β := Unit) ok hp id hg⟩, fun q => absurd (bb rfl) (by rw [q]; decide)⟩
 have K6 : XC Try.prog 19 [cI] [(.ref (some t) yZ2 0 [])] X (fun (p23 : Int) (X24 : XH) => (XC Try.prog 81 [cI] [(.ref (some r) cRT 0 [])] X24 (fun (p25 : Int) (X26 : XH) => DQ t r n (p23 == p25) X26))) := by
  have ok := ok_yield hc
  refine (x19 h2.pr hrun (by unfold room; omega)).mono fun p X3 ⟨e1, hp⟩ => (c81 (R2 hp) hnl (by omega)).mono fun p4 X5 ⟨e2, hg⟩ => ?_
  exact ⟨bb (e1.trans (ok.1.trans e2.symm)), fin (α := Int) (β := Unit) ok hp id hg⟩
 have K7 : XC Try.prog 82 [cI] [(.ref (some t) yZ2 0 [])] X (fun (p23 : Int) (X24 : XH) => (XC Try.prog 83 [cI] [(.ref (some r) cRT 0 [])] X24 (fun (p25 : Int) (X26 : XH) => DQ t r n (p23 == p25) X26))) := by
  have ok := ok_block hc
  refine (x82 h2.pr hrun).mono fun p X3 ⟨e1, hp⟩ => (c83 (R2 hp) hnl).mono fun p4 X5 ⟨e2, hg⟩ => ?_
  exact ⟨bb (e1.trans (ok.1.trans e2.symm)), fin (α := Int) (β := Unit) ok hp id hg⟩
 have K8 : XC Try.prog 84 [cI] [(.ref (some t) yZ2 0 []), (.v (.int .i64 o.2.1))] X (fun (p23 : Int) (X24 : XH) => (XC Try.prog 85 [cI] [(.ref (some r) cRT 0 []), (.v (.int .i64 o.2.1))] X24 (fun (p25 : Int) (X26 : XH) => DQ t r n (p23 == p25) X26))) := by
  have ok := ok_wake hc o.2.1
  refine (x84 h2.pr (by omega) _).mono fun p X3 ⟨e1, hp⟩ => (c85 (R2 hp) hnl (by omega) _).mono fun p4 X5 ⟨e2, hg⟩ => ?_
  exact ⟨bb (e1.trans (ok.1.trans e2.symm)), fin (α := Int) (β := Unit) ok hp id hg⟩
 have K9 : XC Try.prog 47 [(.pure .bool), cI] [(.ref (some t) yZ2 0 []), (.v (.int .i64 o.2.1))] X (fun (p35 : Bool × Int) (X36 : XH) => (XC Try.prog 86 [(.pure .bool), cI] [(.ref (some r) cRT 0 []), (.v (.int .i64 o.2.1))] X36 (fun (p37 : Bool × Int) (X38 : XH) => (((p35.1 == p37.1) = true → DQ t r n (p35.2 == p37.2) X38) ∧ ((p35.1 == p37.1) = false → DQ t r n false X38))))) := by
  have ok := ok_join hc o.2.1
  refine (x47 h2.pr hrun fun a ha => by have := hjl a ha; unfold room; omega).mono fun p X3 ⟨e1, hp⟩ => (c86 (R2 hp) hnl (by omega) _).mono fun p4 X5 ⟨e2, hg⟩ => ?_
  have e3 : p = p4 := e1.trans (ok.1.trans e2.symm)
  subst e3
  exact ⟨fun _ => ⟨bb rfl, fin (α := Bool × Int) (β := Unit) ok hp id hg⟩, fun q => absurd (bb rfl) (by rw [q]; decide)⟩
 have K10 : XC Try.prog 48 [(.sl cI), cI] [(.ref (some t) yZ2 0 [])] X (fun (p39 : (Option SlH) × Int) (X40 : XH) => (XC Try.prog 87 [(.pure (.slice (.int .i64))), cI] [(.ref (some r) cRT 0 [])] X40 (fun (p41 : (List Int) × Int) (X42 : XH) => (∃ (p43 : Bool), RC Try.prog 49 [(.pure .bool)] [(.sl cI p39.1), (.v (.list (.int .i64) p41.1 .no))] X42 p43 ∧ ((p43 = true → DQ t r n (p39.2 == p41.2) X42) ∧ (p43 = false → DQ t r n false X42)))))) := by
  have ok := ok_end hc
  refine (x48 h2.pr hrun (fun a ha => ?_) (by omega)).mono fun p X3 ⟨l, hl, e1, hp, hown⟩ => (c87 (R2 hp) hnl (fun j hj => by
   obtain ⟨x, hx, _⟩ := hc.inv.jo j hj
   exact ⟨x, hx⟩) (by omega) (by omega)).mono fun p4 X5 ⟨e2, hg⟩ => ?_
  ·have hga := ha
   unfold MT.get at ha
   have hmem := List.mem_of_find?_eq_some ha
   refine ⟨by have := hjl a hmem; omega, fun j hj => ?_⟩
   obtain ⟨x, hx, h5, hax⟩ := hc.cq.row hc.cq.nodup hmem
   rw [hax] at hj
   have hj : j ∈ e.ab.joins.filter (fun j => e.ab.jn j == a.id) := hj
   obtain ⟨y, hy, h4, _⟩ := hc.inv.jo j (List.mem_filter.1 hj).1
   obtain ⟨b, hb, hbid⟩ := hc.cq.has hy (by omega)
   have hne : j ≠ d.ab.run := fun q => by
    rw [q, hc.run] at hy
    by_cases hz : e.ab.cur = 0
    ·rw [hz] at hy
     have := (RTab.at_le hy).1
     omega
    ·obtain ⟨z, hz1, hz2⟩ := cur_some hz
     rw [hy] at hz1; cases hz1; omega
   have h1 : (d.ab.rest 5).has j := (has_updAb (f := fun a => { a with st := 5 }) (fun _ => rfl)).2 ⟨b, hb, hbid⟩
   obtain ⟨b2, hb2, hb2id⟩ := h1
   exact ⟨b2, List.mem_filter.2 ⟨hb2, by rw [hb2id]; simpa using hne⟩, hb2id⟩
  ·have e3 : (l, p.2) = p4 := e1.trans (ok.1.trans e2.symm)
   subst e3
   obtain ⟨e', g1, g2, g3⟩ := hg
   have hl5 : SlAt X5 cI p.1 l := hl.keep fun k hk => g2.keep k (hl.lt k hk) fun q => by
    rcases hown k hk with q2 | q2
    ·exact h2.far k q q2
    ·exact absurd (h2.rr.lt k q) (by omega)
   have hll : l.length < 9223372036854775807 := by
    have h1 : l.length = e.ab.endR.1.1.length := congrArg (fun q : List Int × Int => q.1.length) e2
    have h3 : e.ab.endR.1.1.length ≤ e.ab.joins.length := by
     unfold RTab.endR
     split
     ·exact Nat.zero_le _
     ·exact List.length_filter_le _ _
    omega
   refine ⟨_, c49h l hl5 hll, fun _ => ⟨bb rfl, fin (α := List Int × Int) (β := Unit) ok hp id ⟨e', g1, g2, g3⟩⟩, fun q => ?_⟩
   exact absurd rfl (of_decide_eq_false q)
 have K11 : (∃ (p44 : Fr × Bool), RC Try.prog 22 [cF, (.pure .bool)] [(.ref (some t) yZ2 0 []), (.v (.int .i64 o.2.1))] X p44 ∧ (∃ (p45 : Fr × Bool), RC Try.prog 88 [cF, (.pure .bool)] [(.ref (some r) cRT 0 []), (.v (.int .i64 o.2.1))] X p45 ∧ (∃ p46 : Bool, PC Try.prog 43 [(.agg [(.int .i64 p44.1.1), (.int .i64 p44.1.2.1), (.list (.int .i64) p44.1.2.2.1 .no), (.list (.int .i64) p44.1.2.2.2 .no)]), (.agg [(.int .i64 p45.1.1), (.int .i64 p45.1.2.1), (.list (.int .i64) p45.1.2.2.1 .no), (.list (.int .i64) p45.1.2.2.2 .no)])] (.bool p46) ∧ ((p46 = true → DQ t r n (p44.2 == p45.2) X) ∧ (p46 = false → DQ t r n false X))))) := by
  have e1 := hc.cq.top o.2.1
  have hsz := fit_top hc.inv o.2.1
  refine ⟨_, c22 h2.pr o.2.1 hfm, _, c88 h2.rr hfr o.2.1, ?_⟩
  rw [e1]
  refine ⟨_, p43 _ _ (by omega) (by omega), fun _ => ⟨bb rfl, d, e, h2, hc.mono (Nat.le_succ _)⟩, fun q => absurd rfl (of_decide_eq_false q)⟩
 refine xcOfW (X := X51) rfl FN51 (by kernel_rfl) (by decide) (E51 X t r o ⟨_, c16 hk.1 hk.2 (by omega), fun _ => K0, fun _ => ⟨fun _ => K1, fun _ => ⟨fun _ => K2, fun _ => ⟨fun _ => K3, fun _ => ⟨fun e4 => ⟨fun _ => K4, fun e5 => ?_⟩, fun _ => ⟨fun _ => K4, fun _ => ⟨fun _ => K6, fun _ => ⟨fun _ => K7, fun _ => ⟨fun _ => K8, fun _ => ⟨fun _ => K9, fun _ => ⟨fun _ => K10, fun _ => K11⟩⟩⟩⟩⟩⟩⟩⟩⟩⟩⟩)
 rw [e4] at e5; cases e5

end Go.Proofs.Ytaaedebknacheaa.AB

set_option maxRecDepth 100000
set_option maxHeartbeats 2000000
namespace Go.Proofs.Ytaaedebknacheaa.AB
open Go
noncomputable def X49k : Cx := ⟨tt, [], [], [], [(49, [(0, mkM 26 0 [0, 1, 5], 0)])], []⟩
theorem FN49k : fnsB Try.prog X49k.fns := (show True from trivial)
def M49k_0 : List Bool × Nat := (mkM 26 0 [0, 1, 5], 1)
def S49k_0 (a0 : List Int) (b1 : Option SlH) (i5 : Int) (hq0 : XH) (T : Toks) : St :=
  mkS 26 [(0, (.v (.list (.int .i64) a0 .no))), (1, (.sl (.pure (.int .i64)) b1)), (5, (.v (.int .i64 i5)))] [(some (.heap hq0))] T
noncomputable def B49k_0 : (Exit → St → Prop) → St → Prop := (awp X49k.tt (callN Try.prog X49k 0) (X49k.md 49) 1 (X49k.mk1 49) 0 (codeAt [1, 1, 0, 1, 0, 0] (bd Try.f49)))
noncomputable def K49k_0 (R : (Bool) → XH → Prop) : Exit → St → Prop := seqK ((awp X49k.tt (callN Try.prog X49k 0) (X49k.md 49) 1 (X49k.mk1 49) 0 (codeAt [1, 1, 1] (bd Try.f49))) (retK tt Try.f49.results.toList fun x s' => xfin [(.pure .bool)] R x ⟨[], s'.hp, s'.T⟩)) (retK tt Try.f49.results.toList fun x s' => xfin [(.pure .bool)] R x ⟨[], s'.hp, s'.T⟩)
noncomputable def Q49k_0 (R : (Bool) → XH → Prop) : Exit → St → Prop := (blockK 0 (K49k_0 R))
theorem E49k (X : XH) (a0 : (List Int)) (b1 : (Option SlH)) {R : (Bool) → XH → Prop} (h : (((((a0).length : Int) != (((slN b1) : Nat) : Int)) = true → R false X) ∧
 ((((a0).length : Int) != (((slN b1) : Nat) : Int)) = false → (Loops B49k_0 M49k_0 (Q49k_0 R)
  (S49k_0 a0 b1 (0 : Int) X ⟨0, []⟩))))) :
  fnK X49k.tt (callN Try.prog X49k 0) (X49k.md 49) (X49k.mk1 49) Try.f49 [(.v (.list (.int .i64) a0 .no)), (.sl (.pure (.int .i64)) b1)] ⟨[], [some (.heap X)], ⟨0, []⟩⟩ (xfin [(.pure .bool)] R) := Eq.mp (by kernel_rfl) h
theorem L49k_0 (a0 : List Int) (b1 : Option SlH) (i5 : Int) (hq0 : XH) (T : Toks) {R : (Bool) → XH → Prop} {k0 : St → Prop}
 (h : (((decide (i5 < ((a0).length : Int))) = true → (0 ≤ i5 ∧ i5 < ((a0).length : Int) ∧ (∃ (u1 : SlH), b1 = some u1 ∧ 0 ≤ i5 ∧ i5 < ((u1.len : Nat) : Int) ∧ (∃ (a2 : Int), XH.el hq0 (.pure (.int .i64)) u1.h ((u1.off + (i5).toNat)) = some a2 ∧ ((((a0.getD (i5).toNat 0) != a2) = true → R false hq0) ∧
 (((a0.getD (i5).toNat 0) != a2) = false → k0 (S49k_0 a0 b1 ((IntKind.wrap .i64 (i5 + (1 : Int)))) hq0 T))))))) ∧
 ((decide (i5 < ((a0).length : Int))) = false → R true hq0))) :
  B49k_0 (loopQ M49k_0 k0 (Q49k_0 R)) (S49k_0 a0 b1 i5 hq0 T) := Eq.mp (by kernel_rfl) h
end Go.Proofs.Ytaaedebknacheaa.AB

set_option maxRecDepth 100000
set_option maxHeartbeats 2000000
namespace Go.Proofs.Ytaaedebknacheaa.AB
open Go
noncomputable def X13 : Cx := ⟨tt, [(14, [.cd .bool]), (43, [.cd .bool]), (49, [.cd .bool])], [(15, [(.ref yZ2)]), (20, [(.pure (.slice (.int .i64)))]), (21, [(.pure (.int .i64))]), (41, [(.pure (.slice (.pair (.int .i64) (.pair (.int .i64) (.pair (.slice (.int .i64)) (.slice (.int .i64)))))))]), (49, [(.pure .bool)]), (50, [(.pure (.slice (.int .i64)))]), (51, [(.pure .bool)]), (52, [(.pure (.slice (.int .i64)))]), (53, [(.pure (.int .i64))]), (54, [(.pure (.int .i64))])], [(13, [(4, 0, .xc), (7, 0, .x yZ0), (7, 1, .x yZ0), (13, 3, .xc), (16, 1, .rd), (16, 6, .rd), (17, 1, .rd), (17, 3, .rd), (18, 8, .rd), (18, 10, .rd), (28, 2, .rd), (28, 8, .rd), (30, 3, .rd)])], [(13, [(0, mkM 166 0 [0, 3, 4, 5, 6], 0), (2, mkM 166 0 [0, 3, 4, 5, 6, 7, 11], 1), (4, mkM 166 0 [0, 3, 4, 5, 6, 7, 14, 15], 1)])], []⟩
theorem FN13 : fnsB Try.prog X13.fns := (show True from trivial)
def M13_0 : List Bool × Nat := (mkM 166 0 [0, 3, 4, 5, 6], 1)
def S13_0 (script0 : List (Int × (Int × (Int × (Int × ((List Int) × (List Int))))))) (head3 : Bool) (t4 : Option Nat) (r5 : Nat) (i6 : Int) (hq0 : XH) (T : Toks) : St :=
  mkS 166 [(0, (.v (.list (.pair (.int .i64) (.pair (.int .i64) (.pair (.int .i64) (.pair (.int .i64) (.pair (.slice (.int .i64)) (.slice (.int .i64))))))) script0 .no))), (3, (.v (.bool head3))), (4, (.ref t4 yZ2 0 [])), (5, (.ref (some r5) yZ0 0 [])), (6, (.v (.int .i64 i6)))] [(some (.heap hq0))] T
noncomputable def B13_0 : (Exit → St → Prop) → St → Prop := (awp X13.tt (callN Try.prog X13 0) (X13.md 13) 1 (X13.mk1 13) 0 (codeAt [1, 1, 1, 1, 1, 1, 0, 1, 0, 0] (bd Try.f13)))
def M13_2 : List Bool × Nat := (mkM 166 0 [0, 3, 4, 5, 6, 7, 11], 2)
def S13_2 (script0 : List (Int × (Int × (Int × (Int × ((List Int) × (List Int))))))) (head3 : Bool) (t4 : Option Nat) (r5 : Nat) (i6 : Int) (id11 : Int) (hq0 : XH) (hq1_0 : Int) (hq1_1 : Int) (hq1_2 : Int) (hq1_3 : Int) (hq1_4 : List Int) (hq1_4k : Tok) (hq1_5 : List Int) (hq1_5k : Tok) (T : Toks) : St :=
  mkS 166 [(0, (.v (.list (.pair (.int .i64) (.pair (.int .i64) (.pair (.int .i64) (.pair (.int .i64) (.pair (.slice (.int .i64)) (.slice (.int .i64))))))) script0 .no))), (3, (.v (.bool head3))), (4, (.ref t4 yZ2 0 [])), (5, (.ref (some r5) yZ0 0 [])), (6, (.v (.int .i64 i6))), (7, (.ptr 1 0 0 0)), (11, (.v (.int .i64 id11)))] [(some (.heap hq0)), (some (.box (.v (.agg [(.int .i64 hq1_0), (.int .i64 hq1_1), (.int .i64 hq1_2), (.int .i64 hq1_3), (.list (.int .i64) hq1_4 hq1_4k), (.list (.int .i64) hq1_5 hq1_5k)]))))] T
noncomputable def B13_2 : (Exit → St → Prop) → St → Prop := (awp X13.tt (callN Try.prog X13 0) (X13.md 13) 1 (X13.mk1 13) 2 (codeAt [1, 1, 1, 1, 1, 1, 0, 1, 0, 0, 1, 0, 0, 1, 1, 1, 1, 1, 1, 1, 0, 1, 0, 0] (bd Try.f13)))
def M13_4 : List Bool × Nat := (mkM 166 0 [0, 3, 4, 5, 6, 7, 14, 15], 2)
def S13_4 (script0 : List (Int × (Int × (Int × (Int × ((List Int) × (List Int))))))) (head3 : Bool) (t4 : Option Nat) (r5 : Nat) (i6 : Int) (f14 : List (Int × (Int × ((List Int) × (List Int))))) (k15 : Int) (hq0 : XH) (hq1_0 : Int) (hq1_1 : Int) (hq1_2 : Int) (hq1_3 : Int) (hq1_4 : List Int) (hq1_4k : Tok) (hq1_5 : List Int) (hq1_5k : Tok) (T : Toks) : St :=
  mkS 166 [(0, (.v (.list (.pair (.int .i64) (.pair (.int .i64) (.pair (.int .i64) (.pair (.int .i64) (.pair (.slice (.int .i64)) (.slice (.int .i64))))))) script0 .no))), (3, (.v (.bool head3))), (4, (.ref t4 yZ2 0 [])), (5, (.ref (some r5) yZ0 0 [])), (6, (.v (.int .i64 i6))), (7, (.ptr 1 0 0 0)), (14, (.v (.list (.pair (.int .i64) (.pair (.int .i64) (.pair (.slice (.int .i64)) (.slice (.int .i64))))) f14 .no))), (15, (.v (.int .i64 k15)))] [(some (.heap hq0)), (some (.box (.v (.agg [(.int .i64 hq1_0), (.int .i64 hq1_1), (.int .i64 hq1_2), (.int .i64 hq1_3), (.list (.int .i64) hq1_4 hq1_4k), (.list (.int .i64) hq1_5 hq1_5k)]))))] T
noncomputable def B13_4 : (Exit → St → Prop) → St → Prop := (awp X13.tt (callN Try.prog X13 0) (X13.md 13) 1 (X13.mk1 13) 4 (codeAt [1, 1, 1, 1, 1, 1, 0, 1, 0, 0, 1, 0, 0, 1, 1, 1, 1, 1, 1, 1, 1, 1, 1, 0, 0] (bd Try.f13)))
noncomputable def K13_0 (R : V → Prop) : Exit → St → Prop := seqK ((awp X13.tt (callN Try.prog X13 0) (X13.md 13) 1 (X13.mk1 13) 0 (codeAt [1, 1, 1, 1, 1, 1, 1] (bd Try.f13))) (retK tt Try.f13.results.toList fun x s' => topK R x ⟨[], s'.hp, s'.T⟩)) (retK tt Try.f13.results.toList fun x s' => topK R x ⟨[], s'.hp, s'.T⟩)
noncomputable def Q13_0 (R : V → Prop) : Exit → St → Prop := (blockK 0 (K13_0 R))
noncomputable def K13_1 (R : V → Prop) (k0 : St → Prop) : Exit → St → Prop := seqK ((awp X13.tt (callN Try.prog X13 0) (X13.md 13) 1 (X13.mk1 13) 0 (codeAt [1, 1, 1, 1, 1, 1, 0, 1, 0, 0, 1, 1] (bd Try.f13))) (loopQ M13_0 k0 (blockK 0 (K13_0 R)))) (loopQ M13_0 k0 (blockK 0 (K13_0 R)))
noncomputable def K13_2 (R : V → Prop) (k0 : St → Prop) : Exit → St → Prop := seqK ((awp X13.tt (callN Try.prog X13 0) (X13.md 13) 1 (X13.mk1 13) 1 (codeAt [1, 1, 1, 1, 1, 1, 0, 1, 0, 0, 1, 0, 0, 1, 1, 1, 1, 1, 1, 1, 1] (bd Try.f13))) (blockK 1 (K13_1 R k0))) (blockK 1 (K13_1 R k0))
noncomputable def Q13_2 (R : V → Prop) (k0 : St → Prop) : Exit → St → Prop := (blockK 2 (K13_2 R k0))
noncomputable def Q13_4 (R : V → Prop) (k0 : St → Prop) : Exit → St → Prop := (blockK 4 (blockK 1 (K13_1 R k0)))
theorem E13 (script0 : (List (Int × (Int × (Int × (Int × ((List Int) × (List Int)))))))) {R : V → Prop} (h : (∃ p1 : Bool, PC Try.prog 14 [] (.bool p1) ∧ (((!p1) = true → R (.bool false)) ∧
 ((!p1) = false → (XC Try.prog 15 [(.ref yZ2)] [] XH.none (fun (p2 : (Option Nat)) (X3 : XH) => (((Option.isNone p2) = true → R (.bool false)) ∧
 ((Option.isNone p2) = false → (∀ (X4 : XH), X4 = (XH.add X3 (.arr yZ0 [(none, (none, none))])) → (Loops B13_0 M13_0 (Q13_0 R)
  (S13_0 script0 p1 p2 X3.n (0 : Int) X4 ⟨0, []⟩))))))))))) :
  fnK X13.tt (callN Try.prog X13 0) (X13.md 13) (X13.mk1 13) Try.f13 [(.v (.list (.pair (.int .i64) (.pair (.int .i64) (.pair (.int .i64) (.pair (.int .i64) (.pair (.slice (.int .i64)) (.slice (.int .i64))))))) script0 .no))] ⟨[], [some (.heap XH.none)], ⟨0, []⟩⟩ (topK R) := Eq.mp (by kernel_rfl) h
theorem L13_0 (script0 : List (Int × (Int × (Int × (Int × ((List Int) × (List Int))))))) (head3 : Bool) (t4 : Option Nat) (r5 : Nat) (i6 : Int) (hq0 : XH) (T : Toks) {R : V → Prop} {k0 : St → Prop}
 (h : (((decide (i6 < ((script0).length : Int))) = true → (((decide (i6 < (300 : Int))) = true → (0 ≤ i6 ∧ i6 < ((script0).length : Int) ∧ (((decide ((((script0.getD (i6).toNat (0, (0, (0, (0, ([], [])))))).2.2.2.2.1).length : Int) > (100 : Int))) = true → k0 (S13_0 script0 head3 t4 r5 ((IntKind.wrap .i64 (i6 + (1 : Int)))) hq0 T)) ∧ ((decide ((((script0.getD (i6).toNat (0, (0, (0, (0, ([], [])))))).2.2.2.2.1).length : Int) > (100 : Int))) = false → (((decide ((((script0.getD (i6).toNat (0, (0, (0, (0, ([], [])))))).2.2.2.2.2).length : Int) > (100 : Int))) = true → k0 (S13_0 script0 head3 t4 r5 ((IntKind.wrap .i64 (i6 + (1 : Int)))) hq0 T)) ∧
 ((decide ((((script0.getD (i6).toNat (0, (0, (0, (0, ([], [])))))).2.2.2.2.2).length : Int) > (100 : Int))) = false → (XC Try.prog 51 [(.pure .bool)] [(.ref t4 yZ2 0 []), (.ref (some r5) yZ0 0 []), (.v (.agg [(.int .i64 ((script0.getD (i6).toNat (0, (0, (0, (0, ([], [])))))).1)), (.int .i64 ((script0.getD (i6).toNat (0, (0, (0, (0, ([], [])))))).2.1)), (.int .i64 ((script0.getD (i6).toNat (0, (0, (0, (0, ([], [])))))).2.2.1)), (.int .i64 ((script0.getD (i6).toNat (0, (0, (0, (0, ([], [])))))).2.2.2.1)), (.list (.int .i64) ((script0.getD (i6).toNat (0, (0, (0, (0, ([], [])))))).2.2.2.2.1) .no), (.list (.int .i64) ((script0.getD (i6).toNat (0, (0, (0, (0, ([], [])))))).2.2.2.2.2) .no)]))] hq0 (fun (p5 : Bool) (X6 : XH) => (((!p5) = true → R (.bool false)) ∧
 ((!p5) = false → (∃ (p7 : (List Int)), RC Try.prog 20 [(.pure (.slice (.int .i64)))] [(.ref t4 yZ2 0 [])] X6 p7 ∧ (∃ (a8 : ((Option SlH) × ((Option SlH) × (Option SlH)))), XH.el X6 yZ0 r5 0 = some a8 ∧ (∃ (p9 : Bool), RC Try.prog 49 [(.pure .bool)] [(.v (.list (.int .i64) p7 .no)), (.sl (.pure (.int .i64)) a8.2.1)] X6 p9 ∧ (∃ (p10 : (List Int)), RC Try.prog 50 [(.pure (.slice (.int .i64)))] [(.ref t4 yZ2 0 [])] X6 p10 ∧ (∃ (p11 : (List Int)), RC Try.prog 52 [(.pure (.slice (.int .i64)))] [(.ref (some r5) yZ0 0 [])] X6 p11 ∧ (∃ p12 : Bool, PC Try.prog 49 [(.list (.int .i64) p10 .no), (.list (.int .i64) p11 .no)] (.bool p12) ∧ (((!p9) = true → R (.bool false)) ∧ ((!p9) = false → (((!p12) = true → R (.bool false)) ∧ ((!p12) = false → (∃ (p13 : Int), RC Try.prog 53 [(.pure (.int .i64))] [(.ref t4 yZ2 0 [])] X6 p13 ∧ (∃ (p14 : Int), RC Try.prog 54 [(.pure (.int .i64))] [(.ref (some r5) yZ0 0 [])] X6 p14 ∧ (((p13 != p14) = true → R (.bool false)) ∧
 ((p13 != p14) = false → (Loops B13_2 M13_2 (Q13_2 R k0)
  (S13_2 script0 head3 t4 r5 i6 (0 : Int) X6 ((script0.getD (i6).toNat (0, (0, (0, (0, ([], [])))))).1) ((script0.getD (i6).toNat (0, (0, (0, (0, ([], [])))))).2.1) ((script0.getD (i6).toNat (0, (0, (0, (0, ([], [])))))).2.2.1) ((script0.getD (i6).toNat (0, (0, (0, (0, ([], [])))))).2.2.2.1) ((script0.getD (i6).toNat (0, (0, (0, (0, ([], [])))))).2.2.2.2.1) .no ((script0.getD (i6).toNat (0, (0, (0, (0, ([], [])))))).2.2.2.2.2) .no T)))))))))))))))))))))))))) ∧
 ((decide (i6 < (300 : Int))) = false → R (.bool head3)))) ∧ ((decide (i6 < ((script0).length : Int))) = false → R (.bool head3)))) :
  B13_0 (loopQ M13_0 k0 (Q13_0 R)) (S13_0 script0 head3 t4 r5 i6 hq0 T) := Eq.mp (by kernel_rfl) h
theorem L13_2 (script0 : List (Int × (Int × (Int × (Int × ((List Int) × (List Int))))))) (head3 : Bool) (t4 : Option Nat) (r5 : Nat) (i6 : Int) (id11 : Int) (hq0 : XH) (hq1_0 : Int) (hq1_1 : Int) (hq1_2 : Int) (hq1_3 : Int) (hq1_4 : List Int) (hq1_4k : Tok) (hq1_5 : List Int) (hq1_5k : Tok) (T : Toks) {R : V → Prop} {k0 : St → Prop} {k2 : St → Prop}
 (h : (∃ (a15 : ((Option SlH) × ((Option SlH) × (Option SlH)))), XH.el hq0 yZ0 r5 0 = some a15 ∧ (((decide (id11 ≤ (IntKind.wrap .i64 ((((slN a15.1) : Nat) : Int) + (1 : Int))))) = true → (((decide (id11 ≥ (1 : Int))) = true → (∃ (a16 : ((Option SlH) × ((Option SlH) × (Option SlH)))), XH.el hq0 yZ0 r5 0 = some a16 ∧ (((decide (id11 ≤ (((slN a16.1) : Nat) : Int))) = true → (∃ (a17 : ((Option SlH) × ((Option SlH) × (Option SlH)))), XH.el hq0 yZ0 r5 0 = some a17 ∧ (∃ (u18 : SlH), a17.1 = some u18 ∧ 0 ≤ (IntKind.wrap .i64 (id11 - (1 : Int))) ∧ (IntKind.wrap .i64 (id11 - (1 : Int))) < ((u18.len : Nat) : Int) ∧ (∃ (a19 : ((Option SlH) × (Int × Int))), XH.el hq0 yZ1 u18.h ((u18.off + ((IntKind.wrap .i64 (id11 - (1 : Int)))).toNat)) = some a19 ∧ (∃ (a20 : ((Option SlH) × ((Option SlH) × (Option SlH)))), XH.el hq0 yZ0 r5 0 = some a20 ∧ (∃ (u21 : SlH), a20.1 = some u21 ∧ 0 ≤ (IntKind.wrap .i64 (id11 - (1 : Int))) ∧ (IntKind.wrap .i64 (id11 - (1 : Int))) < ((u21.len : Nat) : Int) ∧ (∃ (a22 : ((Option SlH) × (Int × Int))), XH.el hq0 yZ1 u21.h ((u21.off + ((IntKind.wrap .i64 (id11 - (1 : Int)))).toNat)) = some a22 ∧ (∃ (p23 : Int), RC Try.prog 21 [(.pure (.int .i64))] [(.ref t4 yZ2 0 []), (.v (.int .i64 id11))] hq0 p23 ∧ (((p23 != a19.2.1) = true → R (.bool false)) ∧ ((p23 != a19.2.1) = false → (∃ (p24 : (List (Int × (Int × ((List Int) × (List Int)))))), RC Try.prog 41 [(.pure (.slice (.pair (.int .i64) (.pair (.int .i64) (.pair (.slice (.int .i64)) (.slice (.int .i64)))))))] [(.ref t4 yZ2 0 []), (.v (.int .i64 id11))] hq0 p24 ∧ (((((p24).length : Int) != (((slN a22.1) : Nat) : Int)) = true → R (.bool false)) ∧
 ((((p24).length : Int) != (((slN a22.1) : Nat) : Int)) = false → k2 (S13_2 script0 head3 t4 r5 i6 ((IntKind.wrap .i64 (id11 + (1 : Int)))) hq0 hq1_0 hq1_1 hq1_2 hq1_3 hq1_4 hq1_4k hq1_5 hq1_5k T)))))))))))))) ∧
 ((decide (id11 ≤ (((slN a16.1) : Nat) : Int))) = false → (∃ (p25 : Int), RC Try.prog 21 [(.pure (.int .i64))] [(.ref t4 yZ2 0 []), (.v (.int .i64 id11))] hq0 p25 ∧ (((p25 != (0 : Int)) = true → R (.bool false)) ∧ ((p25 != (0 : Int)) = false → (∃ (p26 : (List (Int × (Int × ((List Int) × (List Int)))))), RC Try.prog 41 [(.pure (.slice (.pair (.int .i64) (.pair (.int .i64) (.pair (.slice (.int .i64)) (.slice (.int .i64)))))))] [(.ref t4 yZ2 0 []), (.v (.int .i64 id11))] hq0 p26 ∧ (((((p26).length : Int) != ((([] : List (Int × (Int × ((List Int) × (List Int)))))).length : Int)) = true → R (.bool false)) ∧
 ((((p26).length : Int) != ((([] : List (Int × (Int × ((List Int) × (List Int)))))).length : Int)) = false → k2 (S13_2 script0 head3 t4 r5 i6 ((IntKind.wrap .i64 (id11 + (1 : Int)))) hq0 hq1_0 hq1_1 hq1_2 hq1_3 hq1_4 hq1_4k hq1_5 hq1_5k T))))))))))) ∧ ((decide (id11 ≥ (1 : Int))) = false → (∃ (p27 : Int), RC Try.prog 21 [(.pure (.int .i64))] [(.ref t4 yZ2 0 []), (.v (.int .i64 id11))] hq0 p27 ∧ (((p27 != (0 : Int)) = true → R (.bool false)) ∧ ((p27 != (0 : Int)) = false → (∃ (p28 : (List (Int × (Int × ((List Int) × (List Int)))))), RC Try.prog 41 [(.pure (.slice (.pair (.int .i64) (.pair (.int .i64) (.pair (.slice (.int .i64)) (.slice (.int .i64)))))))] [(.ref t4 yZ2 0 []), (.v (.int .i64 id11))] hq0 p28 ∧ (((((p28).length : Int) != ((([] : List (Int × (Int × ((List Int) × (List Int)))))).length : Int)) = true → R (.bool false)) ∧
 ((((p28).length : Int) != ((([] : List (Int × (Int × ((List Int) × (List Int)))))).length : Int)) = false → k2 (S13_2 script0 head3 t4 r5 i6 ((IntKind.wrap .i64 (id11 + (1 : Int)))) hq0 hq1_0 hq1_1 hq1_2 hq1_3 hq1_4 hq1_4k hq1_5 hq1_5k T)))))))))) ∧
 ((decide (id11 ≤ (IntKind.wrap .i64 ((((slN a15.1) : Nat) : Int) + (1 : Int))))) = false → (∃ (p29 : (List (Int × (Int × ((List Int) × (List Int)))))), RC Try.prog 41 [(.pure (.slice (.pair (.int .i64) (.pair (.int .i64) (.pair (.slice (.int .i64)) (.slice (.int .i64)))))))] [(.ref t4 yZ2 0 []), (.v (.int .i64 hq1_1))] hq0 p29 ∧ (Loops B13_4 M13_4 (Q13_4 R k0)
  (S13_4 script0 head3 t4 r5 i6 p29 (0 : Int) hq0 hq1_0 hq1_1 hq1_2 hq1_3 hq1_4 hq1_4k hq1_5 hq1_5k T))))))) :
  B13_2 (loopQ M13_2 k2 (Q13_2 R k0)) (S13_2 script0 head3 t4 r5 i6 id11 hq0 hq1_0 hq1_1 hq1_2 hq1_3 hq1_4 hq1_4k hq1_5 hq1_5k T) := Eq.mp (by kernel_rfl) h
theorem L13_4 (script0 : List (Int × (Int × (Int × (Int × ((List Int) × (List Int))))))) (head3 : Bool) (t4 : Option Nat) (r5 : Nat) (i6 : Int) (f14 : List (Int × (Int × ((List Int) × (List Int))))) (k15 : Int) (hq0 : XH) (hq1_0 : Int) (hq1_1 : Int) (hq1_2 : Int) (hq1_3 : Int) (hq1_4 : List Int) (hq1_4k : Tok) (hq1_5 : List Int) (hq1_5k : Tok) (T : Toks) {R : V → Prop} {k0 : St → Prop} {k4 : St → Prop}
 (h : (((decide (k15 < ((f14).length : Int))) = true → (0 ≤ k15 ∧ k15 < ((f14).length : Int) ∧ (∃ (a30 : ((Option SlH) × ((Option SlH) × (Option SlH)))), XH.el hq0 yZ0 r5 0 = some a30 ∧ (∃ (u31 : SlH), a30.1 = some u31 ∧ 0 ≤ (IntKind.wrap .i64 (hq1_1 - (1 : Int))) ∧ (IntKind.wrap .i64 (hq1_1 - (1 : Int))) < ((u31.len : Nat) : Int) ∧ (∃ (a32 : ((Option SlH) × (Int × Int))), XH.el hq0 yZ1 u31.h ((u31.off + ((IntKind.wrap .i64 (hq1_1 - (1 : Int)))).toNat)) = some a32 ∧ (∃ (u33 : SlH), a32.1 = some u33 ∧ 0 ≤ k15 ∧ k15 < ((u33.len : Nat) : Int) ∧ (∃ (a34 : (Int × (Int × ((List Int) × (List Int))))), XH.el hq0 (.pure (.pair (.int .i64) (.pair (.int .i64) (.pair (.slice (.int .i64)) (.slice (.int .i64)))))) u33.h ((u33.off + (k15).toNat)) = some a34 ∧ (∃ p35 : Bool, PC Try.prog 43 [(.agg [(.int .i64 ((f14.getD (k15).toNat (0, (0, ([], [])))).1)), (.int .i64 ((f14.getD (k15).toNat (0, (0, ([], [])))).2.1)), (.list (.int .i64) ((f14.getD (k15).toNat (0, (0, ([], [])))).2.2.1) .no), (.list (.int .i64) ((f14.getD (k15).toNat (0, (0, ([], [])))).2.2.2) .no)]), (.agg [(.int .i64 a34.1), (.int .i64 a34.2.1), (.list (.int .i64) a34.2.2.1 .no), (.list (.int .i64) a34.2.2.2 .no)])] (.bool p35) ∧ (((!p35) = true → R (.bool false)) ∧
 ((!p35) = false → k4 (S13_4 script0 head3 t4 r5 i6 f14 ((IntKind.wrap .i64 (k15 + (1 : Int)))) hq0 hq1_0 hq1_1 hq1_2 hq1_3 hq1_4 hq1_4k hq1_5 hq1_5k T))))))))))) ∧
 ((decide (k15 < ((f14).length : Int))) = false → k0 (S13_0 script0 head3 t4 r5 ((IntKind.wrap .i64 (i6 + (1 : Int)))) hq0 T)))) :
  B13_4 (loopQ M13_4 k4 (Q13_4 R k0)) (S13_4 script0 head3 t4 r5 i6 f14 k15 hq0 hq1_0 hq1_1 hq1_2 hq1_3 hq1_4 hq1_4k hq1_5 hq1_5k T) := Eq.mp (by kernel_rfl) h
end Go.Proofs.Ytaaedebknacheaa.AB

set_option maxRecDepth 100000
namespace Go.Proofs.Ytaaedebknacheaa.AB
open Go

variable {X X' : XH} {t r : Nat} {d : DT} {e : RD} {n : Nat}

theorem c49k {x : Option SlH} {a : List Int} (b : List Int) (hx : SlAt X cI x a) (ha : a.length < 9223372036854775807) : RC Try.prog 49 [.pure .bool] [.v (.list (.int .i64) b .no), .sl cI x] X (decide (b = a)) := by
 have hlen := hx.len
 refine xcOf (X := X49k) (d := 0) rfl trivial (by kernel_rfl) (by decide) (E49k X b x ⟨fun h => ⟨?_, rfl⟩, fun h => ?_⟩)
 ·rw [hlen] at h
  have h : (b.length : Int) ≠ a.length := by simpa using h
  exact (decide_eq_false fun e => h (by rw [e])).symm
 ·rw [hlen] at h
  have hl : (b.length : Int) = a.length := by simpa using h
  refine Loops.intro (fun n : Nat => S49k_0 b x n X ⟨0, []⟩) (fun n => n ≤ b.length ∧ b.take n = a.take n) (fun n => b.length - n) 0 rfl ⟨Nat.zero_le _, by simp⟩ ?_
  rintro n ⟨hn, he⟩
  refine L49k_0 b x n X ⟨0, []⟩ ⟨fun h => ?_, fun h => ?_⟩
  ·have hlt : n < b.length := by simpa using h
   have hla : n < a.length := by omega
   obtain ⟨u, rfl⟩ : ∃ u, x = some u := by
    cases x with
    | none => simp [slN] at hlen; omega
    | some u => exact ⟨u, rfl⟩
   have hul : u.len = a.length := hlen
   refine ⟨by omega, by omega, u, rfl, by omega, by omega, a[n], ?_, fun h => ⟨?_, rfl⟩, fun h => ?_⟩
   ·rw [Int.toNat_natCast]; exact hx.el hla
   ·have h : b.getD n 0 ≠ a[n] := by simpa using h
    refine (decide_eq_false fun e => h ?_).symm
    subst e; simp [List.getD, List.getElem?_eq_getElem hla]
   ·have h : b.getD n 0 = a[n] := by simpa using h
    rw [wrap64 (by omega) (by omega)]
    refine Again.mk (n + 1) rfl ⟨by omega, take_succ_eq (d := 0) he hlt hla ?_⟩ (by omega)
    rw [h]; simp [List.getD, List.getElem?_eq_getElem hla]
  ·have : ¬ ((n : Int) < b.length) := by simpa using h
   exact ⟨(decide_eq_true (take_full he (by omega) (by omega))).symm, rfl⟩

abbrev Op18 : Type := Int × (Int × Fr)

theorem p13 {script : List Op18} (hs : ∀ o ∈ script, I64 o.1 ∧ I64 o.2.1) : PC Try.prog 13 [Cd.enc (.slice (.pair (.int .i64) (.pair (.int .i64) (.pair (.int .i64) (.pair (.int .i64) (.pair (.slice (.int .i64)) (.slice (.int .i64)))))))) script] (.bool true) := by
 refine lawOf (X := X13) rfl FN13 (by kernel_rfl) (by decide) (E13 script ⟨true, p14, fun q => (by cases q), fun _ => (c15 _).mono ?_⟩)
 rintro _ X3 ⟨t, d0, rfl, _, hrep, hmv, hab⟩
 refine ⟨fun q => (by cases q), fun _ X4 e4 => ?_⟩
 have start : Both X4 t X3.n 0 := by
  have hlt := hrep.lt
  have hr4 : Rep X4 t d0 := hrep.keep fun k hk => by rw [e4]; exact at_add_old (hlt k hk)
  have hb : Box X4 cRT X3.n (none, (none, none)) := by rw [e4]; exact at_add_new _ _
  refine ⟨d0, ⟨none, [], none, [], none, []⟩, ⟨hr4, ⟨hb, rfl, rfl, rfl, fun e he => (by cases he), (by simp [RD.ks, hl, fl])⟩, fun k hk q => ?_⟩, ?_⟩
  ·have : k = X3.n := by simpa [RD.ks, hl, fl] using hk
   have := hlt k q
   omega
  ·rw [hab]
   have hat : ∀ id, (RD.ab ⟨none, [], none, [], none, []⟩).at id = none := fun id => by unfold RTab.at RD.ab; split <;> simp
   have no : ∀ {id : Int} {x : TH} {p : Prop}, (RD.ab ⟨none, [], none, [], none, []⟩).at id = some x → p := fun {id x p} hx => by rw [hat] at hx; cases hx
   refine ⟨⟨rfl, rfl, rfl, fun id => ?_⟩, rfl, ⟨fun i j x y hx => no hx, fun j hj => (by cases hj), .nil, fun j hj => (by cases hj), .nil, fun id x hx => no hx, fun id x hx => no hx, Nat.le_refl _, Nat.le_refl _⟩⟩
   show none = RTab.abs (RD.ab ⟨none, [], none, [], none, []⟩) id
   unfold RTab.abs
   rw [hat]
 generalize X3.n = r at start ⊢
 refine Loops.intro (fun a : Nat × XH × Toks => S13_0 script true (some t) r (a.1 : Int) a.2.1 a.2.2) (fun a => a.1 ≤ script.length ∧ a.1 ≤ 300 ∧ Both a.2.1 t r a.1) (fun a => script.length - a.1) (0, X4, ⟨0, []⟩) rfl ⟨Nat.zero_le _, Nat.zero_le _, start⟩ ?_
 rintro ⟨i, Xi, T⟩ ⟨hi, hi3, d, e, h2, hc⟩
 simp only at hi hi3 h2 hc
 refine L13_0 script true (some t) r (i : Int) Xi T ⟨fun q1 => ⟨fun q2 => ?_, fun q2 => ⟨rfl, rfl⟩⟩, fun q1 => ⟨rfl, rfl⟩⟩
 have q1 : i < script.length := by simpa using q1
 have q2 : i < 300 := by
  have : (i : Int) < 300 := by simpa using q2
  omega
 have hnext : IntKind.wrap .i64 ((i : Int) + (1 : Int)) = ((i + 1 : Nat) : Int) := wrap_succ (by omega)
 obtain ⟨o, ho⟩ : ∃ o, o = script[i] := ⟨_, rfl⟩
 have hget : script.getD ((i : Int)).toNat (0, (0, (0, (0, ([], []))))) = o := by
  rw [Int.toNat_natCast, ho]; simp [List.getD, List.getElem?_eq_getElem q1]
 obtain ⟨ho1, ho2⟩ := hs o (by rw [ho]; exact List.getElem_mem q1)
 rw [hget, hnext]
 have skip : Again (fun a : Nat × XH × Toks => S13_0 script true (some t) r (a.1 : Int) a.2.1 a.2.2) (fun a => a.1 ≤ script.length ∧ a.1 ≤ 300 ∧ Both a.2.1 t r a.1) (fun a => script.length - a.1) (script.length - i) (S13_0 script true (some t) r ((i + 1 : Nat) : Int) Xi T) :=
  Again.mk (i + 1, Xi, T) rfl ⟨q1, q2, d, e, h2, hc.mono (Nat.le_succ _)⟩ (by show script.length - (i + 1) < script.length - i; omega)
 refine ⟨by omega, by omega, fun _ => skip, fun l1 => ⟨fun _ => skip, fun l2 => ?_⟩⟩
 have l1 : o.2.2.2.2.1.length ≤ 100 := by
  have : ¬ (100 : Int) < (o.2.2.2.2.1.length : Int) := by simpa using l1
  omega
 have l2 : o.2.2.2.2.2.length ≤ 100 := by
  have : ¬ (100 : Int) < (o.2.2.2.2.2.length : Int) := by simpa using l2
  omega
 refine (c51 h2 hc hi3 ho1 ho2 ⟨l1, l2⟩).mono ?_
 rintro _ X6 ⟨rfl, d6, e6, t6, c6⟩
 refine ⟨fun q => (by cases q), fun _ => ?_⟩
 have hln := c6.inv.ln
 have hqj := c6.inv.qj
 have hnl : e6.hs.length ≤ 1000000 := by rw [← RD.ab_len]; omega
 have hql : d6.ab.queue.length ≤ 301 := by rw [c6.cq.queue]; omega
 have hq : e6.queue = d6.queue := c6.cq.queue.symm
 have hrows : ∀ a ∈ d6.ab.rows, I64 a.id := fun a ha => by
  obtain ⟨x, hx, _, _⟩ := c6.cq.row c6.cq.nodup ha
  have := RTab.at_le hx
  exact ⟨by omega, by omega⟩
 have hrl : d6.ab.rows.length < 1000000 := by
  have h1 : d6.ab.rows.length = e6.ab.lives.length := by have := congrArg List.length c6.cq.ids; simpa using this
  have := liveL_len e6.ab.l 0
  have h2 : e6.ab.lives.length ≤ e6.ab.l.length := this
  omega
 have hlive : ((d6.ab.rows.map (·.id)).mergeSort leN) = e6.ab.lives := c6.cq.live
 have hll : e6.ab.lives.length ≤ 301 := by have := liveL_len e6.ab.l 0; have h2 : e6.ab.lives.length ≤ e6.ab.l.length := this; omega
 have hcur : d6.run = e6.ab.cur := c6.run
 have hfm := c6.fitM
 refine ⟨_, c20 t6.pr (by unfold room; have : d6.queue.length ≤ 301 := hql; omega), _, t6.rr.box.el, _, c49k _ t6.rr.qs (by rw [hq]; have : d6.queue.length ≤ 301 := hql; omega), _, c50 t6.pr hrows hrl, _, c52 t6.rr hnl, _, p49 _ _ (by rw [hlive]; omega),
  fun q => absurd (decide_eq_true hq.symm) (by simpa using q), fun _ => ⟨fun q => absurd (decide_eq_true hlive) (by simpa using q), fun _ => ⟨_, c53 t6.pr, _, c54 t6.rr hnl, fun q => absurd hcur (by simpa using q), fun _ => ?_⟩⟩⟩
 have hlen := t6.rr.len
 have hlen2 : e6.hs.length ≤ 301 := by rw [← RD.ab_len]; omega
 have hwl : IntKind.wrap .i64 (((slN e6.L : Nat) : Int) + (1 : Int)) = ((e6.hs.length + 1 : Nat) : Int) := by rw [hlen]; exact wrap_succ (by omega)
 refine Loops.intro (fun k : Nat => S13_2 script true (some t) r (i : Int) (k : Int) X6 o.1 o.2.1 o.2.2.1 o.2.2.2.1 o.2.2.2.2.1 .no o.2.2.2.2.2 .no T) (fun k => k ≤ e6.hs.length + 2) (fun k => e6.hs.length + 2 - k) 0 rfl (Nat.zero_le _) ?_
 intro k hk
 refine L13_2 script true (some t) r (i : Int) (k : Int) X6 o.1 o.2.1 o.2.2.1 o.2.2.2.1 o.2.2.2.2.1 .no o.2.2.2.2.2 .no T ⟨_, t6.rr.box.el, fun w1 => ?_, fun w1 => ?_⟩
 ·have w1 : (k : Int) ≤ IntKind.wrap .i64 (((slN e6.L : Nat) : Int) + (1 : Int)) := of_decide_eq_true w1
  rw [hwl] at w1
  have again : Again (fun k : Nat => S13_2 script true (some t) r (i : Int) (k : Int) X6 o.1 o.2.1 o.2.2.1 o.2.2.2.1 o.2.2.2.2.1 .no o.2.2.2.2.2 .no T) (fun k => k ≤ e6.hs.length + 2) (fun k => e6.hs.length + 2 - k) (e6.hs.length + 2 - k)
    (S13_2 script true (some t) r (i : Int) (IntKind.wrap .i64 ((k : Int) + (1 : Int))) X6 o.1 o.2.1 o.2.2.1 o.2.2.2.1 o.2.2.2.2.1 .no o.2.2.2.2.2 .no T) := by
   rw [wrap_succ (by omega)]
   exact Again.mk (k + 1) rfl (by omega) (by omega)
  have out : e6.ab.at (k : Int) = none → d6.ab.state (k : Int) = 0 ∧ d6.ab.framesOf (k : Int) = [] := fun hx => by
   rw [c6.cq.state, c6.cq.frames c6.inv.dead, hx]
   exact ⟨rfl, rfl⟩
  refine ⟨fun w2 => ⟨_, t6.rr.box.el, fun w3 => ?_, fun w3 => ?_⟩, fun w2 => ?_⟩
  ·have w2 : 1 ≤ (k : Int) := by simpa using w2
   have w3 : (k : Int) ≤ ((slN e6.L : Nat) : Int) := of_decide_eq_true w3
   obtain ⟨x, hx⟩ := RTab.at_some (R := e6.ab) w2 (by rw [RD.ab_len]; omega)
   obtain ⟨A, y, C, u, hA, hy, hid, hu, v0, v1, vel, hw⟩ := t6.rr.get hnl hx
   have hsl := t6.rr.ws y (by rw [hA]; simp)
   rw [hy] at hsl
   have hst : d6.ab.state (k : Int) = x.st := by rw [c6.cq.state, hx]
   have hfo : d6.ab.framesOf (k : Int) = x.fr := by rw [c6.cq.frames c6.inv.dead, hx]
   refine ⟨_, t6.rr.box.el, u, hu, v0, v1, _, vel, _, t6.rr.box.el, u, hu, v0, v1, _, vel, _, c21 t6.pr _, fun w4 => ?_, fun _ => ⟨_, c41 t6.pr hfm _, fun w4 => ?_, fun _ => again⟩⟩
   ·exact absurd hst (by simpa [TH.v] using w4)
   ·rw [hfo] at w4
    have hsl2 := hsl.len
    have w4 : ¬ ((x.fr.length : Int) = ((slN y.2 : Nat) : Int)) := by simpa [TH.v] using w4
    omega
  ·have w2 : 1 ≤ (k : Int) := by simpa using w2
   have w3 : ¬ (k : Int) ≤ ((slN e6.L : Nat) : Int) := of_decide_eq_false w3
   obtain ⟨g1, g2⟩ := out (RTab.at_none (.inr (by rw [RD.ab_len]; omega)))
   refine ⟨_, c21 t6.pr _, fun w4 => absurd g1 (by simpa using w4), fun _ => ⟨_, c41 t6.pr hfm _, fun w4 => ?_, fun _ => again⟩⟩
   rw [g2] at w4; simp at w4
  ·have w2 : ¬ 1 ≤ (k : Int) := by simpa using w2
   obtain ⟨g1, g2⟩ := out (RTab.at_none (.inl (by omega)))
   refine ⟨_, c21 t6.pr _, fun w4 => absurd g1 (by simpa using w4), fun _ => ⟨_, c41 t6.pr hfm _, fun w4 => ?_, fun _ => again⟩⟩
   rw [g2] at w4; simp at w4
 ·refine ⟨_, c41 t6.pr hfm _, ?_⟩
  refine Loops.intro (fun k : Nat => S13_4 script true (some t) r (i : Int) (d6.ab.framesOf o.2.1) (k : Int) X6 o.1 o.2.1 o.2.2.1 o.2.2.2.1 o.2.2.2.2.1 .no o.2.2.2.2.2 .no T) (fun k => k ≤ (d6.ab.framesOf o.2.1).length) (fun k => (d6.ab.framesOf o.2.1).length - k) 0 rfl (Nat.zero_le _) ?_
  intro k hk
  refine L13_4 script true (some t) r (i : Int) (d6.ab.framesOf o.2.1) (k : Int) X6 o.1 o.2.1 o.2.2.1 o.2.2.2.1 o.2.2.2.2.1 .no o.2.2.2.2.2 .no T ⟨fun w1 => ?_, fun w1 => ?_⟩
  ·have w1 : k < (d6.ab.framesOf o.2.1).length := by simpa using w1
   have hfo := c6.cq.frames c6.inv.dead o.2.1
   cases hx : e6.ab.at o.2.1 with
   | none => rw [hfo, hx] at w1; simp at w1
   | some x =>
    have hfo : d6.ab.framesOf o.2.1 = x.fr := by rw [hfo, hx]
    rw [hfo] at w1 ⊢
    obtain ⟨A, y, C, u, hA, hy, hid, hu, v0, v1, vel, hw⟩ := t6.rr.get hnl hx
    have hsl := t6.rr.ws y (by rw [hA]; simp)
    rw [hy] at hsl
    have hsll := hsl.len
    have hfit := c6.inv.fit _ x hx
    obtain ⟨s, hs2⟩ : ∃ s, y.2 = some s := by
     cases hc2 : y.2 with
     | none => rw [hc2] at hsll; simp [slN] at hsll; omega
     | some s => exact ⟨s, rfl⟩
    have hsl2 := hsl
    rw [hs2] at hsl2 hsll
    have hslen : s.len = x.fr.length := hsll
    have hg : x.fr.getD ((k : Int)).toNat (0, (0, ([], []))) = x.fr[k] := by rw [Int.toNat_natCast]; simp [List.getD, List.getElem?_eq_getElem w1]
    have hb := hfit.2 _ (List.getElem_mem w1)
    rw [hg]
    refine ⟨by omega, by omega, _, t6.rr.box.el, u, hu, v0, v1, _, vel, s, hs2, by omega, by omega, x.fr[k], by rw [Int.toNat_natCast]; exact hsl2.el w1, _, p43 _ _ (by omega) (by omega), fun w4 => ?_, fun _ => ?_⟩
    ·simp at w4
    ·rw [wrap_succ (by omega)]
     exact Again.mk (k + 1) rfl w1 (by omega)
  ·rw [hnext]
   exact Again.mk (i + 1, X6, T) rfl ⟨q1, q2, d6, e6, t6, c6⟩ (by show script.length - (i + 1) < script.length - i; omega)

theorem law_ThreadPlays (script : List Op18) (f0 : Cd.wf (.slice (.pair (.int .i64) (.pair (.int .i64) (.pair (.int .i64) (.pair (.int .i64) (.pair (.slice (.int .i64)) (.slice (.int .i64)))))))) script) :
  PC Try.prog 13 [Cd.enc (.slice (.pair (.int .i64) (.pair (.int .i64) (.pair (.int .i64) (.pair (.int .i64) (.pair (.slice (.int .i64)) (.slice (.int .i64)))))))) script] (.bool true) :=
 p13 fun o ho => ⟨⟨(f0.2 o ho).1.1, (f0.2 o ho).1.2⟩, ⟨(f0.2 o ho).2.1.1, (f0.2 o ho).2.1.2⟩⟩

end Go.Proofs.Ytaaedebknacheaa.AB

