/-
  The given statement ThreadCopiesUptoSaid: for every input the law crucible/cruciblelaw18.ThreadCopies answers true, and each argument reads afterwards as it read before; the condition: what is read is of bulk at most 1048576.
-/
import Derived.Test.YtaaedebknacheaaRows
import Derived.WalkKit
import Derived.ProofKit
import Derived.OpenShut
import Derived.ShutString
import Derived.ChangeOld
import Derived.Below
import Derived.Test.YtaaedebknacheaaABx4
import Derived.JoinedCond
import Derived.Test.YtaaedebknacheaaABThread1
namespace Go.Proofs.Ytaaedebknacheaa.threadCopies
open Go Go.ChangeShapes Go.WideShapes Go.ChangeAt Go.RowKit Go.Proofs.Ytaaedebknacheaa.AB
open Go.ChangeMaps (open_string shut_string)
set_option linter.unusedVariables false

theorem own : ownKnob Try.prog.godebug = none := by kernel_rfl
theorem laidOut : laidOutB Try.prog = true := by kernel_rfl

/-- the bulk of what is read -/
noncomputable def bk (H : Type) : Bk H := ⟨Rows.uptoBulk, Rows.uptoBulkAll, by simp [Rows.uptoBulkAll], fun d r => by simp [Rows.uptoBulkAll], fun d => by
  cases d with
  | lit l => cases l <;> simp [Rows.uptoBulk]
  | nil => simp [Rows.uptoBulk]
  | ptr d => simp [Rows.uptoBulk]
  | slice elems spare => simp [Rows.uptoBulk]
  | agg parts => simp [Rows.uptoBulk]
  | iface t d => simp [Rows.uptoBulk]
  | map entries => simp [Rows.uptoBulk]
  | held h => simp [Rows.uptoBulk], fun e s => by simp only [Rows.uptoBulk]; omega, fun l => by simp only [Rows.uptoBulk]; omega, fun l => by simp [Rows.uptoBulk]⟩

set_option maxRecDepth 100000 in
theorem lifted (os : Os) (started : os.Started) (H : Type) (enc : TypeId × Value → H) (F : Stop.Interp) :
    ReturnsInHanded {} Try.checked os 10 .any ((Rows.OpenSpec.upto Rows.threadCopiesSpec).pre6 enc Try.prog Try.f10 Rows.threadCopiesUptoRow.domain false) (((Rows.OpenSpec.upto Rows.threadCopiesSpec).at F).post enc Try.prog Try.f10 false true false false) := by
  refine returnsInHanded_of_cond (C := Try.checked) (s := Rows.OpenSpec.upto Rows.threadCopiesSpec) (k := Rows.uptoSmall) rfl own started (by kernel_rfl) Try.func10
    (OpenSpec.witness (enc := enc) (C := Try.checked) (s := Rows.OpenSpec.upto Rows.threadCopiesSpec) (k := Rows.uptoSmall) rfl false ⟨#[], #[.agg #[.int .i64 0, .int .i64 0, .slice none 0 0, .slice none 0 0], .agg #[.int .i64 0, .int .i64 0, .slice none 0 0, .slice none 0 0]], []⟩ 8 (by kernel_rfl) (by kernel_rfl) (by kernel_rfl) (x := ([.agg [.lit (.int .i64 0), .lit (.int .i64 0), .nil, .nil], .agg [.lit (.int .i64 0), .lit (.int .i64 0), .nil, .nil]], [], [])) (by kernel_rfl) rfl (by kernel_rfl)) ?_
  intro W base args ds gs before hval0 hW hcnd hk _
  have hval : ∀ (j : Nat) t v, Try.f10.params[j]? = some t → args[j]? = some v → Value.okWide Try.prog W .any base t v := hval0
  have hW' := hW
  obtain ⟨p, q, hA0, hV, rfl, hfz, hnd⟩ := hW
  have hA : DataW.TrodAll enc Try.prog W 0 (fun _ => true) true Try.f10.params.toList args.toList ds p := hA0
  rw [Try.params10] at hA hval
  obtain ⟨v0, vs0, d0, ds0, p0, q0, hargs, rfl, rfl, h0, r0⟩ := trodAll_cons hA
  obtain ⟨v1, vs1, d1, ds1, p1, q1, rfl, rfl, rfl, h1, r1⟩ := trodAll_cons r0
  obtain ⟨rfl, rfl, rfl⟩ := trodAll_nil r1
  obtain rfl : args = #[v0, v1] := by cases args; simp_all
  obtain ⟨rfl, rfl⟩ := trodVars_none hV
  have k0 := h0
  have lt0 : ∀ x ∈ p0, x.block < W.heap.size := by obtain ⟨m, hm⟩ := k0; exact DataW.trod_lt m _ _ _ hm
  obtain ⟨cs0, rfl, n0⟩ := okWide_struct Try.underlying31 (hval 0 31 v0 rfl rfl)
  obtain ⟨x0, f0, g0, b0⟩ := open_aggB tt_ok (n := 30) (t := 31) (by kernel_rfl : fitB _ _ (.pair (.int .i64) (.pair (.int .i64) (.pair (.slice (.int .i64)) (.slice (.int .i64))))) _ = true) (by kernel_rfl) (by kernel_rfl) n0 k0
  have k1 := h1
  have lt1 : ∀ x ∈ p1, x.block < W.heap.size := by obtain ⟨m, hm⟩ := k1; exact DataW.trod_lt m _ _ _ hm
  obtain ⟨cs1, rfl, n1⟩ := okWide_struct Try.underlying31 (hval 1 31 v1 rfl rfl)
  obtain ⟨x1, f1, g1, b1⟩ := open_aggB tt_ok (n := 30) (t := 31) (by kernel_rfl : fitB _ _ (.pair (.int .i64) (.pair (.int .i64) (.pair (.slice (.int .i64)) (.slice (.int .i64))))) _ = true) (by kernel_rfl) (by kernel_rfl) n1 k1
  have hb : Rows.uptoBulkAll ([d0, d1] ++ []) ≤ 1048576 := of_decide_eq_true hk
  simp only [List.append_nil, Rows.uptoBulkAll] at hb
  have z0 : ((.pair (.int .i64) (.pair (.int .i64) (.pair (.slice (.int .i64)) (.slice (.int .i64))))) : Cd).wt x0 ≤ 1048576 := by
    have h1 := b0 (bk H)
    have h2 : (bk H).b d0 = Rows.uptoBulk d0 := rfl
    rw [h2] at h1
    omega
  have z1 : ((.pair (.int .i64) (.pair (.int .i64) (.pair (.slice (.int .i64)) (.slice (.int .i64))))) : Cd).wt x1 ≤ 1048576 := by
    have h1 := b1 (bk H)
    have h2 : (bk H).b d1 = Rows.uptoBulk d1 := rfl
    rw [h2] at h1
    omega
  clear hA0 hval0
  suffices hs : Calls Try.prog 10 #[.agg cs0, .agg cs1] W fun e W' => ∃ v, e = .returned v ∧ Rows.threadCopiesSpec.post enc Try.prog Try.f10 false true false false W #[.agg cs0, .agg cs1] v W' from hs
  refine (PC.law (law_ThreadCopiesUpto x0 x1 f0 f1 z0 z1) rfl (fun i x y hx hy => ?_)).mono fun e W' ⟨he, bel⟩ => ?_
  · match i, hx, hy with
    | 0, hx, hy =>
      cases hx; cases hy; exact g0
    | 1, hx, hy =>
      cases hx; cases hy; exact g1
    | n + 2, hx, hy => simp at hx
  subst he
  exact ⟨_, rfl, _, _, _, [], _, [], hW', trodAll_mk1 (shut_bool Try.underlying4 _), (trodAll_cons_mk (Below.trod laidOut (by kernel_rfl) (of_decide_eq_true (by kernel_rfl)) k0 bel lt0) (trodAll_cons_mk (Below.trod laidOut (by kernel_rfl) (of_decide_eq_true (by kernel_rfl)) k1 bel lt1) trodAll_mk0)), rfl, bel.frame _, fun h => by cases h⟩

theorem proved : Rows.ThreadCopiesUptoSaid :=
  OpenClaim.holds_of_cond 10 Try.f10 rfl rfl rfl rfl rfl rfl rfl ⟨rfl, rfl, rfl, rfl, rfl⟩ rfl rfl rfl rfl rfl (by kernel_rfl) Try.func10 (by kernel_rfl)
    (of_decide_eq_true (by kernel_rfl)) (by unfold Func.isWrapper; first | (rw [if_pos (by decide +kernel)]; kernel_rfl) | (rw [if_neg (by decide +kernel)]; exact ⟨rfl, rfl⟩))
    (fun os started H enc _ F => lifted os started H enc F)
#print axioms proved
end Go.Proofs.Ytaaedebknacheaa.threadCopies

