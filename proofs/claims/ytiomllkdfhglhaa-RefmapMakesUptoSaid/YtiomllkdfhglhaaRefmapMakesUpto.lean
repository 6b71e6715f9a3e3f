/-
  The given statement RefmapMakesUptoSaid: for every input the law crucible/cruciblelaw12.RefmapMakes answers true, and each argument reads afterwards as it read before; the condition: what is read is of bulk at most 1048576.
-/
import Derived.Test.YtiomllkdfhglhaaRows
import Derived.WalkKit
import Derived.ProofKit
import Derived.OpenShut
import Derived.ShutString
import Derived.ChangeOld
import Derived.Below
import Derived.JoinedCond
import Derived.Test.YtiomllkdfhglhaaABRefmap1
namespace Go.Proofs.Ytiomllkdfhglhaa.refmapMakes
open Go Go.ChangeShapes Go.WideShapes Go.ChangeAt Go.RowKit Go.Proofs.Ytiomllkdfhglhaa.AB
open Go.ChangeMaps (open_string shut_string)
set_option linter.unusedVariables false

theorem own : ownKnob Try.prog.godebug = none := by kernel_rfl
theorem laidOut : laidOutB Try.prog = true := by kernel_rfl

/-- the bulk of what is read -/
noncomputable def bk (H : Type) : Bk H := ⟨Rows.uptoBulk, Rows.uptoBulkAll, by simp [Rows.uptoBulkAll], fun d r => by simp [Rows.uptoBulkAll], fun d => by
  cases d with
  | lit l => cases l <;> simp [Rows.uptoBulk]
  | nil => simp [Rows.uptoBulk]
  | ptr d => simp [Rows.uptoBulk]
  | slice elems spare => simp [Rows.uptoBulk]
  | agg parts => simp [Rows.uptoBulk]
  | iface t d => simp [Rows.uptoBulk]
  | map entries => simp [Rows.uptoBulk]
  | held h => simp [Rows.uptoBulk], fun e s => by simp only [Rows.uptoBulk]; omega, fun l => by simp only [Rows.uptoBulk]; omega, fun l => by simp [Rows.uptoBulk]⟩

set_option maxRecDepth 100000 in
theorem lifted (os : Os) (started : os.Started) (H : Type) (enc : TypeId × Value → H) (F : Stop.Interp) :
    ReturnsInHanded {} Try.checked os 11 .any ((Rows.OpenSpec.upto Rows.refmapMakesSpec).pre6 enc Try.prog Try.f11 Rows.refmapMakesUptoRow.domain false) (((Rows.OpenSpec.upto Rows.refmapMakesSpec).at F).post enc Try.prog Try.f11 false true false false) := by
  refine returnsInHanded_of_cond (C := Try.checked) (s := Rows.OpenSpec.upto Rows.refmapMakesSpec) (k := Rows.uptoSmall) rfl own started (by kernel_rfl) Try.func11
    (OpenSpec.witness (enc := enc) (C := Try.checked) (s := Rows.OpenSpec.upto Rows.refmapMakesSpec) (k := Rows.uptoSmall) rfl false ⟨#[], #[.slice none 0 0, .slice none 0 0, .slice none 0 0], []⟩ 8 (by kernel_rfl) (by kernel_rfl) (by kernel_rfl) (x := ([.nil, .nil, .nil], [], [])) (by kernel_rfl) rfl (by kernel_rfl)) ?_
  intro W base args ds gs before hval0 hW hcnd hk _
  have hval : ∀ (j : Nat) t v, Try.f11.params[j]? = some t → args[j]? = some v → Value.okWide Try.prog W .any base t v := hval0
  have hW' := hW
  obtain ⟨p, q, hA0, hV, rfl, hfz, hnd⟩ := hW
  have hA : DataW.TrodAll enc Try.prog W 0 (fun _ => true) true Try.f11.params.toList args.toList ds p := hA0
  rw [Try.params11] at hA hval
  obtain ⟨v0, vs0, d0, ds0, p0, q0, hargs, rfl, rfl, h0, r0⟩ := trodAll_cons hA
  obtain ⟨v1, vs1, d1, ds1, p1, q1, rfl, rfl, rfl, h1, r1⟩ := trodAll_cons r0
  obtain ⟨v2, vs2, d2, ds2, p2, q2, rfl, rfl, rfl, h2, r2⟩ := trodAll_cons r1
  obtain ⟨rfl, rfl, rfl⟩ := trodAll_nil r2
  obtain rfl : args = #[v0, v1, v2] := by cases args; simp_all
  obtain ⟨rfl, rfl⟩ := trodVars_none hV
  have k0 := h0
  have lt0 : ∀ x ∈ p0, x.block < W.heap.size := by obtain ⟨m, hm⟩ := k0; exact DataW.trod_lt m _ _ _ hm
  obtain ⟨a0, len0, cap0, rfl⟩ := okWide_slice Try.underlying74 (hval 0 74 v0 rfl rfl)
  obtain ⟨x0, f0, g0, b0⟩ := open_oneB tt_ok (n := 30) (c := (.slice (.pair (.slice (.pair (.int .i64) (.pair (.pair (.int .i64) .str) (.int .i64)))) (.slice (.pair (.int .i64) (.pair (.pair (.int .i64) .str) (.int .i64))))))) (t := 74) (by kernel_rfl) rfl rfl k0
  have k1 := h1
  have lt1 : ∀ x ∈ p1, x.block < W.heap.size := by obtain ⟨m, hm⟩ := k1; exact DataW.trod_lt m _ _ _ hm
  obtain ⟨a1, len1, cap1, rfl⟩ := okWide_slice Try.underlying57 (hval 1 57 v1 rfl rfl)
  obtain ⟨x1, f1, g1, b1⟩ := open_oneB tt_ok (n := 30) (c := (.slice .bool)) (t := 57) (by kernel_rfl) rfl rfl k1
  have k2 := h2
  have lt2 : ∀ x ∈ p2, x.block < W.heap.size := by obtain ⟨m, hm⟩ := k2; exact DataW.trod_lt m _ _ _ hm
  obtain ⟨a2, len2, cap2, rfl⟩ := okWide_slice Try.underlying24 (hval 2 24 v2 rfl rfl)
  obtain ⟨x2, f2, g2, b2⟩ := open_oneB tt_ok (n := 30) (c := (.slice (.pair (.int .i64) (.pair (.int .i64) (.pair (.int .i64) (.pair (.slice (.int .i64)) (.slice (.int .i64)))))))) (t := 24) (by kernel_rfl) rfl rfl k2
  have hb : Rows.uptoBulkAll ([d0, d1, d2] ++ []) ≤ 1048576 := of_decide_eq_true hk
  simp only [List.append_nil, Rows.uptoBulkAll] at hb
  have z0 : ((.slice (.pair (.slice (.pair (.int .i64) (.pair (.pair (.int .i64) .str) (.int .i64)))) (.slice (.pair (.int .i64) (.pair (.pair (.int .i64) .str) (.int .i64)))))) : Cd).wt x0 ≤ 1048576 := by
    have h1 := b0 (bk H)
    have h2 : (bk H).b d0 = Rows.uptoBulk d0 := rfl
    rw [h2] at h1
    omega
  have z1 : ((.slice .bool) : Cd).wt x1 ≤ 1048576 := by
    have h1 := b1 (bk H)
    have h2 : (bk H).b d1 = Rows.uptoBulk d1 := rfl
    rw [h2] at h1
    omega
  have z2 : ((.slice (.pair (.int .i64) (.pair (.int .i64) (.pair (.int .i64) (.pair (.slice (.int .i64)) (.slice (.int .i64))))))) : Cd).wt x2 ≤ 1048576 := by
    have h1 := b2 (bk H)
    have h2 : (bk H).b d2 = Rows.uptoBulk d2 := rfl
    rw [h2] at h1
    omega
  clear hA0 hval0
  suffices hs : Calls Try.prog 11 #[.slice a0 len0 cap0, .slice a1 len1 cap1, .slice a2 len2 cap2] W fun e W' => ∃ v, e = .returned v ∧ Rows.refmapMakesSpec.post enc Try.prog Try.f11 false true false false W #[.slice a0 len0 cap0, .slice a1 len1 cap1, .slice a2 len2 cap2] v W' from hs
  refine (PC.law (law_RefmapMakesUpto x0 x1 x2 f0 f1 f2 z0 z1 z2) rfl (fun i x y hx hy => ?_)).mono fun e W' ⟨he, bel⟩ => ?_
  · match i, hx, hy with
    | 0, hx, hy =>
      cases hx; cases hy; exact g0
    | 1, hx, hy =>
      cases hx; cases hy; exact g1
    | 2, hx, hy =>
      cases hx; cases hy; exact g2
    | n + 3, hx, hy => simp at hx
  subst he
  exact ⟨_, rfl, _, _, _, [], _, [], hW', trodAll_mk1 (shut_bool Try.underlying4 _), (trodAll_cons_mk (Below.trod laidOut (by kernel_rfl) (of_decide_eq_true (by kernel_rfl)) k0 bel lt0) (trodAll_cons_mk (Below.trod laidOut (by kernel_rfl) (of_decide_eq_true (by kernel_rfl)) k1 bel lt1) (trodAll_cons_mk (Below.trod laidOut (by kernel_rfl) (of_decide_eq_true (by kernel_rfl)) k2 bel lt2) trodAll_mk0))), rfl, bel.frame _, fun h => by cases h⟩

theorem proved : Rows.RefmapMakesUptoSaid :=
  OpenClaim.holds_of_cond 11 Try.f11 rfl rfl rfl rfl rfl rfl rfl ⟨rfl, rfl, rfl, rfl, rfl⟩ rfl rfl rfl rfl rfl (by kernel_rfl) Try.func11 (by kernel_rfl)
    (of_decide_eq_true (by kernel_rfl)) (by unfold Func.isWrapper; first | (rw [if_pos (by decide +kernel)]; kernel_rfl) | (rw [if_neg (by decide +kernel)]; exact ⟨rfl, rfl⟩))
    (fun os started H enc _ F => lifted os started H enc F)
#print axioms proved
end Go.Proofs.Ytiomllkdfhglhaa.refmapMakes

