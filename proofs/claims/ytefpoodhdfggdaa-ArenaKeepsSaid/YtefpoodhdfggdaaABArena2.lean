/- Parts of the proof: what functions of the program compute, on plain values. -/
import Derived.Test.YtefpoodhdfggdaaABArena1
import Derived.Test.YtefpoodhdfggdaaProg
import Derived.KernelRfl
import Derived.Test.YtefpoodhdfggdaaABx4
import Derived.Maps.OwnSet
set_option linter.unusedVariables false
set_option linter.unusedSimpArgs false
set_option maxRecDepth 100000
set_option maxHeartbeats 2000000
namespace Go.Proofs.Ytefpoodhdfggdaa.AB
open Go
/-! (*crucible/arena.Arena).Write -/
noncomputable def X26 : Cx := ⟨tt, [], [(60, [(.pure (.int .i64)), (.pure (.int .i64))])], [(26, [(1, 3, .rd)])], [], []⟩
theorem FN26 : fnsB Try.prog X26.fns := (show True from trivial)
theorem E26 (X : XH) (a0 : Nat) (at1 : Int) (i2 : Int) (v3 : Int) {R : (Int) → XH → Prop} (h : (∃ (p1 : Int × Int), RC Try.prog 60 [(.pure (.int .i64)), (.pure (.int .i64))] [(.ref (some a0) carena_Arena 0 []), (.v (.int .i64 at1)), (.v (.int .i64 i2))] X p1 ∧ (((p1.2 == (0 : Int)) = true → (∃ (a2 : ((Option SlH) × ((Nat → (Option SlH)) × ((Option Nat) × ((Option Nat) × Int))))), XH.el X carena_Arena a0 0 = some a2 ∧ (∃ (u3 : SlH), a2.1 = some u3 ∧ 0 ≤ p1.1 ∧ p1.1 < ((u3.len : Nat) : Int) ∧ (∃ (a4 : Int), XH.el X (.pure (.int .i64)) u3.h ((u3.off + (p1.1).toNat)) = some a4 ∧ (∀ (X5 : XH), X5 = (XH.setEl X (.pure (.int .i64)) u3.h ((u3.off + (p1.1).toNat)) v3) → R p1.2 X5))))) ∧
 ((p1.2 == (0 : Int)) = false → R p1.2 X)))) :
  fnK X26.tt (callN Try.prog X26 0) (X26.md 26) (X26.mk1 26) Try.f26 [(.ref (some a0) carena_Arena 0 []), (.v (.int .i64 at1)), (.v (.int .i64 i2)), (.v (.int .i64 v3))] ⟨[], [some (.heap X)], ⟨0, []⟩⟩ (xfin [(.pure (.int .i64))] R) := Eq.mp (by kernel_rfl) h
end Go.Proofs.Ytefpoodhdfggdaa.AB

set_option linter.unusedVariables false
set_option linter.unusedSimpArgs false
set_option maxRecDepth 100000
set_option maxHeartbeats 2000000
namespace Go.Proofs.Ytefpoodhdfggdaa.AB
open Go
/-! (*crucible/arena.Arena).Size -/
noncomputable def X25 : Cx := ⟨tt, [], [], [], [], []⟩
theorem FN25 : fnsB Try.prog X25.fns := (show True from trivial)
theorem E25 (X : XH) (a0 : Nat) (at1 : Int) {R : (Int × Bool) → XH → Prop} (h : (∃ (a1 : ((Option SlH) × ((Nat → (Option SlH)) × ((Option Nat) × ((Option Nat) × Int))))), XH.el X carena_Arena a0 0 = some a1 ∧ (∃ (es2 : List (Int × Int)), XH.vmp X (.int .i64) (.pure (.int .i64)) a1.2.2.2.1 = some es2 ∧ (∀ (v3 : Int), mfind (Cd.keq (.int .i64) at1) es2 = some v3 → R ((if (0 : Int) > (IntKind.wrap .i64 (v3 - (1 : Int))) then (0 : Int) else (IntKind.wrap .i64 (v3 - (1 : Int)))), true) X) ∧ (mfind (Cd.keq (.int .i64) at1) es2 = none → R ((if (0 : Int) > (IntKind.wrap .i64 ((0 : Int) - (1 : Int))) then (0 : Int) else (IntKind.wrap .i64 ((0 : Int) - (1 : Int)))), false) X)))) :
  fnK X25.tt (callN Try.prog X25 0) (X25.md 25) (X25.mk1 25) Try.f25 [(.ref (some a0) carena_Arena 0 []), (.v (.int .i64 at1))] ⟨[], [some (.heap X)], ⟨0, []⟩⟩ (xfin [(.pure (.int .i64)), (.pure .bool)] R) := Eq.mp (by kernel_rfl) h
end Go.Proofs.Ytefpoodhdfggdaa.AB

set_option linter.unusedVariables false
set_option linter.unusedSimpArgs false
set_option maxRecDepth 100000
set_option maxHeartbeats 2000000
namespace Go.Proofs.Ytefpoodhdfggdaa.AB
open Go
/-! (*crucible/arena.Arena).Words -/
noncomputable def X17 : Cx := ⟨tt, [], [], [], [], []⟩
theorem FN17 : fnsB Try.prog X17.fns := (show True from trivial)
theorem E17 (X : XH) (a0 : Nat) {R : (Int × Int) → XH → Prop} (h : (∃ (a1 : ((Option SlH) × ((Nat → (Option SlH)) × ((Option Nat) × ((Option Nat) × Int))))), XH.el X carena_Arena a0 0 = some a1 ∧ (∃ (a2 : ((Option SlH) × ((Nat → (Option SlH)) × ((Option Nat) × ((Option Nat) × Int))))), XH.el X carena_Arena a0 0 = some a2 ∧ (∃ (a3 : ((Option SlH) × ((Nat → (Option SlH)) × ((Option Nat) × ((Option Nat) × Int))))), XH.el X carena_Arena a0 0 = some a3 ∧ R (a1.2.2.2.2, (IntKind.wrap .i64 ((IntKind.wrap .i64 ((((slN a2.1) : Nat) : Int) - (1 : Int))) - a3.2.2.2.2))) X)))) :
  fnK X17.tt (callN Try.prog X17 0) (X17.md 17) (X17.mk1 17) Try.f17 [(.ref (some a0) carena_Arena 0 [])] ⟨[], [some (.heap X)], ⟨0, []⟩⟩ (xfin [(.pure (.int .i64)), (.pure (.int .i64))] R) := Eq.mp (by kernel_rfl) h
end Go.Proofs.Ytefpoodhdfggdaa.AB

set_option linter.unusedVariables false
set_option linter.unusedSimpArgs false
set_option maxRecDepth 100000
set_option maxHeartbeats 2000000
namespace Go.Proofs.Ytefpoodhdfggdaa.AB
open Go
/-! (*crucible/arena.Arena).Raw -/
noncomputable def X18 : Cx := ⟨tt, [], [], [], [], []⟩
theorem FN18 : fnsB Try.prog X18.fns := (show True from trivial)
theorem E18 (X : XH) (a0 : Nat) (i1 : Int) {R : (Int × Bool) → XH → Prop} (h : (((decide (i1 < (0 : Int))) = true → R ((0 : Int), false) X) ∧ ((decide (i1 < (0 : Int))) = false → (∃ (a1 : ((Option SlH) × ((Nat → (Option SlH)) × ((Option Nat) × ((Option Nat) × Int))))), XH.el X carena_Arena a0 0 = some a1 ∧ (((decide (i1 ≥ (((slN a1.1) : Nat) : Int))) = true → R ((0 : Int), false) X) ∧
 ((decide (i1 ≥ (((slN a1.1) : Nat) : Int))) = false → (∃ (a2 : ((Option SlH) × ((Nat → (Option SlH)) × ((Option Nat) × ((Option Nat) × Int))))), XH.el X carena_Arena a0 0 = some a2 ∧ (∃ (u3 : SlH), a2.1 = some u3 ∧ 0 ≤ i1 ∧ i1 < ((u3.len : Nat) : Int) ∧ (∃ (a4 : Int), XH.el X (.pure (.int .i64)) u3.h ((u3.off + (i1).toNat)) = some a4 ∧ R (a4, true) X))))))))) :
  fnK X18.tt (callN Try.prog X18 0) (X18.md 18) (X18.mk1 18) Try.f18 [(.ref (some a0) carena_Arena 0 []), (.v (.int .i64 i1))] ⟨[], [some (.heap X)], ⟨0, []⟩⟩ (xfin [(.pure (.int .i64)), (.pure .bool)] R) := Eq.mp (by kernel_rfl) h
end Go.Proofs.Ytefpoodhdfggdaa.AB

set_option linter.unusedVariables false
set_option linter.unusedSimpArgs false
set_option maxRecDepth 100000
set_option maxHeartbeats 2000000
namespace Go.Proofs.Ytefpoodhdfggdaa.AB
open Go
/-! (*crucible/arena.Arena).Fits -/
noncomputable def X24 : Cx := ⟨tt, [], [(48, [(.pure (.pair (.int .i64) (.int .i64))), (.pure .bool)])], [(24, [(1, 2, .rd)])], [], []⟩
theorem FN24 : fnsB Try.prog X24.fns := (show True from trivial)
theorem E24 (X : XH) (a0 : Nat) (n1 : Int) {R : (Bool) → XH → Prop} (h : (∃ (p1 : (Int × Int) × Bool), RC Try.prog 48 [(.pure (.pair (.int .i64) (.int .i64))), (.pure .bool)] [(.ref (some a0) carena_Arena 0 []), (.v (.int .i64 n1))] X p1 ∧ R p1.2 X)) :
  fnK X24.tt (callN Try.prog X24 0) (X24.md 24) (X24.mk1 24) Try.f24 [(.ref (some a0) carena_Arena 0 []), (.v (.int .i64 n1))] ⟨[], [some (.heap X)], ⟨0, []⟩⟩ (xfin [(.pure .bool)] R) := Eq.mp (by kernel_rfl) h
end Go.Proofs.Ytefpoodhdfggdaa.AB

set_option linter.unusedVariables false
set_option linter.unusedSimpArgs false
namespace Go.Proofs.Ytefpoodhdfggdaa.AB
open Go

variable {X X' : XH} {t : Nat} {d : AD}

/-- how long a used block is -/
def sizeAt (bs : List Bl) (a : Int) : Option Nat :=
  match (walk 1 bs).find? fun x => decide ((x.1 : Int) = a) && x.2.2 with
  | some x => some x.2.1
  | none => none

theorem sizeAt_some {bs : List Bl} (hz : sz2 bs) {a : Int} {s : Nat} : sizeAt bs a = some s ↔ ∃ p : Nat, a = (p : Int) ∧ (p, s, true) ∈ walk 1 bs := by
  unfold sizeAt
  cases hf : (walk 1 bs).find? (fun x => decide ((x.1 : Int) = a) && x.2.2) with
  | none =>
    constructor
    · intro h; cases h
    · rintro ⟨p, rfl, hm⟩
      have := List.find?_eq_none.1 hf _ hm
      simp at this
  | some x =>
    obtain ⟨q, s', u⟩ := x
    have h1 := List.find?_some hf
    have h2 := List.mem_of_find?_eq_some hf
    simp only [Bool.and_eq_true, decide_eq_true_eq] at h1
    obtain ⟨rfl, h1⟩ := h1
    subst h1
    constructor
    · intro h
      cases h
      exact ⟨q, rfl, h2⟩
    · rintro ⟨p, e, hm⟩
      have : q = p := by omega
      subst this
      rw [(walk_inj hz h2 hm).1]

theorem sizeAt_none {bs : List Bl} (hz : sz2 bs) {a : Int} : sizeAt bs a = none ↔ ∀ p s : Nat, (p, s, true) ∈ walk 1 bs → a ≠ (p : Int) := by
  constructor
  · intro h p s hm e
    rw [(sizeAt_some hz).2 ⟨p, e, hm⟩] at h; cases h
  · intro h
    cases hs : sizeAt bs a with
    | none => rfl
    | some s =>
      obtain ⟨p, e, hm⟩ := (sizeAt_some hz).1 hs
      exact absurd e (h p s hm)

theorem DOK.find {bs : List Bl} (hd : DOK d bs) (a : Int) : mfind (eqI a) d.T = (sizeAt bs a).map fun s => (s : Int) := by
  cases hs : sizeAt bs a with
  | some s =>
    obtain ⟨p, rfl, hm⟩ := (sizeAt_some hd.w.sz).1 hs
    exact (mfind_iff hd.nd).2 ((hd.t _ _).2 ⟨p, s, rfl, rfl, hm⟩)
  | none =>
    have := (sizeAt_none hd.w.sz).1 hs
    refine (mfind_none_iff hd.nd).2 fun v hv => ?_
    obtain ⟨p, s, e, _, hm⟩ := (hd.t _ _).1 hv
    exact this p s hm e

theorem sizeAt_bd {bs : List Bl} {W : List Int} (h : WOK W bs) {a : Int} {s : Nat} (hs : sizeAt bs a = some s) : ∃ p : Nat, a = (p : Int) ∧ (p, s, true) ∈ walk 1 bs ∧ 1 ≤ p ∧ 2 ≤ s ∧ p + s ≤ W.length := by
  obtain ⟨p, e, hm⟩ := (sizeAt_some h.sz).1 hs
  exact ⟨p, e, hm, h.bd hm⟩

/-- the place of a word -/
def placeR (bs : List Bl) (a i : Int) : Int × Int :=
  match sizeAt bs a with
  | none => (0, 24)
  | some s => if i < 0 then (0, 1) else if i ≥ (s : Int) - 1 then (0, 1) else (a + 1 + i, 0)

theorem place_ok {bs : List Bl} {W : List Int} (h : WOK W bs) (a i : Int) : (placeR bs a i = (0, 24) ∨ placeR bs a i = (0, 1)) ∨ ∃ (p s j : Nat), a = (p : Int) ∧ i = (j : Int) ∧ (p, s, true) ∈ walk 1 bs ∧ j + 1 < s ∧ placeR bs a i = (((p + 1 + j : Nat) : Int), 0) ∧ p + s ≤ W.length ∧ 1 ≤ p := by
  unfold placeR
  cases hs : sizeAt bs a with
  | none => exact .inl (.inl rfl)
  | some s =>
    obtain ⟨p, rfl, hm, h1, h2, h3⟩ := sizeAt_bd h hs
    dsimp only
    split
    · exact .inl (.inr rfl)
    · split
      · exact .inl (.inr rfl)
      · obtain ⟨j, rfl⟩ : ∃ j : Nat, i = j := ⟨i.toNat, by omega⟩
        exact .inr ⟨p, s, j, rfl, rfl, hm, by omega, Prod.ext (by simp only; omega) rfl, h3, h1⟩

/-- place -/
theorem c60 (h : Rep X t d) {bs : List Bl} (hd : DOK d bs) (a i : Int) : RC Try.prog 60 [.pure (.int .i64), .pure (.int .i64)] [.ref (some t) cA 0 [], .v (.int .i64 a), .v (.int .i64 i)] X (placeR bs a i) := by
  have hf := hd.find a
  have hwle := hd.w.le
  refine xcOf (X := X60) rfl FN60 (by kernel_rfl) (by decide) (E60 X t a i ⟨d.val, h.el, d.T, mp_at.2 h.tk, fun v hv => ⟨fun e => (by cases e), fun _ => ?_⟩, fun hv => ⟨fun _ => ?_, fun e => by cases e⟩⟩)
  · have hv : mfind (eqI a) d.T = some v := hv
    rw [hf] at hv
    cases hs : sizeAt bs a with
    | none => rw [hs] at hv; cases hv
    | some s =>
      rw [hs] at hv
      have hv : (s : Int) = v := Option.some.inj hv
      subst hv
      obtain ⟨p, rfl, hm, h1, h2, h3⟩ := sizeAt_bd hd.w hs
      have w1 : IntKind.wrap .i64 ((s : Int) - 1) = (s : Int) - 1 := wrap64 (by omega) (by omega)
      rw [w1]
      have e : placeR bs (p : Int) i = if i < 0 then (0, 1) else if i ≥ (s : Int) - 1 then (0, 1) else ((p : Int) + 1 + i, 0) := by unfold placeR; rw [hs]
      refine ⟨fun q => ?_, fun q => ⟨fun q2 => ?_, fun q2 => ?_⟩⟩
      · have e' : placeR bs (p : Int) i = (0, 1) := by rw [e, if_pos (of_decide_eq_true q)]
        exact ⟨e'.symm, rfl⟩
      · have e' : placeR bs (p : Int) i = (0, 1) := by rw [e, if_neg (of_decide_eq_false q), if_pos (of_decide_eq_true q2)]
        exact ⟨e'.symm, rfl⟩
      · have q := of_decide_eq_false q
        have q2 := of_decide_eq_false q2
        have e' : placeR bs (p : Int) i = ((p : Int) + 1 + i, 0) := by rw [e, if_neg q, if_neg q2]
        rw [wrap64 (x := (p : Int) + 1) (by omega) (by omega), wrap64 (by omega) (by omega)]
        exact ⟨e'.symm, rfl⟩
  · have hv : mfind (eqI a) d.T = none := hv
    rw [hf] at hv
    have hs : sizeAt bs a = none := by
      cases hs : sizeAt bs a with
      | none => rfl
      | some s => rw [hs] at hv; cases hv
    have e : placeR bs a i = (0, 24) := by unfold placeR; rw [hs]
    exact ⟨e.symm, rfl⟩

/-- what Read answers -/
def readR (W : List Int) (bs : List Bl) (a i : Int) : Int × Int := (W.getD (placeR bs a i).1.toNat 0, (placeR bs a i).2)

theorem c45 (h : Rep X t d) {bs : List Bl} (hd : DOK d bs) (a i : Int) : RC Try.prog 45 [.pure (.int .i64), .pure (.int .i64)] [.ref (some t) cA 0 [], .v (.int .i64 a), .v (.int .i64 i)] X (readR d.W bs a i) := by
  have hp : 0 ≤ (placeR bs a i).1 ∧ (placeR bs a i).1 < (d.W.length : Int) := by
    have h0 : 0 < d.W.length := by rw [hd.w.len]; omega
    rcases place_ok hd.w a i with (e | e) | ⟨p, s, j, rfl, rfl, hm, h1, e, h2, h3⟩
    · rw [e]; simp only; omega
    · rw [e]; simp only; omega
    · rw [e]; simp only; omega
  refine xcOf (X := X45) rfl FN45 (by kernel_rfl) (by decide) (E45 X t a i ⟨_, c60 h hd a i, d.val, h.el, ⟨d.hw, 0, d.W.length, d.W.length⟩, rfl, hp.1, hp.2, _, ?_, rfl, rfl⟩)
  rw [Nat.zero_add]
  exact at_arr_el h.w (by omega)

/-- what Write comes to -/
def writeW (W : List Int) (bs : List Bl) (a i v : Int) : List Int := if (placeR bs a i).2 = 0 then W.set (placeR bs a i).1.toNat v else W

theorem c26 (h : Rep X t d) {bs : List Bl} (hd : DOK d bs) (a i v : Int) : XC Try.prog 26 [.pure (.int .i64)] [.ref (some t) cA 0 [], .v (.int .i64 a), .v (.int .i64 i), .v (.int .i64 v)] X
    fun p X' => p = (placeR bs a i).2 ∧ ∃ d', Rep X' t d' ∧ Mv X (d.hs t) X' (d'.hs t) ∧ d' = { d with W := writeW d.W bs a i v } ∧ DOK d' bs := by
  refine xcOf (X := X26) rfl FN26 (by kernel_rfl) (by decide) (E26 X t a i v ⟨_, c60 h hd a i, fun e => ?_, fun e => ?_⟩)
  · have e : (placeR bs a i).2 = 0 := by simpa using e
    rcases place_ok hd.w a i with (e1 | e1) | ⟨p, s, j, rfl, rfl, hm, h1, e1, h2, h3⟩
    · rw [e1] at e; cases e
    · rw [e1] at e; cases e
    have hp : (placeR bs (p : Int) (j : Int)).1 = ((p + 1 + j : Nat) : Int) := by rw [e1]
    rw [hp]
    refine ⟨d.val, h.el, ⟨d.hw, 0, d.W.length, d.W.length⟩, rfl, by omega, by show ((p + 1 + j : Nat) : Int) < ((d.W.length : Nat) : Int); omega, d.W.getD (p + 1 + j) 0, ?_, fun X5 e5 => ?_⟩
    · rw [Nat.zero_add, Int.toNat_natCast]; exact at_arr_el h.w (by omega)
    rw [Nat.zero_add, Int.toNat_natCast] at e5
    have e5 := e5.trans (at_arr_setEl h.w _ v)
    obtain ⟨h5, m5⟩ := h.setW (W' := d.W.set (p + 1 + j) v) (by simp)
    rw [← e5] at h5 m5
    have hW : writeW d.W bs (p : Int) (j : Int) v = d.W.set (p + 1 + j) v := by unfold writeW; rw [if_pos e, hp, Int.toNat_natCast]
    refine ⟨rfl, _, h5, m5, by rw [hW], ⟨?_, hd.ix, hd.nd, hd.t, hd.n⟩⟩
    -- the words still tell of the blocks
    have hz := hd.w.sz
    refine ⟨by show (d.W.set (p + 1 + j) v).length = _; rw [List.length_set]; exact hd.w.len, by show (d.W.set (p + 1 + j) v).length ≤ _; rw [List.length_set]; exact hd.w.le, ?_, hz, hd.w.ap, fun q s' u hq => ?_, fun q s' hq k h4 h5 => ?_⟩
    · show (d.W.set (p + 1 + j) v)[0]? = _
      rw [List.getElem?_set_ne (by omega)]; exact hd.w.z
    · show (d.W.set (p + 1 + j) v)[q]? = _
      rw [List.getElem?_set_ne]
      · exact hd.w.h q s' u hq
      · rintro rfl
        obtain ⟨pre, post, hbs, hpe⟩ := walk_split hm
        rw [hbs] at hq hz
        obtain ⟨z1, z2⟩ := sz2_app.1 hz
        obtain ⟨z2, z3⟩ := sz2_cons.1 z2
        rcases walk_three.1 hq with g | g | g
        · have := walk_bd z1 g; omega
        · have g1 := congrArg Prod.fst g
          simp only at g1
          omega
        · have := walk_bd z3 g
          simp only at this; omega
    · show (d.W.set (p + 1 + j) v)[k]? = _
      rw [List.getElem?_set_ne]
      · exact hd.w.f q s' hq k h4 h5
      · rintro rfl
        obtain ⟨pre, post, hbs, hpe⟩ := walk_split hm
        rw [hbs] at hq hz
        obtain ⟨z1, z2⟩ := sz2_app.1 hz
        obtain ⟨z2, z3⟩ := sz2_cons.1 z2
        rcases walk_three.1 hq with g | g | g
        · have := walk_bd z1 g; omega
        · cases g
        · have := walk_bd z3 g
          simp only at this; omega
  · have e : (placeR bs a i).2 ≠ 0 := by simpa using e
    have hW : writeW d.W bs a i v = d.W := by unfold writeW; rw [if_neg e]
    exact ⟨rfl, d, h, .refl _ _, by rw [hW], hd⟩

/-- what Size answers -/
def sizeR (bs : List Bl) (a : Int) : Int × Bool :=
  match sizeAt bs a with
  | some s => ((s : Int) - 1, true)
  | none => (0, false)

theorem c25 (h : Rep X t d) {bs : List Bl} (hd : DOK d bs) (a : Int) : RC Try.prog 25 [.pure (.int .i64), .pure .bool] [.ref (some t) cA 0 [], .v (.int .i64 a)] X (sizeR bs a) := by
  have hf := hd.find a
  have hwle := hd.w.le
  refine xcOf (X := X25) rfl FN25 (by kernel_rfl) (by decide) (E25 X t a ⟨d.val, h.el, d.T, mp_at.2 h.tk, fun v hv => ?_, fun hv => ?_⟩)
  · have hv : mfind (eqI a) d.T = some v := hv
    rw [hf] at hv
    cases hs : sizeAt bs a with
    | none => rw [hs] at hv; cases hv
    | some s =>
      rw [hs] at hv
      have hv : (s : Int) = v := Option.some.inj hv
      subst hv
      obtain ⟨p, rfl, hm, h1, h2, h3⟩ := sizeAt_bd hd.w hs
      have w1 : IntKind.wrap .i64 ((s : Int) - 1) = (s : Int) - 1 := wrap64 (by omega) (by omega)
      have e : sizeR bs (p : Int) = ((s : Int) - 1, true) := by unfold sizeR; rw [hs]
      have e' : ((if (0 : Int) > IntKind.wrap .i64 ((s : Int) - 1) then (0 : Int) else IntKind.wrap .i64 ((s : Int) - 1)), true) = sizeR bs (p : Int) := by rw [w1, e, if_neg (by omega)]
      exact ⟨e', rfl⟩
  · have hv : mfind (eqI a) d.T = none := hv
    rw [hf] at hv
    have hs : sizeAt bs a = none := by
      cases hs : sizeAt bs a with
      | none => rfl
      | some s => rw [hs] at hv; cases hv
    have e : sizeR bs a = (0, false) := by unfold sizeR; rw [hs]
    have : ((if (0 : Int) > IntKind.wrap .i64 (0 - 1) then (0 : Int) else IntKind.wrap .i64 (0 - 1)), false) = sizeR bs a := by rw [e]; decide
    exact ⟨this, rfl⟩

/-- Words -/
theorem c17 (h : Rep X t d) {bs : List Bl} (hd : DOK d bs) : RC Try.prog 17 [.pure (.int .i64), .pure (.int .i64)] [.ref (some t) cA 0 []] X (((usedSum bs : Nat) : Int), (sumS bs : Int) - ((usedSum bs : Nat) : Int)) := by
  have := usedSum_le bs
  have := hd.w.le
  have hlen := hd.w.len
  refine xcOf (X := X17) rfl FN17 (by kernel_rfl) (by decide) (E17 X t ⟨_, h.el, _, h.el, _, h.el, ?_, rfl⟩)
  have e1 : slN d.val.1 = d.W.length := rfl
  have e2 : d.val.2.2.2.2 = d.n := rfl
  rw [e1, e2, hd.n, wrap64 (x := ((d.W.length : Nat) : Int) - 1) (by omega) (by omega), wrap64 (by omega) (by omega), hlen]
  show (((usedSum bs : Nat) : Int), ((1 + sumS bs : Nat) : Int) - 1 - ((usedSum bs : Nat) : Int)) = (((usedSum bs : Nat) : Int), (sumS bs : Int) - ((usedSum bs : Nat) : Int))
  congr 1; omega

/-- what Raw answers -/
def rawR (W : List Int) (i : Int) : Int × Bool := if i < 0 then (0, false) else if i ≥ (W.length : Int) then (0, false) else (W.getD i.toNat 0, true)

theorem c18 (h : Rep X t d) (i : Int) : RC Try.prog 18 [.pure (.int .i64), .pure .bool] [.ref (some t) cA 0 [], .v (.int .i64 i)] X (rawR d.W i) := by
  refine xcOf (X := X18) rfl FN18 (by kernel_rfl) (by decide) (E18 X t i ⟨fun e => ?_, fun e => ⟨d.val, h.el, fun e2 => ?_, fun e2 => ?_⟩⟩)
  · have e' : rawR d.W i = (0, false) := by unfold rawR; rw [if_pos (of_decide_eq_true e)]
    exact ⟨e'.symm, rfl⟩
  · have e2 : i ≥ (d.W.length : Int) := of_decide_eq_true e2
    have e' : rawR d.W i = (0, false) := by unfold rawR; rw [if_neg (of_decide_eq_false e), if_pos e2]
    exact ⟨e'.symm, rfl⟩
  · have e := of_decide_eq_false e
    have e2 : ¬ i ≥ (d.W.length : Int) := of_decide_eq_false e2
    refine ⟨d.val, h.el, ⟨d.hw, 0, d.W.length, d.W.length⟩, rfl, by omega, by show i < ((d.W.length : Nat) : Int); omega, d.W.getD i.toNat 0, ?_, ?_, rfl⟩
    · rw [Nat.zero_add]; exact at_arr_el h.w (by omega)
    · have e' : rawR d.W i = (d.W.getD i.toNat 0, true) := by unfold rawR; rw [if_neg e, if_neg e2]
      exact e'.symm

/-- Fits -/
theorem c24 (h : Rep X t d) {bs : List Bl} (hd : DOK d bs) (n : Int) (hn : -9223372036854775808 ≤ n ∧ n ≤ 9223372036854775807) : RC Try.prog 24 [.pure .bool] [.ref (some t) cA 0 [], .v (.int .i64 n)] X (bestR d.L n).2 :=
  xcOf (X := X24) rfl FN24 (by kernel_rfl) (by decide) (E24 X t n ⟨_, c48 h hd.ix.lok n hn, rfl, rfl⟩)

/-- does a block of so many words fit -/
theorem fits_iff {bs : List Bl} (hd : DOK d bs) (n : Int) : (bestR d.L n).2 = true ↔ 1 ≤ n ∧ n ≤ 1048576 ∧ ∃ p s : Nat, (p, s, false) ∈ walk 1 bs ∧ n + 1 ≤ (s : Int) := by
  by_cases h1 : 1 ≤ n ∧ n ≤ 1048576
  · obtain ⟨m, rfl⟩ : ∃ m : Nat, n = m := ⟨n.toNat, by omega⟩
    rcases best_split hd.w.sz (bestR_spec hd.ix (n := m) (by omega) (by omega)) with ⟨pre, s, post, hb, hr⟩ | ⟨hr, hno⟩
    · rw [hr]
      refine ⟨fun _ => ⟨h1.1, h1.2, 1 + sumS pre, s, ?_, ?_⟩, fun _ => rfl⟩
      · rw [hb.e]; exact walk_three.2 (.inr (.inl rfl))
      · have := hb.le; omega
    · rw [hr]
      refine ⟨fun e => (by cases e), ?_⟩
      rintro ⟨_, _, p, s, hm, hs⟩
      exact absurd (by omega) (hno p s hm)
  · have : bestR d.L n = ((0, 0), false) := by
      unfold bestR
      by_cases h2 : n < 1
      · rw [if_pos h2]
      · rw [if_neg h2, if_pos (by omega)]
    rw [this]
    refine ⟨fun e => (by cases e), ?_⟩
    rintro ⟨a, b, _⟩
    exact absurd ⟨a, b⟩ h1

end Go.Proofs.Ytefpoodhdfggdaa.AB

set_option linter.unusedVariables false
set_option linter.unusedSimpArgs false
namespace Go.Proofs.Ytefpoodhdfggdaa.AB
open Go

/-- a new arena's words -/
def newW (n : Nat) : List Int := over ((List.replicate n (0 : Int)).set 1 (2 * ((n - 1 : Nat) : Int))) 2 (List.replicate (n - 2) poisonW)

theorem newW_len {n : Nat} (h : 2 ≤ n) : (newW n).length = n := by
  unfold newW
  rw [over_length (by simp; omega)]; simp

theorem newW_get {n : Nat} (h : 2 ≤ n) (i : Nat) : (newW n)[i]? = if i = 1 then some (2 * ((n - 1 : Nat) : Int)) else if i = 0 then some 0 else if i < n then some poisonW else none := by
  unfold newW
  rw [over_get (by simp; omega), List.getElem?_set]
  simp only [List.length_replicate]
  by_cases e1 : i = 1
  · subst e1
    rw [if_neg (by omega), if_pos rfl, if_pos (by omega), if_pos rfl]
  · rw [if_neg e1]
    by_cases e0 : i = 0
    · subst e0
      rw [if_neg (by omega), if_neg (by omega), if_pos rfl, List.getElem?_replicate, if_pos (by omega)]
    · rw [if_neg e0]
      by_cases e2 : i < n
      · rw [if_pos (by omega), if_pos e2, List.getElem?_replicate, if_pos (by omega)]
      · rw [if_neg (by omega), if_neg e2, if_neg (fun q => e1 q.symm), List.getElem?_eq_none (by simp; omega)]

theorem newW_ok {n : Nat} (h : 16 ≤ n) (h2 : n ≤ 1048576) : WOK (newW n) [(n - 1, false)] := by
  have hg := newW_get (n := n) (by omega)
  have hm : ∀ p s u, (p, s, u) ∈ walk 1 [(n - 1, false)] → p = 1 ∧ s = n - 1 ∧ u = false := by
    intro p s u hm
    simp only [walk, List.mem_singleton] at hm
    cases hm; exact ⟨rfl, rfl, rfl⟩
  refine ⟨by rw [newW_len (by omega)]; simp [sumS]; omega, by rw [newW_len (by omega)]; exact h2, ?_, fun b hb => ?_, trivial, fun p s u hq => ?_, fun p s hq i h3 h4 => ?_⟩
  · rw [hg, if_neg (by omega), if_pos rfl]
  · simp only [List.mem_singleton] at hb
    subst hb
    show 2 ≤ n - 1
    omega
  · obtain ⟨rfl, rfl, rfl⟩ := hm p s u hq
    rw [hg, if_pos rfl]; simp [hd]
  · obtain ⟨rfl, rfl, _⟩ := hm p s false hq
    rw [hg, if_neg (by omega), if_neg (by omega), if_pos (by omega)]

theorem FF_new {n : Nat} (b : BK) : FF [(n - 1, false)] b ↔ b = (((1 : Nat) : Int), ((n - 1 : Nat) : Int)) := by
  constructor
  · rintro ⟨p, s, rfl, hm⟩
    simp only [walk, List.mem_singleton] at hm
    cases hm; rfl
  · rintro rfl
    exact ⟨1, n - 1, rfl, by simp [walk]⟩

variable {X : XH}

/-- New -/
theorem c14 (n : Int) (hn : -9223372036854775808 ≤ n ∧ n ≤ 9223372036854775807) : XC Try.prog 14 [.ref cA, .pure (.int .i64)] [.v (.int .i64 n)] X
    fun p X' => (¬ (16 ≤ n ∧ n ≤ 1048576) ∧ p = ((none, (1 : Int)) : Option Nat × Int) ∧ X' = X) ∨ ∃ (m t : Nat) (d : AD), n = m ∧ 16 ≤ m ∧ m ≤ 1048576 ∧ p = ((some t, (0 : Int)) : Option Nat × Int) ∧ Rep X' t d ∧ Mv X [] X' (d.hs t) ∧ DOK d [(m - 1, false)] ∧ d.W = newW m := by
  refine xcOf (X := X14) rfl FN14 (by kernel_rfl) (by decide) (E14 X n ⟨fun e => ?_, fun e => ⟨fun e2 => ?_, fun e2 => ?_⟩⟩)
  · have e := of_decide_eq_true e
    exact .inl ⟨by omega, rfl, rfl⟩
  · have e2 := of_decide_eq_true e2
    exact .inl ⟨by omega, rfl, rfl⟩
  have e := of_decide_eq_false e
  have e2 := of_decide_eq_false e2
  obtain ⟨m, rfl⟩ : ∃ m : Nat, n = m := ⟨n.toNat, by omega⟩
  rw [Int.toNat_natCast]
  refine ⟨by omega, Int.le_refl _, by show (m : Int) * 8 ≤ ((140737488355328 : Nat) : Int); omega, by omega, ?_⟩
  intro X1 e1 X2 e22 X3 e3 X4 e4
  obtain ⟨ls, hls⟩ : ∃ ls : Nat → Option SlH, ls = fun i => ([none, none, none, none, none, none, none, none, none, none, none, none, none, none, none, none, none, none, none, none, none, none] : List (Option SlH)).getD i none := ⟨_, rfl⟩
  rw [← hls] at e4
  have hls0 : ∀ k, ls k = none := by
    intro k
    rw [hls]
    show (List.replicate 22 (none : Option SlH)).getD k none = none
    rw [List.getD, List.getElem?_replicate]
    split <;> rfl
  obtain ⟨d, hd⟩ : ∃ d : AD, d = ⟨X.n, X1.n, X2.n, ls, List.replicate m 0, fun _ => [], [], [], 0⟩ := ⟨_, rfl⟩
  have n1 : X1.n = X.n + 1 := by rw [e1]; rfl
  have n2 : X2.n = X.n + 2 := by rw [e22]; show X1.n + 1 = _; omega
  have n3 : X3.n = X.n + 3 := by rw [e3]; show X2.n + 1 = _; omega
  have hv : d.val = (some ⟨X.n, 0, m, m⟩, ls, some X1.n, some X2.n, 0) := by rw [hd]; simp [AD.val]
  have r4 : Rep X4 X3.n d := by
    refine ⟨?_, ?_, ?_, ?_, fun k hk => ?_, ?_, fun k hk q hq => ?_, fun k k' hk hk' hne q hq => ?_⟩
    · show X4.at X3.n = _
      rw [e4, at_add_new, hv]
    · rw [hd]
      show X4.at X.n = some (.arr cI (List.replicate m 0))
      rw [e4, at_add_old (by omega), e3, at_add_old (by omega), e22, at_add_old (by omega), e1, at_add_new]
    · rw [hd]
      show X4.at X1.n = _
      rw [e4, at_add_old (by omega), e3, at_add_old (by omega), e22, at_add_new]
    · rw [hd]
      show X4.at X2.n = _
      rw [e4, at_add_old (by omega), e3, at_add_new]
    · rw [hd]
      show SlAt X4 cB (ls k) []
      rw [hls0]; rfl
    · rw [hd]
      show X3.n ≠ X.n ∧ X3.n ≠ X1.n ∧ X3.n ≠ X2.n ∧ X.n ≠ X1.n ∧ X.n ≠ X2.n ∧ X1.n ≠ X2.n
      omega
    · rw [hd] at hq
      have hq : q ∈ hl (ls k) := hq
      rw [hls0] at hq; cases hq
    · rw [hd] at hq
      have hq : q ∈ hl (ls k) := hq
      rw [hls0] at hq; cases hq
  have m4 : Mv X [] X4 (d.hs X3.n) := by
    refine ⟨?_, fun k hk _ => ?_, fun k hk => .inr ?_⟩
    · rw [e4]; show X.n ≤ X3.n + 1; omega
    · rw [e4, at_add_old (by omega), e3, at_add_old (by omega), e22, at_add_old (by omega), e1, at_add_old hk]
    · rcases mem_hs.1 hk with h | h | h | h | ⟨j, hj, h⟩
      · omega
      · rw [hd] at h; simp only at h; omega
      · rw [hd] at h; simp only at h; omega
      · rw [hd] at h; simp only at h; omega
      · rw [hd] at h
        have h : k ∈ hl (ls j) := h
        rw [hls0] at h; cases h
  have ix0 : IX d.L d.E (fun _ => False) := by
    rw [hd]
    exact ⟨fun b h => h.elim, fun b b' h => h.elim, fun b b' h => h.elim, fun k hk => List.Pairwise.nil, fun k hk b => ⟨fun h => (by cases h), fun h => h.1.elim⟩, by simp, fun a p => ⟨fun h => (by cases h), fun ⟨b, h, _⟩ => h.elim⟩⟩
  have hw1 : IntKind.wrap .i64 ((m : Int) - 1) = ((m - 1 : Nat) : Int) := by rw [wrap64 (by omega) (by omega)]; omega
  have hWl : d.W.length = m := by rw [hd]; simp
  rw [hw1]
  refine (c46 r4 ix0.lok (a := 1) (s := m - 1) (by omega) (by omega) (by omega) (by unfold bok; simp only; omega)).mono ?_
  rintro _ X6 ⟨d6, r6, m6, w6, l6, ee6, t6, nn6⟩
  have hW6 : d6.W.length = m := by rw [w6]; simp [hWl]
  refine (c47 r6 (a := 2) (b := m) (by omega) (by omega) (by omega)).mono ?_
  rintro _ X8 ⟨d8, r8, m8, e8⟩
  refine .inr ⟨m, X3.n, d8, rfl, by omega, by omega, rfl, r8, (m4.trans m6).trans m8, ?_, ?_⟩
  · have hW8 : d8.W = newW m := by
      rw [e8]
      show over d6.W 2 _ = _
      rw [w6, hd]; rfl
    refine ⟨by rw [hW8]; exact newW_ok (by omega) (by omega), ?_, ?_, fun a v => ?_, ?_⟩
    · rw [e8]
      show IX d6.L d6.E _
      rw [l6, ee6]
      refine (ix0.lay (p := 1) (s := m - 1) (by omega) (by omega) (by omega) (fun _ h => h.elim)).congr fun b => ?_
      rw [FF_new]
      constructor
      · exact fun h => .inr h
      · rintro (h | h)
        · exact h.elim
        · exact h
    · rw [e8]; show (d6.T.map (·.1)).Nodup
      rw [t6, hd]; simp
    · rw [e8]; show (a, v) ∈ d6.T ↔ _
      rw [t6, hd]
      refine ⟨fun h => (by cases h), ?_⟩
      rintro ⟨p, s, _, _, hm⟩
      simp [walk] at hm
    · rw [e8]; show d6.n = _
      rw [nn6, hd]; rfl
  · rw [e8]
    show over d6.W 2 _ = _
    rw [w6, hd]; rfl

end Go.Proofs.Ytefpoodhdfggdaa.AB

set_option linter.unusedVariables false
set_option linter.unusedSimpArgs false
namespace Go.Proofs.Ytefpoodhdfggdaa.AB
open Go

variable {X X' : XH} {t : Nat} {d : AD}

def leN : Int → Int → Bool := fun x y => decide (x ≤ y)

/-- what the reader says of each entry: nothing -/
def noR : Value → Option (DataW Unit × List MemPlace) := fun _ => some (.nil, [])

theorem rg_int {a : Int} {x : MapEntry} (hx : x.key = .int .i64 a) (h1 : -9223372036854775808 ≤ a) (h2 : a ≤ 9223372036854775807) : WideElems.rd Try.prog 3 noR x = some (.int .i64 a, .nil) := by
  unfold WideElems.rd
  rw [hx, Go.Maps.keyOf_int_mk Try.underlying3 (by
    simp [Lit.wf, IntKind.min, IntKind.max, IntKind.bits, IntKind.signed]
    omega)]
  rfl

/-- the keys of a map of ints, in order -/
theorem c19a (h : Rep X t d) (hk : ∀ e ∈ d.T, -9223372036854775808 ≤ e.1 ∧ e.1 ≤ 9223372036854775807) (hsz : d.T.length < 2000000) :
    RC Try.prog 19 [.pure (.slice (.int .i64))] [.ref (some t) cA 0 []] X ((d.T.map (·.1)).mergeSort leN) := by
  intro Mine G w vs hi hl hr
  obtain ⟨u, rfl⟩ : ∃ u, vs = #[u] := by
    have : vs.size = 1 := hl.symm
    exact ⟨vs[0], by
      apply Array.ext
      · simpa using this
      · intro i h1 h2
        have : i = 0 := by simp at h2; omega
        subst this; rfl⟩
  have hu := hr 0 (.ref (some t) cA 0 []) u rfl rfl
  refine .inl ⟨⟨Try.f19, by kernel_rfl, by decide, rfl⟩, ?_⟩
  cases hu with
  | ref _ _ _ _ b ct hl0 hp =>
  -- the arena
  obtain ⟨b', h1, h2, h3, cur, el, h4, h5, h6⟩ := hi.xarr rfl h.box.arr
  rw [hl0] at h1; cases h1
  obtain ⟨u0, q1, q2, q3⟩ := h6 0 _ rfl 24 (.mp (.int .i64) cI (some d.ht)) (by
    simp only [AD.val, cA, Xd.cells, List.range, List.range.loop, List.flatMap_cons, List.flatMap_nil, List.cons_append, List.nil_append, List.getElem?_cons_succ, List.getElem?_cons_zero])
  cases q2 with
  | mp _ _ _ r sz ct' hlm =>
  obtain ⟨r', sz', ct'', g1, g2, g3, ents', ck, g4, g5, g6, g7⟩ := hi.xmp rfl (mp_at.2 h.tk)
  rw [hlm] at g1; cases g1
  have hlen : ents'.size = d.T.length := g5.symm
  have hkey : ∀ (i : Nat) x, ents'[i]? = some x → ∃ e, d.T[i]? = some e ∧ x.key = .int .i64 e.1 := by
    intro i x hx
    have hlt := (Array.getElem?_eq_some_iff.1 hx).1
    have hi3 : i < d.T.length := by rw [← hlen]; exact hlt
    have he : d.T[i]? = some d.T[i] := List.getElem?_eq_getElem hi3
    have := (g6 i _ x he hx).1
    refine ⟨_, he, ?_⟩
    have hk : VR G (.int .i64 d.T[i].1) x.key := this
    generalize x.key = y at hk
    cases hk; rfl
  have hrd : ∀ (i : Nat) x, ents'[i]? = some x → ∃ e, d.T[i]? = some e ∧ WideElems.rd Try.prog 3 noR x = some (.int .i64 e.1, .nil) := by
    intro i x hx
    obtain ⟨e, he, hk'⟩ := hkey i x hx
    have := hk e (List.mem_of_getElem? he)
    exact ⟨e, he, rg_int hk' this.1 this.2⟩
  have fit : WideElems.Fit Try.prog 3 noR ents' ck := by
    refine ⟨?_, g7, fun x hx => ?_⟩
    · rw [hlen]; unfold maxLen; omega
    · obtain ⟨i, hi'⟩ := List.getElem?_of_mem hx
      obtain ⟨e, _, ha⟩ := hrd i x (by simpa using hi')
      exact ⟨_, ha⟩
  have hown := World.ownsMap_of_fit (w := w) (R := noR) g4 fit (fun _ _ _ e => e)
  have hpm := WideShapes.sorted_perm (ents'.toList.map (WideElems.rg Try.prog 3 noR))
  have hkeys : intKeys (.map (ents'.toList.map (WideElems.rg Try.prog 3 noR))) = d.T.map (·.1) := by
    show (ents'.toList.map (WideElems.rg Try.prog 3 noR)).map (fun p => Go.intOf p.1) = _
    refine List.ext_getElem? fun i => ?_
    rw [List.map_map, List.getElem?_map, List.getElem?_map]
    cases hx : ents'.toList[i]? with
    | none =>
      have : d.T[i]? = none := by
        rw [List.getElem?_eq_none_iff] at hx ⊢
        rw [← hlen]; simpa using hx
      rw [this]; rfl
    | some x =>
      obtain ⟨e, he, hk'⟩ := hrd i x (by simpa using hx)
      rw [he]
      simp only [Option.map_some, Function.comp, WideElems.rg, hk', Option.getD_some]
      rfl
  have hsize : Go.Maps.size (DataW.map ((ents'.toList.map (WideElems.rg Try.prog 3 noR)).foldr DataW.insert [])) = d.T.length := by
    show ((ents'.toList.map (WideElems.rg Try.prog 3 noR)).foldr DataW.insert []).length = _
    rw [hpm.length_eq]; simp [hlen]
  have hcell : w.cell? ⟨b, 24, none⟩ = some (.map (some r)) := by
    unfold World.cell?
    simp only [h4]
    simpa using q1
  have hcall := used_calls b r ents'.size _ noR w hcell hown (by rw [hsize]; unfold maxLen; omega) (by rw [hsize]; omega)
  refine hcall.mono ?_
  rintro e w' ⟨v, ss, rfl, hs, hrow, hbel⟩
  have hssp : ss.Perm (d.T.map (·.1)) := by
    refine hs.trans ?_
    rw [← hkeys]
    unfold intKeys
    exact hpm.map _
  have hms : ss.mergeSort (fun x y => decide (x ≤ y)) = (d.T.map (·.1)).mergeSort leN := mergeSort_of_perm_i hssp
  have hlen2 : ss.length = ((d.T.map (·.1)).mergeSort leN).length := by
    rw [← hms]; simp
  rw [hms, hlen2] at hrow
  obtain ⟨G', k1, k2, k3, k4, k5⟩ := hi.rowInt hbel hrow
  exact ⟨v, _, X, G', rfl, ⟨rfl, rfl⟩, k1, k2, k3, k4, k5⟩

/-- the addresses of used blocks -/
def usedAt (bs : List Bl) : List Int := ((walk 1 bs).filter fun x => x.2.2).map fun x => (x.1 : Int)

theorem usedAt_mem {bs : List Bl} {a : Int} : a ∈ usedAt bs ↔ ∃ p s : Nat, a = (p : Int) ∧ (p, s, true) ∈ walk 1 bs := by
  unfold usedAt
  rw [List.mem_map]
  constructor
  · rintro ⟨⟨p, s, u⟩, hx, rfl⟩
    rw [List.mem_filter] at hx
    obtain ⟨h1, h2⟩ := hx
    simp only at h2
    subst h2
    exact ⟨p, s, rfl, h1⟩
  · rintro ⟨p, s, rfl, hm⟩
    exact ⟨(p, s, true), List.mem_filter.2 ⟨hm, rfl⟩, rfl⟩

theorem walk_sorted {bs : List Bl} (hz : sz2 bs) : ∀ p, (walk p bs).Pairwise fun x y => x.1 < y.1 := by
  induction bs with
  | nil => exact fun _ => List.Pairwise.nil
  | cons b r ih =>
    intro p
    obtain ⟨z1, z2⟩ := sz2_cons.1 hz
    refine List.pairwise_cons.2 ⟨fun x hx => ?_, ih z2 _⟩
    obtain ⟨q, s, u⟩ := x
    have := walk_bd z2 hx
    simp only
    omega

theorem usedAt_sorted {bs : List Bl} (hz : sz2 bs) : (usedAt bs).Pairwise (· < ·) := by
  unfold usedAt
  rw [List.pairwise_map]
  refine List.Pairwise.imp (fun h => ?_) ((walk_sorted hz 1).filter _)
  exact Int.ofNat_lt.2 h

theorem sorted_ext : ∀ {l m : List Int}, l.Pairwise (· < ·) → m.Pairwise (· < ·) → (∀ a, a ∈ l ↔ a ∈ m) → l = m
  | [], [], _, _, _ => rfl
  | [], b :: m, _, _, h => absurd ((h b).2 (List.mem_cons_self ..)) (by simp)
  | a :: l, [], _, _, h => absurd ((h a).1 (List.mem_cons_self ..)) (by simp)
  | a :: l, b :: m, h1, h2, h => by
    rw [List.pairwise_cons] at h1 h2
    have hab : a = b := by
      rcases List.mem_cons.1 ((h a).1 (List.mem_cons_self ..)) with e | e
      · exact e
      · rcases List.mem_cons.1 ((h b).2 (List.mem_cons_self ..)) with e' | e'
        · exact e'.symm
        · have := h2.1 a e
          have := h1.1 b e'
          omega
    subst hab
    rw [sorted_ext h1.2 h2.2 (fun c => ?_)]
    constructor
    · intro hc
      rcases List.mem_cons.1 ((h c).1 (List.mem_cons_of_mem _ hc)) with e | e
      · subst e; have := h1.1 c hc; omega
      · exact e
    · intro hc
      rcases List.mem_cons.1 ((h c).2 (List.mem_cons_of_mem _ hc)) with e | e
      · subst e; have := h2.1 c hc; omega
      · exact e

theorem DOK.keys {bs : List Bl} (hd : DOK d bs) : (d.T.map (·.1)).mergeSort leN = usedAt bs := by
  refine sorted_ext ?_ (usedAt_sorted hd.w.sz) (fun a => ?_)
  · have hp : ((d.T.map (·.1)).mergeSort leN).Perm (d.T.map (·.1)) := List.mergeSort_perm _ _
    have hs : ((d.T.map (·.1)).mergeSort leN).Pairwise (fun a b => leN a b = true) := List.pairwise_mergeSort (fun a b c => by unfold leN; simp; omega) (fun a b => by unfold leN; simp; omega) _
    have hn : ((d.T.map (·.1)).mergeSort leN).Nodup := hp.nodup_iff.2 hd.nd
    refine List.Pairwise.imp₂ (fun a b h1 h2 => ?_) hs hn
    have h1 : a ≤ b := of_decide_eq_true h1
    have h2 : a ≠ b := h2
    omega
  · have hp : ((d.T.map (·.1)).mergeSort leN).Perm (d.T.map (·.1)) := List.mergeSort_perm _ _
    rw [hp.mem_iff, List.mem_map, usedAt_mem]
    constructor
    · rintro ⟨⟨x, v⟩, hx, rfl⟩
      obtain ⟨p, s, h1, h2, h3⟩ := (hd.t _ _).1 hx
      exact ⟨p, s, h1, h3⟩
    · rintro ⟨p, s, rfl, hm⟩
      exact ⟨((p : Int), (s : Int)), (hd.t _ _).2 ⟨p, s, rfl, rfl, hm⟩, rfl⟩

/-- Used -/
theorem c19 (h : Rep X t d) {bs : List Bl} (hd : DOK d bs) : RC Try.prog 19 [.pure (.slice (.int .i64))] [.ref (some t) cA 0 []] X (usedAt bs) := by
  have hwle := hd.w.le
  have key : ∀ e ∈ d.T, 1 ≤ e.1 ∧ e.1 ≤ 1048576 := by
    rintro ⟨a, v⟩ he
    obtain ⟨p, s, rfl, rfl, hm⟩ := (hd.t _ _).1 he
    have := hd.w.bd hm
    simp only
    omega
  have hn : d.T.length ≤ 1048577 := by
    have h1 : (d.T.map fun e => e.1.toNat).Nodup := by
      rw [List.Nodup, List.pairwise_map]
      have h0 := hd.nd
      rw [List.Nodup, List.pairwise_map] at h0
      refine List.Pairwise.imp_of_mem (fun {a b} ha hb hab e => hab ?_) h0
      have := key a ha
      have := key b hb
      omega
    have := nodup_lt 1048577 _ h1 (fun x hx => by
      obtain ⟨e, he, rfl⟩ := List.mem_map.1 hx
      have := key e he
      omega)
    rwa [List.length_map] at this
  have := c19a h (fun e he => by have := key e he; omega) (by omega)
  rw [hd.keys] at this
  exact this

end Go.Proofs.Ytefpoodhdfggdaa.AB

set_option linter.unusedVariables false
set_option linter.unusedSimpArgs false
set_option maxRecDepth 100000
set_option maxHeartbeats 2000000
namespace Go.Proofs.Ytefpoodhdfggdaa.AB
open Go
/-! crucible/cruciblelaw5.shown -/
noncomputable def X12 : Cx := ⟨tt, [(44, [.cd .bool])], [(14, [(.ref carena_Arena), (.pure (.int .i64))]), (15, [(.pure (.int .i64)), (.pure (.int .i64))]), (16, [(.pure (.int .i64))]), (17, [(.pure (.int .i64)), (.pure (.int .i64))]), (18, [(.pure (.int .i64)), (.pure .bool)]), (19, [(.pure (.slice (.int .i64)))]), (25, [(.pure (.int .i64)), (.pure .bool)]), (26, [(.pure (.int .i64))]), (45, [(.pure (.int .i64)), (.pure (.int .i64))])], [(12, [(1, 0, .xc), (4, 1, .rd), (5, 1, .rd), (6, 1, .rd), (9, 1, .xc), (10, 1, .xc), (11, 1, .rd), (12, 1, .rd), (13, 1, .rd), (16, 1, .xc), (17, 1, .rd), (18, 1, .rd), (19, 1, .rd), (20, 1, .xc), (21, 1, .xc), (22, 1, .xc), (23, 1, .xc), (24, 1, .rd)])], [], []⟩
theorem FN12 : fnsB Try.prog X12.fns := (show True from trivial)
theorem E12 {R : V → Prop} (h : (XC Try.prog 14 [(.ref carena_Arena), (.pure (.int .i64))] [(.v (.int .i64 (20 : Int)))] XH.none (fun (p1 : (Option Nat) × Int) (X2 : XH) => (((Option.isNone p1.1) = true → R (.bool false)) ∧ ((Option.isNone p1.1) = false → (((p1.2 != (0 : Int)) = true → R (.bool false)) ∧
 ((p1.2 != (0 : Int)) = false → (∃ (p3 : Int × Bool), RC Try.prog 18 [(.pure (.int .i64)), (.pure .bool)] [(.ref p1.1 carena_Arena 0 []), (.v (.int .i64 (1 : Int)))] X2 p3 ∧ (∃ (p4 : Int × Bool), RC Try.prog 18 [(.pure (.int .i64)), (.pure .bool)] [(.ref p1.1 carena_Arena 0 []), (.v (.int .i64 (2 : Int)))] X2 p4 ∧ (∃ (p5 : Int × Int), RC Try.prog 17 [(.pure (.int .i64)), (.pure (.int .i64))] [(.ref p1.1 carena_Arena 0 [])] X2 p5 ∧ (((p3.1 != (38 : Int)) = true → R (.bool false)) ∧ ((p3.1 != (38 : Int)) = false → (((p4.1 != (-6148914691236517206 : Int)) = true → R (.bool false)) ∧ ((p4.1 != (-6148914691236517206 : Int)) = false → (((p5.1 != (0 : Int)) = true → R (.bool false)) ∧ ((p5.1 != (0 : Int)) = false → (((p5.2 != (19 : Int)) = true → R (.bool false)) ∧
 ((p5.2 != (19 : Int)) = false → (XC Try.prog 15 [(.pure (.int .i64)), (.pure (.int .i64))] [(.ref p1.1 carena_Arena 0 []), (.v (.int .i64 (3 : Int)))] X2 (fun (p6 : Int × Int) (X7 : XH) => (XC Try.prog 15 [(.pure (.int .i64)), (.pure (.int .i64))] [(.ref p1.1 carena_Arena 0 []), (.v (.int .i64 (2 : Int)))] X7 (fun (p8 : Int × Int) (X9 : XH) => (∃ (p10 : Int × Bool), RC Try.prog 18 [(.pure (.int .i64)), (.pure .bool)] [(.ref p1.1 carena_Arena 0 []), (.v (.int .i64 (1 : Int)))] X9 p10 ∧ (∃ (p11 : Int × Int), RC Try.prog 17 [(.pure (.int .i64)), (.pure (.int .i64))] [(.ref p1.1 carena_Arena 0 [])] X9 p11 ∧ (∃ (p12 : (List Int)), RC Try.prog 19 [(.pure (.slice (.int .i64)))] [(.ref p1.1 carena_Arena 0 [])] X9 p12 ∧ (∃ p13 : Bool, PC Try.prog 44 [(.list (.int .i64) p12 .no), (.list (.int .i64) (([(1 : Int), (5 : Int)] : List Int)) .no)] (.bool p13) ∧ (((p6.1 != (1 : Int)) = true → R (.bool false)) ∧ ((p6.1 != (1 : Int)) = false → (((p6.2 != (0 : Int)) = true → R (.bool false)) ∧ ((p6.2 != (0 : Int)) = false → (((p8.1 != (5 : Int)) = true → R (.bool false)) ∧ ((p8.1 != (5 : Int)) = false → (((p8.2 != (0 : Int)) = true → R (.bool false)) ∧ ((p8.2 != (0 : Int)) = false → (((p10.1 != (9 : Int)) = true → R (.bool false)) ∧ ((p10.1 != (9 : Int)) = false → (((p11.1 != (7 : Int)) = true → R (.bool false)) ∧ ((p11.1 != (7 : Int)) = false → (((p11.2 != (12 : Int)) = true → R (.bool false)) ∧ ((p11.2 != (12 : Int)) = false → (((!p13) = true → R (.bool false)) ∧
 ((!p13) = false → (XC Try.prog 26 [(.pure (.int .i64))] [(.ref p1.1 carena_Arena 0 []), (.v (.int .i64 (1 : Int))), (.v (.int .i64 (2 : Int))), (.v (.int .i64 (7 : Int)))] X9 (fun (p14 : Int) (X15 : XH) => (∃ (p16 : Int × Int), RC Try.prog 45 [(.pure (.int .i64)), (.pure (.int .i64))] [(.ref p1.1 carena_Arena 0 []), (.v (.int .i64 (1 : Int))), (.v (.int .i64 (2 : Int)))] X15 p16 ∧ (∃ (p17 : Int × Int), RC Try.prog 45 [(.pure (.int .i64)), (.pure (.int .i64))] [(.ref p1.1 carena_Arena 0 []), (.v (.int .i64 (1 : Int))), (.v (.int .i64 (3 : Int)))] X15 p17 ∧ (∃ (p18 : Int × Int), RC Try.prog 45 [(.pure (.int .i64)), (.pure (.int .i64))] [(.ref p1.1 carena_Arena 0 []), (.v (.int .i64 (2 : Int))), (.v (.int .i64 (0 : Int)))] X15 p18 ∧ (XC Try.prog 16 [(.pure (.int .i64))] [(.ref p1.1 carena_Arena 0 []), (.v (.int .i64 (1 : Int)))] X15 (fun (p19 : Int) (X20 : XH) => (XC Try.prog 15 [(.pure (.int .i64)), (.pure (.int .i64))] [(.ref p1.1 carena_Arena 0 []), (.v (.int .i64 (2 : Int)))] X20 (fun (p21 : Int × Int) (X22 : XH) => (XC Try.prog 15 [(.pure (.int .i64)), (.pure (.int .i64))] [(.ref p1.1 carena_Arena 0 []), (.v (.int .i64 (1 : Int)))] X22 (fun (p23 : Int × Int) (X24 : XH) => (XC Try.prog 15 [(.pure (.int .i64)), (.pure (.int .i64))] [(.ref p1.1 carena_Arena 0 []), (.v (.int .i64 (20 : Int)))] X24 (fun (p25 : Int × Int) (X26 : XH) => (∃ (p27 : Int × Bool), RC Try.prog 25 [(.pure (.int .i64)), (.pure .bool)] [(.ref p1.1 carena_Arena 0 []), (.v (.int .i64 (1 : Int)))] X26 p27 ∧ (((p14 == (0 : Int)) = true → (((p16.1 == (7 : Int)) = true → (((p16.2 == (0 : Int)) = true → (((p17.2 == (1 : Int)) = true → (((p18.2 == (24 : Int)) = true → (((p19 == (0 : Int)) = true → (((p21.1 == (1 : Int)) = true → (((p21.2 == (0 : Int)) = true → (((p23.1 == (8 : Int)) = true → (((p23.2 == (0 : Int)) = true → (((p25.2 == (23 : Int)) = true → (((p27.1 == (3 : Int)) = true → R (.bool p27.2)) ∧ ((p27.1 == (3 : Int)) = false → R (.bool false)))) ∧ ((p25.2 == (23 : Int)) = false → R (.bool false)))) ∧ ((p23.2 == (0 : Int)) = false → R (.bool false)))) ∧ ((p23.1 == (8 : Int)) = false → R (.bool false)))) ∧ ((p21.2 == (0 : Int)) = false → R (.bool false)))) ∧ ((p21.1 == (1 : Int)) = false → R (.bool false)))) ∧ ((p19 == (0 : Int)) = false → R (.bool false)))) ∧ ((p18.2 == (24 : Int)) = false → R (.bool false)))) ∧ ((p17.2 == (1 : Int)) = false → R (.bool false)))) ∧ ((p16.2 == (0 : Int)) = false → R (.bool false)))) ∧ ((p16.1 == (7 : Int)) = false → R (.bool false)))) ∧ ((p14 == (0 : Int)) = false → R (.bool false))))))))))))))))))))))))))))))))))))))))))))))))))))))))))) :
  fnK X12.tt (callN Try.prog X12 0) (X12.md 12) (X12.mk1 12) Try.f12 [] ⟨[], [some (.heap XH.none)], ⟨0, []⟩⟩ (topK R) := Eq.mp (by kernel_rfl) h
end Go.Proofs.Ytefpoodhdfggdaa.AB

set_option linter.unusedVariables false
set_option linter.unusedSimpArgs false
set_option maxRecDepth 100000
set_option maxHeartbeats 2000000
namespace Go.Proofs.Ytefpoodhdfggdaa.AB
open Go
/-! crucible/cruciblelaw5.pick -/
noncomputable def X13 : Cx := ⟨tt, [], [], [], [], []⟩
theorem FN13 : fnsB Try.prog X13.fns := (show True from trivial)
theorem E13 (c0 : Int) (n1 : Int) {R : V → Prop} (h : (((decide (c0 < (0 : Int))) = true → (n1 ≠ 0 ∧ R (.int .i64 ((Int.tmod (IntKind.wrap .i64 (0 - (IntKind.wrap .i64 (c0 + (1 : Int))))) n1))))) ∧
 ((decide (c0 < (0 : Int))) = false → (n1 ≠ 0 ∧ R (.int .i64 (Int.tmod c0 n1)))))) :
  fnK X13.tt (callN Try.prog X13 0) (X13.md 13) (X13.mk1 13) Try.f13 [(.v (.int .i64 c0)), (.v (.int .i64 n1))] ⟨[], [], ⟨0, []⟩⟩ (topK R) := Eq.mp (by kernel_rfl) h
end Go.Proofs.Ytefpoodhdfggdaa.AB

set_option linter.unusedVariables false
set_option linter.unusedSimpArgs false
set_option maxRecDepth 100000
set_option maxHeartbeats 2000000
namespace Go.Proofs.Ytefpoodhdfggdaa.AB
open Go
/-! crucible/cruciblelaw5.sameInts -/
noncomputable def X44 : Cx := ⟨tt, [], [], [], [(44, [(0, mkM 26 0 [0, 1, 5], 0)])], []⟩
theorem FN44 : fnsB Try.prog X44.fns := (show True from trivial)
def M44_0 : List Bool × Nat := (mkM 26 0 [0, 1, 5], 0)
def S44_0 (a0 : List Int) (b1 : List Int) (i5 : Int) (T : Toks) : St :=
  mkS 26 [(0, (.v (.list (.int .i64) a0 .no))), (1, (.v (.list (.int .i64) b1 .no))), (5, (.v (.int .i64 i5)))] [] T
noncomputable def B44_0 : (Exit → St → Prop) → St → Prop := (awp X44.tt (callN Try.prog X44 0) (X44.md 44) 0 (X44.mk1 44) 0 (codeAt [1, 1, 0, 1, 0, 0] (bd Try.f44)))
noncomputable def K44_0 (R : V → Prop) : Exit → St → Prop := seqK ((awp X44.tt (callN Try.prog X44 0) (X44.md 44) 0 (X44.mk1 44) 0 (codeAt [1, 1, 1] (bd Try.f44))) (retK tt Try.f44.results.toList fun x s' => topK R x ⟨[], s'.hp, s'.T⟩)) (retK tt Try.f44.results.toList fun x s' => topK R x ⟨[], s'.hp, s'.T⟩)
noncomputable def Q44_0 (R : V → Prop) : Exit → St → Prop := (blockK 0 (K44_0 R))
theorem E44 (a0 : (List Int)) (b1 : (List Int)) {R : V → Prop} (h : (((((a0).length : Int) != ((b1).length : Int)) = true → R (.bool false)) ∧
 ((((a0).length : Int) != ((b1).length : Int)) = false → (Loops B44_0 M44_0 (Q44_0 R)
  (S44_0 a0 b1 (0 : Int) ⟨0, []⟩))))) :
  fnK X44.tt (callN Try.prog X44 0) (X44.md 44) (X44.mk1 44) Try.f44 [(.v (.list (.int .i64) a0 .no)), (.v (.list (.int .i64) b1 .no))] ⟨[], [], ⟨0, []⟩⟩ (topK R) := Eq.mp (by kernel_rfl) h
theorem L44_0 (a0 : List Int) (b1 : List Int) (i5 : Int) (T : Toks) {R : V → Prop} {k0 : St → Prop}
 (h : (((decide (i5 < ((a0).length : Int))) = true → (0 ≤ i5 ∧ i5 < ((a0).length : Int) ∧ (0 ≤ i5 ∧ i5 < ((b1).length : Int) ∧ ((((a0.getD (i5).toNat 0) != (b1.getD (i5).toNat 0)) = true → R (.bool false)) ∧
 (((a0.getD (i5).toNat 0) != (b1.getD (i5).toNat 0)) = false → k0 (S44_0 a0 b1 ((IntKind.wrap .i64 (i5 + (1 : Int)))) T)))))) ∧
 ((decide (i5 < ((a0).length : Int))) = false → R (.bool true)))) :
  B44_0 (loopQ M44_0 k0 (Q44_0 R)) (S44_0 a0 b1 i5 T) := Eq.mp (by kernel_rfl) h
end Go.Proofs.Ytefpoodhdfggdaa.AB

set_option linter.unusedVariables false
set_option linter.unusedSimpArgs false
namespace Go.Proofs.Ytefpoodhdfggdaa.AB
open Go

/-- pick -/
theorem p13 (c n : Int) (hc : -9223372036854775808 ≤ c ∧ c ≤ 9223372036854775807) (hn : n ≠ 0) :
    PC Try.prog 13 [.int .i64 c, .int .i64 n] (.int .i64 (Int.tmod (if c < 0 then -(c + 1) else c) n)) := by
  refine pcOf (X := X13) (d := 0) rfl FN13 (by kernel_rfl) (by decide) (E13 c n ⟨fun h => ⟨hn, ?_⟩, fun h => ⟨hn, ?_⟩⟩)
  · have h := of_decide_eq_true h
    rw [wrap64 (x := c + 1) (by omega) (by omega), wrap64 (by omega) (by omega), if_pos h, show (0 : Int) - (c + 1) = -(c + 1) by omega]
    exact ⟨rfl, rfl⟩
  · have h := of_decide_eq_false h
    rw [if_neg (by omega)]
    exact ⟨rfl, rfl⟩

def pickR (c : Int) (n : Nat) : Nat := (Int.tmod (if c < 0 then -(c + 1) else c) n).toNat

theorem pickR_lt (c : Int) {n : Nat} (hn : 0 < n) : pickR c n < n ∧ Int.tmod (if c < 0 then -(c + 1) else c) n = (pickR c n : Nat) := by
  unfold pickR
  have hx : 0 ≤ (if c < 0 then -(c + 1) else c) := by split <;> omega
  rw [Int.tmod_eq_emod_of_nonneg hx]
  have h1 := Int.emod_nonneg (if c < 0 then -(c + 1) else c) (show (n : Int) ≠ 0 by omega)
  have h2 := Int.emod_lt_of_pos (if c < 0 then -(c + 1) else c) (show (0 : Int) < n by omega)
  omega

/-- pick, of so many -/
theorem pick_ok (c : Int) {n : Nat} (hc : -9223372036854775808 ≤ c ∧ c ≤ 9223372036854775807) (hn : 0 < n) : PC Try.prog 13 [.int .i64 c, .int .i64 (n : Int)] (.int .i64 (pickR c n : Nat)) := by
  have := p13 c n hc (by omega)
  rwa [(pickR_lt c hn).2] at this

theorem retB {a b : Bool} (h : a = b) : V.norm (.bool a) = .bool b ∧ (V.bool b).nt = true := by subst h; exact ⟨rfl, rfl⟩

theorem beq_take_succ {α : Type} [BEq α] [LawfulBEq α] {a b : List α} {n : Nat} {d : α} (h : a.take n = b.take n) (hn : n < a.length) (hm : n < b.length) (he : (a.getD n d == b.getD n d) = true) : a.take (n + 1) = b.take (n + 1) := by
  have he := eq_of_beq he
  rw [List.take_succ_eq_append_getElem hn, List.take_succ_eq_append_getElem hm, h]
  simp only [List.getD, List.getElem?_eq_getElem hn, List.getElem?_eq_getElem hm, Option.getD_some] at he
  rw [he]

/-- sameInts -/
theorem p44 (a b : List Int) (ha : a.length ≤ 9223372036854775807) : PC Try.prog 44 [.list (.int .i64) a .no, .list (.int .i64) b .no] (.bool (a == b)) := by
  refine pcOf (X := X44) (d := 0) rfl FN44 (by kernel_rfl) (by decide) (E44 a b ⟨fun h => ?_, fun h => ?_⟩)
  · have hne : a ≠ b := by rintro rfl; simp at h
    exact retB (by simpa using hne)
  · have hl : a.length = b.length := by
      have : (a.length : Int) = b.length := by simpa using h
      omega
    refine Loops.intro (fun n : Nat => S44_0 a b n ⟨0, []⟩) (fun n => n ≤ a.length ∧ a.take n = b.take n) (fun n => a.length - n) 0 rfl ⟨Nat.zero_le _, rfl⟩ ?_
    rintro n ⟨hn, ht⟩
    refine L44_0 a b n ⟨0, []⟩ ⟨fun h => ?_, fun h => ?_⟩
    · have hlt : n < a.length := by simpa using h
      refine ⟨by omega, by omega, by omega, by omega, fun h => ?_, fun h => ?_⟩
      · have hne : a ≠ b := by rintro rfl; simp at h
        exact retB (by simpa using hne)
      · rw [wrap64 (by omega) (by omega)]
        refine Again.mk (n + 1) rfl ⟨by omega, beq_take_succ (d := 0) ht hlt (by omega) ?_⟩ (by omega)
        rw [Int.toNat_natCast] at h
        have : a.getD n 0 = b.getD n 0 := by simpa using h
        rw [this]; exact beq_self_eq_true _
    · have hge : n = a.length := by
        have : ¬ ((n : Int) < a.length) := by simpa using h
        omega
      have : a = b := by
        rw [hge, List.take_length] at ht
        rw [hl, List.take_length] at ht
        exact ht
      subst this
      exact retB (by simp)

/-! what is known of a choice -/

theorem split_uniq : ∀ {pre pre' : List Bl} {x x' : Bl} {post post' : List Bl}, sz2 (pre ++ x :: post) → pre ++ x :: post = pre' ++ x' :: post' → sumS pre = sumS pre' → pre = pre' ∧ x = x' ∧ post = post'
  | [], [], x, x', post, post', _, h, _ => by cases h; exact ⟨rfl, rfl, rfl⟩
  | [], b :: pre', x, x', post, post', hz, h, hs => by
    simp only [List.nil_append, List.cons_append, List.cons.injEq] at h
    have := hz x (by simp)
    simp only [sumS] at hs
    rw [h.1] at this
    omega
  | a :: pre, [], x, x', post, post', hz, h, hs => by
    have := hz a (by simp)
    simp only [sumS] at hs
    omega
  | a :: pre, b :: pre', x, x', post, post', hz, h, hs => by
    simp only [List.cons_append, List.cons.injEq] at h
    obtain ⟨rfl, h⟩ := h
    simp only [sumS] at hs
    obtain ⟨e1, e2, e3⟩ := split_uniq (sz2_cons.1 hz).2 h (by omega)
    rw [e1]; exact ⟨rfl, e2, e3⟩

theorem BestAt.uniq {bs pre pre' post post' : List Bl} {n s s' : Nat} (hz : sz2 bs) (h : BestAt bs n pre s post) (h' : BestAt bs n pre' s' post') : pre = pre' ∧ s = s' ∧ post = post' := by
  have m1 : (1 + sumS pre, s, false) ∈ walk 1 bs := by rw [h.e]; exact walk_three.2 (.inr (.inl rfl))
  have m2 : (1 + sumS pre', s', false) ∈ walk 1 bs := by rw [h'.e]; exact walk_three.2 (.inr (.inl rfl))
  have a := h.min _ _ m2 h'.le
  have b := h'.min _ _ m1 h.le
  have hs : sumS pre = sumS pre' := by omega
  rw [h.e] at hz
  obtain ⟨e1, e2, e3⟩ := split_uniq hz (h.e.symm.trans h'.e) hs
  cases e2
  exact ⟨e1, rfl, e3⟩

variable {X X' : XH} {t : Nat} {d : AD}

theorem AllocQ.ok {bs pre post : List Bl} {m s : Nat} {p : Int × Int} (h : AllocQ X t d bs (m : Int) p X') (hd : DOK d bs) (h1 : 1 ≤ m ∧ m ≤ 1048576) (hb : BestAt bs m pre s post) :
    ∃ d', Rep X' t d' ∧ Mv X (d.hs t) X' (d'.hs t) ∧ p = (((1 + sumS pre : Nat) : Int), 0) ∧ d'.W = allocW d.W (1 + sumS pre) m s ∧ DOK d' (allocB pre m s post) := by
  obtain ⟨d', r, mv, ⟨hn, _⟩ | ⟨m', e, h2, h3, ⟨hno, _⟩ | ⟨pre', s', post', hb', q1, q2, q3⟩⟩⟩ := h
  · exact absurd (by omega) hn
  · have : m = m' := by omega
    subst this
    exact absurd hb.le (hno _ _ (by rw [hb.e]; exact walk_three.2 (.inr (.inl rfl))))
  · have : m = m' := by omega
    subst this
    obtain ⟨rfl, rfl, rfl⟩ := hb.uniq hd.w.sz hb'
    exact ⟨d', r, mv, q1, q2, q3⟩

theorem AllocQ.full {bs : List Bl} {m : Nat} {p : Int × Int} (h : AllocQ X t d bs (m : Int) p X') (h1 : 1 ≤ m ∧ m ≤ 1048576) (hno : noFit bs m) : Rep X' t d ∧ Mv X (d.hs t) X' (d.hs t) ∧ p = (0, 23) := by
  obtain ⟨d', r, mv, ⟨hn, _⟩ | ⟨m', e, h2, h3, ⟨_, q1, rfl⟩ | ⟨pre', s', post', hb', q1, q2, q3⟩⟩⟩ := h
  · exact absurd (by omega) hn
  · exact ⟨r, mv, q1⟩
  · have : m = m' := by omega
    subst this
    exact absurd hb'.le (hno _ _ (by rw [hb'.e]; exact walk_three.2 (.inr (.inl rfl))))

theorem FreeQ.ok {bs pre post : List Bl} {s : Nat} {a p : Int} (h : FreeQ X t d bs a p X') (hd : DOK d bs) (e : bs = pre ++ (s, true) :: post) (ea : a = ((1 + sumS pre : Nat) : Int)) :
    ∃ d', Rep X' t d' ∧ Mv X (d.hs t) X' (d'.hs t) ∧ p = 0 ∧ d'.W = freeW d.W (1 + sumS pre - prevS pre) (prevS pre + s + nextS post) ∧ DOK d' (freeB pre s post) := by
  obtain ⟨d', r, mv, ⟨hn, _⟩ | ⟨pre', s', post', e', ea', q1, q2, q3⟩⟩ := h
  · exact absurd ea (hn _ s (by rw [e]; exact walk_three.2 (.inr (.inl rfl))))
  · have hz := hd.w.sz
    rw [e] at hz
    obtain ⟨e1, e2, e3⟩ := split_uniq hz (e.symm.trans e') (by omega)
    cases e2
    subst e1 e3
    exact ⟨d', r, mv, q1, q2, q3⟩

/-- shown -/
theorem p12 : PC Try.prog 12 [] (.bool true) := by
  refine lawOf (X := X12) rfl FN12 (by kernel_rfl) (by decide) (E12 ((c14 20 (by decide)).mono ?_))
  rintro p X2 (⟨h, _⟩ | ⟨m, t, d, e, h1, h2, rfl, r, _, hd, hW⟩)
  · exact absurd (by decide) h
  have : m = 20 := by omega
  subst this
  have w1 : d.W[1]? = some 38 := by rw [hW, newW_get (by omega)]; rfl
  have w2 : d.W[2]? = some poisonW := by rw [hW, newW_get (by omega)]; rfl
  have hlen : d.W.length = 20 := by rw [hW, newW_len (by omega)]
  have r1 : rawR d.W 1 = (38, true) := by unfold rawR; rw [if_neg (by decide), if_neg (by omega)]; simp [List.getD, w1]
  have r2 : rawR d.W 2 = (poisonW, true) := by unfold rawR; rw [if_neg (by decide), if_neg (by omega)]; simp [List.getD, w2]
  refine ⟨fun e => (by cases e), fun _ => ⟨fun e => (by cases e), fun _ => ⟨_, c18 r 1, _, c18 r 2, _, c17 r hd, ?_⟩⟩⟩
  rw [r1, r2]
  refine ⟨fun e => absurd e (by decide), fun _ => ⟨fun e => absurd e (by decide), fun _ => ⟨fun e => absurd e (by decide), fun _ => ⟨fun e => absurd e (by decide), fun _ => ?_⟩⟩⟩⟩
  -- three words
  have b1 : BestAt [(20 - 1, false)] 3 [] 19 [] := ⟨rfl, by decide, fun p' s' hm _ => by simp [walk] at hm; simp [sumS]; omega⟩
  refine (c15 r hd (3 : Nat) (by decide)).mono ?_
  rintro p6 X7 hq
  obtain ⟨d7, r7, _, rfl, hW7, hd7⟩ := hq.ok hd (by decide) b1
  have e7 : allocB [] 3 19 [] = [(4, true), (15, false)] := by decide
  rw [e7] at hd7
  have b2 : BestAt [(4, true), (15, false)] 2 [(4, true)] 15 [] := ⟨rfl, by decide, fun p' s' hm _ => by simp [walk] at hm; simp [sumS]; omega⟩
  refine (c15 r7 hd7 (2 : Nat) (by decide)).mono ?_
  rintro p8 X9 hq
  obtain ⟨d9, r9, _, rfl, hW9, hd9⟩ := hq.ok hd7 (by decide) b2
  have e9 : allocB [(4, true)] 2 15 [] = [(4, true), (3, true), (12, false)] := by decide
  rw [e9] at hd9
  have l9 : d9.W.length = 20 := by rw [hd9.w.len]; rfl
  have w9 : d9.W[1]? = some 9 := hd9.w.h 1 4 true (by simp [walk])
  have r10 : rawR d9.W 1 = (9, true) := by unfold rawR; rw [if_neg (by decide), if_neg (by omega)]; simp [List.getD, w9]
  refine ⟨_, c18 r9 1, _, c17 r9 hd9, _, c19 r9 hd9, _, p44 _ _ (by decide), ?_⟩
  rw [r10]
  refine ⟨fun e => absurd e (by decide), fun _ => ⟨fun e => absurd e (by decide), fun _ => ⟨fun e => absurd e (by decide), fun _ => ⟨fun e => absurd e (by decide), fun _ => ⟨fun e => absurd e (by decide), fun _ => ⟨fun e => absurd e (by decide), fun _ => ⟨fun e => absurd e (by decide), fun _ => ⟨fun e => absurd e (by decide), fun _ => ?_⟩⟩⟩⟩⟩⟩⟩⟩
  refine (c26 r9 hd9 1 2 7).mono ?_
  rintro p14 X15 ⟨rfl, d15, r15, _, rfl, hd15⟩
  have pl : placeR [(4, true), (3, true), (12, false)] 1 2 = (4, 0) := by decide
  have pl3 : placeR [(4, true), (3, true), (12, false)] 1 3 = (0, 1) := by decide
  have pl2 : placeR [(4, true), (3, true), (12, false)] 2 0 = (0, 24) := by decide
  refine ⟨_, c45 r15 hd15 1 2, _, c45 r15 hd15 1 3, _, c45 r15 hd15 2 0, ?_⟩
  have rd2 : readR (writeW d9.W [(4, true), (3, true), (12, false)] 1 2 7) [(4, true), (3, true), (12, false)] 1 2 = (7, 0) := by
    unfold readR writeW
    rw [pl]
    simp [List.getD, List.getElem?_set, l9]
  have rd3 : (readR (writeW d9.W [(4, true), (3, true), (12, false)] 1 2 7) [(4, true), (3, true), (12, false)] 1 3).2 = 1 := by unfold readR; rw [pl3]
  have rd0 : (readR (writeW d9.W [(4, true), (3, true), (12, false)] 1 2 7) [(4, true), (3, true), (12, false)] 2 0).2 = 24 := by unfold readR; rw [pl2]
  refine (c16 r15 hd15 1).mono ?_
  rintro p19 X20 hq
  obtain ⟨d20, r20, _, rfl, _, hd20⟩ := hq.ok hd15 (pre := []) (s := 4) (post := [(3, true), (12, false)]) rfl rfl
  have e20 : freeB [] 4 [(3, true), (12, false)] = [(4, false), (3, true), (12, false)] := by decide
  rw [e20] at hd20
  have b3 : BestAt [(4, false), (3, true), (12, false)] 2 [] 4 [(3, true), (12, false)] := ⟨rfl, by decide, fun p' s' hm _ => by simp [walk] at hm; simp [sumS]; omega⟩
  refine (c15 r20 hd20 (2 : Nat) (by decide)).mono ?_
  rintro p21 X22 hq
  obtain ⟨d22, r22, _, rfl, _, hd22⟩ := hq.ok hd20 (by decide) b3
  have e22 : allocB [] 2 4 [(3, true), (12, false)] = [(4, true), (3, true), (12, false)] := by decide
  rw [e22] at hd22
  have b4 : BestAt [(4, true), (3, true), (12, false)] 1 [(4, true), (3, true)] 12 [] := ⟨rfl, by decide, fun p' s' hm _ => by simp [walk] at hm; simp [sumS]; omega⟩
  refine (c15 r22 hd22 (1 : Nat) (by decide)).mono ?_
  rintro p23 X24 hq
  obtain ⟨d24, r24, _, rfl, _, hd24⟩ := hq.ok hd22 (by decide) b4
  have e24 : allocB [(4, true), (3, true)] 1 12 [] = [(4, true), (3, true), (2, true), (10, false)] := by decide
  rw [e24] at hd24
  refine (c15 r24 hd24 (20 : Nat) (by decide)).mono ?_
  rintro p25 X26 hq
  obtain ⟨r26, _, rfl⟩ := hq.full (by decide) (fun p' s' hm => by simp [walk] at hm; omega)
  refine ⟨_, c25 r26 hd24 1, ?_⟩
  have hs : sizeR [(4, true), (3, true), (2, true), (10, false)] 1 = (3, true) := by decide
  rw [rd2, rd3, rd0, hs, pl]
  refine ⟨fun _ => ⟨fun _ => ⟨fun _ => ⟨fun _ => ⟨fun _ => ⟨fun _ => ⟨fun _ => ⟨fun _ => ⟨fun _ => ⟨fun _ => ⟨fun _ => ⟨fun _ => ⟨rfl, rfl⟩, fun e => ?_⟩, fun e => ?_⟩, fun e => ?_⟩, fun e => ?_⟩, fun e => ?_⟩, fun e => ?_⟩, fun e => ?_⟩, fun e => ?_⟩, fun e => ?_⟩, fun e => ?_⟩, fun e => ?_⟩, fun e => ?_⟩ <;> exact absurd e (by decide)

end Go.Proofs.Ytefpoodhdfggdaa.AB

set_option linter.unusedVariables false
set_option linter.unusedSimpArgs false
set_option maxRecDepth 100000
set_option maxHeartbeats 2000000
namespace Go.Proofs.Ytefpoodhdfggdaa.AB
open Go
/-! crucible/cruciblelaw5.ArenaEmpties -/
noncomputable def X3 : Cx := ⟨tt, [(12, [.cd .bool]), (13, [.cd (.int .i64)])], [(14, [(.ref carena_Arena), (.pure (.int .i64))]), (15, [(.pure (.int .i64)), (.pure (.int .i64))]), (16, [(.pure (.int .i64))]), (17, [(.pure (.int .i64)), (.pure (.int .i64))]), (18, [(.pure (.int .i64)), (.pure .bool)]), (19, [(.pure (.slice (.int .i64)))])], [(3, [(5, 1, .xc), (12, 7, .xc), (21, 5, .xc), (24, 1, .rd), (25, 1, .rd), (29, 2, .rd), (32, 17, .rd)])], [(3, [(0, mkM 152 0 [0, 1, 2, 8, 10, 11], 0), (2, mkM 152 0 [0, 2, 8, 10, 14], 0), (4, mkM 152 0 [0, 8, 16, 17, 18, 20], 0)])], []⟩
theorem FN3 : fnsB Try.prog X3.fns := (show True from trivial)
def M3_0 : List Bool × Nat := (mkM 152 0 [0, 1, 2, 8, 10, 11], 1)
def S3_0 (words0 : Int) (sizes1 : List Int) (order2 : List Int) (a8 : Option Nat) (l10 : List Int) (l10k : Tok) (i11 : Int) (hq0 : XH) (T : Toks) : St :=
  mkS 152 [(0, (.v (.int .i64 words0))), (1, (.v (.list (.int .i64) sizes1 .no))), (2, (.v (.list (.int .i64) order2 .no))), (8, (.ref a8 carena_Arena 0 [])), (10, (.v (.list (.int .i64) l10 l10k))), (11, (.v (.int .i64 i11)))] [(some (.heap hq0))] T
noncomputable def B3_0 : (Exit → St → Prop) → St → Prop := (awp X3.tt (callN Try.prog X3 0) (X3.md 3) 1 (X3.mk1 3) 0 (codeAt [1, 1, 1, 1, 1, 1, 1, 0, 1, 0, 0] (bd Try.f3)))
def M3_2 : List Bool × Nat := (mkM 152 0 [0, 2, 8, 10, 14], 1)
def S3_2 (words0 : Int) (order2 : List Int) (a8 : Option Nat) (l10 : List Int) (l10k : Tok) (i14 : Int) (hq0 : XH) (T : Toks) : St :=
  mkS 152 [(0, (.v (.int .i64 words0))), (2, (.v (.list (.int .i64) order2 .no))), (8, (.ref a8 carena_Arena 0 [])), (10, (.v (.list (.int .i64) l10 l10k))), (14, (.v (.int .i64 i14)))] [(some (.heap hq0))] T
noncomputable def B3_2 : (Exit → St → Prop) → St → Prop := (awp X3.tt (callN Try.prog X3 0) (X3.md 3) 1 (X3.mk1 3) 2 (codeAt [1, 1, 1, 1, 1, 1, 1, 1, 0, 1, 0, 0] (bd Try.f3)))
def M3_4 : List Bool × Nat := (mkM 152 0 [0, 8, 16, 17, 18, 20], 1)
def S3_4 (words0 : Int) (a8 : Option Nat) (used16 : Int) (free17 : Int) (x18 : Int) (i20 : Int) (hq0 : XH) (T : Toks) : St :=
  mkS 152 [(0, (.v (.int .i64 words0))), (8, (.ref a8 carena_Arena 0 [])), (16, (.v (.int .i64 used16))), (17, (.v (.int .i64 free17))), (18, (.v (.int .i64 x18))), (20, (.v (.int .i64 i20)))] [(some (.heap hq0))] T
noncomputable def B3_4 : (Exit → St → Prop) → St → Prop := (awp X3.tt (callN Try.prog X3 0) (X3.md 3) 1 (X3.mk1 3) 4 (codeAt [1, 1, 1, 1, 1, 1, 1, 1, 1, 1, 1, 0, 1, 0, 0] (bd Try.f3)))
noncomputable def K3_0 (R : V → Prop) : Exit → St → Prop := seqK ((awp X3.tt (callN Try.prog X3 0) (X3.md 3) 1 (X3.mk1 3) 0 (codeAt [1, 1, 1, 1, 1, 1, 1, 1] (bd Try.f3))) (retK tt Try.f3.results.toList fun x s' => topK R x ⟨[], s'.hp, s'.T⟩)) (retK tt Try.f3.results.toList fun x s' => topK R x ⟨[], s'.hp, s'.T⟩)
noncomputable def Q3_0 (R : V → Prop) : Exit → St → Prop := (blockK 0 (K3_0 R))
noncomputable def K3_1 (R : V → Prop) : Exit → St → Prop := seqK ((awp X3.tt (callN Try.prog X3 0) (X3.md 3) 1 (X3.mk1 3) 0 (codeAt [1, 1, 1, 1, 1, 1, 1, 1, 1] (bd Try.f3))) (retK tt Try.f3.results.toList fun x s' => topK R x ⟨[], s'.hp, s'.T⟩)) (retK tt Try.f3.results.toList fun x s' => topK R x ⟨[], s'.hp, s'.T⟩)
noncomputable def Q3_2 (R : V → Prop) : Exit → St → Prop := (blockK 2 (K3_1 R))
noncomputable def K3_2 (R : V → Prop) : Exit → St → Prop := seqK ((awp X3.tt (callN Try.prog X3 0) (X3.md 3) 1 (X3.mk1 3) 0 (codeAt [1, 1, 1, 1, 1, 1, 1, 1, 1, 1, 1, 1] (bd Try.f3))) (retK tt Try.f3.results.toList fun x s' => topK R x ⟨[], s'.hp, s'.T⟩)) (retK tt Try.f3.results.toList fun x s' => topK R x ⟨[], s'.hp, s'.T⟩)
noncomputable def Q3_4 (R : V → Prop) : Exit → St → Prop := (blockK 4 (K3_2 R))
theorem E3 (words0 : Int) (sizes1 : (List Int)) (order2 : (List Int)) {R : V → Prop} (h : (∃ p1 : Bool, PC Try.prog 12 [] (.bool p1) ∧ (((!p1) = true → R (.bool false)) ∧
 ((!p1) = false → (∃ p2 : Int, PC Try.prog 13 [(.int .i64 words0), (.int .i64 (2000 : Int))] (.int .i64 p2) ∧ (XC Try.prog 14 [(.ref carena_Arena), (.pure (.int .i64))] [(.v (.int .i64 ((IntKind.wrap .i64 ((16 : Int) + p2)))))] XH.none (fun (p3 : (Option Nat) × Int) (X4 : XH) => (((!p1) = true → R (.bool false)) ∧ ((!p1) = false → (((Option.isNone p3.1) = true → R (.bool false)) ∧ ((Option.isNone p3.1) = false → (((p3.2 != (0 : Int)) = true → R (.bool false)) ∧
 ((p3.2 != (0 : Int)) = false → (Loops B3_0 M3_0 (Q3_0 R)
  (S3_0 ((IntKind.wrap .i64 ((16 : Int) + p2))) sizes1 order2 p3.1 ([] : List Int) .exact (0 : Int) X4 ⟨0, []⟩))))))))))))))) :
  fnK X3.tt (callN Try.prog X3 0) (X3.md 3) (X3.mk1 3) Try.f3 [(.v (.int .i64 words0)), (.v (.list (.int .i64) sizes1 .no)), (.v (.list (.int .i64) order2 .no))] ⟨[], [some (.heap XH.none)], ⟨0, []⟩⟩ (topK R) := Eq.mp (by kernel_rfl) h
theorem L3_0 (words0 : Int) (sizes1 : List Int) (order2 : List Int) (a8 : Option Nat) (l10 : List Int) (l10k : Tok) (i11 : Int) (hq0 : XH) (T : Toks) {R : V → Prop} {k0 : St → Prop}
 (h : (((decide (i11 < ((sizes1).length : Int))) = true → (((decide (i11 < (100 : Int))) = true → (0 ≤ i11 ∧ i11 < ((sizes1).length : Int) ∧ (∃ p5 : Int, PC Try.prog 13 [(.int .i64 ((sizes1.getD (i11).toNat 0))), (.int .i64 (30 : Int))] (.int .i64 p5) ∧ (XC Try.prog 15 [(.pure (.int .i64)), (.pure (.int .i64))] [(.ref a8 carena_Arena 0 []), (.v (.int .i64 ((IntKind.wrap .i64 ((1 : Int) + p5)))))] hq0 (fun (p6 : Int × Int) (X7 : XH) => (((p6.2 == (0 : Int)) = true → (Tok.own l10k T.l ∧ ((l10).length + (([p6.1] : List Int)).length) * 8 ≤ room ∧ k0 (S3_0 words0 sizes1 order2 a8 ((l10 ++ ([p6.1] : List Int))) (.tk T.n) ((IntKind.wrap .i64 (i11 + (1 : Int)))) X7 ⟨(T.n + 1), (T.n :: Tok.drop l10k T.l)⟩))) ∧
 ((p6.2 == (0 : Int)) = false → k0 (S3_0 words0 sizes1 order2 a8 l10 l10k ((IntKind.wrap .i64 (i11 + (1 : Int)))) X7 T)))))))) ∧
 ((decide (i11 < (100 : Int))) = false → (Loops B3_2 M3_2 (Q3_2 R)
  (S3_2 words0 order2 a8 l10 l10k (0 : Int) hq0 T))))) ∧ ((decide (i11 < ((sizes1).length : Int))) = false → (Loops B3_2 M3_2 (Q3_2 R)
  (S3_2 words0 order2 a8 l10 l10k (0 : Int) hq0 T))))) :
  B3_0 (loopQ M3_0 k0 (Q3_0 R)) (S3_0 words0 sizes1 order2 a8 l10 l10k i11 hq0 T) := Eq.mp (by kernel_rfl) h
theorem L3_2 (words0 : Int) (order2 : List Int) (a8 : Option Nat) (l10 : List Int) (l10k : Tok) (i14 : Int) (hq0 : XH) (T : Toks) {R : V → Prop} {k2 : St → Prop}
 (h : (((decide (((l10).length : Int) > (0 : Int))) = true → (((decide (i14 < ((order2).length : Int))) = true → (0 ≤ i14 ∧ i14 < ((order2).length : Int) ∧ (∃ p8 : Int, PC Try.prog 13 [(.int .i64 ((order2.getD (i14).toNat 0))), (.int .i64 (((l10).length : Int)))] (.int .i64 p8) ∧ (0 ≤ p8 ∧ p8 < ((l10).length : Int) ∧ (XC Try.prog 16 [(.pure (.int .i64))] [(.ref a8 carena_Arena 0 []), (.v (.int .i64 ((l10.getD (p8).toNat 0))))] hq0 (fun (p9 : Int) (X10 : XH) => (((p9 != (0 : Int)) = true → R (.bool false)) ∧
 ((p9 != (0 : Int)) = false → (0 ≤ p8 ∧ p8 ≤ ((l10).length : Int) ∧ (Tok.own .exact T.l ∧ ((([] : List Int)).length + (((l10.take ((p8).toNat)).drop 0)).length) * 8 ≤ room ∧ (0 ≤ (IntKind.wrap .i64 (p8 + (1 : Int))) ∧ (IntKind.wrap .i64 (p8 + (1 : Int))) ≤ ((l10).length : Int) ∧ (Tok.own (.tk T.n) (T.n :: T.l) ∧ (((([] : List Int) ++ ((l10.take ((p8).toNat)).drop 0))).length + (((l10.take ((l10).length)).drop ((IntKind.wrap .i64 (p8 + (1 : Int)))).toNat)).length) * 8 ≤ room ∧ (∀ (m11 : Nat), ((T.n + 1) + 1) ≤ m11 → k2 (S3_2 words0 order2 a8 (((([] : List Int) ++ ((l10.take ((p8).toNat)).drop 0)) ++ ((l10.take ((l10).length)).drop ((IntKind.wrap .i64 (p8 + (1 : Int)))).toNat))) ((.tk (T.n + 1))) ((IntKind.wrap .i64 (i14 + (1 : Int)))) X10 ⟨m11, ((T.n + 1) :: Tok.drop (.tk T.n) (T.n :: T.l))⟩)))))))))))))) ∧
 ((decide (i14 < ((order2).length : Int))) = false → (0 ≤ (0 : Int) ∧ (0 : Int) < ((l10).length : Int) ∧ (XC Try.prog 16 [(.pure (.int .i64))] [(.ref a8 carena_Arena 0 []), (.v (.int .i64 ((l10.getD ((0 : Int)).toNat 0))))] hq0 (fun (p12 : Int) (X13 : XH) => (((p12 != (0 : Int)) = true → R (.bool false)) ∧
 ((p12 != (0 : Int)) = false → (0 ≤ (0 : Int) ∧ (0 : Int) ≤ ((l10).length : Int) ∧ (Tok.own .exact T.l ∧ ((([] : List Int)).length + (((l10.take (((0 : Int)).toNat)).drop 0)).length) * 8 ≤ room ∧ (0 ≤ (IntKind.wrap .i64 ((0 : Int) + (1 : Int))) ∧ (IntKind.wrap .i64 ((0 : Int) + (1 : Int))) ≤ ((l10).length : Int) ∧ (Tok.own (.tk T.n) (T.n :: T.l) ∧ (((([] : List Int) ++ ((l10.take (((0 : Int)).toNat)).drop 0))).length + (((l10.take ((l10).length)).drop ((IntKind.wrap .i64 ((0 : Int) + (1 : Int)))).toNat)).length) * 8 ≤ room ∧ (∀ (m14 : Nat), ((T.n + 1) + 1) ≤ m14 → k2 (S3_2 words0 order2 a8 (((([] : List Int) ++ ((l10.take (((0 : Int)).toNat)).drop 0)) ++ ((l10.take ((l10).length)).drop ((IntKind.wrap .i64 ((0 : Int) + (1 : Int)))).toNat))) ((.tk (T.n + 1))) ((IntKind.wrap .i64 (i14 + (1 : Int)))) X13 ⟨m14, ((T.n + 1) :: Tok.drop (.tk T.n) (T.n :: T.l))⟩)))))))))))))) ∧
 ((decide (((l10).length : Int) > (0 : Int))) = false → (∃ (p15 : Int × Int), RC Try.prog 17 [(.pure (.int .i64)), (.pure (.int .i64))] [(.ref a8 carena_Arena 0 [])] hq0 p15 ∧ (∃ (p16 : Int × Bool), RC Try.prog 18 [(.pure (.int .i64)), (.pure .bool)] [(.ref a8 carena_Arena 0 []), (.v (.int .i64 (1 : Int)))] hq0 p16 ∧ (Loops B3_4 M3_4 (Q3_4 R)
  (S3_4 words0 a8 p15.1 p15.2 p16.1 (2 : Int) hq0 T))))))) :
  B3_2 (loopQ M3_2 k2 (Q3_2 R)) (S3_2 words0 order2 a8 l10 l10k i14 hq0 T) := Eq.mp (by kernel_rfl) h
theorem L3_4 (words0 : Int) (a8 : Option Nat) (used16 : Int) (free17 : Int) (x18 : Int) (i20 : Int) (hq0 : XH) (T : Toks) {R : V → Prop} {k4 : St → Prop}
 (h : (((decide (i20 < words0)) = true → (∃ (p17 : Int × Bool), RC Try.prog 18 [(.pure (.int .i64)), (.pure .bool)] [(.ref a8 carena_Arena 0 []), (.v (.int .i64 i20))] hq0 p17 ∧ (((!p17.2) = true → R (.bool false)) ∧ ((!p17.2) = false → (((p17.1 != (-6148914691236517206 : Int)) = true → R (.bool false)) ∧
 ((p17.1 != (-6148914691236517206 : Int)) = false → k4 (S3_4 words0 a8 used16 free17 x18 ((IntKind.wrap .i64 (i20 + (1 : Int)))) hq0 T))))))) ∧
 ((decide (i20 < words0)) = false → (((used16 == (0 : Int)) = true → (((free17 == (IntKind.wrap .i64 (words0 - (1 : Int)))) = true → (((x18 == (IntKind.wrap .i64 ((2 : Int) * (IntKind.wrap .i64 (words0 - (1 : Int)))))) = true → (∃ (p18 : (List Int)), RC Try.prog 19 [(.pure (.slice (.int .i64)))] [(.ref a8 carena_Arena 0 [])] hq0 p18 ∧ R (.bool ((((p18).length : Int) == (0 : Int)))))) ∧ ((x18 == (IntKind.wrap .i64 ((2 : Int) * (IntKind.wrap .i64 (words0 - (1 : Int)))))) = false → R (.bool false)))) ∧ ((free17 == (IntKind.wrap .i64 (words0 - (1 : Int)))) = false → R (.bool false)))) ∧ ((used16 == (0 : Int)) = false → R (.bool false)))))) :
  B3_4 (loopQ M3_4 k4 (Q3_4 R)) (S3_4 words0 a8 used16 free17 x18 i20 hq0 T) := Eq.mp (by kernel_rfl) h
end Go.Proofs.Ytefpoodhdfggdaa.AB

set_option linter.unusedVariables false
set_option linter.unusedSimpArgs false
namespace Go.Proofs.Ytefpoodhdfggdaa.AB
open Go

/-- a list of the used blocks, in some order -/
def holds (l : List Int) (bs : List Bl) : Prop := l.Nodup ∧ ∀ a, a ∈ l ↔ a ∈ usedAt bs

theorem I64_nat {n : Nat} (h : n ≤ 9223372036854775807) : -9223372036854775808 ≤ (n : Int) ∧ (n : Int) ≤ 9223372036854775807 := by omega

theorem usedAt_alloc {bs pre post : List Bl} {n s : Nat} (hb : BestAt bs n pre s post) (a : Int) : a ∈ usedAt (allocB pre n s post) ↔ a ∈ usedAt bs ∨ a = ((1 + sumS pre : Nat) : Int) := by
  rw [usedAt_mem, usedAt_mem]
  constructor
  · rintro ⟨p, s', rfl, hm⟩
    rcases (used_alloc hb p s').1 hm with h | ⟨rfl, rfl⟩
    · exact .inl ⟨p, s', rfl, h⟩
    · exact .inr rfl
  · rintro (⟨p, s', rfl, hm⟩ | rfl)
    · exact ⟨p, s', rfl, (used_alloc hb p s').2 (.inl hm)⟩
    · exact ⟨_, _, rfl, (used_alloc hb _ _).2 (.inr ⟨rfl, rfl⟩)⟩

theorem usedAt_free {pre post : List Bl} {s : Nat} (hz : sz2 (pre ++ (s, true) :: post)) (a : Int) : a ∈ usedAt (freeB pre s post) ↔ a ∈ usedAt (pre ++ (s, true) :: post) ∧ a ≠ ((1 + sumS pre : Nat) : Int) := by
  rw [usedAt_mem, usedAt_mem]
  constructor
  · rintro ⟨p, s', rfl, hm⟩
    obtain ⟨h1, h2⟩ := (used_free hz p s').1 hm
    exact ⟨⟨p, s', rfl, h1⟩, by omega⟩
  · rintro ⟨⟨p, s', rfl, hm⟩, h⟩
    exact ⟨p, s', rfl, (used_free hz p s').2 ⟨hm, by omega⟩⟩

/-- a new block is none of the used ones -/
theorem best_new {bs pre post : List Bl} {n s : Nat} (hz : sz2 bs) (hb : BestAt bs n pre s post) : ((1 + sumS pre : Nat) : Int) ∉ usedAt bs := by
  intro h
  obtain ⟨p, s', e, hm⟩ := usedAt_mem.1 h
  have : 1 + sumS pre = p := by omega
  subst this
  have m1 : (1 + sumS pre, s, false) ∈ walk 1 bs := by rw [hb.e]; exact walk_three.2 (.inr (.inl rfl))
  exact absurd (walk_inj hz m1 hm).2 (by simp)

theorem holds.alloc {l : List Int} {bs pre post : List Bl} {n s : Nat} (h : holds l bs) (hz : sz2 bs) (hb : BestAt bs n pre s post) : holds (l ++ [((1 + sumS pre : Nat) : Int)]) (allocB pre n s post) := by
  have hn := best_new hz hb
  refine ⟨List.nodup_append.2 ⟨h.1, by simp, fun x hx y hy => ?_⟩, fun a => ?_⟩
  · simp only [List.mem_singleton] at hy
    subst hy
    rintro rfl
    exact hn ((h.2 _).1 hx)
  · rw [List.mem_append, List.mem_singleton, usedAt_alloc hb, h.2]

theorem drop_mem {α : Type} {l : List α} (hd : l.Nodup) {k : Nat} (hk : k < l.length) : (l.take k ++ l.drop (k + 1)).Nodup ∧ ∀ a, a ∈ l.take k ++ l.drop (k + 1) ↔ a ∈ l ∧ a ≠ l[k] := by
  rw [← List.eraseIdx_eq_take_drop_succ]
  refine ⟨hd.sublist (List.eraseIdx_sublist ..), fun a => ?_⟩
  rw [List.mem_eraseIdx_iff_getElem]
  constructor
  · rintro ⟨i, hi, hne, rfl⟩
    exact ⟨List.getElem_mem _, fun e => hne ((List.getElem_inj hd).1 e)⟩
  · rintro ⟨ha, hne⟩
    obtain ⟨i, hi, rfl⟩ := List.getElem_of_mem ha
    exact ⟨i, hi, fun e => hne (by subst e; rfl), rfl⟩

theorem holds.free {l : List Int} {pre post : List Bl} {s k : Nat} (h : holds l (pre ++ (s, true) :: post)) (hz : sz2 (pre ++ (s, true) :: post)) (hk : k < l.length) (e : l[k] = ((1 + sumS pre : Nat) : Int)) :
    holds (l.take k ++ l.drop (k + 1)) (freeB pre s post) := by
  obtain ⟨h1, h2⟩ := drop_mem h.1 hk
  exact ⟨h1, fun a => by rw [h2, usedAt_free hz, h.2, e]⟩

/-- when nothing is used there is one block -/
theorem one_block {bs : List Bl} (hz : sz2 bs) (ha : apart bs) (hu : usedAt bs = []) (hs : 0 < sumS bs) : bs = [(sumS bs, false)] := by
  have allf : ∀ b ∈ bs, b.2 = false := by
    intro b hb
    obtain ⟨pre, post, rfl⟩ := List.append_of_mem hb
    cases hc : b.2 with
    | false => rfl
    | true =>
      have : ((1 + sumS pre : Nat) : Int) ∈ usedAt (pre ++ b :: post) := usedAt_mem.2 ⟨_, b.1, rfl, walk_three.2 (.inr (.inl (by rw [hc])))⟩
      rw [hu] at this; cases this
  match bs, ha, hs with
  | [b], _, _ =>
    have := allf b (by simp)
    obtain ⟨b1, b2⟩ := b
    simp only at this
    subst this
    simp [sumS]
  | a :: b :: r, ha, _ => exact absurd ⟨allf a (by simp), allf b (by simp)⟩ ha.1
  | [], _, hs => simp [sumS] at hs

/-- ArenaEmpties -/
theorem p3 (words : Int) (sizes order : List Int) (hw : -9223372036854775808 ≤ words ∧ words ≤ 9223372036854775807) (hs : ∀ x ∈ sizes, -9223372036854775808 ≤ x ∧ x ≤ 9223372036854775807) (ho : ∀ x ∈ order, -9223372036854775808 ≤ x ∧ x ≤ 9223372036854775807)
    (hsl : sizes.length ≤ 9223372036854775807) (hol : order.length ≤ 9223372036854775807) :
    PC Try.prog 3 [.int .i64 words, .list (.int .i64) sizes .no, .list (.int .i64) order .no] (.bool true) := by
  have hp := pickR_lt words (n := 2000) (by omega)
  obtain ⟨N, hN⟩ : ∃ N, N = 16 + pickR words 2000 := ⟨_, rfl⟩
  have w1 : IntKind.wrap .i64 ((16 : Int) + ((pickR words 2000 : Nat) : Int)) = (N : Int) := by rw [wrap64 (by omega) (by omega)]; omega
  refine lawOf (X := X3) rfl FN3 (by kernel_rfl) (by decide) (E3 words sizes order ⟨true, p12, fun e => (by cases e), fun _ => ⟨_, pick_ok words (n := 2000) hw (by omega), ?_⟩⟩)
  rw [w1]
  refine (c14 (N : Int) (by omega)).mono ?_
  rintro p X4 (⟨h, _⟩ | ⟨m, t, d0, e, h1, h2, rfl, r0, _, hd0, hW0⟩)
  · exact absurd (by omega) h
  have : m = N := by omega
  subst this
  refine ⟨fun e => (by cases e), fun _ => ⟨fun e => (by cases e), fun _ => ⟨fun e => (by simp at e), fun _ => ?_⟩⟩⟩
  -- the end: all is free
  have fin : ∀ (X : XH) (T : Toks) (d : AD) (bs : List Bl), Rep X t d → DOK d bs → sumS bs = m - 1 → usedAt bs = [] →
      Loops B3_4 M3_4 (Q3_4 fun v => v.norm = .bool true ∧ (V.bool true).nt = true) (S3_4 (m : Int) (some t) ((usedSum bs : Nat) : Int) ((sumS bs : Int) - ((usedSum bs : Nat) : Int)) (rawR d.W 1).1 2 X T) := by
    intro X T d bs r hd hsum hu
    have hb := one_block hd.w.sz hd.w.ap hu (by omega)
    rw [hsum] at hb
    subst hb
    have hlen : d.W.length = m := by rw [hd.w.len]; simp [sumS]; omega
    have hin : (1, m - 1, false) ∈ walk 1 [(m - 1, false)] := by simp [walk]
    have hr1 : (rawR d.W 1).1 = 2 * ((m - 1 : Nat) : Int) := by
      unfold rawR
      rw [if_neg (by decide), if_neg (by omega)]
      have := hd.w.h _ _ _ hin
      simp [List.getD, this, AB.hd]
    have hus : usedSum [(m - 1, false)] = 0 := by simp [usedSum]
    have hss : sumS [(m - 1, false)] = m - 1 := by simp [sumS]
    rw [hr1, hus, hss]
    refine Loops.intro (fun n : Nat => S3_4 (m : Int) (some t) ((0 : Nat) : Int) (((m - 1 : Nat) : Int) - ((0 : Nat) : Int)) (2 * ((m - 1 : Nat) : Int)) (n : Int) X T) (fun n => 2 ≤ n ∧ n ≤ m) (fun n => m - n) 2 rfl ⟨Nat.le_refl _, by omega⟩ ?_
    rintro n ⟨hn1, hn2⟩
    refine L3_4 _ _ _ _ _ _ X T ⟨fun e => ?_, fun e => ?_⟩
    · have e := of_decide_eq_true e
      have hr : rawR d.W (n : Int) = (poisonW, true) := by
        unfold rawR
        rw [if_neg (by omega), if_neg (by omega)]
        have := hd.w.f _ _ hin n (by omega) (by omega)
        simp [List.getD, this]
      refine ⟨_, c18 r n, ?_⟩
      rw [hr, wrap64 (by omega) (by omega)]
      exact ⟨fun e => (by cases e), fun _ => ⟨fun e => absurd e (by decide), fun _ => Again.mk (n + 1) rfl ⟨by omega, by omega⟩ (by omega)⟩⟩
    · rw [wrap64 (x := (m : Int) - 1) (by omega) (by omega), wrap64 (by omega) (by omega)]
      refine ⟨fun _ => ⟨fun _ => ⟨fun _ => ⟨_, c19 r hd, ?_⟩, fun e => ?_⟩, fun e => ?_⟩, fun e => absurd e (by decide)⟩
      · rw [hu]; exact ⟨rfl, rfl⟩
      · have : 2 * ((m - 1 : Nat) : Int) ≠ 2 * ((m : Int) - 1) := by simpa using e
        omega
      · have : ((m - 1 : Nat) : Int) - ((0 : Nat) : Int) ≠ (m : Int) - 1 := by simpa using e
        omega
  -- giving back
  have second : ∀ (X : XH) (T : Toks) (d : AD) (bs : List Bl) (l : List Int) (k : Tok), Rep X t d → DOK d bs → sumS bs = m - 1 → holds l bs → l.length ≤ 100 → k.fresh T →
      Loops B3_2 M3_2 (Q3_2 fun v => v.norm = .bool true ∧ (V.bool true).nt = true) (S3_2 (m : Int) order (some t) l k 0 X T) := by
    intro X T d bs l k r hd hsum hl hlen hk
    refine Loops.intro (fun q : Nat × List Int × Tok × XH × Toks => S3_2 (m : Int) order (some t) q.2.1 q.2.2.1 (q.1 : Int) q.2.2.2.1 q.2.2.2.2)
      (fun q => q.1 + q.2.1.length ≤ 100 ∧ ∃ d bs, Rep q.2.2.2.1 t d ∧ DOK d bs ∧ sumS bs = m - 1 ∧ holds q.2.1 bs) (fun q => q.2.1.length) (0, l, k, X, T) rfl ⟨by simpa using hlen, d, bs, r, hd, hsum, hl⟩ ?_
    rintro ⟨i, l, k, X, T⟩ ⟨hil, d, bs, r, hd, hsum, hl⟩
    have hil : i + l.length ≤ 100 := hil
    have hl : holds l bs := hl
    -- one is given back
    have step : ∀ (j : Nat), j < l.length → ∀ (KK : Int → XH → Prop), (∀ X', (∃ d bs, Rep X' t d ∧ DOK d bs ∧ sumS bs = m - 1 ∧ holds (l.take j ++ l.drop (j + 1)) bs) → KK 0 X') →
        XC Try.prog 16 [.pure (.int .i64)] [.ref (some t) cA 0 [], .v (.int .i64 (l.getD j 0))] X KK := by
      intro j hj KK hKK
      have hg : l.getD j 0 = l[j] := by simp [List.getD, List.getElem?_eq_getElem hj]
      rw [hg]
      obtain ⟨q, s, he, hm⟩ := usedAt_mem.1 ((hl.2 _).1 (List.getElem_mem hj))
      obtain ⟨pre, post, hbs, hq⟩ := walk_split hm
      refine (c16 r hd l[j]).mono ?_
      rintro p X' hF
      have he' : l[j] = ((1 + sumS pre : Nat) : Int) := by rw [he, hq]
      obtain ⟨d', r', _, rfl, _, hd'⟩ := hF.ok hd hbs he'
      have hz := hd.w.sz
      rw [hbs] at hz hl
      exact hKK X' ⟨d', _, r', hd', by rw [freeB_sum, ← hbs, hsum], hl.free hz hj he'⟩
    refine L3_2 (m : Int) order (some t) l k i X T ⟨fun e => ⟨fun e2 => ?_, fun e2 => ?_⟩, fun e => ?_⟩
    · have e := of_decide_eq_true e
      have e2 := of_decide_eq_true e2
      rw [Int.toNat_natCast]
      have ho' : order.getD i 0 ∈ order := by
        have h : i < order.length := by omega
        simp only [List.getD, List.getElem?_eq_getElem h, Option.getD_some]
        exact List.getElem_mem h
      have hpl := pickR_lt (order.getD i 0) (n := l.length) (by omega)
      obtain ⟨j, hj⟩ : ∃ j, j = pickR (order.getD i 0) l.length := ⟨_, rfl⟩
      refine ⟨by omega, by omega, _, pick_ok (order.getD i 0) (ho _ ho') (by omega), ?_⟩
      rw [← hj]
      rw [wrap64 (x := (j : Int) + 1) (by omega) (by omega), wrap64 (x := (i : Int) + 1) (by omega) (by omega), Int.toNat_natCast]
      have ej : ((j : Int) + 1).toNat = j + 1 := by omega
      rw [ej]
      refine ⟨by omega, by omega, step j (by omega) _ ?_⟩
      rintro X' ⟨d', bs', r', hd', hs', hl'⟩
      refine ⟨fun e => absurd e (by decide), fun _ => ⟨by omega, by omega, trivial, ?_, by omega, by omega, List.mem_cons_self .., ?_, fun m11 hm11 => ?_⟩⟩
      · show (0 + ((l.take j).drop 0).length) * 8 ≤ 140737488355328
        rw [List.drop_zero, List.length_take]; omega
      · show (([] ++ (l.take j).drop 0).length + ((l.take l.length).drop (j + 1)).length) * 8 ≤ 140737488355328
        rw [List.nil_append, List.drop_zero, List.take_length, List.length_take, List.length_drop]; omega
      · rw [List.nil_append, List.drop_zero, List.take_length]
        refine Again.mk (i + 1, l.take j ++ l.drop (j + 1), .tk (T.n + 1), X', _) rfl ⟨?_, d', bs', r', hd', hs', hl'⟩ ?_
        · show i + 1 + (l.take j ++ l.drop (j + 1)).length ≤ 100
          rw [List.length_append, List.length_take, List.length_drop]; omega
        · show (l.take j ++ l.drop (j + 1)).length < l.length
          rw [List.length_append, List.length_take, List.length_drop]; omega
    · have e := of_decide_eq_true e
      rw [wrap64 (x := (i : Int) + 1) (by omega) (by omega)]
      have e1 : (IntKind.wrap .i64 ((0 : Int) + 1)) = 1 := by decide
      rw [e1]
      refine ⟨by decide, by omega, step 0 (by omega) _ ?_⟩
      rintro X' ⟨d', bs', r', hd', hs', hl'⟩
      refine ⟨fun e => absurd e (by decide), fun _ => ⟨by decide, by omega, trivial, ?_, by decide, by omega, List.mem_cons_self .., ?_, fun m11 hm11 => ?_⟩⟩
      · show (0 + ((l.take 0).drop 0).length) * 8 ≤ 140737488355328
        simp
      · show (([] ++ (l.take 0).drop 0).length + ((l.take l.length).drop 1).length) * 8 ≤ 140737488355328
        rw [List.nil_append, List.drop_zero, List.take_length, List.length_take, List.length_drop]; omega
      · show Again _ _ _ _ (S3_2 (m : Int) order (some t) (([] ++ (l.take 0).drop 0) ++ (l.take l.length).drop 1) _ _ X' _)
        rw [List.nil_append, List.drop_zero, List.take_length]
        refine Again.mk (i + 1, l.take 0 ++ l.drop (0 + 1), .tk (T.n + 1), X', _) rfl ⟨?_, d', bs', r', hd', hs', hl'⟩ ?_
        · show i + 1 + (l.take 0 ++ l.drop (0 + 1)).length ≤ 100
          rw [List.length_append, List.length_take, List.length_drop]; omega
        · show (l.take 0 ++ l.drop (0 + 1)).length < l.length
          rw [List.length_append, List.length_take, List.length_drop]; omega
    · have e := of_decide_eq_false e
      have hl0 : l = [] := List.eq_nil_of_length_eq_zero (by omega)
      subst hl0
      have hu : usedAt bs = [] := List.eq_nil_iff_forall_not_mem.2 fun a ha => by cases (hl.2 a).2 ha
      exact ⟨_, c17 r hd, _, c18 r 1, fin X T d bs r hd hsum hu⟩
  -- taking
  refine Loops.intro (fun q : Nat × List Int × Tok × XH × Toks => S3_0 (m : Int) sizes order (some t) q.2.1 q.2.2.1 (q.1 : Int) q.2.2.2.1 q.2.2.2.2)
    (fun q => q.1 ≤ 100 ∧ q.2.1.length ≤ q.1 ∧ q.2.2.1.fresh q.2.2.2.2 ∧ ∃ d bs, Rep q.2.2.2.1 t d ∧ DOK d bs ∧ sumS bs = m - 1 ∧ holds q.2.1 bs) (fun q => 100 - q.1) (0, [], .exact, X4, ⟨0, []⟩) rfl
    ⟨Nat.zero_le _, Nat.le_refl _, trivial, d0, _, r0, hd0, by simp [sumS], List.nodup_nil, fun a => ⟨fun h => (by cases h), fun h => ?_⟩⟩ ?_
  · obtain ⟨p, s, _, hm⟩ := usedAt_mem.1 h
    simp [walk] at hm
  rintro ⟨i, l, k, X, T⟩ ⟨hi, hli, hk, d, bs, r, hd, hsum, hl⟩
  have hi : i ≤ 100 := hi
  have hli : l.length ≤ i := hli
  have hk : k.fresh T := hk
  have hl : holds l bs := hl
  refine L3_0 (m : Int) sizes order (some t) l k i X T ⟨fun e => ⟨fun e2 => ?_, fun e2 => ?_⟩, fun e => ?_⟩
  · have e := of_decide_eq_true e
    have e2 := of_decide_eq_true e2
    have hs' : sizes.getD i 0 ∈ sizes := by
      have h : i < sizes.length := by omega
      simp only [List.getD, List.getElem?_eq_getElem h, Option.getD_some]
      exact List.getElem_mem h
    have hpl := pickR_lt (sizes.getD i 0) (n := 30) (by omega)
    rw [Int.toNat_natCast]
    refine ⟨by omega, by omega, _, pick_ok (sizes.getD i 0) (n := 30) (hs _ hs') (by omega), ?_⟩
    obtain ⟨n, hn⟩ : ∃ n, n = 1 + pickR (sizes.getD i 0) 30 := ⟨_, rfl⟩
    have w2 : IntKind.wrap .i64 ((1 : Int) + ((pickR (sizes.getD i 0) 30 : Nat) : Int)) = (n : Int) := by rw [wrap64 (by omega) (by omega)]; omega
    rw [w2, wrap64 (x := (i : Int) + 1) (by omega) (by omega)]
    refine (c15 r hd (n : Int) (by omega)).mono ?_
    rintro p X' ⟨d', r', _, ⟨h, _⟩ | ⟨m', em, g1, g2, ⟨hno, rfl, rfl⟩ | ⟨pre, s, post, hb, rfl, hW', hd'⟩⟩⟩
    · exact absurd (by omega) h
    · refine ⟨fun e => absurd e (by decide), fun _ => Again.mk (i + 1, l, k, X', T) rfl ⟨by show i + 1 ≤ 100; omega, by show l.length ≤ i + 1; omega, hk, d', bs, r', hd, hsum, hl⟩ (show 100 - (i + 1) < 100 - i by omega)⟩
    · have : m' = n := by omega
      subst this
      refine ⟨fun _ => ⟨hk.own, ?_, ?_⟩, fun e => (by simp at e)⟩
      · show (l.length + 1) * 8 ≤ 140737488355328; omega
      · refine Again.mk (i + 1, l ++ [((1 + sumS pre : Nat) : Int)], .tk T.n, X', _) rfl ⟨by show i + 1 ≤ 100; omega, by show (l ++ [_]).length ≤ i + 1; simp; omega, Tok.fresh_new _ _, d', _, r', hd', ?_, hl.alloc hd.w.sz hb⟩ (show 100 - (i + 1) < 100 - i by omega)
        rw [(hd.w.alloc hb g1).2, hsum]
  · exact second X T d bs l k r hd hsum hl (by omega) hk
  · exact second X T d bs l k r hd hsum hl (by omega) hk

theorem law_ArenaEmpties (words : Int) (sizes order : List Int) (f0 : Cd.wf (.int .i64) words) (f1 : Cd.wf (.slice (.int .i64)) sizes) (f2 : Cd.wf (.slice (.int .i64)) order) :
    PC Try.prog 3 [.int .i64 words, .list (.int .i64) sizes .no, .list (.int .i64) order .no] (.bool true) :=
  p3 words sizes order f0 (fun x h => f1.2 x h) (fun x h => f2.2 x h) f1.1 f2.1

end Go.Proofs.Ytefpoodhdfggdaa.AB

set_option linter.unusedVariables false
set_option linter.unusedSimpArgs false
set_option maxRecDepth 100000
set_option maxHeartbeats 2000000
namespace Go.Proofs.Ytefpoodhdfggdaa.AB
open Go
/-! crucible/cruciblelaw5.ArenaParts -/
noncomputable def X4 : Cx := ⟨tt, [(12, [.cd .bool]), (13, [.cd (.int .i64)])], [(14, [(.ref carena_Arena), (.pure (.int .i64))]), (15, [(.pure (.int .i64)), (.pure (.int .i64))]), (16, [(.pure (.int .i64))]), (18, [(.pure (.int .i64)), (.pure .bool)]), (19, [(.pure (.slice (.int .i64)))])], [(4, [(5, 1, .xc), (12, 1, .rd), (14, 5, .xc), (15, 9, .xc), (19, 2, .rd)])], [(4, [(0, mkM 110 0 [0, 1, 6, 8], 0), (2, mkM 110 0 [0, 1, 6, 8, 11, 12], 1)])], []⟩
theorem FN4 : fnsB Try.prog X4.fns := (show True from trivial)
def M4_0 : List Bool × Nat := (mkM 110 0 [0, 1, 6, 8], 1)
def S4_0 (words0 : Int) (script1 : List (Int × (Int × (Int × (Int × Bool))))) (a6 : Option Nat) (i8 : Int) (hq0 : XH) (T : Toks) : St :=
  mkS 110 [(0, (.v (.int .i64 words0))), (1, (.v (.list (.pair (.int .i64) (.pair (.int .i64) (.pair (.int .i64) (.pair (.int .i64) .bool)))) script1 .no))), (6, (.ref a6 carena_Arena 0 [])), (8, (.v (.int .i64 i8)))] [(some (.heap hq0))] T
noncomputable def B4_0 : (Exit → St → Prop) → St → Prop := (awp X4.tt (callN Try.prog X4 0) (X4.md 4) 1 (X4.mk1 4) 0 (codeAt [1, 1, 1, 1, 1, 1, 0, 1, 0, 0] (bd Try.f4)))
def M4_2 : List Bool × Nat := (mkM 110 0 [0, 1, 6, 8, 11, 12], 2)
def S4_2 (words0 : Int) (script1 : List (Int × (Int × (Int × (Int × Bool))))) (a6 : Option Nat) (i8 : Int) (free11 : Bool) (at12 : Int) (hq0 : XH) (hq1_0 : Int) (hq1_1 : Int) (hq1_2 : Int) (hq1_3 : Int) (hq1_4 : Bool) (T : Toks) : St :=
  mkS 110 [(0, (.v (.int .i64 words0))), (1, (.v (.list (.pair (.int .i64) (.pair (.int .i64) (.pair (.int .i64) (.pair (.int .i64) .bool)))) script1 .no))), (6, (.ref a6 carena_Arena 0 [])), (8, (.v (.int .i64 i8))), (11, (.v (.bool free11))), (12, (.v (.int .i64 at12)))] [(some (.heap hq0)), (some (.box (.v (.agg [(.int .i64 hq1_0), (.int .i64 hq1_1), (.int .i64 hq1_2), (.int .i64 hq1_3), (.bool hq1_4)]))))] T
noncomputable def B4_2 : (Exit → St → Prop) → St → Prop := (awp X4.tt (callN Try.prog X4 0) (X4.md 4) 1 (X4.mk1 4) 2 (codeAt [1, 1, 1, 1, 1, 1, 0, 1, 0, 0, 1, 0, 0, 1, 1, 1, 1, 1, 0, 0, 0] (bd Try.f4)))
noncomputable def K4_0 (R : V → Prop) : Exit → St → Prop := seqK ((awp X4.tt (callN Try.prog X4 0) (X4.md 4) 1 (X4.mk1 4) 0 (codeAt [1, 1, 1, 1, 1, 1, 1] (bd Try.f4))) (retK tt Try.f4.results.toList fun x s' => topK R x ⟨[], s'.hp, s'.T⟩)) (retK tt Try.f4.results.toList fun x s' => topK R x ⟨[], s'.hp, s'.T⟩)
noncomputable def Q4_0 (R : V → Prop) : Exit → St → Prop := (blockK 0 (K4_0 R))
noncomputable def K4_1 (R : V → Prop) (k0 : St → Prop) : Exit → St → Prop := seqK ((awp X4.tt (callN Try.prog X4 0) (X4.md 4) 1 (X4.mk1 4) 0 (codeAt [1, 1, 1, 1, 1, 1, 0, 1, 0, 0, 1, 1] (bd Try.f4))) (loopQ M4_0 k0 (blockK 0 (K4_0 R)))) (loopQ M4_0 k0 (blockK 0 (K4_0 R)))
noncomputable def K4_2 (R : V → Prop) (k0 : St → Prop) : Exit → St → Prop := seqK ((awp X4.tt (callN Try.prog X4 0) (X4.md 4) 1 (X4.mk1 4) 1 (codeAt [1, 1, 1, 1, 1, 1, 0, 1, 0, 0, 1, 0, 0, 1, 1, 1, 1, 1, 1] (bd Try.f4))) (blockK 1 (K4_1 R k0))) (blockK 1 (K4_1 R k0))
noncomputable def Q4_2 (R : V → Prop) (k0 : St → Prop) : Exit → St → Prop := (blockK 2 (K4_2 R k0))
theorem E4 (words0 : Int) (script1 : (List (Int × (Int × (Int × (Int × Bool)))))) {R : V → Prop} (h : (∃ p1 : Bool, PC Try.prog 12 [] (.bool p1) ∧ (((!p1) = true → R (.bool false)) ∧
 ((!p1) = false → (∃ p2 : Int, PC Try.prog 13 [(.int .i64 words0), (.int .i64 (1000 : Int))] (.int .i64 p2) ∧ (XC Try.prog 14 [(.ref carena_Arena), (.pure (.int .i64))] [(.v (.int .i64 ((IntKind.wrap .i64 ((16 : Int) + p2)))))] XH.none (fun (p3 : (Option Nat) × Int) (X4 : XH) => (((!p1) = true → R (.bool false)) ∧ ((!p1) = false → (((Option.isNone p3.1) = true → R (.bool false)) ∧ ((Option.isNone p3.1) = false → (((p3.2 != (0 : Int)) = true → R (.bool false)) ∧
 ((p3.2 != (0 : Int)) = false → (Loops B4_0 M4_0 (Q4_0 R)
  (S4_0 ((IntKind.wrap .i64 ((16 : Int) + p2))) script1 p3.1 (0 : Int) X4 ⟨0, []⟩))))))))))))))) :
  fnK X4.tt (callN Try.prog X4 0) (X4.md 4) (X4.mk1 4) Try.f4 [(.v (.int .i64 words0)), (.v (.list (.pair (.int .i64) (.pair (.int .i64) (.pair (.int .i64) (.pair (.int .i64) .bool)))) script1 .no))] ⟨[], [some (.heap XH.none)], ⟨0, []⟩⟩ (topK R) := Eq.mp (by kernel_rfl) h
theorem L4_0 (words0 : Int) (script1 : List (Int × (Int × (Int × (Int × Bool))))) (a6 : Option Nat) (i8 : Int) (hq0 : XH) (T : Toks) {R : V → Prop} {k0 : St → Prop}
 (h : (((decide (i8 < ((script1).length : Int))) = true → (((decide (i8 < (100 : Int))) = true → (0 ≤ i8 ∧ i8 < ((script1).length : Int) ∧ (∃ (p5 : (List Int)), RC Try.prog 19 [(.pure (.slice (.int .i64)))] [(.ref a6 carena_Arena 0 [])] hq0 p5 ∧ (∃ p6 : Int, PC Try.prog 13 [(.int .i64 ((script1.getD (i8).toNat (0, (0, (0, (0, false))))).1)), (.int .i64 (3 : Int))] (.int .i64 p6) ∧ (((decide (p6 > (0 : Int))) = true → (∃ p7 : Int, PC Try.prog 13 [(.int .i64 ((script1.getD (i8).toNat (0, (0, (0, (0, false))))).2.2.1)), (.int .i64 (20 : Int))] (.int .i64 p7) ∧ (XC Try.prog 15 [(.pure (.int .i64)), (.pure (.int .i64))] [(.ref a6 carena_Arena 0 []), (.v (.int .i64 ((IntKind.wrap .i64 ((1 : Int) + p7)))))] hq0 (fun (p8 : Int × Int) (X9 : XH) => (Loops B4_2 M4_2 (Q4_2 R k0)
  (S4_2 words0 script1 a6 i8 false (1 : Int) X9 ((script1.getD (i8).toNat (0, (0, (0, (0, false))))).1) ((script1.getD (i8).toNat (0, (0, (0, (0, false))))).2.1) ((script1.getD (i8).toNat (0, (0, (0, (0, false))))).2.2.1) ((script1.getD (i8).toNat (0, (0, (0, (0, false))))).2.2.2.1) ((script1.getD (i8).toNat (0, (0, (0, (0, false))))).2.2.2.2) T)))))) ∧ ((decide (p6 > (0 : Int))) = false → (((((p5).length : Int) == (0 : Int)) = true → (∃ p10 : Int, PC Try.prog 13 [(.int .i64 ((script1.getD (i8).toNat (0, (0, (0, (0, false))))).2.2.1)), (.int .i64 (20 : Int))] (.int .i64 p10) ∧ (XC Try.prog 15 [(.pure (.int .i64)), (.pure (.int .i64))] [(.ref a6 carena_Arena 0 []), (.v (.int .i64 ((IntKind.wrap .i64 ((1 : Int) + p10)))))] hq0 (fun (p11 : Int × Int) (X12 : XH) => (Loops B4_2 M4_2 (Q4_2 R k0)
  (S4_2 words0 script1 a6 i8 false (1 : Int) X12 ((script1.getD (i8).toNat (0, (0, (0, (0, false))))).1) ((script1.getD (i8).toNat (0, (0, (0, (0, false))))).2.1) ((script1.getD (i8).toNat (0, (0, (0, (0, false))))).2.2.1) ((script1.getD (i8).toNat (0, (0, (0, (0, false))))).2.2.2.1) ((script1.getD (i8).toNat (0, (0, (0, (0, false))))).2.2.2.2) T)))))) ∧
 ((((p5).length : Int) == (0 : Int)) = false → (∃ p13 : Int, PC Try.prog 13 [(.int .i64 ((script1.getD (i8).toNat (0, (0, (0, (0, false))))).2.1)), (.int .i64 (((p5).length : Int)))] (.int .i64 p13) ∧ (0 ≤ p13 ∧ p13 < ((p5).length : Int) ∧ (XC Try.prog 16 [(.pure (.int .i64))] [(.ref a6 carena_Arena 0 []), (.v (.int .i64 ((p5.getD (p13).toNat 0))))] hq0 (fun (p14 : Int) (X15 : XH) => (Loops B4_2 M4_2 (Q4_2 R k0)
  (S4_2 words0 script1 a6 i8 false (1 : Int) X15 ((script1.getD (i8).toNat (0, (0, (0, (0, false))))).1) ((script1.getD (i8).toNat (0, (0, (0, (0, false))))).2.1) ((script1.getD (i8).toNat (0, (0, (0, (0, false))))).2.2.1) ((script1.getD (i8).toNat (0, (0, (0, (0, false))))).2.2.2.1) ((script1.getD (i8).toNat (0, (0, (0, (0, false))))).2.2.2.2) T)))))))))))))) ∧
 ((decide (i8 < (100 : Int))) = false → R (.bool true)))) ∧ ((decide (i8 < ((script1).length : Int))) = false → R (.bool true)))) :
  B4_0 (loopQ M4_0 k0 (Q4_0 R)) (S4_0 words0 script1 a6 i8 hq0 T) := Eq.mp (by kernel_rfl) h
theorem L4_2 (words0 : Int) (script1 : List (Int × (Int × (Int × (Int × Bool))))) (a6 : Option Nat) (i8 : Int) (free11 : Bool) (at12 : Int) (hq0 : XH) (hq1_0 : Int) (hq1_1 : Int) (hq1_2 : Int) (hq1_3 : Int) (hq1_4 : Bool) (T : Toks) {R : V → Prop} {k0 : St → Prop} {k2 : St → Prop}
 (h : (((decide (at12 < words0)) = true → (∃ (p16 : Int × Bool), RC Try.prog 18 [(.pure (.int .i64)), (.pure .bool)] [(.ref a6 carena_Arena 0 []), (.v (.int .i64 at12))] hq0 p16 ∧ (((!p16.2) = true → R (.bool false)) ∧ ((!p16.2) = false → (((decide (p16.1 < (4 : Int))) = true → R (.bool false)) ∧ ((decide (p16.1 < (4 : Int))) = false → ((free11 = true → ((2 : Int) ≠ 0 ∧ ((((Int.tmod p16.1 (2 : Int)) == (0 : Int)) = true → R (.bool false)) ∧
 (((Int.tmod p16.1 (2 : Int)) == (0 : Int)) = false → ((2 : Int) ≠ 0 ∧ ((2 : Int) ≠ 0 ∧ k2 (S4_2 words0 script1 a6 i8 (((Int.tmod p16.1 (2 : Int)) == (0 : Int))) ((IntKind.wrap .i64 (at12 + (IntKind.wrap .i64 (Int.tdiv p16.1 (2 : Int)))))) hq0 hq1_0 hq1_1 hq1_2 hq1_3 hq1_4 T))))))) ∧ (free11 = false → ((2 : Int) ≠ 0 ∧ ((2 : Int) ≠ 0 ∧ k2 (S4_2 words0 script1 a6 i8 (((Int.tmod p16.1 (2 : Int)) == (0 : Int))) ((IntKind.wrap .i64 (at12 + (IntKind.wrap .i64 (Int.tdiv p16.1 (2 : Int)))))) hq0 hq1_0 hq1_1 hq1_2 hq1_3 hq1_4 T))))))))))) ∧
 ((decide (at12 < words0)) = false → (((at12 != words0) = true → R (.bool false)) ∧
 ((at12 != words0) = false → k0 (S4_0 words0 script1 a6 ((IntKind.wrap .i64 (i8 + (1 : Int)))) hq0 T)))))) :
  B4_2 (loopQ M4_2 k2 (Q4_2 R k0)) (S4_2 words0 script1 a6 i8 free11 at12 hq0 hq1_0 hq1_1 hq1_2 hq1_3 hq1_4 T) := Eq.mp (by kernel_rfl) h
end Go.Proofs.Ytefpoodhdfggdaa.AB

set_option linter.unusedVariables false
set_option linter.unusedSimpArgs false
namespace Go.Proofs.Ytefpoodhdfggdaa.AB
open Go

/-- an arena of so many words, behind whatever calls -/
def Good (X : XH) (t m : Nat) : Prop := ∃ d bs, Rep X t d ∧ DOK d bs ∧ sumS bs = m - 1

variable {X : XH} {t m : Nat}

theorem good_alloc (h : Good X t m) (n : Int) (hn : -9223372036854775808 ≤ n ∧ n ≤ 9223372036854775807) {KK : Int × Int → XH → Prop} (hk : ∀ p X', Good X' t m → KK p X') :
    XC Try.prog 15 [.pure (.int .i64), .pure (.int .i64)] [.ref (some t) cA 0 [], .v (.int .i64 n)] X KK := by
  obtain ⟨d, bs, r, hd, hs⟩ := h
  refine (c15 r hd n hn).mono ?_
  rintro p X' ⟨d', r', _, ⟨_, _, rfl⟩ | ⟨m', em, g1, g2, ⟨_, _, rfl⟩ | ⟨pre, s, post, hb, _, _, hd'⟩⟩⟩
  · exact hk p X' ⟨d', bs, r', hd, hs⟩
  · exact hk p X' ⟨d', bs, r', hd, hs⟩
  · exact hk p X' ⟨d', _, r', hd', by rw [(hd.w.alloc hb g1).2, hs]⟩

theorem good_free (h : Good X t m) (a : Int) {KK : Int → XH → Prop} (hk : ∀ p X', Good X' t m → KK p X') :
    XC Try.prog 16 [.pure (.int .i64)] [.ref (some t) cA 0 [], .v (.int .i64 a)] X KK := by
  obtain ⟨d, bs, r, hd, hs⟩ := h
  refine (c16 r hd a).mono ?_
  rintro p X' ⟨d', r', _, ⟨_, _, rfl⟩ | ⟨pre, s, post, e, _, _, _, hd'⟩⟩
  · exact hk p X' ⟨d', bs, r', hd, hs⟩
  · exact hk p X' ⟨d', _, r', hd', by rw [freeB_sum, ← e, hs]⟩

/-- a block's head is read -/
theorem raw_head {d : AD} {pre post : List Bl} {b : Bl} (hd : DOK d (pre ++ b :: post)) : rawR d.W (((1 + sumS pre : Nat) : Int)) = (AB.hd b.1 b.2, true) := by
  have hin : (1 + sumS pre, b.1, b.2) ∈ walk 1 (pre ++ b :: post) := walk_three.2 (.inr (.inl rfl))
  have h1 := hd.w.bd hin
  have h2 := hd.w.h _ _ _ hin
  unfold rawR
  rw [if_neg (by omega), if_neg (by omega), Int.toNat_natCast]
  simp [List.getD, h2]

theorem hd_div (s : Nat) (u : Bool) : Int.tdiv (hd s u) 2 = (s : Int) := by
  unfold hd
  rw [Int.tdiv_eq_ediv_of_nonneg (by split <;> omega)]
  split <;> omega

theorem hd_mod (s : Nat) (u : Bool) : (Int.tmod (hd s u) 2 == 0) = !u := by
  unfold hd
  rw [Int.tmod_eq_emod_of_nonneg (by split <;> omega)]
  cases u
  · simp
  · simp only [if_true, Bool.not_true, beq_eq_false_iff_ne, ne_eq]; omega

abbrev OP : Type := Int × (Int × (Int × (Int × Bool)))
abbrev cOP : Cd := .pair (.int .i64) (.pair (.int .i64) (.pair (.int .i64) (.pair (.int .i64) .bool)))

def opOK (o : OP) : Prop := (-9223372036854775808 ≤ o.1 ∧ o.1 ≤ 9223372036854775807) ∧ (-9223372036854775808 ≤ o.2.1 ∧ o.2.1 ≤ 9223372036854775807) ∧ (-9223372036854775808 ≤ o.2.2.1 ∧ o.2.2.1 ≤ 9223372036854775807) ∧ (-9223372036854775808 ≤ o.2.2.2.1 ∧ o.2.2.2.1 ≤ 9223372036854775807)

theorem op_get {script : List OP} (h : ∀ o ∈ script, opOK o) {i : Nat} (hi : i < script.length) : opOK (script.getD i (0, (0, (0, (0, false))))) := by
  simp only [List.getD, List.getElem?_eq_getElem hi, Option.getD_some]
  exact h _ (List.getElem_mem hi)

/-- the new arena of the laws -/
theorem new_good (N : Nat) (h1 : 16 ≤ N) (h2 : N ≤ 1048576) {KK : Option Nat × Int → XH → Prop} (hk : ∀ t X', Good X' t N → KK (some t, 0) X') : XC Try.prog 14 [.ref cA, .pure (.int .i64)] [.v (.int .i64 (N : Int))] X KK := by
  refine (c14 (N : Int) (by omega)).mono ?_
  rintro p X4 (⟨h, _⟩ | ⟨m, t, d0, e, h1, h2, rfl, r0, _, hd0, hW0⟩)
  · exact absurd (by omega) h
  have : m = N := by omega
  subst this
  exact hk t X4 ⟨d0, _, r0, hd0, by simp [sumS]⟩

theorem usedAt_len (bs : List Bl) (hz : sz2 bs) : (usedAt bs).length ≤ sumS bs := by
  have h1 : ∀ (bs : List Bl) p, sz2 bs → (walk p bs).length ≤ sumS bs := by
    intro bs
    induction bs with
    | nil => intro p _; exact Nat.le_refl _
    | cons b r ih =>
      intro p hz
      obtain ⟨z1, z2⟩ := sz2_cons.1 hz
      have := ih (p + b.1) z2
      simp only [walk, sumS, List.length_cons]; omega
  unfold usedAt
  rw [List.length_map]
  exact Nat.le_trans (List.length_filter_le _ _) (h1 bs 1 hz)

/-- ArenaParts -/
theorem p4 (words : Int) (script : List OP) (hw : -9223372036854775808 ≤ words ∧ words ≤ 9223372036854775807) (hs : ∀ o ∈ script, opOK o) (hsl : script.length ≤ 9223372036854775807) :
    PC Try.prog 4 [.int .i64 words, .list cOP script .no] (.bool true) := by
  have hp := pickR_lt words (n := 1000) (by omega)
  obtain ⟨N, hN⟩ : ∃ N, N = 16 + pickR words 1000 := ⟨_, rfl⟩
  have w1 : IntKind.wrap .i64 ((16 : Int) + ((pickR words 1000 : Nat) : Int)) = (N : Int) := by rw [wrap64 (by omega) (by omega)]; omega
  refine lawOf (X := X4) rfl FN4 (by kernel_rfl) (by decide) (E4 words script ⟨true, p12, fun e => (by cases e), fun _ => ⟨_, pick_ok words (n := 1000) hw (by omega), ?_⟩⟩)
  rw [w1]
  refine new_good N (by omega) (by omega) fun t X4 hg => ?_
  refine ⟨fun e => (by cases e), fun _ => ⟨fun e => (by cases e), fun _ => ⟨fun e => (by simp at e), fun _ => ?_⟩⟩⟩
  refine Loops.intro (fun q : Nat × XH => S4_0 (N : Int) script (some t) (q.1 : Int) q.2 ⟨0, []⟩) (fun q => q.1 ≤ 100 ∧ Good q.2 t N) (fun q => 100 - q.1) (0, X4) rfl ⟨Nat.zero_le _, hg⟩ ?_
  rintro ⟨i, X⟩ ⟨hi, hg⟩
  have hi : i ≤ 100 := hi
  have hg : Good X t N := hg
  -- the blocks are walked through
  have inner : i < 100 → ∀ (X' : XH) (o : OP), Good X' t N → Loops B4_2 M4_2 (Q4_2 (fun v => v.norm = .bool true ∧ (V.bool true).nt = true) (Again (fun q : Nat × XH => S4_0 (N : Int) script (some t) (q.1 : Int) q.2 ⟨0, []⟩) (fun q => q.1 ≤ 100 ∧ Good q.2 t N) (fun q => 100 - q.1) (100 - i)))
      (S4_2 (N : Int) script (some t) (i : Int) false 1 X' o.1 o.2.1 o.2.2.1 o.2.2.2.1 o.2.2.2.2 ⟨0, []⟩) := by
    rintro hi' X' o ⟨d, bs, r, hd, hsum⟩
    have hz := hd.w.sz
    have hle := hd.w.le
    have hlen := hd.w.len
    refine Loops.intro (fun q : List Bl × List Bl × Bool => S4_2 (N : Int) script (some t) (i : Int) q.2.2 ((1 + sumS q.1 : Nat) : Int) X' o.1 o.2.1 o.2.2.1 o.2.2.2.1 o.2.2.2.2 ⟨0, []⟩)
      (fun q => bs = q.1 ++ q.2.1 ∧ (q.2.2 = true → ∃ x, q.1.getLast? = some x ∧ x.2 = false)) (fun q => q.2.1.length) ([], bs, false) rfl ⟨rfl, fun e => by cases e⟩ ?_
    rintro ⟨pre, post, fr⟩ ⟨hbs, hfr⟩
    have hbs : bs = pre ++ post := hbs
    have hfr : fr = true → ∃ x, pre.getLast? = some x ∧ x.2 = false := hfr
    have hps : sumS bs = sumS pre + sumS post := by rw [hbs, sumS_app]
    refine L4_2 (N : Int) script (some t) i fr ((1 + sumS pre : Nat) : Int) X' _ _ _ _ _ ⟨0, []⟩ ⟨fun e => ?_, fun e => ?_⟩
    · have e := of_decide_eq_true e
      obtain ⟨b, post', rfl⟩ : ∃ b post', post = b :: post' := by
        cases post with
        | nil => simp only [sumS] at hps; omega
        | cons b r => exact ⟨b, r, rfl⟩
      rw [hbs] at hd hz
      obtain ⟨z1, z2⟩ := sz2_app.1 hz
      obtain ⟨z2, z3⟩ := sz2_cons.1 z2
      have hraw := raw_head hd
      simp only [sumS] at hps
      have hh : AB.hd b.1 b.2 = 2 * (b.1 : Int) + (if b.2 then 1 else 0) := rfl
      have hh4 : 4 ≤ AB.hd b.1 b.2 := by rw [hh]; split <;> omega
      have hw2 : IntKind.wrap .i64 (((1 + sumS pre : Nat) : Int) + IntKind.wrap .i64 (Int.tdiv (AB.hd b.1 b.2) 2)) = ((1 + sumS (pre ++ [b]) : Nat) : Int) := by
        rw [hd_div, wrap64 (x := (b.1 : Int)) (by omega) (by omega), wrap64 (by omega) (by omega), sumS_app]
        simp only [sumS]; omega
      have next : Again (fun q : List Bl × List Bl × Bool => S4_2 (N : Int) script (some t) (i : Int) q.2.2 ((1 + sumS q.1 : Nat) : Int) X' o.1 o.2.1 o.2.2.1 o.2.2.2.1 o.2.2.2.2 ⟨0, []⟩)
          (fun q => bs = q.1 ++ q.2.1 ∧ (q.2.2 = true → ∃ x, q.1.getLast? = some x ∧ x.2 = false)) (fun q => q.2.1.length) ((b :: post').length)
          (S4_2 (N : Int) script (some t) (i : Int) (!b.2) ((1 + sumS (pre ++ [b]) : Nat) : Int) X' o.1 o.2.1 o.2.2.1 o.2.2.2.1 o.2.2.2.2 ⟨0, []⟩) := by
        refine Again.mk (pre ++ [b], post', !b.2) rfl ⟨by rw [hbs]; simp, fun e => ⟨b, by simp, ?_⟩⟩ (by simp)
        have e : (!b.2) = true := e
        simpa using e
      refine ⟨_, c18 r _, ?_⟩
      rw [hraw]
      refine ⟨fun e => (by cases e), fun _ => ⟨fun e => ?_, fun _ => ?_⟩⟩
      · have e := of_decide_eq_true e
        simp only at e
        omega
      · show (fr = true → _) ∧ (fr = false → _)
        simp only [hd_mod]
        rw [hw2]
        refine ⟨fun hf => ⟨by decide, fun e => ?_, fun e => ⟨by decide, by decide, next⟩⟩, fun hf => ⟨by decide, by decide, next⟩⟩
        exfalso
        obtain ⟨x, hx1, hx2⟩ := hfr hf
        have := (apart_app.1 hd.w.ap).2.2 x b hx1 rfl
        have e : (!b.2) = true := e
        exact this ⟨hx2, by simpa using e⟩
    · have e := of_decide_eq_false e
      obtain rfl : post = [] := by
        cases post with
        | nil => rfl
        | cons b r =>
          have := hz b (by rw [hbs]; simp)
          simp only [sumS] at hps
          omega
      simp only [sumS] at hps
      refine ⟨fun e2 => ?_, fun _ => ?_⟩
      · have e2 : ((1 + sumS pre : Nat) : Int) ≠ (N : Int) := by simpa using e2
        omega
      · rw [wrap64 (by omega) (by omega)]
        exact Again.mk (i + 1, X') rfl ⟨by show i + 1 ≤ 100; omega, d, bs, r, hd, hsum⟩ (show 100 - (i + 1) < 100 - i by omega)
  refine L4_0 (N : Int) script (some t) i X ⟨0, []⟩ ⟨fun e => ⟨fun e2 => ?_, fun e2 => ⟨rfl, rfl⟩⟩, fun e => ⟨rfl, rfl⟩⟩
  have e := of_decide_eq_true e
  have e2 := of_decide_eq_true e2
  have hi' : i < script.length := by omega
  obtain ⟨o1, o2, o3, o4⟩ := op_get hs hi'
  obtain ⟨d, bs, r, hd, hsum⟩ := hg
  have hu := usedAt_len bs hd.w.sz
  have hle := hd.w.le
  have hlen := hd.w.len
  rw [Int.toNat_natCast]
  have hq := pickR_lt (script.getD i (0, (0, (0, (0, false))))).2.2.1 (n := 20) (by omega)
  have w2 : IntKind.wrap .i64 ((1 : Int) + ((pickR (script.getD i (0, (0, (0, (0, false))))).2.2.1 20 : Nat) : Int)) = ((1 + pickR (script.getD i (0, (0, (0, (0, false))))).2.2.1 20 : Nat) : Int) := by rw [wrap64 (by omega) (by omega)]; omega
  have take : ∃ p7 : Int, PC Try.prog 13 [.int .i64 (script.getD i (0, (0, (0, (0, false))))).2.2.1, .int .i64 (20 : Int)] (.int .i64 p7) ∧ XC Try.prog 15 [.pure (.int .i64), .pure (.int .i64)] [.ref (some t) cA 0 [], .v (.int .i64 (IntKind.wrap .i64 (1 + p7)))] X fun p X' =>
      Loops B4_2 M4_2 (Q4_2 (fun v => v.norm = .bool true ∧ (V.bool true).nt = true) (Again (fun q : Nat × XH => S4_0 (N : Int) script (some t) (q.1 : Int) q.2 ⟨0, []⟩) (fun q => q.1 ≤ 100 ∧ Good q.2 t N) (fun q => 100 - q.1) (100 - i)))
      (S4_2 (N : Int) script (some t) (i : Int) false 1 X' (script.getD i (0, (0, (0, (0, false))))).1 (script.getD i (0, (0, (0, (0, false))))).2.1 (script.getD i (0, (0, (0, (0, false))))).2.2.1 (script.getD i (0, (0, (0, (0, false))))).2.2.2.1 (script.getD i (0, (0, (0, (0, false))))).2.2.2.2 ⟨0, []⟩) := by
    refine ⟨_, pick_ok _ (n := 20) o3 (by omega), ?_⟩
    rw [w2]
    exact good_alloc ⟨d, bs, r, hd, hsum⟩ _ (by omega) fun p X' hg' => inner (by omega) X' _ hg'
  refine ⟨by omega, by omega, _, c19 r hd, _, pick_ok _ (n := 3) o1 (by omega), fun _ => take, fun _ => ⟨fun _ => take, fun e3 => ?_⟩⟩
  have e3 : ¬ ((usedAt bs).length : Int) = 0 := by simpa using e3
  have hpl := pickR_lt (script.getD i (0, (0, (0, (0, false))))).2.1 (n := (usedAt bs).length) (by omega)
  exact ⟨_, pick_ok _ (n := (usedAt bs).length) o2 (by omega), by omega, by omega, good_free ⟨d, bs, r, hd, hsum⟩ _ fun p X' hg' => inner (by omega) X' _ hg'⟩

theorem script_ok {script : List OP} (f : Cd.wf (.slice cOP) script) : ∀ o ∈ script, opOK o := fun o ho => by
  have h := f.2 o ho
  exact ⟨h.1, h.2.1, h.2.2.1, h.2.2.2.1⟩

theorem law_ArenaParts (words : Int) (script : List OP) (f0 : Cd.wf (.int .i64) words) (f1 : Cd.wf (.slice cOP) script) : PC Try.prog 4 [.int .i64 words, .list cOP script .no] (.bool true) :=
  p4 words script f0 (script_ok f1) f1.1

end Go.Proofs.Ytefpoodhdfggdaa.AB

set_option linter.unusedVariables false
set_option linter.unusedSimpArgs false
set_option maxRecDepth 100000
set_option maxHeartbeats 2000000
namespace Go.Proofs.Ytefpoodhdfggdaa.AB
open Go
/-! crucible/cruciblelaw5.kept -/
noncomputable def X27 : Cx := ⟨tt, [], [(17, [(.pure (.int .i64)), (.pure (.int .i64))]), (19, [(.pure (.slice (.int .i64)))]), (45, [(.pure (.int .i64)), (.pure (.int .i64))])], [(27, [(1, 1, .rd), (10, 7, .rd), (18, 13, .rd)])], [(27, [(0, mkM 134 0 [0, 1, 2, 7, 8, 9, 10], 0), (2, mkM 134 0 [0, 1, 2, 7, 8, 9, 10, 11], 0), (4, mkM 134 0 [0, 1, 2, 7, 8, 9, 10, 14], 0)])], []⟩
theorem FN27 : fnsB Try.prog X27.fns := (show True from trivial)
def M27_0 : List Bool × Nat := (mkM 134 0 [0, 1, 2, 7, 8, 9, 10], 1)
def S27_0 (a0 : Nat) (l1 : Option SlH) (words2 : Int) (used7 : Int) (free8 : Int) (sum9 : Int) (i10 : Int) (hq0 : XH) (T : Toks) : St :=
  mkS 134 [(0, (.ref (some a0) carena_Arena 0 [])), (1, (.sl ccruciblelaw5_held l1)), (2, (.v (.int .i64 words2))), (7, (.v (.int .i64 used7))), (8, (.v (.int .i64 free8))), (9, (.v (.int .i64 sum9))), (10, (.v (.int .i64 i10)))] [(some (.heap hq0))] T
noncomputable def B27_0 : (Exit → St → Prop) → St → Prop := (awp X27.tt (callN Try.prog X27 0) (X27.md 27) 1 (X27.mk1 27) 0 (codeAt [1, 1, 1, 0, 1, 0, 0] (bd Try.f27)))
def M27_2 : List Bool × Nat := (mkM 134 0 [0, 1, 2, 7, 8, 9, 10, 11], 1)
def S27_2 (a0 : Nat) (l1 : Option SlH) (words2 : Int) (used7 : Int) (free8 : Int) (sum9 : Int) (i10 : Int) (k11 : Int) (hq0 : XH) (T : Toks) : St :=
  mkS 134 [(0, (.ref (some a0) carena_Arena 0 [])), (1, (.sl ccruciblelaw5_held l1)), (2, (.v (.int .i64 words2))), (7, (.v (.int .i64 used7))), (8, (.v (.int .i64 free8))), (9, (.v (.int .i64 sum9))), (10, (.v (.int .i64 i10))), (11, (.v (.int .i64 k11)))] [(some (.heap hq0))] T
noncomputable def B27_2 : (Exit → St → Prop) → St → Prop := (awp X27.tt (callN Try.prog X27 0) (X27.md 27) 1 (X27.mk1 27) 2 (codeAt [1, 1, 1, 0, 1, 0, 0, 1, 0, 0, 1, 0, 1, 0, 0] (bd Try.f27)))
def M27_4 : List Bool × Nat := (mkM 134 0 [0, 1, 2, 7, 8, 9, 10, 14], 1)
def S27_4 (a0 : Nat) (l1 : Option SlH) (words2 : Int) (used7 : Int) (free8 : Int) (sum9 : Int) (i10 : Int) (k14 : Int) (hq0 : XH) (T : Toks) : St :=
  mkS 134 [(0, (.ref (some a0) carena_Arena 0 [])), (1, (.sl ccruciblelaw5_held l1)), (2, (.v (.int .i64 words2))), (7, (.v (.int .i64 used7))), (8, (.v (.int .i64 free8))), (9, (.v (.int .i64 sum9))), (10, (.v (.int .i64 i10))), (14, (.v (.int .i64 k14)))] [(some (.heap hq0))] T
noncomputable def B27_4 : (Exit → St → Prop) → St → Prop := (awp X27.tt (callN Try.prog X27 0) (X27.md 27) 1 (X27.mk1 27) 4 (codeAt [1, 1, 1, 0, 1, 0, 0, 1, 0, 0, 1, 1, 1, 0, 0] (bd Try.f27)))
noncomputable def K27_0 (R : (Bool) → XH → Prop) : Exit → St → Prop := seqK ((awp X27.tt (callN Try.prog X27 0) (X27.md 27) 1 (X27.mk1 27) 0 (codeAt [1, 1, 1, 1] (bd Try.f27))) (retK tt Try.f27.results.toList fun x s' => xfin [(.pure .bool)] R x ⟨[], s'.hp, s'.T⟩)) (retK tt Try.f27.results.toList fun x s' => xfin [(.pure .bool)] R x ⟨[], s'.hp, s'.T⟩)
noncomputable def Q27_0 (R : (Bool) → XH → Prop) : Exit → St → Prop := (blockK 0 (K27_0 R))
noncomputable def K27_1 (R : (Bool) → XH → Prop) (k0 : St → Prop) : Exit → St → Prop := seqK ((awp X27.tt (callN Try.prog X27 0) (X27.md 27) 1 (X27.mk1 27) 0 (codeAt [1, 1, 1, 0, 1, 0, 0, 1, 1] (bd Try.f27))) (loopQ M27_0 k0 (blockK 0 (K27_0 R)))) (loopQ M27_0 k0 (blockK 0 (K27_0 R)))
noncomputable def K27_2 (R : (Bool) → XH → Prop) (k0 : St → Prop) : Exit → St → Prop := seqK ((awp X27.tt (callN Try.prog X27 0) (X27.md 27) 1 (X27.mk1 27) 1 (codeAt [1, 1, 1, 0, 1, 0, 0, 1, 0, 0, 1, 1] (bd Try.f27))) (blockK 1 (K27_1 R k0))) (blockK 1 (K27_1 R k0))
noncomputable def Q27_2 (R : (Bool) → XH → Prop) (k0 : St → Prop) : Exit → St → Prop := (blockK 2 (K27_2 R k0))
noncomputable def Q27_4 (R : (Bool) → XH → Prop) (k0 : St → Prop) : Exit → St → Prop := (blockK 4 (blockK 1 (K27_1 R k0)))
theorem E27 (X : XH) (a0 : Nat) (l1 : (Option SlH)) (words2 : Int) {R : (Bool) → XH → Prop} (h : (∃ (p1 : Int × Int), RC Try.prog 17 [(.pure (.int .i64)), (.pure (.int .i64))] [(.ref (some a0) carena_Arena 0 [])] X p1 ∧ (Loops B27_0 M27_0 (Q27_0 R)
  (S27_0 a0 l1 words2 p1.1 p1.2 (0 : Int) (0 : Int) X ⟨0, []⟩)))) :
  fnK X27.tt (callN Try.prog X27 0) (X27.md 27) (X27.mk1 27) Try.f27 [(.ref (some a0) carena_Arena 0 []), (.sl ccruciblelaw5_held l1), (.v (.int .i64 words2))] ⟨[], [some (.heap X)], ⟨0, []⟩⟩ (xfin [(.pure .bool)] R) := Eq.mp (by kernel_rfl) h
theorem L27_0 (a0 : Nat) (l1 : Option SlH) (words2 : Int) (used7 : Int) (free8 : Int) (sum9 : Int) (i10 : Int) (hq0 : XH) (T : Toks) {R : (Bool) → XH → Prop} {k0 : St → Prop}
 (h : (((decide (i10 < (((slN l1) : Nat) : Int))) = true → (∃ (u2 : SlH), l1 = some u2 ∧ 0 ≤ i10 ∧ i10 < ((u2.len : Nat) : Int) ∧ (∃ (a3 : (Int × (Option SlH))), XH.el hq0 ccruciblelaw5_held u2.h ((u2.off + (i10).toNat)) = some a3 ∧ (Loops B27_2 M27_2 (Q27_2 R k0)
  (S27_2 a0 l1 words2 used7 free8 ((IntKind.wrap .i64 ((IntKind.wrap .i64 (sum9 + (((slN a3.2) : Nat) : Int))) + (1 : Int)))) i10 (0 : Int) hq0 T))))) ∧
 ((decide (i10 < (((slN l1) : Nat) : Int))) = false → (((used7 == sum9) = true → ((((IntKind.wrap .i64 (used7 + free8)) == (IntKind.wrap .i64 (words2 - (1 : Int)))) = true → (∃ (p4 : (List Int)), RC Try.prog 19 [(.pure (.slice (.int .i64)))] [(.ref (some a0) carena_Arena 0 [])] hq0 p4 ∧ R ((((p4).length : Int) == (((slN l1) : Nat) : Int))) hq0)) ∧ (((IntKind.wrap .i64 (used7 + free8)) == (IntKind.wrap .i64 (words2 - (1 : Int)))) = false → R false hq0))) ∧ ((used7 == sum9) = false → R false hq0))))) :
  B27_0 (loopQ M27_0 k0 (Q27_0 R)) (S27_0 a0 l1 words2 used7 free8 sum9 i10 hq0 T) := Eq.mp (by kernel_rfl) h
theorem L27_2 (a0 : Nat) (l1 : Option SlH) (words2 : Int) (used7 : Int) (free8 : Int) (sum9 : Int) (i10 : Int) (k11 : Int) (hq0 : XH) (T : Toks) {R : (Bool) → XH → Prop} {k0 : St → Prop} {k2 : St → Prop}
 (h : (∃ (u5 : SlH), l1 = some u5 ∧ 0 ≤ i10 ∧ i10 < ((u5.len : Nat) : Int) ∧ (∃ (a6 : (Int × (Option SlH))), XH.el hq0 ccruciblelaw5_held u5.h ((u5.off + (i10).toNat)) = some a6 ∧ (((decide (k11 < (((slN a6.2) : Nat) : Int))) = true → (∃ (u7 : SlH), l1 = some u7 ∧ 0 ≤ i10 ∧ i10 < ((u7.len : Nat) : Int) ∧ (∃ (a8 : (Int × (Option SlH))), XH.el hq0 ccruciblelaw5_held u7.h ((u7.off + (i10).toNat)) = some a8 ∧ (∃ (p9 : Int × Int), RC Try.prog 45 [(.pure (.int .i64)), (.pure (.int .i64))] [(.ref (some a0) carena_Arena 0 []), (.v (.int .i64 a8.1)), (.v (.int .i64 k11))] hq0 p9 ∧ (∃ (u10 : SlH), l1 = some u10 ∧ 0 ≤ i10 ∧ i10 < ((u10.len : Nat) : Int) ∧ (∃ (a11 : (Int × (Option SlH))), XH.el hq0 ccruciblelaw5_held u10.h ((u10.off + (i10).toNat)) = some a11 ∧ (∃ (u12 : SlH), a11.2 = some u12 ∧ 0 ≤ k11 ∧ k11 < ((u12.len : Nat) : Int) ∧ (∃ (a13 : Int), XH.el hq0 (.pure (.int .i64)) u12.h ((u12.off + (k11).toNat)) = some a13 ∧ (((p9.1 != a13) = true → R false hq0) ∧ ((p9.1 != a13) = false → (((p9.2 != (0 : Int)) = true → R false hq0) ∧
 ((p9.2 != (0 : Int)) = false → k2 (S27_2 a0 l1 words2 used7 free8 sum9 i10 ((IntKind.wrap .i64 (k11 + (1 : Int)))) hq0 T))))))))))))) ∧
 ((decide (k11 < (((slN a6.2) : Nat) : Int))) = false → (Loops B27_4 M27_4 (Q27_4 R k0)
  (S27_4 a0 l1 words2 used7 free8 sum9 i10 (0 : Int) hq0 T))))))) :
  B27_2 (loopQ M27_2 k2 (Q27_2 R k0)) (S27_2 a0 l1 words2 used7 free8 sum9 i10 k11 hq0 T) := Eq.mp (by kernel_rfl) h
theorem L27_4 (a0 : Nat) (l1 : Option SlH) (words2 : Int) (used7 : Int) (free8 : Int) (sum9 : Int) (i10 : Int) (k14 : Int) (hq0 : XH) (T : Toks) {R : (Bool) → XH → Prop} {k0 : St → Prop} {k4 : St → Prop}
 (h : (((decide (k14 < i10)) = true → (∃ (u14 : SlH), l1 = some u14 ∧ 0 ≤ k14 ∧ k14 < ((u14.len : Nat) : Int) ∧ (∃ (a15 : (Int × (Option SlH))), XH.el hq0 ccruciblelaw5_held u14.h ((u14.off + (k14).toNat)) = some a15 ∧ (∃ (u16 : SlH), l1 = some u16 ∧ 0 ≤ i10 ∧ i10 < ((u16.len : Nat) : Int) ∧ (∃ (a17 : (Int × (Option SlH))), XH.el hq0 ccruciblelaw5_held u16.h ((u16.off + (i10).toNat)) = some a17 ∧ (∃ (u18 : SlH), l1 = some u18 ∧ 0 ≤ i10 ∧ i10 < ((u18.len : Nat) : Int) ∧ (∃ (a19 : (Int × (Option SlH))), XH.el hq0 ccruciblelaw5_held u18.h ((u18.off + (i10).toNat)) = some a19 ∧ (((decide (a15.1 < (IntKind.wrap .i64 ((IntKind.wrap .i64 (a17.1 + (((slN a19.2) : Nat) : Int))) + (1 : Int))))) = true → (∃ (u20 : SlH), l1 = some u20 ∧ 0 ≤ i10 ∧ i10 < ((u20.len : Nat) : Int) ∧ (∃ (a21 : (Int × (Option SlH))), XH.el hq0 ccruciblelaw5_held u20.h ((u20.off + (i10).toNat)) = some a21 ∧ (∃ (u22 : SlH), l1 = some u22 ∧ 0 ≤ k14 ∧ k14 < ((u22.len : Nat) : Int) ∧ (∃ (a23 : (Int × (Option SlH))), XH.el hq0 ccruciblelaw5_held u22.h ((u22.off + (k14).toNat)) = some a23 ∧ (∃ (u24 : SlH), l1 = some u24 ∧ 0 ≤ k14 ∧ k14 < ((u24.len : Nat) : Int) ∧ (∃ (a25 : (Int × (Option SlH))), XH.el hq0 ccruciblelaw5_held u24.h ((u24.off + (k14).toNat)) = some a25 ∧ (((decide (a21.1 < (IntKind.wrap .i64 ((IntKind.wrap .i64 (a23.1 + (((slN a25.2) : Nat) : Int))) + (1 : Int))))) = true → R false hq0) ∧
 ((decide (a21.1 < (IntKind.wrap .i64 ((IntKind.wrap .i64 (a23.1 + (((slN a25.2) : Nat) : Int))) + (1 : Int))))) = false → k4 (S27_4 a0 l1 words2 used7 free8 sum9 i10 ((IntKind.wrap .i64 (k14 + (1 : Int)))) hq0 T)))))))))) ∧ ((decide (a15.1 < (IntKind.wrap .i64 ((IntKind.wrap .i64 (a17.1 + (((slN a19.2) : Nat) : Int))) + (1 : Int))))) = false → k4 (S27_4 a0 l1 words2 used7 free8 sum9 i10 ((IntKind.wrap .i64 (k14 + (1 : Int)))) hq0 T)))))))))) ∧
 ((decide (k14 < i10)) = false → k0 (S27_0 a0 l1 words2 used7 free8 sum9 ((IntKind.wrap .i64 (i10 + (1 : Int)))) hq0 T)))) :
  B27_4 (loopQ M27_4 k4 (Q27_4 R k0)) (S27_4 a0 l1 words2 used7 free8 sum9 i10 k14 hq0 T) := Eq.mp (by kernel_rfl) h
end Go.Proofs.Ytefpoodhdfggdaa.AB

set_option linter.unusedVariables false
set_option linter.unusedSimpArgs false
namespace Go.Proofs.Ytefpoodhdfggdaa.AB
open Go

abbrev cH : Xd := ccruciblelaw5_held
abbrev HE : Type := Int × Option SlH

variable {X X' : XH} {t : Nat} {d d' : AD} {bs bs' : List Bl} {x x' : Option SlH} {L : List HE}

/-- two blocks of one walk do not meet -/
theorem walk_disj {p : Nat} (hz : sz2 bs) {q q' s s' : Nat} {u u' : Bool} (h1 : (q, s, u) ∈ walk p bs) (h2 : (q', s', u') ∈ walk p bs) (hne : q ≠ q') : q + s ≤ q' ∨ q' + s' ≤ q := by
  obtain ⟨pre, post, rfl, rfl⟩ := walk_split h1
  obtain ⟨z1, z2⟩ := sz2_app.1 hz
  obtain ⟨z2, z3⟩ := sz2_cons.1 z2
  rcases walk_three.1 h2 with h2 | h2 | h2
  · have := walk_bd z1 h2; omega
  · cases h2; exact absurd rfl hne
  · have := walk_bd z3 h2
    simp only at this
    omega

/-- a block's words -/
def bodyW (W : List Int) (p s : Nat) : List Int := (W.drop (p + 1)).take (s - 1)

theorem bodyW_len {W : List Int} {p s : Nat} (h : p + s ≤ W.length) (h2 : 1 ≤ s) : (bodyW W p s).length = s - 1 := by
  unfold bodyW; rw [List.length_take, List.length_drop]; omega

theorem bodyW_get {W : List Int} {p s i : Nat} (h : i < s - 1) : (bodyW W p s)[i]? = W[p + 1 + i]? := by
  unfold bodyW; rw [List.getElem?_take, if_pos h, List.getElem?_drop]

theorem bodyW_ext {W W' : List Int} {p s : Nat} (h : ∀ i, p < i → i < p + s → W'[i]? = W[i]?) : bodyW W' p s = bodyW W p s := by
  refine List.ext_getElem? fun i => ?_
  by_cases hi : i < s - 1
  · rw [bodyW_get hi, bodyW_get hi, h _ (by omega) (by omega)]
  · unfold bodyW
    rw [List.getElem?_take, List.getElem?_take, if_neg hi, if_neg hi]

/-- what is kept of a block -/
def Ent (X : XH) (t : Nat) (d : AD) (bs : List Bl) (x : Option SlH) (e : HE) : Prop :=
  ∃ p s h : Nat, e = ((p : Int), some ⟨h, 0, s - 1, s - 1⟩) ∧ (p, s, true) ∈ walk 1 bs ∧ X.at h = some (.arr cI (bodyW d.W p s)) ∧ h ∉ d.hs t ∧ h ∉ hl x

structure Bod (X : XH) (t : Nat) (d : AD) (bs : List Bl) (x : Option SlH) (L : List HE) : Prop where
  ent : ∀ e ∈ L, Ent X t d bs x e
  dis : ∀ e ∈ L, ∀ e' ∈ L, ∀ u u' : SlH, e.2 = some u → e'.2 = some u' → u.h = u'.h → e = e'
  sep : ∀ h ∈ hl x, h ∉ d.hs t

structure Kept (X : XH) (t : Nat) (d : AD) (bs : List Bl) (x : Option SlH) (L : List HE) : Prop where
  r : Rep X t d
  hd : DOK d bs
  sl : SlAt X cH x L
  bod : Bod X t d bs x L
  hold : holds (L.map (·.1)) bs
  sum : (L.map fun e => slN e.2 + 1).sum = usedSum bs

theorem Kept.get (h : Kept X t d bs x L) {i : Nat} (hi : i < L.length) : ∃ s : SlH, x = some s ∧ s.len = L.length ∧ X.el cH s.h (s.off + i) = some L[i] := by
  have hl := h.sl.len
  have hs := h.sl
  cases x with
  | none => simp only [slN] at hl; omega
  | some s => exact ⟨s, rfl, hl, hs.el hi⟩

theorem sum_take_le : ∀ (l : List Nat) (i : Nat), (l.take i).sum ≤ l.sum
  | [], i => by simp
  | a :: l, 0 => by simp
  | a :: l, i + 1 => by simp only [List.take_succ_cons, List.sum_cons]; have := sum_take_le l i; omega

theorem sum_take_succ (l : List Nat) {i : Nat} (hi : i < l.length) : (l.take (i + 1)).sum = (l.take i).sum + l[i] := by
  rw [List.take_succ_eq_append_getElem hi, List.sum_append]; simp

/-- the books hold -/
theorem c27 (h : Kept X t d bs x L) (hN : L.length ≤ 1048576) : RC Try.prog 27 [.pure .bool] [.ref (some t) cA 0 [], .sl cH x, .v (.int .i64 ((d.W.length : Nat) : Int))] X true := by
  have hwl := h.hd.w.len
  have hwle := h.hd.w.le
  have hus := usedSum_le bs
  have hxl := h.sl.len
  have hz := h.hd.w.sz
  refine xcOf (X := X27) rfl FN27 (by kernel_rfl) (by decide) (E27 X t x ((d.W.length : Nat) : Int) ⟨_, c17 h.r h.hd, ?_⟩)
  have hsum := h.sum
  refine Loops.intro (fun i : Nat => S27_0 t x ((d.W.length : Nat) : Int) ((usedSum bs : Nat) : Int) ((sumS bs : Int) - ((usedSum bs : Nat) : Int)) (((((L.map fun e => slN e.2 + 1).take i).sum : Nat)) : Int) (i : Int) X ⟨0, []⟩) (fun i => i ≤ L.length) (fun i => L.length - i) 0 rfl (Nat.zero_le _) ?_
  intro i hi
  refine L27_0 t x _ _ _ _ i X ⟨0, []⟩ ⟨fun e => ?_, fun e => ?_⟩
  · have e := of_decide_eq_true e
    rw [hxl] at e
    have hi' : i < L.length := by omega
    obtain ⟨sx, rfl, hsl, hel⟩ := h.get hi'
    have hei := hel
    have hint : ((i : Nat) : Int).toNat = i := Int.toNat_natCast i
    obtain ⟨p, s, hh, he, hm, hat, hn1, hn2⟩ := h.bod.ent L[i] (List.getElem_mem hi')
    obtain ⟨b1, b2, b3⟩ := h.hd.w.bd hm
    have hle1 := sum_take_le (L.map fun e => slN e.2 + 1) i
    have hsucc : (((L.map fun e => slN e.2 + 1).take (i + 1)).sum : Nat) = ((L.map fun e => slN e.2 + 1).take i).sum + s := by
      rw [sum_take_succ _ (by simpa using hi'), List.getElem_map, he]
      simp only [slN]; omega
    have hle2 := sum_take_le (L.map fun e => slN e.2 + 1) (i + 1)
    refine ⟨sx, rfl, by omega, by omega, L[i], by rw [hint]; exact hei, ?_⟩
    have hw1 : IntKind.wrap .i64 ((IntKind.wrap .i64 (((((L.map fun e => slN e.2 + 1).take i).sum : Nat) : Int) + (((slN (L[i]).2) : Nat) : Int))) + (1 : Int)) = ((((L.map fun e => slN e.2 + 1).take (i + 1)).sum : Nat) : Int) := by
      rw [hsucc, he]
      show IntKind.wrap .i64 ((IntKind.wrap .i64 (((((L.map fun e => slN e.2 + 1).take i).sum : Nat) : Int) + ((s - 1 : Nat) : Int))) + (1 : Int)) = _
      generalize ((L.map fun e => slN e.2 + 1).take i).sum = q at hle1 hsucc ⊢
      rw [wrap64 (x := (q : Int) + ((s - 1 : Nat) : Int)) (by omega) (by omega), wrap64 (by omega) (by omega)]
      omega
    rw [hw1]
    refine Loops.intro (fun k : Nat => S27_2 t (some sx) ((d.W.length : Nat) : Int) ((usedSum bs : Nat) : Int) ((sumS bs : Int) - ((usedSum bs : Nat) : Int)) (((((L.map fun e => slN e.2 + 1).take (i + 1)).sum : Nat)) : Int) (i : Int) (k : Int) X ⟨0, []⟩) (fun k => k ≤ s - 1) (fun k => s - 1 - k) 0 rfl (Nat.zero_le _) ?_
    intro k hk
    refine L27_2 t (some sx) _ _ _ _ i k X ⟨0, []⟩ ⟨sx, rfl, by omega, by omega, L[i], by rw [hint]; exact hei, ?_⟩
    rw [he]
    refine ⟨fun e => ?_, fun e => ?_⟩
    · have e := of_decide_eq_true e
      have e : (k : Int) < ((s - 1 : Nat) : Int) := e
      have hkl : k < (bodyW d.W p s).length := by rw [bodyW_len b3 (by omega)]; omega
      have hpl : placeR bs (p : Int) (k : Int) = (((p + 1 + k : Nat) : Int), 0) := by
        unfold placeR
        rw [(sizeAt_some hz).2 ⟨p, rfl, hm⟩]
        dsimp only
        rw [if_neg (by omega), if_neg (by omega)]
        congr 1
      have hrd : readR d.W bs (p : Int) (k : Int) = ((bodyW d.W p s)[k], 0) := by
        unfold readR
        rw [hpl]
        dsimp only
        rw [Int.toNat_natCast, List.getD_eq_getElem?_getD, ← bodyW_get (s := s) (by omega), List.getElem?_eq_getElem hkl]
        rfl
      refine ⟨sx, rfl, by omega, by omega, ((p : Int), some ⟨hh, 0, s - 1, s - 1⟩), by rw [hint, ← he]; exact hei, _, c45 h.r h.hd p k, sx, rfl, by omega, by omega, ((p : Int), some ⟨hh, 0, s - 1, s - 1⟩), by rw [hint, ← he]; exact hei,
        ⟨hh, 0, s - 1, s - 1⟩, rfl, by omega, e, (bodyW d.W p s)[k], ?_, ?_⟩
      · show X.el cI hh (0 + ((k : Nat) : Int).toNat) = _
        rw [Nat.zero_add, Int.toNat_natCast]
        have := at_arr_el hat hkl
        rw [this]
        simp [List.getD, List.getElem?_eq_getElem hkl]
      · rw [hrd, wrap64 (by omega) (by omega)]
        exact ⟨fun e => (by simp at e), fun _ => ⟨fun e => (by simp at e), fun _ => Again.mk (k + 1) rfl (by omega) (by omega)⟩⟩
    · refine Loops.intro (fun k : Nat => S27_4 t (some sx) ((d.W.length : Nat) : Int) ((usedSum bs : Nat) : Int) ((sumS bs : Int) - ((usedSum bs : Nat) : Int)) (((((L.map fun e => slN e.2 + 1).take (i + 1)).sum : Nat)) : Int) (i : Int) (k : Int) X ⟨0, []⟩) (fun k => k ≤ i) (fun k => i - k) 0 rfl (Nat.zero_le _) ?_
      intro k hk
      refine L27_4 t (some sx) _ _ _ _ i k X ⟨0, []⟩ ⟨fun e => ?_, fun e => ?_⟩
      · have e := of_decide_eq_true e
        have hk' : k < L.length := by omega
        have hek : X.el cH sx.h (sx.off + ((k : Nat) : Int).toNat) = some L[k] := by
          rw [Int.toNat_natCast]; exact h.sl.el hk'
        have hei' : X.el cH sx.h (sx.off + ((i : Nat) : Int).toNat) = some L[i] := by rw [hint]; exact hei
        obtain ⟨p', s', hh', he', hm', hat', hn1', hn2'⟩ := h.bod.ent L[k] (List.getElem_mem hk')
        obtain ⟨b1', b2', b3'⟩ := h.hd.w.bd hm'
        have hne : p ≠ p' := by
          rintro rfl
          have hnd := h.hold.1
          have := (List.getElem_inj (i := i) (j := k) (h₀ := by simpa using hi') (h₁ := by simpa using hk') hnd).1 (by rw [List.getElem_map, List.getElem_map, he, he'])
          omega
        have hdj := walk_disj hz hm hm' hne
        rw [he] at hei'
        rw [he'] at hek
        have g1 : IntKind.wrap .i64 ((IntKind.wrap .i64 ((p : Int) + (((slN (some (⟨hh, 0, s - 1, s - 1⟩ : SlH))) : Nat) : Int))) + (1 : Int)) = ((p + s : Nat) : Int) := by
          simp only [slN]
          rw [wrap64 (x := _ + ((s - 1 : Nat) : Int)) (by omega) (by omega), wrap64 (by omega) (by omega)]
          omega
        have g2 : IntKind.wrap .i64 ((IntKind.wrap .i64 ((p' : Int) + (((slN (some (⟨hh', 0, s' - 1, s' - 1⟩ : SlH))) : Nat) : Int))) + (1 : Int)) = ((p' + s' : Nat) : Int) := by
          simp only [slN]
          rw [wrap64 (x := _ + ((s' - 1 : Nat) : Int)) (by omega) (by omega), wrap64 (by omega) (by omega)]
          omega
        refine ⟨sx, rfl, by omega, by omega, _, hek, sx, rfl, by omega, by omega, _, hei', sx, rfl, by omega, by omega, _, hei', ?_⟩
        dsimp only
        rw [g1, wrap64 (x := (k : Int) + 1) (by omega) (by omega)]
        refine ⟨fun e2 => ⟨sx, rfl, by omega, by omega, _, hei', sx, rfl, by omega, by omega, _, hek, sx, rfl, by omega, by omega, _, hek, ?_⟩, fun _ => Again.mk (k + 1) rfl (by omega) (by omega)⟩
        have e2 := of_decide_eq_true e2
        dsimp only
        rw [g2]
        refine ⟨fun e3 => ?_, fun _ => Again.mk (k + 1) rfl (by omega) (by omega)⟩
        have e3 := of_decide_eq_true e3
        omega
      · rw [wrap64 (by omega) (by omega)]
        exact Again.mk (i + 1) rfl (by omega) (by omega)
  · have e := of_decide_eq_false e
    rw [hxl] at e
    have hil : i = L.length := by omega
    have hst : ((L.map fun e => slN e.2 + 1).take i).sum = usedSum bs := by rw [hil, List.take_of_length_le (by simp), hsum]
    rw [hst]
    have w1 : IntKind.wrap .i64 (((usedSum bs : Nat) : Int) + ((sumS bs : Int) - ((usedSum bs : Nat) : Int))) = (sumS bs : Int) := by rw [wrap64 (by omega) (by omega)]; omega
    have w2 : IntKind.wrap .i64 (((d.W.length : Nat) : Int) - 1) = (sumS bs : Int) := by rw [wrap64 (by omega) (by omega)]; omega
    have hlen : (usedAt bs).length = L.length := by
      have hp : (L.map (·.1)).Perm (usedAt bs) := (List.perm_ext_iff_of_nodup h.hold.1 ((usedAt_sorted hz).imp fun h => by omega)).2 h.hold.2
      have := hp.length_eq
      simpa using this.symm
    rw [w1, w2]
    refine ⟨fun _ => ⟨fun _ => ⟨_, c19 h.r h.hd, ?_⟩, fun e => (by simp at e)⟩, fun e => (by simp at e)⟩
    have e' : (((usedAt bs).length : Int) == (((slN x) : Nat) : Int)) = true := by rw [hlen, hxl]; exact beq_self_eq_true _
    exact ⟨e', rfl⟩

end Go.Proofs.Ytefpoodhdfggdaa.AB

set_option linter.unusedVariables false
set_option linter.unusedSimpArgs false
namespace Go.Proofs.Ytefpoodhdfggdaa.AB
open Go

variable {X X' : XH} {t : Nat} {d d' : AD} {bs bs' : List Bl} {x x' : Option SlH} {L L' : List HE}

theorem Bod.sub (h : Bod X t d bs x L) (hs : ∀ e ∈ L', e ∈ L) : Bod X t d bs x L' :=
  ⟨fun e he => h.ent e (hs e he), fun e he e' he' => h.dis e (hs e he) e' (hs e' he'), h.sep⟩

/-- the arena is worked on -/
theorem Bod.op (h : Bod X t d bs x L) {M : List HE} (sl : SlAt X cH x M) (m : Mv X (d.hs t) X' (d'.hs t))
    (hs : ∀ p s : Nat, (p, s, true) ∈ walk 1 bs → (p : Int) ∈ L.map (·.1) → (p, s, true) ∈ walk 1 bs' ∧ bodyW d'.W p s = bodyW d.W p s) : SlAt X' cH x M ∧ Bod X' t d' bs' x L := by
  refine ⟨sl.keep fun k hk => m.keep k (sl.lt k hk) (h.sep k hk), fun e he => ?_, h.dis, fun k hk q => (m.own k q).elim (h.sep k hk) fun q => absurd (sl.lt k hk) (by omega)⟩
  obtain ⟨p, s, hh, e1, e2, e3, e4, e5⟩ := h.ent e he
  obtain ⟨s1, s2⟩ := hs p s e2 (List.mem_map.2 ⟨e, he, by rw [e1]⟩)
  have hlt := at_lt e3
  exact ⟨p, s, hh, e1, s1, by rw [s2, m.keep hh hlt e4]; exact e3, fun q => (m.own hh q).elim e4 fun q => by omega, e5⟩

/-- the list is worked on -/
theorem Bod.list (h : Bod X t d bs x L) (r : Rep X t d) {S : List Nat} (m : Mv X S X' (hl x')) (hS : ∀ k ∈ S, k ∈ hl x) : Rep X' t d ∧ Bod X' t d bs x' L := by
  refine ⟨r.mv m fun k hk q => h.sep k (hS k q) hk, fun e he => ?_, h.dis, fun k hk q => (m.own k hk).elim (fun g => h.sep k (hS k g) q) fun g => absurd (r.lt k q) (by omega)⟩
  obtain ⟨p, s, hh, e1, e2, e3, e4, e5⟩ := h.ent e he
  have hlt := at_lt e3
  exact ⟨p, s, hh, e1, e2, by rw [m.keep hh hlt fun q => e5 (hS _ q)]; exact e3, e4, fun q => (m.own hh q).elim (fun g => e5 (hS _ g)) fun g => by omega⟩

theorem alloc_W_same {W : List Int} {pre post : List Bl} {n s : Nat} (h : WOK W bs) (hb : BestAt bs n pre s post) {p s' : Nat} (hm : (p, s', true) ∈ walk 1 bs) : bodyW (allocW W (1 + sumS pre) n s) p s' = bodyW W p s' := by
  have hin : (1 + sumS pre, s, false) ∈ walk 1 bs := by rw [hb.e]; exact walk_three.2 (.inr (.inl rfl))
  obtain ⟨b1, b2, b3⟩ := h.bd hin
  have hle := hb.le
  have hS : allocS n s ≤ s ∧ 1 ≤ allocS n s := by unfold allocS; split <;> omega
  have hne : p ≠ 1 + sumS pre := by
    rintro rfl
    exact absurd (walk_inj h.sz hm hin).2 (by simp)
  have hd := walk_disj h.sz hm hin hne
  refine bodyW_ext fun i h1 h2 => ?_
  rw [allocW_get b3 hle b2, if_neg (by omega), if_neg (by omega), if_neg (by omega)]

theorem alloc_W_new {W : List Int} {pre post : List Bl} {n s : Nat} (h : WOK W bs) (hb : BestAt bs n pre s post) : bodyW (allocW W (1 + sumS pre) n s) (1 + sumS pre) (allocS n s) = List.replicate (allocS n s - 1) 0 := by
  have hin : (1 + sumS pre, s, false) ∈ walk 1 bs := by rw [hb.e]; exact walk_three.2 (.inr (.inl rfl))
  obtain ⟨b1, b2, b3⟩ := h.bd hin
  have hle := hb.le
  refine List.ext_getElem? fun i => ?_
  by_cases hi : i < allocS n s - 1
  · rw [bodyW_get hi, allocW_get b3 hle b2, if_neg (by omega), if_pos (by omega), List.getElem?_replicate, if_pos hi]
  · unfold bodyW
    rw [List.getElem?_take, if_neg hi, List.getElem?_replicate, if_neg hi]

theorem free_W_same {W : List Int} {pre post : List Bl} {s : Nat} (h : WOK W (pre ++ (s, true) :: post)) {p s' : Nat} (hm : (p, s', true) ∈ walk 1 (pre ++ (s, true) :: post)) (hne : p ≠ 1 + sumS pre) :
    bodyW (freeW W (1 + sumS pre - prevS pre) (prevS pre + s + nextS post)) p s' = bodyW W p s' := by
  have hin : (1 + sumS pre, s, true) ∈ walk 1 (pre ++ (s, true) :: post) := walk_three.2 (.inr (.inl rfl))
  obtain ⟨b1, b2, b3⟩ := h.bd hin
  have hl := restL_sum pre
  have hr := restR_sum post
  have hlen0 := h.len
  simp only [sumS_app, sumS] at hlen0
  have hf := h.free
  have hm2 := (used_free h.sz p s').2 ⟨hm, hne⟩
  have hin2 : (1 + sumS (restL pre), prevS pre + s + nextS post, false) ∈ walk 1 (freeB pre s post) := walk_three.2 (.inr (.inl rfl))
  have hne2 : p ≠ 1 + sumS (restL pre) := by
    rintro rfl
    exact absurd (walk_inj hf.sz hm2 hin2).2 (by simp)
  have hd := walk_disj hf.sz hm2 hin2 hne2
  refine bodyW_ext fun i h1 h2 => ?_
  rw [freeW_get (by omega) (by omega), if_neg (by omega), if_neg (by omega)]

theorem mv_add (X : XH) (o : XO) (S : List Nat) : Mv X S (X.add o) S := (Mv.add X o []).weak (fun _ h => by cases h) fun k h => .inr h

/-- a block is taken: it comes to the list -/
theorem Kept.push (h : Kept X t d bs x L) {pre post : List Bl} {n s : Nat} (hn : 1 ≤ n) (hb : BestAt bs n pre s post) (r' : Rep X' t d') (m : Mv X (d.hs t) X' (d'.hs t)) (hW : d'.W = allocW d.W (1 + sumS pre) n s) (hd' : DOK d' (allocB pre n s post))
    {X11 X12 : XH} {z : HE} (e11 : X11 = X'.add (.arr cI (List.replicate (allocS n s - 1) (0 : Int)))) (e12 : X12 = X11.add (.arr cH [(((1 + sumS pre : Nat) : Int), some ⟨X'.n, 0, allocS n s - 1, allocS n s - 1⟩)])) :
    SlAt X12 cH x L ∧ (∀ X15 s16, XApp X12 cH z L [(((1 + sumS pre : Nat) : Int), some ⟨X'.n, 0, allocS n s - 1, allocS n s - 1⟩)] x X15 s16 →
      Kept X15 t d' (allocB pre n s post) s16 (L ++ [(((1 + sumS pre : Nat) : Int), some ⟨X'.n, 0, allocS n s - 1, allocS n s - 1⟩)])) := by
  have hz := h.hd.w.sz
  have hle := hb.le
  have hS : allocS n s ≤ s ∧ 1 ≤ allocS n s := by unfold allocS; split <;> omega
  obtain ⟨sl1, bod1⟩ := h.bod.op (bs' := allocB pre n s post) h.sl m fun p s' hm _ => ⟨(used_alloc hb p s').2 (.inl hm), by rw [hW]; exact alloc_W_same h.hd.w hb hm⟩
  have m12 : Mv X' (d'.hs t) X12 (d'.hs t) := by rw [e12, e11]; exact (mv_add _ _ _).trans (mv_add _ _ _)
  have m12' : Mv X' [] X12 [] := by rw [e12, e11]; exact (mv_add _ _ _).trans (mv_add _ _ _)
  obtain ⟨sl2, bod2⟩ := bod1.op (bs' := allocB pre n s post) (d' := d') sl1 m12 fun p s' hm _ => ⟨hm, rfl⟩
  have r2 : Rep X12 t d' := r'.mv m12' fun k _ => by simp
  refine ⟨sl2, fun X15 s16 hx => ?_⟩
  obtain ⟨sl3, m3⟩ := hx.spec sl2
  obtain ⟨r3, bod3⟩ := bod2.list r2 m3 fun k hk => hk
  have hat0 : X12.at X'.n = some (.arr cI (List.replicate (allocS n s - 1) (0 : Int))) := by
    rw [e12, at_add_old (by rw [e11]; exact Nat.lt_succ_self _), e11]; exact at_add_new _ _
  have hnx : X'.n ∉ hl x := fun q => by have := sl1.lt _ q; omega
  have hn12 : X'.n < X12.n := at_lt hat0
  refine ⟨r3, hd', sl3, ⟨fun e he => ?_, fun e he e' he' u u' hu hu' huu => ?_, bod3.sep⟩, ?_, ?_⟩
  · rcases List.mem_append.1 he with he | he
    · exact bod3.ent e he
    · rw [List.mem_singleton] at he
      subst he
      refine ⟨_, allocS n s, X'.n, rfl, (used_alloc hb _ _).2 (.inr ⟨rfl, rfl⟩), ?_, fun q => by have := r'.lt _ q; omega, fun q => (m3.own _ q).elim hnx fun q => by omega⟩
      rw [hW, alloc_W_new h.hd.w hb, m3.keep _ hn12 hnx]
      exact hat0
  · have old : ∀ e ∈ L, ∀ u : SlH, e.2 = some u → u.h < X'.n := by
      intro e he u hu
      obtain ⟨p, s', hh, e1, e2, e3, e4, e5⟩ := bod1.ent e he
      have := at_lt e3
      rw [e1] at hu
      cases hu
      exact this
    rcases List.mem_append.1 he with he | he
    · rcases List.mem_append.1 he' with he' | he'
      · exact h.bod.dis e he e' he' u u' hu hu' huu
      · rw [List.mem_singleton] at he'
        subst he'
        cases hu'
        have := old e he u hu
        dsimp only at huu
        omega
    · rw [List.mem_singleton] at he
      subst he
      cases hu
      rcases List.mem_append.1 he' with he' | he'
      · have := old e' he' u' hu'
        dsimp only at huu
        omega
      · rw [List.mem_singleton] at he'
        exact he'.symm
  · rw [List.map_append]
    exact h.hold.alloc hz hb
  · rw [List.map_append, List.sum_append, h.sum, usedSum_alloc hb]
    simp only [List.map_cons, List.map_nil, List.sum_cons, List.sum_nil, slN]
    omega

/-- nothing is taken -/
theorem Kept.same (h : Kept X t d bs x L) (r' : Rep X' t d) (m : Mv X (d.hs t) X' (d.hs t)) : Kept X' t d bs x L := by
  obtain ⟨sl1, bod1⟩ := h.bod.op (bs' := bs) (d' := d) h.sl m fun p s' hm _ => ⟨hm, rfl⟩
  exact ⟨r', h.hd, sl1, bod1, h.hold, h.sum⟩

theorem drop_sum (l : List Nat) {k : Nat} (hk : k < l.length) : (l.take k ++ l.drop (k + 1)).sum + l[k] = l.sum := by
  have e : l = l.take k ++ l[k] :: l.drop (k + 1) := by simp
  conv => rhs; rw [e]
  simp only [List.sum_append, List.sum_cons]; omega

/-- a block is given back: it leaves the list -/
theorem Kept.drop (h : Kept X t d bs x L) {pre post : List Bl} {s k : Nat} (e : bs = pre ++ (s, true) :: post) (hk : k < L.length) (hL : L[k].1 = ((1 + sumS pre : Nat) : Int)) (m : Mv X (d.hs t) X' (d'.hs t)) (r' : Rep X' t d')
    (hW : d'.W = freeW d.W (1 + sumS pre - prevS pre) (prevS pre + s + nextS post)) (hd' : DOK d' (freeB pre s post)) :
    SlAt X' cH x L ∧ ∀ X2, Rep X2 t d' → Mv X' (d'.hs t) X2 (d'.hs t) → SlAt X2 cH x L ∧
      (∀ X43 s44, SlAt X43 cH s44 (L.take k ++ L.drop (k + 1)) → Mv X2 [] X43 (hl s44) → Kept X43 t d' (freeB pre s post) s44 (L.take k ++ L.drop (k + 1))) := by
  have hz := h.hd.w.sz
  have hw := h.hd.w
  rw [e] at hz hw
  have hmem : ∀ e ∈ L.take k ++ L.drop (k + 1), e ∈ L := fun e he => by
    rcases List.mem_append.1 he with he | he
    · exact List.mem_of_mem_take he
    · exact List.mem_of_mem_drop he
  obtain ⟨h1, h2⟩ := drop_mem h.hold.1 (k := k) (by simpa using hk)
  have hmap : (L.take k ++ L.drop (k + 1)).map (·.1) = (L.map (·.1)).take k ++ (L.map (·.1)).drop (k + 1) := by rw [List.map_append, List.map_take, List.map_drop]
  obtain ⟨sl1, bod1⟩ := (h.bod.sub hmem).op (bs' := freeB pre s post) (d' := d') h.sl m fun p s' hm hp => by
    have hne : p ≠ 1 + sumS pre := by
      rintro rfl
      rw [hmap] at hp
      have := ((h2 _).1 hp).2
      rw [List.getElem_map] at this
      exact this hL.symm
    rw [e] at hm
    exact ⟨(used_free hz p s').2 ⟨hm, hne⟩, by rw [hW]; exact free_W_same hw hm hne⟩
  refine ⟨sl1, fun X2 r2 m2 => ?_⟩
  obtain ⟨sl2, bod2⟩ := bod1.op (bs' := freeB pre s post) (d' := d') sl1 m2 fun p s' hm _ => ⟨hm, rfl⟩
  refine ⟨sl2, fun X43 s44 sl3 m3 => ?_⟩
  obtain ⟨r3, bod3⟩ := bod2.list r2 m3 fun k hk => by cases hk
  refine ⟨r3, hd', sl3, bod3, ?_, ?_⟩
  · rw [hmap]
    have hh := h.hold
    rw [e] at hh
    exact hh.free hz (by simpa using hk) (by rw [List.getElem_map]; exact hL)
  · have h3 := drop_sum (L.map fun e => slN e.2 + 1) (k := k) (by simpa using hk)
    rw [List.getElem_map, h.sum] at h3
    rw [List.map_append, List.map_take, List.map_drop]
    obtain ⟨p, s', hh, e1, e2, e3, e4, e5⟩ := h.bod.ent L[k] (List.getElem_mem hk)
    have hp : p = 1 + sumS pre := by rw [e1] at hL; simp only at hL; omega
    subst hp
    rw [e] at e2
    have hs : s' = s := (walk_inj hz e2 (walk_three.2 (.inr (.inl rfl)))).1
    subst hs
    have hu := usedSum_free pre s' post
    rw [e1, e] at h3
    have h4 : (List.take k (L.map fun e => slN e.2 + 1) ++ List.drop (k + 1) (L.map fun e => slN e.2 + 1)).sum + (s' - 1 + 1) = usedSum (pre ++ (s', true) :: post) := h3
    have := walk_bd hz e2
    omega

/-- a word is written, in both -/
theorem Kept.write (h : Kept X t d bs x L) {j p s hh k : Nat} (hj : j < L.length) (he : L[j] = ((p : Int), some ⟨hh, 0, s - 1, s - 1⟩)) (hm : (p, s, true) ∈ walk 1 bs) (hn1 : hh ∉ d.hs t) (hn2 : hh ∉ hl x) (hlt : hh < X.n) (hk : k + 1 < s) (v : Int)
    {X58 : XH} (hx1 : ∀ q, q < X.n → q ≠ hh → X58.at q = X.at q) (hx2 : X58.at hh = some (.arr cI ((bodyW d.W p s).set k v))) (hx3 : X.n ≤ X58.n) :
    Rep X58 t d ∧ ∀ X61 d', Rep X61 t d' → Mv X58 (d.hs t) X61 (d'.hs t) → d' = { d with W := d.W.set (p + 1 + k) v } → DOK d' bs → Kept X61 t d' bs x L := by
  have hz := h.hd.w.sz
  obtain ⟨b1, b2, b3⟩ := h.hd.w.bd hm
  have r1 : Rep X58 t d := h.r.keep fun q hq => hx1 q (h.r.lt q hq) fun e => hn1 (e ▸ hq)
  have sl1 : SlAt X58 cH x L := h.sl.keep fun q hq => hx1 q (h.sl.lt q hq) fun e => hn2 (e ▸ hq)
  refine ⟨r1, fun X61 d' r' m hd hdok => ?_⟩
  have hs' : d'.hs t = d.hs t := by rw [hd]; rfl
  have sl2 : SlAt X61 cH x L := sl1.keep fun q hq => m.keep q (sl1.lt q hq) (h.bod.sep q hq)
  refine ⟨r', hdok, sl2, ⟨fun e hemem => ?_, h.bod.dis, by rw [hs']; exact h.bod.sep⟩, h.hold, h.sum⟩
  obtain ⟨p', s', hh', e1, e2, e3, e4, e5⟩ := h.bod.ent e hemem
  have hlt' := at_lt e3
  refine ⟨p', s', hh', e1, e2, ?_, by rw [hs']; exact e4, e5⟩
  rw [m.keep hh' (by omega) e4, hd]
  show X58.at hh' = some (.arr cI (bodyW (d.W.set (p + 1 + k) v) p' s'))
  by_cases hc : hh' = hh
  · have hee : e = L[j] := h.bod.dis e hemem L[j] (List.getElem_mem hj) ⟨hh', 0, s' - 1, s' - 1⟩ ⟨hh, 0, s - 1, s - 1⟩ (by rw [e1]) (by rw [he]) hc
    rw [he, e1] at hee
    have hpp : p' = p := by have := congrArg Prod.fst hee; simp only at this; omega
    subst hpp
    have hss : s' = s := (walk_inj hz e2 hm).1
    subst hss
    rw [hc, hx2]
    congr 2
    refine List.ext_getElem? fun i => ?_
    rw [List.getElem?_set]
    by_cases hi : i < s' - 1
    · rw [bodyW_get hi, bodyW_get hi, List.getElem?_set]
      have hbl := bodyW_len (W := d.W) b3 (by omega)
      by_cases hik : k = i
      · subst hik
        rw [if_pos rfl, if_pos rfl, if_pos (by omega), if_pos (by omega)]
      · rw [if_neg hik, if_neg (by omega)]
    · have hbl := bodyW_len (W := d.W) b3 (by omega)
      rw [if_neg (by omega)]
      unfold bodyW
      rw [List.getElem?_take, List.getElem?_take, if_neg hi, if_neg hi]
  · rw [hx1 hh' hlt' hc, e3]
    have hne : p' ≠ p := by
      rintro rfl
      obtain ⟨i, hi, rfl⟩ := List.getElem_of_mem hemem
      have := (List.getElem_inj (i := i) (j := j) (h₀ := by simpa using hi) (h₁ := by simpa using hj) h.hold.1).1 (by rw [List.getElem_map, List.getElem_map, he, e1])
      subst this
      rw [e1] at he
      have hee := congrArg Prod.snd he
      simp only [Option.some.injEq, SlH.mk.injEq] at hee
      exact hc hee.1
    have hdj := walk_disj hz e2 hm hne
    congr 2
    refine (bodyW_ext fun i h1 h2 => ?_).symm
    rw [List.getElem?_set_ne (by omega)]

end Go.Proofs.Ytefpoodhdfggdaa.AB

set_option linter.unusedVariables false
set_option linter.unusedSimpArgs false
set_option maxRecDepth 100000
set_option maxHeartbeats 2000000
namespace Go.Proofs.Ytefpoodhdfggdaa.AB
open Go
/-! crucible/cruciblelaw5.ArenaKeeps -/
noncomputable def X7 : Cx := ⟨tt, [(12, [.cd .bool]), (13, [.cd (.int .i64)])], [(14, [(.ref carena_Arena), (.pure (.int .i64))]), (15, [(.pure (.int .i64)), (.pure (.int .i64))]), (16, [(.pure (.int .i64))]), (24, [(.pure .bool)]), (25, [(.pure (.int .i64)), (.pure .bool)]), (26, [(.pure (.int .i64))]), (27, [(.pure .bool)])], [(7, [(5, 1, .xc), (8, 0, .x (.sl ccruciblelaw5_held)), (17, 2, .rd), (18, 2, .xc), (22, 2, .rd), (25, 3, .x (.pure (.int .i64))), (25, 4, .x ccruciblelaw5_held), (25, 5, .x ccruciblelaw5_held), (25, 6, .x ccruciblelaw5_held), (29, 6, .xc), (29, 15, .xc), (31, 0, .x ccruciblelaw5_held), (31, 4, .x ccruciblelaw5_held), (31, 9, .x ccruciblelaw5_held), (34, 8, .x ccruciblelaw5_held), (37, 6, .xc), (39, 3, .rd), (2000031, 0, .dflt), (2000031, 1, .dflt), (2000031, 2, .dflt), (2000031, 3, .dflt), (2000031, 5, .dflt), (2000031, 6, .dflt), (2000031, 7, .dflt), (2000031, 8, .dflt), (2000031, 4, .dflt), (2000031, 9, .dflt), (2000031, 10, .dflt)])], [(7, [(0, mkM 192 0 [0, 1, 6, 8, 9], 0)])], []⟩
theorem FN7 : fnsB Try.prog X7.fns := (show True from trivial)
def M7_0 : List Bool × Nat := (mkM 192 0 [0, 1, 6, 8, 9], 1)
def S7_0 (words0 : Int) (script1 : List (Int × (Int × (Int × (Int × Bool))))) (a6 : Option Nat) (l8 : Option SlH) (i9 : Int) (hq0 : XH) (T : Toks) : St :=
  mkS 192 [(0, (.v (.int .i64 words0))), (1, (.v (.list (.pair (.int .i64) (.pair (.int .i64) (.pair (.int .i64) (.pair (.int .i64) .bool)))) script1 .no))), (6, (.ref a6 carena_Arena 0 [])), (8, (.sl ccruciblelaw5_held l8)), (9, (.v (.int .i64 i9)))] [(some (.heap hq0))] T
noncomputable def B7_0 : (Exit → St → Prop) → St → Prop := (awp X7.tt (callN Try.prog X7 0) (X7.md 7) 1 (X7.mk1 7) 0 (codeAt [1, 1, 1, 1, 1, 1, 1, 0, 1, 0, 0] (bd Try.f7)))
noncomputable def K7_0 (R : V → Prop) : Exit → St → Prop := seqK ((awp X7.tt (callN Try.prog X7 0) (X7.md 7) 1 (X7.mk1 7) 0 (codeAt [1, 1, 1, 1, 1, 1, 1, 1] (bd Try.f7))) (retK tt Try.f7.results.toList fun x s' => topK R x ⟨[], s'.hp, s'.T⟩)) (retK tt Try.f7.results.toList fun x s' => topK R x ⟨[], s'.hp, s'.T⟩)
noncomputable def Q7_0 (R : V → Prop) : Exit → St → Prop := (blockK 0 (K7_0 R))
theorem E7 (words0 : Int) (script1 : (List (Int × (Int × (Int × (Int × Bool)))))) {R : V → Prop} (h : (∃ p1 : Bool, PC Try.prog 12 [] (.bool p1) ∧ (((!p1) = true → R (.bool false)) ∧
 ((!p1) = false → (∃ p2 : Int, PC Try.prog 13 [(.int .i64 words0), (.int .i64 (2000 : Int))] (.int .i64 p2) ∧ (XC Try.prog 14 [(.ref carena_Arena), (.pure (.int .i64))] [(.v (.int .i64 ((IntKind.wrap .i64 ((16 : Int) + p2)))))] XH.none (fun (p3 : (Option Nat) × Int) (X4 : XH) => (((!p1) = true → R (.bool false)) ∧ ((!p1) = false → (((Option.isNone p3.1) = true → R (.bool false)) ∧ ((Option.isNone p3.1) = false → (((p3.2 != (0 : Int)) = true → R (.bool false)) ∧
 ((p3.2 != (0 : Int)) = false → (Loops B7_0 M7_0 (Q7_0 R)
  (S7_0 ((IntKind.wrap .i64 ((16 : Int) + p2))) script1 p3.1 none (0 : Int) X4 ⟨0, []⟩))))))))))))))) :
  fnK X7.tt (callN Try.prog X7 0) (X7.md 7) (X7.mk1 7) Try.f7 [(.v (.int .i64 words0)), (.v (.list (.pair (.int .i64) (.pair (.int .i64) (.pair (.int .i64) (.pair (.int .i64) .bool)))) script1 .no))] ⟨[], [some (.heap XH.none)], ⟨0, []⟩⟩ (topK R) := Eq.mp (by kernel_rfl) h
theorem L7_0 (words0 : Int) (script1 : List (Int × (Int × (Int × (Int × Bool))))) (a6 : Option Nat) (l8 : Option SlH) (i9 : Int) (hq0 : XH) (T : Toks) {R : V → Prop} {k0 : St → Prop}
 (h : (((decide (i9 < ((script1).length : Int))) = true → (((decide (i9 < (120 : Int))) = true → (0 ≤ i9 ∧ i9 < ((script1).length : Int) ∧ (∃ p5 : Int, PC Try.prog 13 [(.int .i64 ((script1.getD (i9).toNat (0, (0, (0, (0, false))))).1)), (.int .i64 (4 : Int))] (.int .i64 p5) ∧ (((p5 == (0 : Int)) = true → (((p5 == (0 : Int)) = true → (∃ p6 : Int, PC Try.prog 13 [(.int .i64 ((script1.getD (i9).toNat (0, (0, (0, (0, false))))).2.2.1)), (.int .i64 (40 : Int))] (.int .i64 p6) ∧ (∃ (p7 : Bool), RC Try.prog 24 [(.pure .bool)] [(.ref a6 carena_Arena 0 []), (.v (.int .i64 ((IntKind.wrap .i64 ((1 : Int) + p6)))))] hq0 p7 ∧ (XC Try.prog 15 [(.pure (.int .i64)), (.pure (.int .i64))] [(.ref a6 carena_Arena 0 []), (.v (.int .i64 ((IntKind.wrap .i64 ((1 : Int) + p6)))))] hq0 (fun (p8 : Int × Int) (X9 : XH) => (((!((p8.2 == (0 : Int)) == p7)) = true → R (.bool false)) ∧ ((!((p8.2 == (0 : Int)) == p7)) = false → (((p8.2 != (0 : Int)) = true → (((p8.2 != (23 : Int)) = true → R (.bool false)) ∧
 ((p8.2 != (23 : Int)) = false → (((p8.2 == (0 : Int)) = true → (∃ (p10 : Int × Bool), RC Try.prog 25 [(.pure (.int .i64)), (.pure .bool)] [(.ref a6 carena_Arena 0 []), (.v (.int .i64 p8.1))] X9 p10 ∧ (((!p10.2) = true → R (.bool false)) ∧ ((!p10.2) = false → (((decide (p10.1 < (IntKind.wrap .i64 ((1 : Int) + p6)))) = true → R (.bool false)) ∧ ((decide (p10.1 < (IntKind.wrap .i64 ((1 : Int) + p6)))) = false → (((decide (p10.1 > (IntKind.wrap .i64 ((IntKind.wrap .i64 ((1 : Int) + p6)) + (1 : Int))))) = true → R (.bool false)) ∧
 ((decide (p10.1 > (IntKind.wrap .i64 ((IntKind.wrap .i64 ((1 : Int) + p6)) + (1 : Int))))) = false → (0 ≤ p10.1 ∧ p10.1 ≤ p10.1 ∧ p10.1 * (8 : Int) ≤ (room : Int) ∧ p10.1 ≤ 9223372036854775807 ∧ (∀ (X11 : XH), X11 = (XH.add X9 (.arr (.pure (.int .i64)) (List.replicate (p10.1).toNat (0 : Int)))) → (∀ (X12 : XH), X12 = (XH.add X11 (.arr ccruciblelaw5_held ([(p8.1, (some ⟨X9.n, 0, (p10.1).toNat, (p10.1).toNat⟩))] : List (Int × (Option SlH))))) → (∃ (l13 l14 : List (Int × (Option SlH))), XH.view X12 ccruciblelaw5_held l8 = some l13 ∧ (srcX X12 ccruciblelaw5_held (.sl ccruciblelaw5_held (some ⟨X11.n, 0, 1, 1⟩))) = some l14 ∧ ((slN l8) + (l14).length) * 32 ≤ room ∧ ∀ (X15 : XH) (s16 : Option SlH), XApp X12 ccruciblelaw5_held (((0 : Int), none)) l13 l14 l8 X15 s16 → (∃ (p17 : Bool), RC Try.prog 27 [(.pure .bool)] [(.ref a6 carena_Arena 0 []), (.sl ccruciblelaw5_held s16), (.v (.int .i64 words0))] X15 p17 ∧ (((!p17) = true → R (.bool false)) ∧
 ((!p17) = false → k0 (S7_0 words0 script1 a6 s16 ((IntKind.wrap .i64 (i9 + (1 : Int)))) X15 T)))))))))))))))) ∧
 ((p8.2 == (0 : Int)) = false → (∃ (p18 : Bool), RC Try.prog 27 [(.pure .bool)] [(.ref a6 carena_Arena 0 []), (.sl ccruciblelaw5_held l8), (.v (.int .i64 words0))] X9 p18 ∧ (((!p18) = true → R (.bool false)) ∧
 ((!p18) = false → k0 (S7_0 words0 script1 a6 l8 ((IntKind.wrap .i64 (i9 + (1 : Int)))) X9 T))))))))) ∧ ((p8.2 != (0 : Int)) = false → (((p8.2 == (0 : Int)) = true → (∃ (p19 : Int × Bool), RC Try.prog 25 [(.pure (.int .i64)), (.pure .bool)] [(.ref a6 carena_Arena 0 []), (.v (.int .i64 p8.1))] X9 p19 ∧ (((!p19.2) = true → R (.bool false)) ∧ ((!p19.2) = false → (((decide (p19.1 < (IntKind.wrap .i64 ((1 : Int) + p6)))) = true → R (.bool false)) ∧ ((decide (p19.1 < (IntKind.wrap .i64 ((1 : Int) + p6)))) = false → (((decide (p19.1 > (IntKind.wrap .i64 ((IntKind.wrap .i64 ((1 : Int) + p6)) + (1 : Int))))) = true → R (.bool false)) ∧
 ((decide (p19.1 > (IntKind.wrap .i64 ((IntKind.wrap .i64 ((1 : Int) + p6)) + (1 : Int))))) = false → (0 ≤ p19.1 ∧ p19.1 ≤ p19.1 ∧ p19.1 * (8 : Int) ≤ (room : Int) ∧ p19.1 ≤ 9223372036854775807 ∧ (∀ (X20 : XH), X20 = (XH.add X9 (.arr (.pure (.int .i64)) (List.replicate (p19.1).toNat (0 : Int)))) → (∀ (X21 : XH), X21 = (XH.add X20 (.arr ccruciblelaw5_held ([(p8.1, (some ⟨X9.n, 0, (p19.1).toNat, (p19.1).toNat⟩))] : List (Int × (Option SlH))))) → (∃ (l22 l23 : List (Int × (Option SlH))), XH.view X21 ccruciblelaw5_held l8 = some l22 ∧ (srcX X21 ccruciblelaw5_held (.sl ccruciblelaw5_held (some ⟨X20.n, 0, 1, 1⟩))) = some l23 ∧ ((slN l8) + (l23).length) * 32 ≤ room ∧ ∀ (X24 : XH) (s25 : Option SlH), XApp X21 ccruciblelaw5_held (((0 : Int), none)) l22 l23 l8 X24 s25 → (∃ (p26 : Bool), RC Try.prog 27 [(.pure .bool)] [(.ref a6 carena_Arena 0 []), (.sl ccruciblelaw5_held s25), (.v (.int .i64 words0))] X24 p26 ∧ (((!p26) = true → R (.bool false)) ∧
 ((!p26) = false → k0 (S7_0 words0 script1 a6 s25 ((IntKind.wrap .i64 (i9 + (1 : Int)))) X24 T)))))))))))))))) ∧
 ((p8.2 == (0 : Int)) = false → (∃ (p27 : Bool), RC Try.prog 27 [(.pure .bool)] [(.ref a6 carena_Arena 0 []), (.sl ccruciblelaw5_held l8), (.v (.int .i64 words0))] X9 p27 ∧ (((!p27) = true → R (.bool false)) ∧
 ((!p27) = false → k0 (S7_0 words0 script1 a6 l8 ((IntKind.wrap .i64 (i9 + (1 : Int)))) X9 T))))))))))))))) ∧
 ((p5 == (0 : Int)) = false → (((p5 == (2 : Int)) = true → (((decide ((((slN l8) : Nat) : Int) > (0 : Int))) = true → (∃ p28 : Int, PC Try.prog 13 [(.int .i64 ((script1.getD (i9).toNat (0, (0, (0, (0, false))))).2.1)), (.int .i64 ((((slN l8) : Nat) : Int)))] (.int .i64 p28) ∧ (∃ (u29 : SlH), l8 = some u29 ∧ 0 ≤ p28 ∧ p28 < ((u29.len : Nat) : Int) ∧ (∃ (a30 : (Int × (Option SlH))), XH.el hq0 ccruciblelaw5_held u29.h ((u29.off + (p28).toNat)) = some a30 ∧ (XC Try.prog 16 [(.pure (.int .i64))] [(.ref a6 carena_Arena 0 []), (.v (.int .i64 a30.1))] hq0 (fun (p31 : Int) (X32 : XH) => (((p31 != (0 : Int)) = true → R (.bool false)) ∧ ((p31 != (0 : Int)) = false → (∃ (u33 : SlH), l8 = some u33 ∧ 0 ≤ p28 ∧ p28 < ((u33.len : Nat) : Int) ∧ (∃ (a34 : (Int × (Option SlH))), XH.el X32 ccruciblelaw5_held u33.h ((u33.off + (p28).toNat)) = some a34 ∧ (XC Try.prog 16 [(.pure (.int .i64))] [(.ref a6 carena_Arena 0 []), (.v (.int .i64 a34.1))] X32 (fun (p35 : Int) (X36 : XH) => (((p35 != (24 : Int)) = true → R (.bool false)) ∧
 ((p35 != (24 : Int)) = false → (0 ≤ p28 ∧ p28 ≤ (((slC l8) : Nat) : Int) ∧ (0 ≤ (IntKind.wrap .i64 (p28 + (1 : Int))) ∧ (IntKind.wrap .i64 (p28 + (1 : Int))) ≤ (((slN l8) : Nat) : Int) ∧ (∃ (l37 l38 : List (Int × (Option SlH))), XH.view X36 ccruciblelaw5_held none = some l37 ∧ (srcX X36 ccruciblelaw5_held (.sl ccruciblelaw5_held (slCut l8 0 ((p28).toNat) (slC l8)))) = some l38 ∧ (0 + (l38).length) * 32 ≤ room ∧ ∀ (X39 : XH) (s40 : Option SlH), XApp X36 ccruciblelaw5_held (((0 : Int), none)) l37 l38 none X39 s40 → (∃ (l41 l42 : List (Int × (Option SlH))), XH.view X39 ccruciblelaw5_held s40 = some l41 ∧ (srcX X39 ccruciblelaw5_held (.sl ccruciblelaw5_held (slCut l8 (((IntKind.wrap .i64 (p28 + (1 : Int)))).toNat) (slN l8) (slC l8)))) = some l42 ∧ ((slN s40) + (l42).length) * 32 ≤ room ∧ ∀ (X43 : XH) (s44 : Option SlH), XApp X39 ccruciblelaw5_held (((0 : Int), none)) l41 l42 s40 X43 s44 → (∃ (p45 : Bool), RC Try.prog 27 [(.pure .bool)] [(.ref a6 carena_Arena 0 []), (.sl ccruciblelaw5_held s44), (.v (.int .i64 words0))] X43 p45 ∧ (((!p45) = true → R (.bool false)) ∧
 ((!p45) = false → k0 (S7_0 words0 script1 a6 s44 ((IntKind.wrap .i64 (i9 + (1 : Int)))) X43 T)))))))))))))))))))))) ∧
 ((decide ((((slN l8) : Nat) : Int) > (0 : Int))) = false → (∃ (p46 : Bool), RC Try.prog 27 [(.pure .bool)] [(.ref a6 carena_Arena 0 []), (.sl ccruciblelaw5_held l8), (.v (.int .i64 words0))] hq0 p46 ∧ (((!p46) = true → R (.bool false)) ∧
 ((!p46) = false → k0 (S7_0 words0 script1 a6 l8 ((IntKind.wrap .i64 (i9 + (1 : Int)))) hq0 T))))))) ∧
 ((p5 == (2 : Int)) = false → (((p5 == (3 : Int)) = true → (((decide ((((slN l8) : Nat) : Int) > (0 : Int))) = true → (∃ p47 : Int, PC Try.prog 13 [(.int .i64 ((script1.getD (i9).toNat (0, (0, (0, (0, false))))).2.1)), (.int .i64 ((((slN l8) : Nat) : Int)))] (.int .i64 p47) ∧ (∃ (u48 : SlH), l8 = some u48 ∧ 0 ≤ p47 ∧ p47 < ((u48.len : Nat) : Int) ∧ (∃ (a49 : (Int × (Option SlH))), XH.el hq0 ccruciblelaw5_held u48.h ((u48.off + (p47).toNat)) = some a49 ∧ (∀ (X50 : XH), X50 = (XH.add hq0 (.arr ccruciblelaw5_held [((0 : Int), none)])) → (∃ (a51 : (Int × (Option SlH))), XH.el X50 ccruciblelaw5_held hq0.n 0 = some a51 ∧ (∀ (X52 : XH), X52 = (XH.setEl X50 ccruciblelaw5_held hq0.n 0 (a49.1, a49.2)) → (∃ (a53 : (Int × (Option SlH))), XH.el X52 ccruciblelaw5_held hq0.n 0 = some a53 ∧ (∃ p54 : Int, PC Try.prog 13 [(.int .i64 ((script1.getD (i9).toNat (0, (0, (0, (0, false))))).2.2.1)), (.int .i64 ((((slN a53.2) : Nat) : Int)))] (.int .i64 p54) ∧ (∃ (a55 : (Int × (Option SlH))), XH.el X52 ccruciblelaw5_held hq0.n 0 = some a55 ∧ (∃ (u56 : SlH), a55.2 = some u56 ∧ 0 ≤ p54 ∧ p54 < ((u56.len : Nat) : Int) ∧ (∃ (a57 : Int), XH.el X52 (.pure (.int .i64)) u56.h ((u56.off + (p54).toNat)) = some a57 ∧ (∀ (X58 : XH), X58 = (XH.setEl X52 (.pure (.int .i64)) u56.h ((u56.off + (p54).toNat)) ((script1.getD (i9).toNat (0, (0, (0, (0, false))))).2.2.2.1)) → (∃ (a59 : (Int × (Option SlH))), XH.el X58 ccruciblelaw5_held hq0.n 0 = some a59 ∧ (XC Try.prog 26 [(.pure (.int .i64))] [(.ref a6 carena_Arena 0 []), (.v (.int .i64 a59.1)), (.v (.int .i64 p54)), (.v (.int .i64 ((script1.getD (i9).toNat (0, (0, (0, (0, false))))).2.2.2.1)))] X58 (fun (p60 : Int) (X61 : XH) => (((p60 != (0 : Int)) = true → R (.bool false)) ∧
 ((p60 != (0 : Int)) = false → (∃ (p62 : Bool), RC Try.prog 27 [(.pure .bool)] [(.ref a6 carena_Arena 0 []), (.sl ccruciblelaw5_held l8), (.v (.int .i64 words0))] X61 p62 ∧ (((!p62) = true → R (.bool false)) ∧
 ((!p62) = false → k0 (S7_0 words0 script1 a6 l8 ((IntKind.wrap .i64 (i9 + (1 : Int)))) X61 T)))))))))))))))))))))) ∧
 ((decide ((((slN l8) : Nat) : Int) > (0 : Int))) = false → (∃ (p63 : Bool), RC Try.prog 27 [(.pure .bool)] [(.ref a6 carena_Arena 0 []), (.sl ccruciblelaw5_held l8), (.v (.int .i64 words0))] hq0 p63 ∧ (((!p63) = true → R (.bool false)) ∧
 ((!p63) = false → k0 (S7_0 words0 script1 a6 l8 ((IntKind.wrap .i64 (i9 + (1 : Int)))) hq0 T))))))) ∧
 ((p5 == (3 : Int)) = false → (∃ (p64 : Bool), RC Try.prog 27 [(.pure .bool)] [(.ref a6 carena_Arena 0 []), (.sl ccruciblelaw5_held l8), (.v (.int .i64 words0))] hq0 p64 ∧ (((!p64) = true → R (.bool false)) ∧
 ((!p64) = false → k0 (S7_0 words0 script1 a6 l8 ((IntKind.wrap .i64 (i9 + (1 : Int)))) hq0 T))))))))))) ∧
 ((p5 == (0 : Int)) = false → (((p5 == (1 : Int)) = true → (∃ p65 : Int, PC Try.prog 13 [(.int .i64 ((script1.getD (i9).toNat (0, (0, (0, (0, false))))).2.2.1)), (.int .i64 (40 : Int))] (.int .i64 p65) ∧ (∃ (p66 : Bool), RC Try.prog 24 [(.pure .bool)] [(.ref a6 carena_Arena 0 []), (.v (.int .i64 ((IntKind.wrap .i64 ((1 : Int) + p65)))))] hq0 p66 ∧ (XC Try.prog 15 [(.pure (.int .i64)), (.pure (.int .i64))] [(.ref a6 carena_Arena 0 []), (.v (.int .i64 ((IntKind.wrap .i64 ((1 : Int) + p65)))))] hq0 (fun (p67 : Int × Int) (X68 : XH) => (((!((p67.2 == (0 : Int)) == p66)) = true → R (.bool false)) ∧ ((!((p67.2 == (0 : Int)) == p66)) = false → (((p67.2 != (0 : Int)) = true → (((p67.2 != (23 : Int)) = true → R (.bool false)) ∧
 ((p67.2 != (23 : Int)) = false → (((p67.2 == (0 : Int)) = true → (∃ (p69 : Int × Bool), RC Try.prog 25 [(.pure (.int .i64)), (.pure .bool)] [(.ref a6 carena_Arena 0 []), (.v (.int .i64 p67.1))] X68 p69 ∧ (((!p69.2) = true → R (.bool false)) ∧ ((!p69.2) = false → (((decide (p69.1 < (IntKind.wrap .i64 ((1 : Int) + p65)))) = true → R (.bool false)) ∧ ((decide (p69.1 < (IntKind.wrap .i64 ((1 : Int) + p65)))) = false → (((decide (p69.1 > (IntKind.wrap .i64 ((IntKind.wrap .i64 ((1 : Int) + p65)) + (1 : Int))))) = true → R (.bool false)) ∧
 ((decide (p69.1 > (IntKind.wrap .i64 ((IntKind.wrap .i64 ((1 : Int) + p65)) + (1 : Int))))) = false → (0 ≤ p69.1 ∧ p69.1 ≤ p69.1 ∧ p69.1 * (8 : Int) ≤ (room : Int) ∧ p69.1 ≤ 9223372036854775807 ∧ (∀ (X70 : XH), X70 = (XH.add X68 (.arr (.pure (.int .i64)) (List.replicate (p69.1).toNat (0 : Int)))) → (∀ (X71 : XH), X71 = (XH.add X70 (.arr ccruciblelaw5_held ([(p67.1, (some ⟨X68.n, 0, (p69.1).toNat, (p69.1).toNat⟩))] : List (Int × (Option SlH))))) → (∃ (l72 l73 : List (Int × (Option SlH))), XH.view X71 ccruciblelaw5_held l8 = some l72 ∧ (srcX X71 ccruciblelaw5_held (.sl ccruciblelaw5_held (some ⟨X70.n, 0, 1, 1⟩))) = some l73 ∧ ((slN l8) + (l73).length) * 32 ≤ room ∧ ∀ (X74 : XH) (s75 : Option SlH), XApp X71 ccruciblelaw5_held (((0 : Int), none)) l72 l73 l8 X74 s75 → (∃ (p76 : Bool), RC Try.prog 27 [(.pure .bool)] [(.ref a6 carena_Arena 0 []), (.sl ccruciblelaw5_held s75), (.v (.int .i64 words0))] X74 p76 ∧ (((!p76) = true → R (.bool false)) ∧
 ((!p76) = false → k0 (S7_0 words0 script1 a6 s75 ((IntKind.wrap .i64 (i9 + (1 : Int)))) X74 T)))))))))))))))) ∧
 ((p67.2 == (0 : Int)) = false → (∃ (p77 : Bool), RC Try.prog 27 [(.pure .bool)] [(.ref a6 carena_Arena 0 []), (.sl ccruciblelaw5_held l8), (.v (.int .i64 words0))] X68 p77 ∧ (((!p77) = true → R (.bool false)) ∧
 ((!p77) = false → k0 (S7_0 words0 script1 a6 l8 ((IntKind.wrap .i64 (i9 + (1 : Int)))) X68 T))))))))) ∧ ((p67.2 != (0 : Int)) = false → (((p67.2 == (0 : Int)) = true → (∃ (p78 : Int × Bool), RC Try.prog 25 [(.pure (.int .i64)), (.pure .bool)] [(.ref a6 carena_Arena 0 []), (.v (.int .i64 p67.1))] X68 p78 ∧ (((!p78.2) = true → R (.bool false)) ∧ ((!p78.2) = false → (((decide (p78.1 < (IntKind.wrap .i64 ((1 : Int) + p65)))) = true → R (.bool false)) ∧ ((decide (p78.1 < (IntKind.wrap .i64 ((1 : Int) + p65)))) = false → (((decide (p78.1 > (IntKind.wrap .i64 ((IntKind.wrap .i64 ((1 : Int) + p65)) + (1 : Int))))) = true → R (.bool false)) ∧
 ((decide (p78.1 > (IntKind.wrap .i64 ((IntKind.wrap .i64 ((1 : Int) + p65)) + (1 : Int))))) = false → (0 ≤ p78.1 ∧ p78.1 ≤ p78.1 ∧ p78.1 * (8 : Int) ≤ (room : Int) ∧ p78.1 ≤ 9223372036854775807 ∧ (∀ (X79 : XH), X79 = (XH.add X68 (.arr (.pure (.int .i64)) (List.replicate (p78.1).toNat (0 : Int)))) → (∀ (X80 : XH), X80 = (XH.add X79 (.arr ccruciblelaw5_held ([(p67.1, (some ⟨X68.n, 0, (p78.1).toNat, (p78.1).toNat⟩))] : List (Int × (Option SlH))))) → (∃ (l81 l82 : List (Int × (Option SlH))), XH.view X80 ccruciblelaw5_held l8 = some l81 ∧ (srcX X80 ccruciblelaw5_held (.sl ccruciblelaw5_held (some ⟨X79.n, 0, 1, 1⟩))) = some l82 ∧ ((slN l8) + (l82).length) * 32 ≤ room ∧ ∀ (X83 : XH) (s84 : Option SlH), XApp X80 ccruciblelaw5_held (((0 : Int), none)) l81 l82 l8 X83 s84 → (∃ (p85 : Bool), RC Try.prog 27 [(.pure .bool)] [(.ref a6 carena_Arena 0 []), (.sl ccruciblelaw5_held s84), (.v (.int .i64 words0))] X83 p85 ∧ (((!p85) = true → R (.bool false)) ∧
 ((!p85) = false → k0 (S7_0 words0 script1 a6 s84 ((IntKind.wrap .i64 (i9 + (1 : Int)))) X83 T)))))))))))))))) ∧
 ((p67.2 == (0 : Int)) = false → (∃ (p86 : Bool), RC Try.prog 27 [(.pure .bool)] [(.ref a6 carena_Arena 0 []), (.sl ccruciblelaw5_held l8), (.v (.int .i64 words0))] X68 p86 ∧ (((!p86) = true → R (.bool false)) ∧
 ((!p86) = false → k0 (S7_0 words0 script1 a6 l8 ((IntKind.wrap .i64 (i9 + (1 : Int)))) X68 T))))))))))))))) ∧
 ((p5 == (1 : Int)) = false → (((p5 == (2 : Int)) = true → (((decide ((((slN l8) : Nat) : Int) > (0 : Int))) = true → (∃ p87 : Int, PC Try.prog 13 [(.int .i64 ((script1.getD (i9).toNat (0, (0, (0, (0, false))))).2.1)), (.int .i64 ((((slN l8) : Nat) : Int)))] (.int .i64 p87) ∧ (∃ (u88 : SlH), l8 = some u88 ∧ 0 ≤ p87 ∧ p87 < ((u88.len : Nat) : Int) ∧ (∃ (a89 : (Int × (Option SlH))), XH.el hq0 ccruciblelaw5_held u88.h ((u88.off + (p87).toNat)) = some a89 ∧ (XC Try.prog 16 [(.pure (.int .i64))] [(.ref a6 carena_Arena 0 []), (.v (.int .i64 a89.1))] hq0 (fun (p90 : Int) (X91 : XH) => (((p90 != (0 : Int)) = true → R (.bool false)) ∧ ((p90 != (0 : Int)) = false → (∃ (u92 : SlH), l8 = some u92 ∧ 0 ≤ p87 ∧ p87 < ((u92.len : Nat) : Int) ∧ (∃ (a93 : (Int × (Option SlH))), XH.el X91 ccruciblelaw5_held u92.h ((u92.off + (p87).toNat)) = some a93 ∧ (XC Try.prog 16 [(.pure (.int .i64))] [(.ref a6 carena_Arena 0 []), (.v (.int .i64 a93.1))] X91 (fun (p94 : Int) (X95 : XH) => (((p94 != (24 : Int)) = true → R (.bool false)) ∧
 ((p94 != (24 : Int)) = false → (0 ≤ p87 ∧ p87 ≤ (((slC l8) : Nat) : Int) ∧ (0 ≤ (IntKind.wrap .i64 (p87 + (1 : Int))) ∧ (IntKind.wrap .i64 (p87 + (1 : Int))) ≤ (((slN l8) : Nat) : Int) ∧ (∃ (l96 l97 : List (Int × (Option SlH))), XH.view X95 ccruciblelaw5_held none = some l96 ∧ (srcX X95 ccruciblelaw5_held (.sl ccruciblelaw5_held (slCut l8 0 ((p87).toNat) (slC l8)))) = some l97 ∧ (0 + (l97).length) * 32 ≤ room ∧ ∀ (X98 : XH) (s99 : Option SlH), XApp X95 ccruciblelaw5_held (((0 : Int), none)) l96 l97 none X98 s99 → (∃ (l100 l101 : List (Int × (Option SlH))), XH.view X98 ccruciblelaw5_held s99 = some l100 ∧ (srcX X98 ccruciblelaw5_held (.sl ccruciblelaw5_held (slCut l8 (((IntKind.wrap .i64 (p87 + (1 : Int)))).toNat) (slN l8) (slC l8)))) = some l101 ∧ ((slN s99) + (l101).length) * 32 ≤ room ∧ ∀ (X102 : XH) (s103 : Option SlH), XApp X98 ccruciblelaw5_held (((0 : Int), none)) l100 l101 s99 X102 s103 → (∃ (p104 : Bool), RC Try.prog 27 [(.pure .bool)] [(.ref a6 carena_Arena 0 []), (.sl ccruciblelaw5_held s103), (.v (.int .i64 words0))] X102 p104 ∧ (((!p104) = true → R (.bool false)) ∧
 ((!p104) = false → k0 (S7_0 words0 script1 a6 s103 ((IntKind.wrap .i64 (i9 + (1 : Int)))) X102 T)))))))))))))))))))))) ∧
 ((decide ((((slN l8) : Nat) : Int) > (0 : Int))) = false → (∃ (p105 : Bool), RC Try.prog 27 [(.pure .bool)] [(.ref a6 carena_Arena 0 []), (.sl ccruciblelaw5_held l8), (.v (.int .i64 words0))] hq0 p105 ∧ (((!p105) = true → R (.bool false)) ∧
 ((!p105) = false → k0 (S7_0 words0 script1 a6 l8 ((IntKind.wrap .i64 (i9 + (1 : Int)))) hq0 T))))))) ∧
 ((p5 == (2 : Int)) = false → (((p5 == (3 : Int)) = true → (((decide ((((slN l8) : Nat) : Int) > (0 : Int))) = true → (∃ p106 : Int, PC Try.prog 13 [(.int .i64 ((script1.getD (i9).toNat (0, (0, (0, (0, false))))).2.1)), (.int .i64 ((((slN l8) : Nat) : Int)))] (.int .i64 p106) ∧ (∃ (u107 : SlH), l8 = some u107 ∧ 0 ≤ p106 ∧ p106 < ((u107.len : Nat) : Int) ∧ (∃ (a108 : (Int × (Option SlH))), XH.el hq0 ccruciblelaw5_held u107.h ((u107.off + (p106).toNat)) = some a108 ∧ (∀ (X109 : XH), X109 = (XH.add hq0 (.arr ccruciblelaw5_held [((0 : Int), none)])) → (∃ (a110 : (Int × (Option SlH))), XH.el X109 ccruciblelaw5_held hq0.n 0 = some a110 ∧ (∀ (X111 : XH), X111 = (XH.setEl X109 ccruciblelaw5_held hq0.n 0 (a108.1, a108.2)) → (∃ (a112 : (Int × (Option SlH))), XH.el X111 ccruciblelaw5_held hq0.n 0 = some a112 ∧ (∃ p113 : Int, PC Try.prog 13 [(.int .i64 ((script1.getD (i9).toNat (0, (0, (0, (0, false))))).2.2.1)), (.int .i64 ((((slN a112.2) : Nat) : Int)))] (.int .i64 p113) ∧ (∃ (a114 : (Int × (Option SlH))), XH.el X111 ccruciblelaw5_held hq0.n 0 = some a114 ∧ (∃ (u115 : SlH), a114.2 = some u115 ∧ 0 ≤ p113 ∧ p113 < ((u115.len : Nat) : Int) ∧ (∃ (a116 : Int), XH.el X111 (.pure (.int .i64)) u115.h ((u115.off + (p113).toNat)) = some a116 ∧ (∀ (X117 : XH), X117 = (XH.setEl X111 (.pure (.int .i64)) u115.h ((u115.off + (p113).toNat)) ((script1.getD (i9).toNat (0, (0, (0, (0, false))))).2.2.2.1)) → (∃ (a118 : (Int × (Option SlH))), XH.el X117 ccruciblelaw5_held hq0.n 0 = some a118 ∧ (XC Try.prog 26 [(.pure (.int .i64))] [(.ref a6 carena_Arena 0 []), (.v (.int .i64 a118.1)), (.v (.int .i64 p113)), (.v (.int .i64 ((script1.getD (i9).toNat (0, (0, (0, (0, false))))).2.2.2.1)))] X117 (fun (p119 : Int) (X120 : XH) => (((p119 != (0 : Int)) = true → R (.bool false)) ∧
 ((p119 != (0 : Int)) = false → (∃ (p121 : Bool), RC Try.prog 27 [(.pure .bool)] [(.ref a6 carena_Arena 0 []), (.sl ccruciblelaw5_held l8), (.v (.int .i64 words0))] X120 p121 ∧ (((!p121) = true → R (.bool false)) ∧
 ((!p121) = false → k0 (S7_0 words0 script1 a6 l8 ((IntKind.wrap .i64 (i9 + (1 : Int)))) X120 T)))))))))))))))))))))) ∧
 ((decide ((((slN l8) : Nat) : Int) > (0 : Int))) = false → (∃ (p122 : Bool), RC Try.prog 27 [(.pure .bool)] [(.ref a6 carena_Arena 0 []), (.sl ccruciblelaw5_held l8), (.v (.int .i64 words0))] hq0 p122 ∧ (((!p122) = true → R (.bool false)) ∧
 ((!p122) = false → k0 (S7_0 words0 script1 a6 l8 ((IntKind.wrap .i64 (i9 + (1 : Int)))) hq0 T))))))) ∧
 ((p5 == (3 : Int)) = false → (∃ (p123 : Bool), RC Try.prog 27 [(.pure .bool)] [(.ref a6 carena_Arena 0 []), (.sl ccruciblelaw5_held l8), (.v (.int .i64 words0))] hq0 p123 ∧ (((!p123) = true → R (.bool false)) ∧
 ((!p123) = false → k0 (S7_0 words0 script1 a6 l8 ((IntKind.wrap .i64 (i9 + (1 : Int)))) hq0 T))))))))))))))) ∧
 ((decide (i9 < (120 : Int))) = false → R (.bool true)))) ∧ ((decide (i9 < ((script1).length : Int))) = false → R (.bool true)))) :
  B7_0 (loopQ M7_0 k0 (Q7_0 R)) (S7_0 words0 script1 a6 l8 i9 hq0 T) := Eq.mp (by kernel_rfl) h
end Go.Proofs.Ytefpoodhdfggdaa.AB

set_option linter.unusedVariables false
set_option linter.unusedSimpArgs false
namespace Go.Proofs.Ytefpoodhdfggdaa.AB
open Go

set_option maxHeartbeats 2000000 in
/-- ArenaKeeps -/
theorem p7 (words : Int) (script : List OP) (hw : -9223372036854775808 ≤ words ∧ words ≤ 9223372036854775807) (hs : ∀ o ∈ script, opOK o) (hsl : script.length ≤ 9223372036854775807) :
    PC Try.prog 7 [.int .i64 words, .list cOP script .no] (.bool true) := by
  have hp := pickR_lt words (n := 2000) (by omega)
  obtain ⟨N, hN⟩ : ∃ N, N = 16 + pickR words 2000 := ⟨_, rfl⟩
  have w1 : IntKind.wrap .i64 ((16 : Int) + ((pickR words 2000 : Nat) : Int)) = (N : Int) := by rw [wrap64 (by omega) (by omega)]; omega
  refine lawOf (X := X7) rfl FN7 (by kernel_rfl) (by decide) (E7 words script ⟨true, p12, fun e => (by cases e), fun _ => ⟨_, pick_ok words (n := 2000) hw (by omega), ?_⟩⟩)
  rw [w1]
  refine (c14 (N : Int) (by omega)).mono ?_
  rintro p X4 (⟨h, _⟩ | ⟨m, t, d0, e, h1, h2, rfl, r0, _, hd0, hW0⟩)
  · exact absurd (by omega) h
  have : m = N := by omega
  subst this
  refine ⟨fun e => (by cases e), fun _ => ⟨fun e => (by cases e), fun _ => ⟨fun e => (by simp at e), fun _ => ?_⟩⟩⟩
  refine Loops.intro (fun q : Nat × XH × Option SlH => S7_0 (m : Int) script (some t) q.2.2 (q.1 : Int) q.2.1 ⟨0, []⟩) (fun q => q.1 ≤ 120 ∧ ∃ d bs L, Kept q.2.1 t d bs q.2.2 L ∧ sumS bs = m - 1 ∧ L.length ≤ q.1) (fun q => 120 - q.1) (0, X4, none) rfl
    ⟨Nat.zero_le _, d0, _, [], ⟨r0, hd0, rfl, ⟨fun e h => (by cases h), fun e h => (by cases h), fun k h => (by cases h)⟩, ⟨List.nodup_nil, fun a => ⟨fun h => (by cases h), fun h => ?_⟩⟩, by simp [usedSum]⟩, by simp [sumS], Nat.le_refl _⟩ ?_
  · obtain ⟨p, s, _, hm⟩ := usedAt_mem.1 h
    simp [walk] at hm
  rintro ⟨i, X, x⟩ ⟨hi, d, bs, L, h, hsum, hLi⟩
  have hi : i ≤ 120 := hi
  have hLi : L.length ≤ i := hLi
  have h : Kept X t d bs x L := h
  refine L7_0 (m : Int) script (some t) x i X ⟨0, []⟩ ⟨fun e => ⟨fun e2 => ?_, fun e2 => ⟨rfl, rfl⟩⟩, fun e => ⟨rfl, rfl⟩⟩
  have e := of_decide_eq_true e
  have e2 := of_decide_eq_true e2
  have hi' : i < script.length := by omega
  obtain ⟨o1, o2, o3, o4⟩ := op_get hs hi'
  have hle := h.hd.w.le
  have hlen := h.hd.w.len
  have again : ∀ (X' : XH) (x' : Option SlH) (d' : AD) (bs' : List Bl) (L' : List HE), Kept X' t d' bs' x' L' → sumS bs' = m - 1 → L'.length ≤ i + 1 →
      ∃ p17 : Bool, RC Try.prog 27 [.pure .bool] [.ref (some t) cA 0 [], .sl cH x', .v (.int .i64 (m : Int))] X' p17 ∧ (((!p17) = true → (V.bool false).norm = .bool true ∧ (V.bool true).nt = true) ∧ ((!p17) = false →
        Again (fun q : Nat × XH × Option SlH => S7_0 (m : Int) script (some t) q.2.2 (q.1 : Int) q.2.1 ⟨0, []⟩) (fun q => q.1 ≤ 120 ∧ ∃ d bs L, Kept q.2.1 t d bs q.2.2 L ∧ sumS bs = m - 1 ∧ L.length ≤ q.1) (fun q => 120 - q.1) (120 - i) (S7_0 (m : Int) script (some t) x' (IntKind.wrap .i64 ((i : Int) + 1)) X' ⟨0, []⟩))) := by
    intro X' x' d' bs' L' hK hs' hl'
    refine ⟨true, ?_, fun e => (by cases e), fun _ => ?_⟩
    · have := c27 hK (by omega)
      rw [show d'.W.length = m by rw [hK.hd.w.len, hs']; omega] at this
      exact this
    · rw [wrap64 (by omega) (by omega)]
      exact Again.mk (i + 1, X', x') rfl ⟨by show i + 1 ≤ 120; omega, d', bs', L', hK, hs', hl'⟩ (show 120 - (i + 1) < 120 - i by omega)
  rw [Int.toNat_natCast]
  have hq := pickR_lt (script.getD i (0, (0, (0, (0, false))))).2.2.1 (n := 40) (by omega)
  obtain ⟨n, hn⟩ : ∃ n, n = 1 + pickR (script.getD i (0, (0, (0, (0, false))))).2.2.1 40 := ⟨_, rfl⟩
  have w2 : IntKind.wrap .i64 ((1 : Int) + ((pickR (script.getD i (0, (0, (0, (0, false))))).2.2.1 40 : Nat) : Int)) = (n : Int) := by rw [wrap64 (by omega) (by omega)]; omega
  refine ⟨by omega, by omega, _, pick_ok _ (n := 4) o1 (by omega), fun e3 => ⟨fun _ => ?_, fun e4 => absurd (e3.symm.trans e4) (by decide)⟩, fun e3 => ⟨fun _ => ?_, fun e4 => ⟨fun _ => ?_, fun e5 => ⟨fun _ => ?_, fun e6 => ?_⟩⟩⟩⟩
  · refine ⟨_, pick_ok _ (n := 40) o3 (by omega), ?_⟩
    rw [w2]
    refine ⟨_, c24 h.r h.hd (n : Int) (by omega), ?_⟩
    have hfit := fits_iff h.hd (n : Int)
    refine (c15 h.r h.hd (n : Int) (by omega)).mono ?_
    rintro p X' ⟨d', r', m, ⟨hno, _⟩ | ⟨n', en, g1, g2, ⟨hno, rfl, rfl⟩ | ⟨pre, s, post, hb, rfl, hW, hd'⟩⟩⟩
    · exact absurd (by omega) hno
    · have hnn : n' = n := by omega
      subst hnn
      have hf : (bestR d'.L (n' : Int)).2 = false := by
        cases hc : (bestR d'.L (n' : Int)).2 with
        | false => rfl
        | true =>
          obtain ⟨_, _, p, s, hm, hs'⟩ := hfit.1 hc
          exact absurd (by omega) (hno p s hm)
      rw [hf]
      exact ⟨fun e => absurd e (by decide), fun _ => ⟨fun _ => ⟨fun e => absurd e (by decide), fun _ => ⟨fun e => absurd e (by decide), fun _ => again X' x d' bs L (h.same r' m) hsum (by omega)⟩⟩, fun e => absurd e (by decide)⟩⟩
    · have hnn : n' = n := by omega
      subst hnn
      have hle := hb.le
      have hbd := h.hd.w.bd (by rw [hb.e]; exact walk_three.2 (.inr (.inl rfl)))
      have hS : allocS n' s ≤ s ∧ n' + 1 ≤ allocS n' s ∧ allocS n' s ≤ n' + 2 := by unfold allocS; split <;> omega
      have hf : (bestR d.L (n' : Int)).2 = true := hfit.2 ⟨by omega, by omega, 1 + sumS pre, s, by rw [hb.e]; exact walk_three.2 (.inr (.inl rfl)), by omega⟩
      rw [hf]
      refine ⟨fun e => (by simp at e), fun _ => ⟨fun e => (by simp at e), fun _ => ⟨fun _ => ?_, fun e => (by simp at e)⟩⟩⟩
      have hsz : sizeR (allocB pre n' s post) ((1 + sumS pre : Nat) : Int) = (((allocS n' s - 1 : Nat) : Int), true) := by
        unfold sizeR
        rw [(sizeAt_some hd'.w.sz).2 ⟨_, rfl, (used_alloc hb _ _).2 (.inr ⟨rfl, rfl⟩)⟩]
        dsimp only
        rw [show ((allocS n' s : Nat) : Int) - 1 = ((allocS n' s - 1 : Nat) : Int) by omega]
      refine ⟨_, c25 r' hd' _, ?_⟩
      rw [hsz]
      have hroom : (room : Int) = 140737488355328 := rfl
      refine ⟨fun e => (by cases e), fun _ => ⟨fun e => ?_, fun _ => ⟨fun e => ?_, fun _ => ⟨by omega, Int.le_refl _, ?_, by omega, fun X11 e11 X12 e12 => ?_⟩⟩⟩⟩
      · have e := of_decide_eq_true e
        dsimp only at e
        omega
      · have e := of_decide_eq_true e
        dsimp only at e
        rw [wrap64 (by omega) (by omega)] at e
        omega
      · dsimp only; omega
      · dsimp only at e11 e12
        rw [Int.toNat_natCast] at e11 e12
        obtain ⟨sl2, fin⟩ := h.push (z := ((0 : Int), none)) g1 hb r' m hW hd' e11 e12
        have hX12 : X12.at X11.n = some (.arr cH [(((1 + sumS pre : Nat) : Int), some ⟨X'.n, 0, allocS n' s - 1, allocS n' s - 1⟩)]) := by rw [e12]; exact at_add_new _ _
        refine ⟨L, [(((1 + sumS pre : Nat) : Int), some ⟨X'.n, 0, allocS n' s - 1, allocS n' s - 1⟩)], sl2.view, ?_, ?_, fun X15 s16 hx => again X15 s16 d' _ _ (fin X15 s16 hx) (by rw [(h.hd.w.alloc hb g1).2, hsum]) (by simp; omega)⟩
        · show X12.view cH (some ⟨X11.n, 0, 1, 1⟩) = _
          simp only [XH.view, arr_at.2 hX12]
          rfl
        · show (slN x + 1) * 32 ≤ 140737488355328
          rw [h.sl.len]; omega
  · refine ⟨_, pick_ok _ (n := 40) o3 (by omega), ?_⟩
    rw [w2]
    refine ⟨_, c24 h.r h.hd (n : Int) (by omega), ?_⟩
    have hfit := fits_iff h.hd (n : Int)
    refine (c15 h.r h.hd (n : Int) (by omega)).mono ?_
    rintro p X' ⟨d', r', m, ⟨hno, _⟩ | ⟨n', en, g1, g2, ⟨hno, rfl, rfl⟩ | ⟨pre, s, post, hb, rfl, hW, hd'⟩⟩⟩
    · exact absurd (by omega) hno
    · have hnn : n' = n := by omega
      subst hnn
      have hf : (bestR d'.L (n' : Int)).2 = false := by
        cases hc : (bestR d'.L (n' : Int)).2 with
        | false => rfl
        | true =>
          obtain ⟨_, _, p, s, hm, hs'⟩ := hfit.1 hc
          exact absurd (by omega) (hno p s hm)
      rw [hf]
      exact ⟨fun e => absurd e (by decide), fun _ => ⟨fun _ => ⟨fun e => absurd e (by decide), fun _ => ⟨fun e => absurd e (by decide), fun _ => again X' x d' bs L (h.same r' m) hsum (by omega)⟩⟩, fun e => absurd e (by decide)⟩⟩
    · have hnn : n' = n := by omega
      subst hnn
      have hle := hb.le
      have hbd := h.hd.w.bd (by rw [hb.e]; exact walk_three.2 (.inr (.inl rfl)))
      have hS : allocS n' s ≤ s ∧ n' + 1 ≤ allocS n' s ∧ allocS n' s ≤ n' + 2 := by unfold allocS; split <;> omega
      have hf : (bestR d.L (n' : Int)).2 = true := hfit.2 ⟨by omega, by omega, 1 + sumS pre, s, by rw [hb.e]; exact walk_three.2 (.inr (.inl rfl)), by omega⟩
      rw [hf]
      refine ⟨fun e => (by simp at e), fun _ => ⟨fun e => (by simp at e), fun _ => ⟨fun _ => ?_, fun e => (by simp at e)⟩⟩⟩
      have hsz : sizeR (allocB pre n' s post) ((1 + sumS pre : Nat) : Int) = (((allocS n' s - 1 : Nat) : Int), true) := by
        unfold sizeR
        rw [(sizeAt_some hd'.w.sz).2 ⟨_, rfl, (used_alloc hb _ _).2 (.inr ⟨rfl, rfl⟩)⟩]
        dsimp only
        rw [show ((allocS n' s : Nat) : Int) - 1 = ((allocS n' s - 1 : Nat) : Int) by omega]
      refine ⟨_, c25 r' hd' _, ?_⟩
      rw [hsz]
      have hroom : (room : Int) = 140737488355328 := rfl
      refine ⟨fun e => (by cases e), fun _ => ⟨fun e => ?_, fun _ => ⟨fun e => ?_, fun _ => ⟨by omega, Int.le_refl _, ?_, by omega, fun X11 e11 X12 e12 => ?_⟩⟩⟩⟩
      · have e := of_decide_eq_true e
        dsimp only at e
        omega
      · have e := of_decide_eq_true e
        dsimp only at e
        rw [wrap64 (by omega) (by omega)] at e
        omega
      · dsimp only; omega
      · dsimp only at e11 e12
        rw [Int.toNat_natCast] at e11 e12
        obtain ⟨sl2, fin⟩ := h.push (z := ((0 : Int), none)) g1 hb r' m hW hd' e11 e12
        have hX12 : X12.at X11.n = some (.arr cH [(((1 + sumS pre : Nat) : Int), some ⟨X'.n, 0, allocS n' s - 1, allocS n' s - 1⟩)]) := by rw [e12]; exact at_add_new _ _
        refine ⟨L, [(((1 + sumS pre : Nat) : Int), some ⟨X'.n, 0, allocS n' s - 1, allocS n' s - 1⟩)], sl2.view, ?_, ?_, fun X15 s16 hx => again X15 s16 d' _ _ (fin X15 s16 hx) (by rw [(h.hd.w.alloc hb g1).2, hsum]) (by simp; omega)⟩
        · show X12.view cH (some ⟨X11.n, 0, 1, 1⟩) = _
          simp only [XH.view, arr_at.2 hX12]
          rfl
        · show (slN x + 1) * 32 ≤ 140737488355328
          rw [h.sl.len]; omega
  · refine ⟨fun e => ?_, fun _ => again X x d bs L h hsum (by omega)⟩
    have e := of_decide_eq_true e
    have hxl := h.sl.len
    rw [hxl] at e ⊢
    have hpl := pickR_lt (script.getD i (0, (0, (0, (0, false))))).2.1 (n := L.length) (by omega)
    obtain ⟨k, hk⟩ : ∃ k, k = pickR (script.getD i (0, (0, (0, (0, false))))).2.1 L.length := ⟨_, rfl⟩
    refine ⟨_, pick_ok _ (n := L.length) o2 (by omega), ?_⟩
    rw [← hk]
    have hkl : k < L.length := by omega
    obtain ⟨sx, rfl, hsl, _⟩ := h.get hkl
    have hel := h.sl.el hkl
    obtain ⟨p, s, hh, he, hm, hat, hn1, hn2⟩ := h.bod.ent L[k] (List.getElem_mem hkl)
    obtain ⟨b1, b2, b3⟩ := h.hd.w.bd hm

    refine ⟨sx, rfl, by omega, by omega, L[k], by rw [Int.toNat_natCast]; exact hel, ?_⟩
    obtain ⟨pre, post, hbs, hp⟩ := walk_split hm
    have hL : L[k].1 = ((1 + sumS pre : Nat) : Int) := by rw [he, hp]
    refine (c16 h.r h.hd _).mono ?_
    rintro p31 X32 hF
    obtain ⟨d', r', m, rfl, hW, hd'⟩ := hF.ok h.hd hbs hL
    obtain ⟨sl1, fin⟩ := h.drop hbs hkl hL m r' hW hd'
    have hel1 := sl1.el hkl
    refine ⟨fun e => absurd e (by decide), fun _ => ⟨sx, rfl, by omega, by omega, L[k], by rw [Int.toNat_natCast]; exact hel1, ?_⟩⟩
    refine (c16 r' hd' _).mono ?_
    rintro p35 X36 ⟨d2, r2, m2, ⟨_, rfl, rfl⟩ | ⟨pre2, s2, post2, e2, ea, _⟩⟩
    rotate_left
    · exfalso
      have hz := h.hd.w.sz
      rw [hbs] at hz
      have := (used_free hz (1 + sumS pre2) s2).1 (by rw [e2]; exact walk_three.2 (.inr (.inl rfl)))
      have := this.2
      omega
    obtain ⟨sl2, fin⟩ := fin X36 r2 m2
    have hle := h.sl.le
    rw [hxl] at hle
    have hc1 := sl2.cut (p := 0) (q := k) (m := sx.cap) (by omega) (by simp only [slC] at hle; omega) (Nat.le_refl _) (by omega)
    rw [List.drop_zero] at hc1
    have hw1 : IntKind.wrap .i64 ((k : Int) + 1) = ((k + 1 : Nat) : Int) := by rw [wrap64 (by omega) (by omega)]; omega
    rw [hw1]
    refine ⟨fun e => absurd e (by decide), fun _ => ⟨by omega, by omega, by omega, by omega, [], L.take k, rfl, ?_, ?_, fun X39 s40 hx1 => ?_⟩⟩
    · rw [Int.toNat_natCast]; exact hc1.view
    · show (0 + (L.take k).length) * 32 ≤ 140737488355328
      rw [List.length_take]; omega
    obtain ⟨sl3, m3⟩ := hx1.spec (show SlAt X36 cH none [] from rfl)
    rw [List.nil_append] at sl3
    have hl3 := sl3.len
    have sl39 : SlAt X39 cH (some sx) L := sl2.keep fun j hj => m3.keep j (sl2.lt j hj) (by simp [hl])
    have hc2 := sl39.cut (p := k + 1) (q := L.length) (m := sx.cap) (by omega) (by simp only [slC] at hle; omega) (Nat.le_refl _) (by omega)
    rw [List.take_length] at hc2
    refine ⟨L.take k, L.drop (k + 1), sl3.view, ?_, ?_, fun X43 s44 hx2 => ?_⟩
    · rw [Int.toNat_natCast]; exact hc2.view
    · show (slN s40 + (L.drop (k + 1)).length) * 32 ≤ 140737488355328
      rw [hl3, List.length_take, List.length_drop]; omega
    obtain ⟨sl4, m4⟩ := hx2.spec sl3
    exact again X43 s44 _ _ _ (fin X43 s44 sl4 (m3.trans m4)) (by rw [freeB_sum, ← hbs, hsum]) (by rw [List.length_append, List.length_take, List.length_drop]; omega)
  · refine ⟨fun e => ?_, fun _ => again X x d bs L h hsum (by omega)⟩
    have e := of_decide_eq_true e
    have hxl := h.sl.len
    rw [hxl] at e ⊢
    have hpl := pickR_lt (script.getD i (0, (0, (0, (0, false))))).2.1 (n := L.length) (by omega)
    obtain ⟨k, hk⟩ : ∃ k, k = pickR (script.getD i (0, (0, (0, (0, false))))).2.1 L.length := ⟨_, rfl⟩
    refine ⟨_, pick_ok _ (n := L.length) o2 (by omega), ?_⟩
    rw [← hk]
    have hkl : k < L.length := by omega
    obtain ⟨sx, rfl, hsl, _⟩ := h.get hkl
    have hel := h.sl.el hkl
    obtain ⟨p, s, hh, he, hm, hat, hn1, hn2⟩ := h.bod.ent L[k] (List.getElem_mem hkl)
    obtain ⟨b1, b2, b3⟩ := h.hd.w.bd hm

    refine ⟨sx, rfl, by omega, by omega, ((p : Int), some ⟨hh, 0, s - 1, s - 1⟩), by rw [Int.toNat_natCast, ← he]; exact hel, fun X50 e50 => ?_⟩
    have hlt := at_lt hat
    have hb50 : Box X50 cH X.n (((0 : Int), none) : HE) := by rw [e50]; exact at_add_new _ _
    refine ⟨_, hb50.el, fun X52 e52 => ?_⟩
    have e52 : X52 = X50.set X.n (.arr cH [((p : Int), some ⟨hh, 0, s - 1, s - 1⟩)]) := e52.trans hb50.setEl
    have hb52 : Box X52 cH X.n (((p : Int), some ⟨hh, 0, s - 1, s - 1⟩) : HE) := by rw [e52]; exact hb50.set
    have old52 : ∀ q, q < X.n → X52.at q = X.at q := fun q hq => by rw [e52, at_set_ne (by omega), e50, at_add_old hq]
    have hat52 : X52.at hh = some (.arr cI (bodyW d.W p s)) := (old52 hh hlt).trans hat
    have hn52 : X.n ≤ X52.n := by rw [e52, e50]; exact Nat.le_succ _
    have hbl := bodyW_len (W := d.W) b3 (by omega)
    have hql := pickR_lt (script.getD i (0, (0, (0, (0, false))))).2.2.1 (n := s - 1) (by omega)
    obtain ⟨kk, hkk⟩ : ∃ kk, kk = pickR (script.getD i (0, (0, (0, (0, false))))).2.2.1 (s - 1) := ⟨_, rfl⟩
    refine ⟨_, hb52.el, _, pick_ok (script.getD i (0, (0, (0, (0, false))))).2.2.1 (n := s - 1) o3 (by omega), _, hb52.el, ⟨hh, 0, s - 1, s - 1⟩, rfl, ?_⟩
    rw [← hkk]
    refine ⟨by omega, by show (kk : Int) < ((s - 1 : Nat) : Int); omega, (bodyW d.W p s).getD kk 0, ?_, fun X58 e58 => ?_⟩
    · show X52.el cI hh (0 + ((kk : Nat) : Int).toNat) = _
      rw [Nat.zero_add, Int.toNat_natCast]
      exact at_arr_el hat52 (by omega)
    have e58 : X58 = X52.setEl cI hh (0 + ((kk : Nat) : Int).toNat) (script.getD i (0, (0, (0, (0, false))))).2.2.2.1 := e58
    rw [Nat.zero_add, Int.toNat_natCast, at_arr_setEl hat52] at e58
    obtain ⟨r58, fin⟩ := h.write hkl he hm hn1 hn2 hlt (k := kk) (by omega) (script.getD i (0, (0, (0, (0, false))))).2.2.2.1 (X58 := X58) (fun q hq hne => by rw [e58, at_set_ne hne, old52 q hq]) (by rw [e58]; exact at_set_self hat52) (by rw [e58]; exact hn52)
    have hb58 : Box X58 cH X.n (((p : Int), some ⟨hh, 0, s - 1, s - 1⟩) : HE) := hb52.keep (by rw [e58]; exact at_set_ne (by omega))
    refine ⟨_, hb58.el, ?_⟩
    have hpl2 : placeR bs (p : Int) (kk : Int) = (((p + 1 + kk : Nat) : Int), 0) := by
      unfold placeR
      rw [(sizeAt_some h.hd.w.sz).2 ⟨p, rfl, hm⟩]
      dsimp only
      rw [if_neg (by omega), if_neg (by omega)]
      congr 1
    refine (c26 r58 h.hd (p : Int) (kk : Int) (script.getD i (0, (0, (0, (0, false))))).2.2.2.1).mono ?_
    rintro p60 X61 ⟨hp60, d', r', m, hdd, hdok⟩
    rw [hpl2] at hp60
    have hp60 : p60 = ((0 : Int)) := hp60
    rw [hp60]
    have hWW : writeW d.W bs (p : Int) (kk : Int) (script.getD i (0, (0, (0, (0, false))))).2.2.2.1 = d.W.set (p + 1 + kk) (script.getD i (0, (0, (0, (0, false))))).2.2.2.1 := by unfold writeW; rw [hpl2, if_pos rfl, Int.toNat_natCast]
    exact ⟨fun e => absurd e (by decide), fun _ => again X61 (some sx) d' bs L (fin X61 d' r' m (by rw [hdd, hWW]) hdok) hsum (by omega)⟩
  · exact again X x d bs L h hsum (by omega)

theorem law_ArenaKeeps (words : Int) (script : List OP) (f0 : Cd.wf (.int .i64) words) (f1 : Cd.wf (.slice cOP) script) : PC Try.prog 7 [.int .i64 words, .list cOP script .no] (.bool true) :=
  p7 words script f0 (script_ok f1) f1.1

end Go.Proofs.Ytefpoodhdfggdaa.AB

