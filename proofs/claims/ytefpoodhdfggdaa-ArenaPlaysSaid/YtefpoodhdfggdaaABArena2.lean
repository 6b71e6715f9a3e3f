/- Parts of the proof: what functions of the program compute, on plain values. -/
import Derived.Test.YtefpoodhdfggdaaABArena1
import Derived.Test.YtefpoodhdfggdaaProg
import Derived.KernelRfl
import Derived.Test.YtefpoodhdfggdaaABx4
import Derived.Maps.OwnSet
set_option linter.unusedVariables false
set_option linter.unusedSimpArgs false
set_option maxRecDepth 100000
set_option maxHeartbeats 2000000
namespace Go.Proofs.Ytefpoodhdfggdaa.AB
open Go
/-! (*crucible/arena.Arena).Write -/
noncomputable def X26 : Cx := ⟨tt, [], [(60, [(.pure (.int .i64)), (.pure (.int .i64))])], [(26, [(1, 3, .rd)])], [], []⟩
theorem FN26 : fnsB Try.prog X26.fns := (show True from trivial)
theorem E26 (X : XH) (a0 : Nat) (at1 : Int) (i2 : Int) (v3 : Int) {R : (Int) → XH → Prop} (h : (∃ (p1 : Int × Int), RC Try.prog 60 [(.pure (.int .i64)), (.pure (.int .i64))] [(.ref (some a0) carena_Arena 0 []), (.v (.int .i64 at1)), (.v (.int .i64 i2))] X p1 ∧ (((p1.2 == (0 : Int)) = true → (∃ (a2 : ((Option SlH) × ((Nat → (Option SlH)) × ((Option Nat) × ((Option Nat) × Int))))), XH.el X carena_Arena a0 0 = some a2 ∧ (∃ (u3 : SlH), a2.1 = some u3 ∧ 0 ≤ p1.1 ∧ p1.1 < ((u3.len : Nat) : Int) ∧ (∃ (a4 : Int), XH.el X (.pure (.int .i64)) u3.h ((u3.off + (p1.1).toNat)) = some a4 ∧ (∀ (X5 : XH), X5 = (XH.setEl X (.pure (.int .i64)) u3.h ((u3.off + (p1.1).toNat)) v3) → R p1.2 X5))))) ∧
 ((p1.2 == (0 : Int)) = false → R p1.2 X)))) :
  fnK X26.tt (callN Try.prog X26 0) (X26.md 26) (X26.mk1 26) Try.f26 [(.ref (some a0) carena_Arena 0 []), (.v (.int .i64 at1)), (.v (.int .i64 i2)), (.v (.int .i64 v3))] ⟨[], [some (.heap X)], ⟨0, []⟩⟩ (xfin [(.pure (.int .i64))] R) := Eq.mp (by kernel_rfl) h
end Go.Proofs.Ytefpoodhdfggdaa.AB

set_option linter.unusedVariables false
set_option linter.unusedSimpArgs false
set_option maxRecDepth 100000
set_option maxHeartbeats 2000000
namespace Go.Proofs.Ytefpoodhdfggdaa.AB
open Go
/-! (*crucible/arena.Arena).Size -/
noncomputable def X25 : Cx := ⟨tt, [], [], [], [], []⟩
theorem FN25 : fnsB Try.prog X25.fns := (show True from trivial)
theorem E25 (X : XH) (a0 : Nat) (at1 : Int) {R : (Int × Bool) → XH → Prop} (h : (∃ (a1 : ((Option SlH) × ((Nat → (Option SlH)) × ((Option Nat) × ((Option Nat) × Int))))), XH.el X carena_Arena a0 0 = some a1 ∧ (∃ (es2 : List (Int × Int)), XH.vmp X (.int .i64) (.pure (.int .i64)) a1.2.2.2.1 = some es2 ∧ (∀ (v3 : Int), mfind (Cd.keq (.int .i64) at1) es2 = some v3 → R ((if (0 : Int) > (IntKind.wrap .i64 (v3 - (1 : Int))) then (0 : Int) else (IntKind.wrap .i64 (v3 - (1 : Int)))), true) X) ∧ (mfind (Cd.keq (.int .i64) at1) es2 = none → R ((if (0 : Int) > (IntKind.wrap .i64 ((0 : Int) - (1 : Int))) then (0 : Int) else (IntKind.wrap .i64 ((0 : Int) - (1 : Int)))), false) X)))) :
  fnK X25.tt (callN Try.prog X25 0) (X25.md 25) (X25.mk1 25) Try.f25 [(.ref (some a0) carena_Arena 0 []), (.v (.int .i64 at1))] ⟨[], [some (.heap X)], ⟨0, []⟩⟩ (xfin [(.pure (.int .i64)), (.pure .bool)] R) := Eq.mp (by kernel_rfl) h
end Go.Proofs.Ytefpoodhdfggdaa.AB

set_option linter.unusedVariables false
set_option linter.unusedSimpArgs false
set_option maxRecDepth 100000
set_option maxHeartbeats 2000000
namespace Go.Proofs.Ytefpoodhdfggdaa.AB
open Go
/-! (*crucible/arena.Arena).Words -/
noncomputable def X17 : Cx := ⟨tt, [], [], [], [], []⟩
theorem FN17 : fnsB Try.prog X17.fns := (show True from trivial)
theorem E17 (X : XH) (a0 : Nat) {R : (Int × Int) → XH → Prop} (h : (∃ (a1 : ((Option SlH) × ((Nat → (Option SlH)) × ((Option Nat) × ((Option Nat) × Int))))), XH.el X carena_Arena a0 0 = some a1 ∧ (∃ (a2 : ((Option SlH) × ((Nat → (Option SlH)) × ((Option Nat) × ((Option Nat) × Int))))), XH.el X carena_Arena a0 0 = some a2 ∧ (∃ (a3 : ((Option SlH) × ((Nat → (Option SlH)) × ((Option Nat) × ((Option Nat) × Int))))), XH.el X carena_Arena a0 0 = some a3 ∧ R (a1.2.2.2.2, (IntKind.wrap .i64 ((IntKind.wrap .i64 ((((slN a2.1) : Nat) : Int) - (1 : Int))) - a3.2.2.2.2))) X)))) :
  fnK X17.tt (callN Try.prog X17 0) (X17.md 17) (X17.mk1 17) Try.f17 [(.ref (some a0) carena_Arena 0 [])] ⟨[], [some (.heap X)], ⟨0, []⟩⟩ (xfin [(.pure (.int .i64)), (.pure (.int .i64))] R) := Eq.mp (by kernel_rfl) h
end Go.Proofs.Ytefpoodhdfggdaa.AB

set_option linter.unusedVariables false
set_option linter.unusedSimpArgs false
set_option maxRecDepth 100000
set_option maxHeartbeats 2000000
namespace Go.Proofs.Ytefpoodhdfggdaa.AB
open Go
/-! (*crucible/arena.Arena).Raw -/
noncomputable def X18 : Cx := ⟨tt, [], [], [], [], []⟩
theorem FN18 : fnsB Try.prog X18.fns := (show True from trivial)
theorem E18 (X : XH) (a0 : Nat) (i1 : Int) {R : (Int × Bool) → XH → Prop} (h : (((decide (i1 < (0 : Int))) = true → R ((0 : Int), false) X) ∧ ((decide (i1 < (0 : Int))) = false → (∃ (a1 : ((Option SlH) × ((Nat → (Option SlH)) × ((Option Nat) × ((Option Nat) × Int))))), XH.el X carena_Arena a0 0 = some a1 ∧ (((decide (i1 ≥ (((slN a1.1) : Nat) : Int))) = true → R ((0 : Int), false) X) ∧
 ((decide (i1 ≥ (((slN a1.1) : Nat) : Int))) = false → (∃ (a2 : ((Option SlH) × ((Nat → (Option SlH)) × ((Option Nat) × ((Option Nat) × Int))))), XH.el X carena_Arena a0 0 = some a2 ∧ (∃ (u3 : SlH), a2.1 = some u3 ∧ 0 ≤ i1 ∧ i1 < ((u3.len : Nat) : Int) ∧ (∃ (a4 : Int), XH.el X (.pure (.int .i64)) u3.h ((u3.off + (i1).toNat)) = some a4 ∧ R (a4, true) X))))))))) :
  fnK X18.tt (callN Try.prog X18 0) (X18.md 18) (X18.mk1 18) Try.f18 [(.ref (some a0) carena_Arena 0 []), (.v (.int .i64 i1))] ⟨[], [some (.heap X)], ⟨0, []⟩⟩ (xfin [(.pure (.int .i64)), (.pure .bool)] R) := Eq.mp (by kernel_rfl) h
end Go.Proofs.Ytefpoodhdfggdaa.AB

set_option linter.unusedVariables false
set_option linter.unusedSimpArgs false
set_option maxRecDepth 100000
set_option maxHeartbeats 2000000
namespace Go.Proofs.Ytefpoodhdfggdaa.AB
open Go
/-! (*crucible/arena.Arena).Fits -/
noncomputable def X24 : Cx := ⟨tt, [], [(48, [(.pure (.pair (.int .i64) (.int .i64))), (.pure .bool)])], [(24, [(1, 2, .rd)])], [], []⟩
theorem FN24 : fnsB Try.prog X24.fns := (show True from trivial)
theorem E24 (X : XH) (a0 : Nat) (n1 : Int) {R : (Bool) → XH → Prop} (h : (∃ (p1 : (Int × Int) × Bool), RC Try.prog 48 [(.pure (.pair (.int .i64) (.int .i64))), (.pure .bool)] [(.ref (some a0) carena_Arena 0 []), (.v (.int .i64 n1))] X p1 ∧ R p1.2 X)) :
  fnK X24.tt (callN Try.prog X24 0) (X24.md 24) (X24.mk1 24) Try.f24 [(.ref (some a0) carena_Arena 0 []), (.v (.int .i64 n1))] ⟨[], [some (.heap X)], ⟨0, []⟩⟩ (xfin [(.pure .bool)] R) := Eq.mp (by kernel_rfl) h
end Go.Proofs.Ytefpoodhdfggdaa.AB

set_option linter.unusedVariables false
set_option linter.unusedSimpArgs false
namespace Go.Proofs.Ytefpoodhdfggdaa.AB
open Go

variable {X X' : XH} {t : Nat} {d : AD}

/-- how long a used block is -/
def sizeAt (bs : List Bl) (a : Int) : Option Nat :=
  match (walk 1 bs).find? fun x => decide ((x.1 : Int) = a) && x.2.2 with
  | some x => some x.2.1
  | none => none

theorem sizeAt_some {bs : List Bl} (hz : sz2 bs) {a : Int} {s : Nat} : sizeAt bs a = some s ↔ ∃ p : Nat, a = (p : Int) ∧ (p, s, true) ∈ walk 1 bs := by
  unfold sizeAt
  cases hf : (walk 1 bs).find? (fun x => decide ((x.1 : Int) = a) && x.2.2) with
  | none =>
    constructor
    · intro h; cases h
    · rintro ⟨p, rfl, hm⟩
      have := List.find?_eq_none.1 hf _ hm
      simp at this
  | some x =>
    obtain ⟨q, s', u⟩ := x
    have h1 := List.find?_some hf
    have h2 := List.mem_of_find?_eq_some hf
    simp only [Bool.and_eq_true, decide_eq_true_eq] at h1
    obtain ⟨rfl, h1⟩ := h1
    subst h1
    constructor
    · intro h
      cases h
      exact ⟨q, rfl, h2⟩
    · rintro ⟨p, e, hm⟩
      have : q = p := by omega
      subst this
      rw [(walk_inj hz h2 hm).1]

theorem sizeAt_none {bs : List Bl} (hz : sz2 bs) {a : Int} : sizeAt bs a = none ↔ ∀ p s : Nat, (p, s, true) ∈ walk 1 bs → a ≠ (p : Int) := by
  constructor
  · intro h p s hm e
    rw [(sizeAt_some hz).2 ⟨p, e, hm⟩] at h; cases h
  · intro h
    cases hs : sizeAt bs a with
    | none => rfl
    | some s =>
      obtain ⟨p, e, hm⟩ := (sizeAt_some hz).1 hs
      exact absurd e (h p s hm)

theorem DOK.find {bs : List Bl} (hd : DOK d bs) (a : Int) : mfind (eqI a) d.T = (sizeAt bs a).map fun s => (s : Int) := by
  cases hs : sizeAt bs a with
  | some s =>
    obtain ⟨p, rfl, hm⟩ := (sizeAt_some hd.w.sz).1 hs
    exact (mfind_iff hd.nd).2 ((hd.t _ _).2 ⟨p, s, rfl, rfl, hm⟩)
  | none =>
    have := (sizeAt_none hd.w.sz).1 hs
    refine (mfind_none_iff hd.nd).2 fun v hv => ?_
    obtain ⟨p, s, e, _, hm⟩ := (hd.t _ _).1 hv
    exact this p s hm e

theorem sizeAt_bd {bs : List Bl} {W : List Int} (h : WOK W bs) {a : Int} {s : Nat} (hs : sizeAt bs a = some s) : ∃ p : Nat, a = (p : Int) ∧ (p, s, true) ∈ walk 1 bs ∧ 1 ≤ p ∧ 2 ≤ s ∧ p + s ≤ W.length := by
  obtain ⟨p, e, hm⟩ := (sizeAt_some h.sz).1 hs
  exact ⟨p, e, hm, h.bd hm⟩

/-- the place of a word -/
def placeR (bs : List Bl) (a i : Int) : Int × Int :=
  match sizeAt bs a with
  | none => (0, 24)
  | some s => if i < 0 then (0, 1) else if i ≥ (s : Int) - 1 then (0, 1) else (a + 1 + i, 0)

theorem place_ok {bs : List Bl} {W : List Int} (h : WOK W bs) (a i : Int) : (placeR bs a i = (0, 24) ∨ placeR bs a i = (0, 1)) ∨ ∃ (p s j : Nat), a = (p : Int) ∧ i = (j : Int) ∧ (p, s, true) ∈ walk 1 bs ∧ j + 1 < s ∧ placeR bs a i = (((p + 1 + j : Nat) : Int), 0) ∧ p + s ≤ W.length ∧ 1 ≤ p := by
  unfold placeR
  cases hs : sizeAt bs a with
  | none => exact .inl (.inl rfl)
  | some s =>
    obtain ⟨p, rfl, hm, h1, h2, h3⟩ := sizeAt_bd h hs
    dsimp only
    split
    · exact .inl (.inr rfl)
    · split
      · exact .inl (.inr rfl)
      · obtain ⟨j, rfl⟩ : ∃ j : Nat, i = j := ⟨i.toNat, by omega⟩
        exact .inr ⟨p, s, j, rfl, rfl, hm, by omega, Prod.ext (by simp only; omega) rfl, h3, h1⟩

/-- place -/
theorem c60 (h : Rep X t d) {bs : List Bl} (hd : DOK d bs) (a i : Int) : RC Try.prog 60 [.pure (.int .i64), .pure (.int .i64)] [.ref (some t) cA 0 [], .v (.int .i64 a), .v (.int .i64 i)] X (placeR bs a i) := by
  have hf := hd.find a
  have hwle := hd.w.le
  refine xcOf (X := X60) rfl FN60 (by kernel_rfl) (by decide) (E60 X t a i ⟨d.val, h.el, d.T, mp_at.2 h.tk, fun v hv => ⟨fun e => (by cases e), fun _ => ?_⟩, fun hv => ⟨fun _ => ?_, fun e => by cases e⟩⟩)
  · have hv : mfind (eqI a) d.T = some v := hv
    rw [hf] at hv
    cases hs : sizeAt bs a with
    | none => rw [hs] at hv; cases hv
    | some s =>
      rw [hs] at hv
      have hv : (s : Int) = v := Option.some.inj hv
      subst hv
      obtain ⟨p, rfl, hm, h1, h2, h3⟩ := sizeAt_bd hd.w hs
      have w1 : IntKind.wrap .i64 ((s : Int) - 1) = (s : Int) - 1 := wrap64 (by omega) (by omega)
      rw [w1]
      have e : placeR bs (p : Int) i = if i < 0 then (0, 1) else if i ≥ (s : Int) - 1 then (0, 1) else ((p : Int) + 1 + i, 0) := by unfold placeR; rw [hs]
      refine ⟨fun q => ?_, fun q => ⟨fun q2 => ?_, fun q2 => ?_⟩⟩
      · have e' : placeR bs (p : Int) i = (0, 1) := by rw [e, if_pos (of_decide_eq_true q)]
        exact ⟨e'.symm, rfl⟩
      · have e' : placeR bs (p : Int) i = (0, 1) := by rw [e, if_neg (of_decide_eq_false q), if_pos (of_decide_eq_true q2)]
        exact ⟨e'.symm, rfl⟩
      · have q := of_decide_eq_false q
        have q2 := of_decide_eq_false q2
        have e' : placeR bs (p : Int) i = ((p : Int) + 1 + i, 0) := by rw [e, if_neg q, if_neg q2]
        rw [wrap64 (x := (p : Int) + 1) (by omega) (by omega), wrap64 (by omega) (by omega)]
        exact ⟨e'.symm, rfl⟩
  · have hv : mfind (eqI a) d.T = none := hv
    rw [hf] at hv
    have hs : sizeAt bs a = none := by
      cases hs : sizeAt bs a with
      | none => rfl
      | some s => rw [hs] at hv; cases hv
    have e : placeR bs a i = (0, 24) := by unfold placeR; rw [hs]
    exact ⟨e.symm, rfl⟩

/-- what Read answers -/
def readR (W : List Int) (bs : List Bl) (a i : Int) : Int × Int := (W.getD (placeR bs a i).1.toNat 0, (placeR bs a i).2)

theorem c45 (h : Rep X t d) {bs : List Bl} (hd : DOK d bs) (a i : Int) : RC Try.prog 45 [.pure (.int .i64), .pure (.int .i64)] [.ref (some t) cA 0 [], .v (.int .i64 a), .v (.int .i64 i)] X (readR d.W bs a i) := by
  have hp : 0 ≤ (placeR bs a i).1 ∧ (placeR bs a i).1 < (d.W.length : Int) := by
    have h0 : 0 < d.W.length := by rw [hd.w.len]; omega
    rcases place_ok hd.w a i with (e | e) | ⟨p, s, j, rfl, rfl, hm, h1, e, h2, h3⟩
    · rw [e]; simp only; omega
    · rw [e]; simp only; omega
    · rw [e]; simp only; omega
  refine xcOf (X := X45) rfl FN45 (by kernel_rfl) (by decide) (E45 X t a i ⟨_, c60 h hd a i, d.val, h.el, ⟨d.hw, 0, d.W.length, d.W.length⟩, rfl, hp.1, hp.2, _, ?_, rfl, rfl⟩)
  rw [Nat.zero_add]
  exact at_arr_el h.w (by omega)

/-- what Write comes to -/
def writeW (W : List Int) (bs : List Bl) (a i v : Int) : List Int := if (placeR bs a i).2 = 0 then W.set (placeR bs a i).1.toNat v else W

theorem c26 (h : Rep X t d) {bs : List Bl} (hd : DOK d bs) (a i v : Int) : XC Try.prog 26 [.pure (.int .i64)] [.ref (some t) cA 0 [], .v (.int .i64 a), .v (.int .i64 i), .v (.int .i64 v)] X
    fun p X' => p = (placeR bs a i).2 ∧ ∃ d', Rep X' t d' ∧ Mv X (d.hs t) X' (d'.hs t) ∧ d' = { d with W := writeW d.W bs a i v } ∧ DOK d' bs := by
  refine xcOf (X := X26) rfl FN26 (by kernel_rfl) (by decide) (E26 X t a i v ⟨_, c60 h hd a i, fun e => ?_, fun e => ?_⟩)
  · have e : (placeR bs a i).2 = 0 := by simpa using e
    rcases place_ok hd.w a i with (e1 | e1) | ⟨p, s, j, rfl, rfl, hm, h1, e1, h2, h3⟩
    · rw [e1] at e; cases e
    · rw [e1] at e; cases e
    have hp : (placeR bs (p : Int) (j : Int)).1 = ((p + 1 + j : Nat) : Int) := by rw [e1]
    rw [hp]
    refine ⟨d.val, h.el, ⟨d.hw, 0, d.W.length, d.W.length⟩, rfl, by omega, by show ((p + 1 + j : Nat) : Int) < ((d.W.length : Nat) : Int); omega, d.W.getD (p + 1 + j) 0, ?_, fun X5 e5 => ?_⟩
    · rw [Nat.zero_add, Int.toNat_natCast]; exact at_arr_el h.w (by omega)
    rw [Nat.zero_add, Int.toNat_natCast] at e5
    have e5 := e5.trans (at_arr_setEl h.w _ v)
    obtain ⟨h5, m5⟩ := h.setW (W' := d.W.set (p + 1 + j) v) (by simp)
    rw [← e5] at h5 m5
    have hW : writeW d.W bs (p : Int) (j : Int) v = d.W.set (p + 1 + j) v := by unfold writeW; rw [if_pos e, hp, Int.toNat_natCast]
    refine ⟨rfl, _, h5, m5, by rw [hW], ⟨?_, hd.ix, hd.nd, hd.t, hd.n⟩⟩
    -- the words still tell of the blocks
    have hz := hd.w.sz
    refine ⟨by show (d.W.set (p + 1 + j) v).length = _; rw [List.length_set]; exact hd.w.len, by show (d.W.set (p + 1 + j) v).length ≤ _; rw [List.length_set]; exact hd.w.le, ?_, hz, hd.w.ap, fun q s' u hq => ?_, fun q s' hq k h4 h5 => ?_⟩
    · show (d.W.set (p + 1 + j) v)[0]? = _
      rw [List.getElem?_set_ne (by omega)]; exact hd.w.z
    · show (d.W.set (p + 1 + j) v)[q]? = _
      rw [List.getElem?_set_ne]
      · exact hd.w.h q s' u hq
      · rintro rfl
        obtain ⟨pre, post, hbs, hpe⟩ := walk_split hm
        rw [hbs] at hq hz
        obtain ⟨z1, z2⟩ := sz2_app.1 hz
        obtain ⟨z2, z3⟩ := sz2_cons.1 z2
        rcases walk_three.1 hq with g | g | g
        · have := walk_bd z1 g; omega
        · have g1 := congrArg Prod.fst g
          simp only at g1
          omega
        · have := walk_bd z3 g
          simp only at this; omega
    · show (d.W.set (p + 1 + j) v)[k]? = _
      rw [List.getElem?_set_ne]
      · exact hd.w.f q s' hq k h4 h5
      · rintro rfl
        obtain ⟨pre, post, hbs, hpe⟩ := walk_split hm
        rw [hbs] at hq hz
        obtain ⟨z1, z2⟩ := sz2_app.1 hz
        obtain ⟨z2, z3⟩ := sz2_cons.1 z2
        rcases walk_three.1 hq with g | g | g
        · have := walk_bd z1 g; omega
        · cases g
        · have := walk_bd z3 g
          simp only at this; omega
  · have e : (placeR bs a i).2 ≠ 0 := by simpa using e
    have hW : writeW d.W bs a i v = d.W := by unfold writeW; rw [if_neg e]
    exact ⟨rfl, d, h, .refl _ _, by rw [hW], hd⟩

/-- what Size answers -/
def sizeR (bs : List Bl) (a : Int) : Int × Bool :=
  match sizeAt bs a with
  | some s => ((s : Int) - 1, true)
  | none => (0, false)

theorem c25 (h : Rep X t d) {bs : List Bl} (hd : DOK d bs) (a : Int) : RC Try.prog 25 [.pure (.int .i64), .pure .bool] [.ref (some t) cA 0 [], .v (.int .i64 a)] X (sizeR bs a) := by
  have hf := hd.find a
  have hwle := hd.w.le
  refine xcOf (X := X25) rfl FN25 (by kernel_rfl) (by decide) (E25 X t a ⟨d.val, h.el, d.T, mp_at.2 h.tk, fun v hv => ?_, fun hv => ?_⟩)
  · have hv : mfind (eqI a) d.T = some v := hv
    rw [hf] at hv
    cases hs : sizeAt bs a with
    | none => rw [hs] at hv; cases hv
    | some s =>
      rw [hs] at hv
      have hv : (s : Int) = v := Option.some.inj hv
      subst hv
      obtain ⟨p, rfl, hm, h1, h2, h3⟩ := sizeAt_bd hd.w hs
      have w1 : IntKind.wrap .i64 ((s : Int) - 1) = (s : Int) - 1 := wrap64 (by omega) (by omega)
      have e : sizeR bs (p : Int) = ((s : Int) - 1, true) := by unfold sizeR; rw [hs]
      have e' : ((if (0 : Int) > IntKind.wrap .i64 ((s : Int) - 1) then (0 : Int) else IntKind.wrap .i64 ((s : Int) - 1)), true) = sizeR bs (p : Int) := by rw [w1, e, if_neg (by omega)]
      exact ⟨e', rfl⟩
  · have hv : mfind (eqI a) d.T = none := hv
    rw [hf] at hv
    have hs : sizeAt bs a = none := by
      cases hs : sizeAt bs a with
      | none => rfl
      | some s => rw [hs] at hv; cases hv
    have e : sizeR bs a = (0, false) := by unfold sizeR; rw [hs]
    have : ((if (0 : Int) > IntKind.wrap .i64 (0 - 1) then (0 : Int) else IntKind.wrap .i64 (0 - 1)), false) = sizeR bs a := by rw [e]; decide
    exact ⟨this, rfl⟩

/-- Words -/
theorem c17 (h : Rep X t d) {bs : List Bl} (hd : DOK d bs) : RC Try.prog 17 [.pure (.int .i64), .pure (.int .i64)] [.ref (some t) cA 0 []] X (((usedSum bs : Nat) : Int), (sumS bs : Int) - ((usedSum bs : Nat) : Int)) := by
  have := usedSum_le bs
  have := hd.w.le
  have hlen := hd.w.len
  refine xcOf (X := X17) rfl FN17 (by kernel_rfl) (by decide) (E17 X t ⟨_, h.el, _, h.el, _, h.el, ?_, rfl⟩)
  have e1 : slN d.val.1 = d.W.length := rfl
  have e2 : d.val.2.2.2.2 = d.n := rfl
  rw [e1, e2, hd.n, wrap64 (x := ((d.W.length : Nat) : Int) - 1) (by omega) (by omega), wrap64 (by omega) (by omega), hlen]
  show (((usedSum bs : Nat) : Int), ((1 + sumS bs : Nat) : Int) - 1 - ((usedSum bs : Nat) : Int)) = (((usedSum bs : Nat) : Int), (sumS bs : Int) - ((usedSum bs : Nat) : Int))
  congr 1; omega

/-- what Raw answers -/
def rawR (W : List Int) (i : Int) : Int × Bool := if i < 0 then (0, false) else if i ≥ (W.length : Int) then (0, false) else (W.getD i.toNat 0, true)

theorem c18 (h : Rep X t d) (i : Int) : RC Try.prog 18 [.pure (.int .i64), .pure .bool] [.ref (some t) cA 0 [], .v (.int .i64 i)] X (rawR d.W i) := by
  refine xcOf (X := X18) rfl FN18 (by kernel_rfl) (by decide) (E18 X t i ⟨fun e => ?_, fun e => ⟨d.val, h.el, fun e2 => ?_, fun e2 => ?_⟩⟩)
  · have e' : rawR d.W i = (0, false) := by unfold rawR; rw [if_pos (of_decide_eq_true e)]
    exact ⟨e'.symm, rfl⟩
  · have e2 : i ≥ (d.W.length : Int) := of_decide_eq_true e2
    have e' : rawR d.W i = (0, false) := by unfold rawR; rw [if_neg (of_decide_eq_false e), if_pos e2]
    exact ⟨e'.symm, rfl⟩
  · have e := of_decide_eq_false e
    have e2 : ¬ i ≥ (d.W.length : Int) := of_decide_eq_false e2
    refine ⟨d.val, h.el, ⟨d.hw, 0, d.W.length, d.W.length⟩, rfl, by omega, by show i < ((d.W.length : Nat) : Int); omega, d.W.getD i.toNat 0, ?_, ?_, rfl⟩
    · rw [Nat.zero_add]; exact at_arr_el h.w (by omega)
    · have e' : rawR d.W i = (d.W.getD i.toNat 0, true) := by unfold rawR; rw [if_neg e, if_neg e2]
      exact e'.symm

/-- Fits -/
theorem c24 (h : Rep X t d) {bs : List Bl} (hd : DOK d bs) (n : Int) (hn : -9223372036854775808 ≤ n ∧ n ≤ 9223372036854775807) : RC Try.prog 24 [.pure .bool] [.ref (some t) cA 0 [], .v (.int .i64 n)] X (bestR d.L n).2 :=
  xcOf (X := X24) rfl FN24 (by kernel_rfl) (by decide) (E24 X t n ⟨_, c48 h hd.ix.lok n hn, rfl, rfl⟩)

/-- does a block of so many words fit -/
theorem fits_iff {bs : List Bl} (hd : DOK d bs) (n : Int) : (bestR d.L n).2 = true ↔ 1 ≤ n ∧ n ≤ 1048576 ∧ ∃ p s : Nat, (p, s, false) ∈ walk 1 bs ∧ n + 1 ≤ (s : Int) := by
  by_cases h1 : 1 ≤ n ∧ n ≤ 1048576
  · obtain ⟨m, rfl⟩ : ∃ m : Nat, n = m := ⟨n.toNat, by omega⟩
    rcases best_split hd.w.sz (bestR_spec hd.ix (n := m) (by omega) (by omega)) with ⟨pre, s, post, hb, hr⟩ | ⟨hr, hno⟩
    · rw [hr]
      refine ⟨fun _ => ⟨h1.1, h1.2, 1 + sumS pre, s, ?_, ?_⟩, fun _ => rfl⟩
      · rw [hb.e]; exact walk_three.2 (.inr (.inl rfl))
      · have := hb.le; omega
    · rw [hr]
      refine ⟨fun e => (by cases e), ?_⟩
      rintro ⟨_, _, p, s, hm, hs⟩
      exact absurd (by omega) (hno p s hm)
  · have : bestR d.L n = ((0, 0), false) := by
      unfold bestR
      by_cases h2 : n < 1
      · rw [if_pos h2]
      · rw [if_neg h2, if_pos (by omega)]
    rw [this]
    refine ⟨fun e => (by cases e), ?_⟩
    rintro ⟨a, b, _⟩
    exact absurd ⟨a, b⟩ h1

end Go.Proofs.Ytefpoodhdfggdaa.AB

set_option linter.unusedVariables false
set_option linter.unusedSimpArgs false
namespace Go.Proofs.Ytefpoodhdfggdaa.AB
open Go

/-- a new arena's words -/
def newW (n : Nat) : List Int := over ((List.replicate n (0 : Int)).set 1 (2 * ((n - 1 : Nat) : Int))) 2 (List.replicate (n - 2) poisonW)

theorem newW_len {n : Nat} (h : 2 ≤ n) : (newW n).length = n := by
  unfold newW
  rw [over_length (by simp; omega)]; simp

theorem newW_get {n : Nat} (h : 2 ≤ n) (i : Nat) : (newW n)[i]? = if i = 1 then some (2 * ((n - 1 : Nat) : Int)) else if i = 0 then some 0 else if i < n then some poisonW else none := by
  unfold newW
  rw [over_get (by simp; omega), List.getElem?_set]
  simp only [List.length_replicate]
  by_cases e1 : i = 1
  · subst e1
    rw [if_neg (by omega), if_pos rfl, if_pos (by omega), if_pos rfl]
  · rw [if_neg e1]
    by_cases e0 : i = 0
    · subst e0
      rw [if_neg (by omega), if_neg (by omega), if_pos rfl, List.getElem?_replicate, if_pos (by omega)]
    · rw [if_neg e0]
      by_cases e2 : i < n
      · rw [if_pos (by omega), if_pos e2, List.getElem?_replicate, if_pos (by omega)]
      · rw [if_neg (by omega), if_neg e2, if_neg (fun q => e1 q.symm), List.getElem?_eq_none (by simp; omega)]

theorem newW_ok {n : Nat} (h : 16 ≤ n) (h2 : n ≤ 1048576) : WOK (newW n) [(n - 1, false)] := by
  have hg := newW_get (n := n) (by omega)
  have hm : ∀ p s u, (p, s, u) ∈ walk 1 [(n - 1, false)] → p = 1 ∧ s = n - 1 ∧ u = false := by
    intro p s u hm
    simp only [walk, List.mem_singleton] at hm
    cases hm; exact ⟨rfl, rfl, rfl⟩
  refine ⟨by rw [newW_len (by omega)]; simp [sumS]; omega, by rw [newW_len (by omega)]; exact h2, ?_, fun b hb => ?_, trivial, fun p s u hq => ?_, fun p s hq i h3 h4 => ?_⟩
  · rw [hg, if_neg (by omega), if_pos rfl]
  · simp only [List.mem_singleton] at hb
    subst hb
    show 2 ≤ n - 1
    omega
  · obtain ⟨rfl, rfl, rfl⟩ := hm p s u hq
    rw [hg, if_pos rfl]; simp [hd]
  · obtain ⟨rfl, rfl, _⟩ := hm p s false hq
    rw [hg, if_neg (by omega), if_neg (by omega), if_pos (by omega)]

theorem FF_new {n : Nat} (b : BK) : FF [(n - 1, false)] b ↔ b = (((1 : Nat) : Int), ((n - 1 : Nat) : Int)) := by
  constructor
  · rintro ⟨p, s, rfl, hm⟩
    simp only [walk, List.mem_singleton] at hm
    cases hm; rfl
  · rintro rfl
    exact ⟨1, n - 1, rfl, by simp [walk]⟩

variable {X : XH}

/-- New -/
theorem c14 (n : Int) (hn : -9223372036854775808 ≤ n ∧ n ≤ 9223372036854775807) : XC Try.prog 14 [.ref cA, .pure (.int .i64)] [.v (.int .i64 n)] X
    fun p X' => (¬ (16 ≤ n ∧ n ≤ 1048576) ∧ p = ((none, (1 : Int)) : Option Nat × Int) ∧ X' = X) ∨ ∃ (m t : Nat) (d : AD), n = m ∧ 16 ≤ m ∧ m ≤ 1048576 ∧ p = ((some t, (0 : Int)) : Option Nat × Int) ∧ Rep X' t d ∧ Mv X [] X' (d.hs t) ∧ DOK d [(m - 1, false)] ∧ d.W = newW m := by
  refine xcOf (X := X14) rfl FN14 (by kernel_rfl) (by decide) (E14 X n ⟨fun e => ?_, fun e => ⟨fun e2 => ?_, fun e2 => ?_⟩⟩)
  · have e := of_decide_eq_true e
    exact .inl ⟨by omega, rfl, rfl⟩
  · have e2 := of_decide_eq_true e2
    exact .inl ⟨by omega, rfl, rfl⟩
  have e := of_decide_eq_false e
  have e2 := of_decide_eq_false e2
  obtain ⟨m, rfl⟩ : ∃ m : Nat, n = m := ⟨n.toNat, by omega⟩
  rw [Int.toNat_natCast]
  refine ⟨by omega, Int.le_refl _, by show (m : Int) * 8 ≤ ((140737488355328 : Nat) : Int); omega, by omega, ?_⟩
  intro X1 e1 X2 e22 X3 e3 X4 e4
  obtain ⟨ls, hls⟩ : ∃ ls : Nat → Option SlH, ls = fun i => ([none, none, none, none, none, none, none, none, none, none, none, none, none, none, none, none, none, none, none, none, none, none] : List (Option SlH)).getD i none := ⟨_, rfl⟩
  rw [← hls] at e4
  have hls0 : ∀ k, ls k = none := by
    intro k
    rw [hls]
    show (List.replicate 22 (none : Option SlH)).getD k none = none
    rw [List.getD, List.getElem?_replicate]
    split <;> rfl
  obtain ⟨d, hd⟩ : ∃ d : AD, d = ⟨X.n, X1.n, X2.n, ls, List.replicate m 0, fun _ => [], [], [], 0⟩ := ⟨_, rfl⟩
  have n1 : X1.n = X.n + 1 := by rw [e1]; rfl
  have n2 : X2.n = X.n + 2 := by rw [e22]; show X1.n + 1 = _; omega
  have n3 : X3.n = X.n + 3 := by rw [e3]; show X2.n + 1 = _; omega
  have hv : d.val = (some ⟨X.n, 0, m, m⟩, ls, some X1.n, some X2.n, 0) := by rw [hd]; simp [AD.val]
  have r4 : Rep X4 X3.n d := by
    refine ⟨?_, ?_, ?_, ?_, fun k hk => ?_, ?_, fun k hk q hq => ?_, fun k k' hk hk' hne q hq => ?_⟩
    · show X4.at X3.n = _
      rw [e4, at_add_new, hv]
    · rw [hd]
      show X4.at X.n = some (.arr cI (List.replicate m 0))
      rw [e4, at_add_old (by omega), e3, at_add_old (by omega), e22, at_add_old (by omega), e1, at_add_new]
    · rw [hd]
      show X4.at X1.n = _
      rw [e4, at_add_old (by omega), e3, at_add_old (by omega), e22, at_add_new]
    · rw [hd]
      show X4.at X2.n = _
      rw [e4, at_add_old (by omega), e3, at_add_new]
    · rw [hd]
      show SlAt X4 cB (ls k) []
      rw [hls0]; rfl
    · rw [hd]
      show X3.n ≠ X.n ∧ X3.n ≠ X1.n ∧ X3.n ≠ X2.n ∧ X.n ≠ X1.n ∧ X.n ≠ X2.n ∧ X1.n ≠ X2.n
      omega
    · rw [hd] at hq
      have hq : q ∈ hl (ls k) := hq
      rw [hls0] at hq; cases hq
    · rw [hd] at hq
      have hq : q ∈ hl (ls k) := hq
      rw [hls0] at hq; cases hq
  have m4 : Mv X [] X4 (d.hs X3.n) := by
    refine ⟨?_, fun k hk _ => ?_, fun k hk => .inr ?_⟩
    · rw [e4]; show X.n ≤ X3.n + 1; omega
    · rw [e4, at_add_old (by omega), e3, at_add_old (by omega), e22, at_add_old (by omega), e1, at_add_old hk]
    · rcases mem_hs.1 hk with h | h | h | h | ⟨j, hj, h⟩
      · omega
      · rw [hd] at h; simp only at h; omega
      · rw [hd] at h; simp only at h; omega
      · rw [hd] at h; simp only at h; omega
      · rw [hd] at h
        have h : k ∈ hl (ls j) := h
        rw [hls0] at h; cases h
  have ix0 : IX d.L d.E (fun _ => False) := by
    rw [hd]
    exact ⟨fun b h => h.elim, fun b b' h => h.elim, fun b b' h => h.elim, fun k hk => List.Pairwise.nil, fun k hk b => ⟨fun h => (by cases h), fun h => h.1.elim⟩, by simp, fun a p => ⟨fun h => (by cases h), fun ⟨b, h, _⟩ => h.elim⟩⟩
  have hw1 : IntKind.wrap .i64 ((m : Int) - 1) = ((m - 1 : Nat) : Int) := by rw [wrap64 (by omega) (by omega)]; omega
  have hWl : d.W.length = m := by rw [hd]; simp
  rw [hw1]
  refine (c46 r4 ix0.lok (a := 1) (s := m - 1) (by omega) (by omega) (by omega) (by unfold bok; simp only; omega)).mono ?_
  rintro _ X6 ⟨d6, r6, m6, w6, l6, ee6, t6, nn6⟩
  have hW6 : d6.W.length = m := by rw [w6]; simp [hWl]
  refine (c47 r6 (a := 2) (b := m) (by omega) (by omega) (by omega)).mono ?_
  rintro _ X8 ⟨d8, r8, m8, e8⟩
  refine .inr ⟨m, X3.n, d8, rfl, by omega, by omega, rfl, r8, (m4.trans m6).trans m8, ?_, ?_⟩
  · have hW8 : d8.W = newW m := by
      rw [e8]
      show over d6.W 2 _ = _
      rw [w6, hd]; rfl
    refine ⟨by rw [hW8]; exact newW_ok (by omega) (by omega), ?_, ?_, fun a v => ?_, ?_⟩
    · rw [e8]
      show IX d6.L d6.E _
      rw [l6, ee6]
      refine (ix0.lay (p := 1) (s := m - 1) (by omega) (by omega) (by omega) (fun _ h => h.elim)).congr fun b => ?_
      rw [FF_new]
      constructor
      · exact fun h => .inr h
      · rintro (h | h)
        · exact h.elim
        · exact h
    · rw [e8]; show (d6.T.map (·.1)).Nodup
      rw [t6, hd]; simp
    · rw [e8]; show (a, v) ∈ d6.T ↔ _
      rw [t6, hd]
      refine ⟨fun h => (by cases h), ?_⟩
      rintro ⟨p, s, _, _, hm⟩
      simp [walk] at hm
    · rw [e8]; show d6.n = _
      rw [nn6, hd]; rfl
  · rw [e8]
    show over d6.W 2 _ = _
    rw [w6, hd]; rfl

end Go.Proofs.Ytefpoodhdfggdaa.AB

set_option linter.unusedVariables false
set_option linter.unusedSimpArgs false
namespace Go.Proofs.Ytefpoodhdfggdaa.AB
open Go

variable {X X' : XH} {t : Nat} {d : AD}

def leN : Int → Int → Bool := fun x y => decide (x ≤ y)

/-- what the reader says of each entry: nothing -/
def noR : Value → Option (DataW Unit × List MemPlace) := fun _ => some (.nil, [])

theorem rg_int {a : Int} {x : MapEntry} (hx : x.key = .int .i64 a) (h1 : -9223372036854775808 ≤ a) (h2 : a ≤ 9223372036854775807) : WideElems.rd Try.prog 3 noR x = some (.int .i64 a, .nil) := by
  unfold WideElems.rd
  rw [hx, Go.Maps.keyOf_int_mk Try.underlying3 (by
    simp [Lit.wf, IntKind.min, IntKind.max, IntKind.bits, IntKind.signed]
    omega)]
  rfl

/-- the keys of a map of ints, in order -/
theorem c19a (h : Rep X t d) (hk : ∀ e ∈ d.T, -9223372036854775808 ≤ e.1 ∧ e.1 ≤ 9223372036854775807) (hsz : d.T.length < 2000000) :
    RC Try.prog 19 [.pure (.slice (.int .i64))] [.ref (some t) cA 0 []] X ((d.T.map (·.1)).mergeSort leN) := by
  intro Mine G w vs hi hl hr
  obtain ⟨u, rfl⟩ : ∃ u, vs = #[u] := by
    have : vs.size = 1 := hl.symm
    exact ⟨vs[0], by
      apply Array.ext
      · simpa using this
      · intro i h1 h2
        have : i = 0 := by simp at h2; omega
        subst this; rfl⟩
  have hu := hr 0 (.ref (some t) cA 0 []) u rfl rfl
  refine .inl ⟨⟨Try.f19, by kernel_rfl, by decide, rfl⟩, ?_⟩
  cases hu with
  | ref _ _ _ _ b ct hl0 hp =>
  -- the arena
  obtain ⟨b', h1, h2, h3, cur, el, h4, h5, h6⟩ := hi.xarr rfl h.box.arr
  rw [hl0] at h1; cases h1
  obtain ⟨u0, q1, q2, q3⟩ := h6 0 _ rfl 24 (.mp (.int .i64) cI (some d.ht)) (by
    simp only [AD.val, cA, Xd.cells, List.range, List.range.loop, List.flatMap_cons, List.flatMap_nil, List.cons_append, List.nil_append, List.getElem?_cons_succ, List.getElem?_cons_zero])
  cases q2 with
  | mp _ _ _ r sz ct' hlm =>
  obtain ⟨r', sz', ct'', g1, g2, g3, ents', ck, g4, g5, g6, g7⟩ := hi.xmp rfl (mp_at.2 h.tk)
  rw [hlm] at g1; cases g1
  have hlen : ents'.size = d.T.length := g5.symm
  have hkey : ∀ (i : Nat) x, ents'[i]? = some x → ∃ e, d.T[i]? = some e ∧ x.key = .int .i64 e.1 := by
    intro i x hx
    have hlt := (Array.getElem?_eq_some_iff.1 hx).1
    have hi3 : i < d.T.length := by rw [← hlen]; exact hlt
    have he : d.T[i]? = some d.T[i] := List.getElem?_eq_getElem hi3
    have := (g6 i _ x he hx).1
    refine ⟨_, he, ?_⟩
    have hk : VR G (.int .i64 d.T[i].1) x.key := this
    generalize x.key = y at hk
    cases hk; rfl
  have hrd : ∀ (i : Nat) x, ents'[i]? = some x → ∃ e, d.T[i]? = some e ∧ WideElems.rd Try.prog 3 noR x = some (.int .i64 e.1, .nil) := by
    intro i x hx
    obtain ⟨e, he, hk'⟩ := hkey i x hx
    have := hk e (List.mem_of_getElem? he)
    exact ⟨e, he, rg_int hk' this.1 this.2⟩
  have fit : WideElems.Fit Try.prog 3 noR ents' ck := by
    refine ⟨?_, g7, fun x hx => ?_⟩
    · rw [hlen]; unfold maxLen; omega
    · obtain ⟨i, hi'⟩ := List.getElem?_of_mem hx
      obtain ⟨e, _, ha⟩ := hrd i x (by simpa using hi')
      exact ⟨_, ha⟩
  have hown := World.ownsMap_of_fit (w := w) (R := noR) g4 fit (fun _ _ _ e => e)
  have hpm := WideShapes.sorted_perm (ents'.toList.map (WideElems.rg Try.prog 3 noR))
  have hkeys : intKeys (.map (ents'.toList.map (WideElems.rg Try.prog 3 noR))) = d.T.map (·.1) := by
    show (ents'.toList.map (WideElems.rg Try.prog 3 noR)).map (fun p => Go.intOf p.1) = _
    refine List.ext_getElem? fun i => ?_
    rw [List.map_map, List.getElem?_map, List.getElem?_map]
    cases hx : ents'.toList[i]? with
    | none =>
      have : d.T[i]? = none := by
        rw [List.getElem?_eq_none_iff] at hx ⊢
        rw [← hlen]; simpa using hx
      rw [this]; rfl
    | some x =>
      obtain ⟨e, he, hk'⟩ := hrd i x (by simpa using hx)
      rw [he]
      simp only [Option.map_some, Function.comp, WideElems.rg, hk', Option.getD_some]
      rfl
  have hsize : Go.Maps.size (DataW.map ((ents'.toList.map (WideElems.rg Try.prog 3 noR)).foldr DataW.insert [])) = d.T.length := by
    show ((ents'.toList.map (WideElems.rg Try.prog 3 noR)).foldr DataW.insert []).length = _
    rw [hpm.length_eq]; simp [hlen]
  have hcell : w.cell? ⟨b, 24, none⟩ = some (.map (some r)) := by
    unfold World.cell?
    simp only [h4]
    simpa using q1
  have hcall := used_calls b r ents'.size _ noR w hcell hown (by rw [hsize]; unfold maxLen; omega) (by rw [hsize]; omega)
  refine hcall.mono ?_
  rintro e w' ⟨v, ss, rfl, hs, hrow, hbel⟩
  have hssp : ss.Perm (d.T.map (·.1)) := by
    refine hs.trans ?_
    rw [← hkeys]
    unfold intKeys
    exact hpm.map _
  have hms : ss.mergeSort (fun x y => decide (x ≤ y)) = (d.T.map (·.1)).mergeSort leN := mergeSort_of_perm_i hssp
  have hlen2 : ss.length = ((d.T.map (·.1)).mergeSort leN).length := by
    rw [← hms]; simp
  rw [hms, hlen2] at hrow
  obtain ⟨G', k1, k2, k3, k4, k5⟩ := hi.rowInt hbel hrow
  exact ⟨v, _, X, G', rfl, ⟨rfl, rfl⟩, k1, k2, k3, k4, k5⟩

/-- the addresses of used blocks -/
def usedAt (bs : List Bl) : List Int := ((walk 1 bs).filter fun x => x.2.2).map fun x => (x.1 : Int)

theorem usedAt_mem {bs : List Bl} {a : Int} : a ∈ usedAt bs ↔ ∃ p s : Nat, a = (p : Int) ∧ (p, s, true) ∈ walk 1 bs := by
  unfold usedAt
  rw [List.mem_map]
  constructor
  · rintro ⟨⟨p, s, u⟩, hx, rfl⟩
    rw [List.mem_filter] at hx
    obtain ⟨h1, h2⟩ := hx
    simp only at h2
    subst h2
    exact ⟨p, s, rfl, h1⟩
  · rintro ⟨p, s, rfl, hm⟩
    exact ⟨(p, s, true), List.mem_filter.2 ⟨hm, rfl⟩, rfl⟩

theorem walk_sorted {bs : List Bl} (hz : sz2 bs) : ∀ p, (walk p bs).Pairwise fun x y => x.1 < y.1 := by
  induction bs with
  | nil => exact fun _ => List.Pairwise.nil
  | cons b r ih =>
    intro p
    obtain ⟨z1, z2⟩ := sz2_cons.1 hz
    refine List.pairwise_cons.2 ⟨fun x hx => ?_, ih z2 _⟩
    obtain ⟨q, s, u⟩ := x
    have := walk_bd z2 hx
    simp only
    omega

theorem usedAt_sorted {bs : List Bl} (hz : sz2 bs) : (usedAt bs).Pairwise (· < ·) := by
  unfold usedAt
  rw [List.pairwise_map]
  refine List.Pairwise.imp (fun h => ?_) ((walk_sorted hz 1).filter _)
  exact Int.ofNat_lt.2 h

theorem sorted_ext : ∀ {l m : List Int}, l.Pairwise (· < ·) → m.Pairwise (· < ·) → (∀ a, a ∈ l ↔ a ∈ m) → l = m
  | [], [], _, _, _ => rfl
  | [], b :: m, _, _, h => absurd ((h b).2 (List.mem_cons_self ..)) (by simp)
  | a :: l, [], _, _, h => absurd ((h a).1 (List.mem_cons_self ..)) (by simp)
  | a :: l, b :: m, h1, h2, h => by
    rw [List.pairwise_cons] at h1 h2
    have hab : a = b := by
      rcases List.mem_cons.1 ((h a).1 (List.mem_cons_self ..)) with e | e
      · exact e
      · rcases List.mem_cons.1 ((h b).2 (List.mem_cons_self ..)) with e' | e'
        · exact e'.symm
        · have := h2.1 a e
          have := h1.1 b e'
          omega
    subst hab
    rw [sorted_ext h1.2 h2.2 (fun c => ?_)]
    constructor
    · intro hc
      rcases List.mem_cons.1 ((h c).1 (List.mem_cons_of_mem _ hc)) with e | e
      · subst e; have := h1.1 c hc; omega
      · exact e
    · intro hc
      rcases List.mem_cons.1 ((h c).2 (List.mem_cons_of_mem _ hc)) with e | e
      · subst e; have := h2.1 c hc; omega
      · exact e

theorem DOK.keys {bs : List Bl} (hd : DOK d bs) : (d.T.map (·.1)).mergeSort leN = usedAt bs := by
  refine sorted_ext ?_ (usedAt_sorted hd.w.sz) (fun a => ?_)
  · have hp : ((d.T.map (·.1)).mergeSort leN).Perm (d.T.map (·.1)) := List.mergeSort_perm _ _
    have hs : ((d.T.map (·.1)).mergeSort leN).Pairwise (fun a b => leN a b = true) := List.pairwise_mergeSort (fun a b c => by unfold leN; simp; omega) (fun a b => by unfold leN; simp; omega) _
    have hn : ((d.T.map (·.1)).mergeSort leN).Nodup := hp.nodup_iff.2 hd.nd
    refine List.Pairwise.imp₂ (fun a b h1 h2 => ?_) hs hn
    have h1 : a ≤ b := of_decide_eq_true h1
    have h2 : a ≠ b := h2
    omega
  · have hp : ((d.T.map (·.1)).mergeSort leN).Perm (d.T.map (·.1)) := List.mergeSort_perm _ _
    rw [hp.mem_iff, List.mem_map, usedAt_mem]
    constructor
    · rintro ⟨⟨x, v⟩, hx, rfl⟩
      obtain ⟨p, s, h1, h2, h3⟩ := (hd.t _ _).1 hx
      exact ⟨p, s, h1, h3⟩
    · rintro ⟨p, s, rfl, hm⟩
      exact ⟨((p : Int), (s : Int)), (hd.t _ _).2 ⟨p, s, rfl, rfl, hm⟩, rfl⟩

/-- Used -/
theorem c19 (h : Rep X t d) {bs : List Bl} (hd : DOK d bs) : RC Try.prog 19 [.pure (.slice (.int .i64))] [.ref (some t) cA 0 []] X (usedAt bs) := by
  have hwle := hd.w.le
  have key : ∀ e ∈ d.T, 1 ≤ e.1 ∧ e.1 ≤ 1048576 := by
    rintro ⟨a, v⟩ he
    obtain ⟨p, s, rfl, rfl, hm⟩ := (hd.t _ _).1 he
    have := hd.w.bd hm
    simp only
    omega
  have hn : d.T.length ≤ 1048577 := by
    have h1 : (d.T.map fun e => e.1.toNat).Nodup := by
      rw [List.Nodup, List.pairwise_map]
      have h0 := hd.nd
      rw [List.Nodup, List.pairwise_map] at h0
      refine List.Pairwise.imp_of_mem (fun {a b} ha hb hab e => hab ?_) h0
      have := key a ha
      have := key b hb
      omega
    have := nodup_lt 1048577 _ h1 (fun x hx => by
      obtain ⟨e, he, rfl⟩ := List.mem_map.1 hx
      have := key e he
      omega)
    rwa [List.length_map] at this
  have := c19a h (fun e he => by have := key e he; omega) (by omega)
  rw [hd.keys] at this
  exact this

end Go.Proofs.Ytefpoodhdfggdaa.AB

set_option linter.unusedVariables false
set_option linter.unusedSimpArgs false
set_option maxRecDepth 100000
set_option maxHeartbeats 2000000
namespace Go.Proofs.Ytefpoodhdfggdaa.AB
open Go
/-! crucible/cruciblelaw5.shown -/
noncomputable def X12 : Cx := ⟨tt, [(44, [.cd .bool])], [(14, [(.ref carena_Arena), (.pure (.int .i64))]), (15, [(.pure (.int .i64)), (.pure (.int .i64))]), (16, [(.pure (.int .i64))]), (17, [(.pure (.int .i64)), (.pure (.int .i64))]), (18, [(.pure (.int .i64)), (.pure .bool)]), (19, [(.pure (.slice (.int .i64)))]), (25, [(.pure (.int .i64)), (.pure .bool)]), (26, [(.pure (.int .i64))]), (45, [(.pure (.int .i64)), (.pure (.int .i64))])], [(12, [(1, 0, .xc), (4, 1, .rd), (5, 1, .rd), (6, 1, .rd), (9, 1, .xc), (10, 1, .xc), (11, 1, .rd), (12, 1, .rd), (13, 1, .rd), (16, 1, .xc), (17, 1, .rd), (18, 1, .rd), (19, 1, .rd), (20, 1, .xc), (21, 1, .xc), (22, 1, .xc), (23, 1, .xc), (24, 1, .rd)])], [], []⟩
theorem FN12 : fnsB Try.prog X12.fns := (show True from trivial)
theorem E12 {R : V → Prop} (h : (XC Try.prog 14 [(.ref carena_Arena), (.pure (.int .i64))] [(.v (.int .i64 (20 : Int)))] XH.none (fun (p1 : (Option Nat) × Int) (X2 : XH) => (((Option.isNone p1.1) = true → R (.bool false)) ∧ ((Option.isNone p1.1) = false → (((p1.2 != (0 : Int)) = true → R (.bool false)) ∧
 ((p1.2 != (0 : Int)) = false → (∃ (p3 : Int × Bool), RC Try.prog 18 [(.pure (.int .i64)), (.pure .bool)] [(.ref p1.1 carena_Arena 0 []), (.v (.int .i64 (1 : Int)))] X2 p3 ∧ (∃ (p4 : Int × Bool), RC Try.prog 18 [(.pure (.int .i64)), (.pure .bool)] [(.ref p1.1 carena_Arena 0 []), (.v (.int .i64 (2 : Int)))] X2 p4 ∧ (∃ (p5 : Int × Int), RC Try.prog 17 [(.pure (.int .i64)), (.pure (.int .i64))] [(.ref p1.1 carena_Arena 0 [])] X2 p5 ∧ (((p3.1 != (38 : Int)) = true → R (.bool false)) ∧ ((p3.1 != (38 : Int)) = false → (((p4.1 != (-6148914691236517206 : Int)) = true → R (.bool false)) ∧ ((p4.1 != (-6148914691236517206 : Int)) = false → (((p5.1 != (0 : Int)) = true → R (.bool false)) ∧ ((p5.1 != (0 : Int)) = false → (((p5.2 != (19 : Int)) = true → R (.bool false)) ∧
 ((p5.2 != (19 : Int)) = false → (XC Try.prog 15 [(.pure (.int .i64)), (.pure (.int .i64))] [(.ref p1.1 carena_Arena 0 []), (.v (.int .i64 (3 : Int)))] X2 (fun (p6 : Int × Int) (X7 : XH) => (XC Try.prog 15 [(.pure (.int .i64)), (.pure (.int .i64))] [(.ref p1.1 carena_Arena 0 []), (.v (.int .i64 (2 : Int)))] X7 (fun (p8 : Int × Int) (X9 : XH) => (∃ (p10 : Int × Bool), RC Try.prog 18 [(.pure (.int .i64)), (.pure .bool)] [(.ref p1.1 carena_Arena 0 []), (.v (.int .i64 (1 : Int)))] X9 p10 ∧ (∃ (p11 : Int × Int), RC Try.prog 17 [(.pure (.int .i64)), (.pure (.int .i64))] [(.ref p1.1 carena_Arena 0 [])] X9 p11 ∧ (∃ (p12 : (List Int)), RC Try.prog 19 [(.pure (.slice (.int .i64)))] [(.ref p1.1 carena_Arena 0 [])] X9 p12 ∧ (∃ p13 : Bool, PC Try.prog 44 [(.list (.int .i64) p12 .no), (.list (.int .i64) (([(1 : Int), (5 : Int)] : List Int)) .no)] (.bool p13) ∧ (((p6.1 != (1 : Int)) = true → R (.bool false)) ∧ ((p6.1 != (1 : Int)) = false → (((p6.2 != (0 : Int)) = true → R (.bool false)) ∧ ((p6.2 != (0 : Int)) = false → (((p8.1 != (5 : Int)) = true → R (.bool false)) ∧ ((p8.1 != (5 : Int)) = false → (((p8.2 != (0 : Int)) = true → R (.bool false)) ∧ ((p8.2 != (0 : Int)) = false → (((p10.1 != (9 : Int)) = true → R (.bool false)) ∧ ((p10.1 != (9 : Int)) = false → (((p11.1 != (7 : Int)) = true → R (.bool false)) ∧ ((p11.1 != (7 : Int)) = false → (((p11.2 != (12 : Int)) = true → R (.bool false)) ∧ ((p11.2 != (12 : Int)) = false → (((!p13) = true → R (.bool false)) ∧
 ((!p13) = false → (XC Try.prog 26 [(.pure (.int .i64))] [(.ref p1.1 carena_Arena 0 []), (.v (.int .i64 (1 : Int))), (.v (.int .i64 (2 : Int))), (.v (.int .i64 (7 : Int)))] X9 (fun (p14 : Int) (X15 : XH) => (∃ (p16 : Int × Int), RC Try.prog 45 [(.pure (.int .i64)), (.pure (.int .i64))] [(.ref p1.1 carena_Arena 0 []), (.v (.int .i64 (1 : Int))), (.v (.int .i64 (2 : Int)))] X15 p16 ∧ (∃ (p17 : Int × Int), RC Try.prog 45 [(.pure (.int .i64)), (.pure (.int .i64))] [(.ref p1.1 carena_Arena 0 []), (.v (.int .i64 (1 : Int))), (.v (.int .i64 (3 : Int)))] X15 p17 ∧ (∃ (p18 : Int × Int), RC Try.prog 45 [(.pure (.int .i64)), (.pure (.int .i64))] [(.ref p1.1 carena_Arena 0 []), (.v (.int .i64 (2 : Int))), (.v (.int .i64 (0 : Int)))] X15 p18 ∧ (XC Try.prog 16 [(.pure (.int .i64))] [(.ref p1.1 carena_Arena 0 []), (.v (.int .i64 (1 : Int)))] X15 (fun (p19 : Int) (X20 : XH) => (XC Try.prog 15 [(.pure (.int .i64)), (.pure (.int .i64))] [(.ref p1.1 carena_Arena 0 []), (.v (.int .i64 (2 : Int)))] X20 (fun (p21 : Int × Int) (X22 : XH) => (XC Try.prog 15 [(.pure (.int .i64)), (.pure (.int .i64))] [(.ref p1.1 carena_Arena 0 []), (.v (.int .i64 (1 : Int)))] X22 (fun (p23 : Int × Int) (X24 : XH) => (XC Try.prog 15 [(.pure (.int .i64)), (.pure (.int .i64))] [(.ref p1.1 carena_Arena 0 []), (.v (.int .i64 (20 : Int)))] X24 (fun (p25 : Int × Int) (X26 : XH) => (∃ (p27 : Int × Bool), RC Try.prog 25 [(.pure (.int .i64)), (.pure .bool)] [(.ref p1.1 carena_Arena 0 []), (.v (.int .i64 (1 : Int)))] X26 p27 ∧ (((p14 == (0 : Int)) = true → (((p16.1 == (7 : Int)) = true → (((p16.2 == (0 : Int)) = true → (((p17.2 == (1 : Int)) = true → (((p18.2 == (24 : Int)) = true → (((p19 == (0 : Int)) = true → (((p21.1 == (1 : Int)) = true → (((p21.2 == (0 : Int)) = true → (((p23.1 == (8 : Int)) = true → (((p23.2 == (0 : Int)) = true → (((p25.2 == (23 : Int)) = true → (((p27.1 == (3 : Int)) = true → R (.bool p27.2)) ∧ ((p27.1 == (3 : Int)) = false → R (.bool false)))) ∧ ((p25.2 == (23 : Int)) = false → R (.bool false)))) ∧ ((p23.2 == (0 : Int)) = false → R (.bool false)))) ∧ ((p23.1 == (8 : Int)) = false → R (.bool false)))) ∧ ((p21.2 == (0 : Int)) = false → R (.bool false)))) ∧ ((p21.1 == (1 : Int)) = false → R (.bool false)))) ∧ ((p19 == (0 : Int)) = false → R (.bool false)))) ∧ ((p18.2 == (24 : Int)) = false → R (.bool false)))) ∧ ((p17.2 == (1 : Int)) = false → R (.bool false)))) ∧ ((p16.2 == (0 : Int)) = false → R (.bool false)))) ∧ ((p16.1 == (7 : Int)) = false → R (.bool false)))) ∧ ((p14 == (0 : Int)) = false → R (.bool false))))))))))))))))))))))))))))))))))))))))))))))))))))))))))) :
  fnK X12.tt (callN Try.prog X12 0) (X12.md 12) (X12.mk1 12) Try.f12 [] ⟨[], [some (.heap XH.none)], ⟨0, []⟩⟩ (topK R) := Eq.mp (by kernel_rfl) h
end Go.Proofs.Ytefpoodhdfggdaa.AB

set_option linter.unusedVariables false
set_option linter.unusedSimpArgs false
set_option maxRecDepth 100000
set_option maxHeartbeats 2000000
namespace Go.Proofs.Ytefpoodhdfggdaa.AB
open Go
/-! crucible/cruciblelaw5.pick -/
noncomputable def X13 : Cx := ⟨tt, [], [], [], [], []⟩
theorem FN13 : fnsB Try.prog X13.fns := (show True from trivial)
theorem E13 (c0 : Int) (n1 : Int) {R : V → Prop} (h : (((decide (c0 < (0 : Int))) = true → (n1 ≠ 0 ∧ R (.int .i64 ((Int.tmod (IntKind.wrap .i64 (0 - (IntKind.wrap .i64 (c0 + (1 : Int))))) n1))))) ∧
 ((decide (c0 < (0 : Int))) = false → (n1 ≠ 0 ∧ R (.int .i64 (Int.tmod c0 n1)))))) :
  fnK X13.tt (callN Try.prog X13 0) (X13.md 13) (X13.mk1 13) Try.f13 [(.v (.int .i64 c0)), (.v (.int .i64 n1))] ⟨[], [], ⟨0, []⟩⟩ (topK R) := Eq.mp (by kernel_rfl) h
end Go.Proofs.Ytefpoodhdfggdaa.AB

set_option linter.unusedVariables false
set_option linter.unusedSimpArgs false
set_option maxRecDepth 100000
set_option maxHeartbeats 2000000
namespace Go.Proofs.Ytefpoodhdfggdaa.AB
open Go
/-! crucible/cruciblelaw5.sameInts -/
noncomputable def X44 : Cx := ⟨tt, [], [], [], [(44, [(0, mkM 26 0 [0, 1, 5], 0)])], []⟩
theorem FN44 : fnsB Try.prog X44.fns := (show True from trivial)
def M44_0 : List Bool × Nat := (mkM 26 0 [0, 1, 5], 0)
def S44_0 (a0 : List Int) (b1 : List Int) (i5 : Int) (T : Toks) : St :=
  mkS 26 [(0, (.v (.list (.int .i64) a0 .no))), (1, (.v (.list (.int .i64) b1 .no))), (5, (.v (.int .i64 i5)))] [] T
noncomputable def B44_0 : (Exit → St → Prop) → St → Prop := (awp X44.tt (callN Try.prog X44 0) (X44.md 44) 0 (X44.mk1 44) 0 (codeAt [1, 1, 0, 1, 0, 0] (bd Try.f44)))
noncomputable def K44_0 (R : V → Prop) : Exit → St → Prop := seqK ((awp X44.tt (callN Try.prog X44 0) (X44.md 44) 0 (X44.mk1 44) 0 (codeAt [1, 1, 1] (bd Try.f44))) (retK tt Try.f44.results.toList fun x s' => topK R x ⟨[], s'.hp, s'.T⟩)) (retK tt Try.f44.results.toList fun x s' => topK R x ⟨[], s'.hp, s'.T⟩)
noncomputable def Q44_0 (R : V → Prop) : Exit → St → Prop := (blockK 0 (K44_0 R))
theorem E44 (a0 : (List Int)) (b1 : (List Int)) {R : V → Prop} (h : (((((a0).length : Int) != ((b1).length : Int)) = true → R (.bool false)) ∧
 ((((a0).length : Int) != ((b1).length : Int)) = false → (Loops B44_0 M44_0 (Q44_0 R)
  (S44_0 a0 b1 (0 : Int) ⟨0, []⟩))))) :
  fnK X44.tt (callN Try.prog X44 0) (X44.md 44) (X44.mk1 44) Try.f44 [(.v (.list (.int .i64) a0 .no)), (.v (.list (.int .i64) b1 .no))] ⟨[], [], ⟨0, []⟩⟩ (topK R) := Eq.mp (by kernel_rfl) h
theorem L44_0 (a0 : List Int) (b1 : List Int) (i5 : Int) (T : Toks) {R : V → Prop} {k0 : St → Prop}
 (h : (((decide (i5 < ((a0).length : Int))) = true → (0 ≤ i5 ∧ i5 < ((a0).length : Int) ∧ (0 ≤ i5 ∧ i5 < ((b1).length : Int) ∧ ((((a0.getD (i5).toNat 0) != (b1.getD (i5).toNat 0)) = true → R (.bool false)) ∧
 (((a0.getD (i5).toNat 0) != (b1.getD (i5).toNat 0)) = false → k0 (S44_0 a0 b1 ((IntKind.wrap .i64 (i5 + (1 : Int)))) T)))))) ∧
 ((decide (i5 < ((a0).length : Int))) = false → R (.bool true)))) :
  B44_0 (loopQ M44_0 k0 (Q44_0 R)) (S44_0 a0 b1 i5 T) := Eq.mp (by kernel_rfl) h
end Go.Proofs.Ytefpoodhdfggdaa.AB

set_option linter.unusedVariables false
set_option linter.unusedSimpArgs false
namespace Go.Proofs.Ytefpoodhdfggdaa.AB
open Go

/-- pick -/
theorem p13 (c n : Int) (hc : -9223372036854775808 ≤ c ∧ c ≤ 9223372036854775807) (hn : n ≠ 0) :
    PC Try.prog 13 [.int .i64 c, .int .i64 n] (.int .i64 (Int.tmod (if c < 0 then -(c + 1) else c) n)) := by
  refine pcOf (X := X13) (d := 0) rfl FN13 (by kernel_rfl) (by decide) (E13 c n ⟨fun h => ⟨hn, ?_⟩, fun h => ⟨hn, ?_⟩⟩)
  · have h := of_decide_eq_true h
    rw [wrap64 (x := c + 1) (by omega) (by omega), wrap64 (by omega) (by omega), if_pos h, show (0 : Int) - (c + 1) = -(c + 1) by omega]
    exact ⟨rfl, rfl⟩
  · have h := of_decide_eq_false h
    rw [if_neg (by omega)]
    exact ⟨rfl, rfl⟩

def pickR (c : Int) (n : Nat) : Nat := (Int.tmod (if c < 0 then -(c + 1) else c) n).toNat

theorem pickR_lt (c : Int) {n : Nat} (hn : 0 < n) : pickR c n < n ∧ Int.tmod (if c < 0 then -(c + 1) else c) n = (pickR c n : Nat) := by
  unfold pickR
  have hx : 0 ≤ (if c < 0 then -(c + 1) else c) := by split <;> omega
  rw [Int.tmod_eq_emod_of_nonneg hx]
  have h1 := Int.emod_nonneg (if c < 0 then -(c + 1) else c) (show (n : Int) ≠ 0 by omega)
  have h2 := Int.emod_lt_of_pos (if c < 0 then -(c + 1) else c) (show (0 : Int) < n by omega)
  omega

/-- pick, of so many -/
theorem pick_ok (c : Int) {n : Nat} (hc : -9223372036854775808 ≤ c ∧ c ≤ 9223372036854775807) (hn : 0 < n) : PC Try.prog 13 [.int .i64 c, .int .i64 (n : Int)] (.int .i64 (pickR c n : Nat)) := by
  have := p13 c n hc (by omega)
  rwa [(pickR_lt c hn).2] at this

theorem retB {a b : Bool} (h : a = b) : V.norm (.bool a) = .bool b ∧ (V.bool b).nt = true := by subst h; exact ⟨rfl, rfl⟩

theorem beq_take_succ {α : Type} [BEq α] [LawfulBEq α] {a b : List α} {n : Nat} {d : α} (h : a.take n = b.take n) (hn : n < a.length) (hm : n < b.length) (he : (a.getD n d == b.getD n d) = true) : a.take (n + 1) = b.take (n + 1) := by
  have he := eq_of_beq he
  rw [List.take_succ_eq_append_getElem hn, List.take_succ_eq_append_getElem hm, h]
  simp only [List.getD, List.getElem?_eq_getElem hn, List.getElem?_eq_getElem hm, Option.getD_some] at he
  rw [he]

/-- sameInts -/
theorem p44 (a b : List Int) (ha : a.length ≤ 9223372036854775807) : PC Try.prog 44 [.list (.int .i64) a .no, .list (.int .i64) b .no] (.bool (a == b)) := by
  refine pcOf (X := X44) (d := 0) rfl FN44 (by kernel_rfl) (by decide) (E44 a b ⟨fun h => ?_, fun h => ?_⟩)
  · have hne : a ≠ b := by rintro rfl; simp at h
    exact retB (by simpa using hne)
  · have hl : a.length = b.length := by
      have : (a.length : Int) = b.length := by simpa using h
      omega
    refine Loops.intro (fun n : Nat => S44_0 a b n ⟨0, []⟩) (fun n => n ≤ a.length ∧ a.take n = b.take n) (fun n => a.length - n) 0 rfl ⟨Nat.zero_le _, rfl⟩ ?_
    rintro n ⟨hn, ht⟩
    refine L44_0 a b n ⟨0, []⟩ ⟨fun h => ?_, fun h => ?_⟩
    · have hlt : n < a.length := by simpa using h
      refine ⟨by omega, by omega, by omega, by omega, fun h => ?_, fun h => ?_⟩
      · have hne : a ≠ b := by rintro rfl; simp at h
        exact retB (by simpa using hne)
      · rw [wrap64 (by omega) (by omega)]
        refine Again.mk (n + 1) rfl ⟨by omega, beq_take_succ (d := 0) ht hlt (by omega) ?_⟩ (by omega)
        rw [Int.toNat_natCast] at h
        have : a.getD n 0 = b.getD n 0 := by simpa using h
        rw [this]; exact beq_self_eq_true _
    · have hge : n = a.length := by
        have : ¬ ((n : Int) < a.length) := by simpa using h
        omega
      have : a = b := by
        rw [hge, List.take_length] at ht
        rw [hl, List.take_length] at ht
        exact ht
      subst this
      exact retB (by simp)

/-! what is known of a choice -/

theorem split_uniq : ∀ {pre pre' : List Bl} {x x' : Bl} {post post' : List Bl}, sz2 (pre ++ x :: post) → pre ++ x :: post = pre' ++ x' :: post' → sumS pre = sumS pre' → pre = pre' ∧ x = x' ∧ post = post'
  | [], [], x, x', post, post', _, h, _ => by cases h; exact ⟨rfl, rfl, rfl⟩
  | [], b :: pre', x, x', post, post', hz, h, hs => by
    simp only [List.nil_append, List.cons_append, List.cons.injEq] at h
    have := hz x (by simp)
    simp only [sumS] at hs
    rw [h.1] at this
    omega
  | a :: pre, [], x, x', post, post', hz, h, hs => by
    have := hz a (by simp)
    simp only [sumS] at hs
    omega
  | a :: pre, b :: pre', x, x', post, post', hz, h, hs => by
    simp only [List.cons_append, List.cons.injEq] at h
    obtain ⟨rfl, h⟩ := h
    simp only [sumS] at hs
    obtain ⟨e1, e2, e3⟩ := split_uniq (sz2_cons.1 hz).2 h (by omega)
    rw [e1]; exact ⟨rfl, e2, e3⟩

theorem BestAt.uniq {bs pre pre' post post' : List Bl} {n s s' : Nat} (hz : sz2 bs) (h : BestAt bs n pre s post) (h' : BestAt bs n pre' s' post') : pre = pre' ∧ s = s' ∧ post = post' := by
  have m1 : (1 + sumS pre, s, false) ∈ walk 1 bs := by rw [h.e]; exact walk_three.2 (.inr (.inl rfl))
  have m2 : (1 + sumS pre', s', false) ∈ walk 1 bs := by rw [h'.e]; exact walk_three.2 (.inr (.inl rfl))
  have a := h.min _ _ m2 h'.le
  have b := h'.min _ _ m1 h.le
  have hs : sumS pre = sumS pre' := by omega
  rw [h.e] at hz
  obtain ⟨e1, e2, e3⟩ := split_uniq hz (h.e.symm.trans h'.e) hs
  cases e2
  exact ⟨e1, rfl, e3⟩

variable {X X' : XH} {t : Nat} {d : AD}

theorem AllocQ.ok {bs pre post : List Bl} {m s : Nat} {p : Int × Int} (h : AllocQ X t d bs (m : Int) p X') (hd : DOK d bs) (h1 : 1 ≤ m ∧ m ≤ 1048576) (hb : BestAt bs m pre s post) :
    ∃ d', Rep X' t d' ∧ Mv X (d.hs t) X' (d'.hs t) ∧ p = (((1 + sumS pre : Nat) : Int), 0) ∧ d'.W = allocW d.W (1 + sumS pre) m s ∧ DOK d' (allocB pre m s post) := by
  obtain ⟨d', r, mv, ⟨hn, _⟩ | ⟨m', e, h2, h3, ⟨hno, _⟩ | ⟨pre', s', post', hb', q1, q2, q3⟩⟩⟩ := h
  · exact absurd (by omega) hn
  · have : m = m' := by omega
    subst this
    exact absurd hb.le (hno _ _ (by rw [hb.e]; exact walk_three.2 (.inr (.inl rfl))))
  · have : m = m' := by omega
    subst this
    obtain ⟨rfl, rfl, rfl⟩ := hb.uniq hd.w.sz hb'
    exact ⟨d', r, mv, q1, q2, q3⟩

theorem AllocQ.full {bs : List Bl} {m : Nat} {p : Int × Int} (h : AllocQ X t d bs (m : Int) p X') (h1 : 1 ≤ m ∧ m ≤ 1048576) (hno : noFit bs m) : Rep X' t d ∧ Mv X (d.hs t) X' (d.hs t) ∧ p = (0, 23) := by
  obtain ⟨d', r, mv, ⟨hn, _⟩ | ⟨m', e, h2, h3, ⟨_, q1, rfl⟩ | ⟨pre', s', post', hb', q1, q2, q3⟩⟩⟩ := h
  · exact absurd (by omega) hn
  · exact ⟨r, mv, q1⟩
  · have : m = m' := by omega
    subst this
    exact absurd hb'.le (hno _ _ (by rw [hb'.e]; exact walk_three.2 (.inr (.inl rfl))))

theorem FreeQ.ok {bs pre post : List Bl} {s : Nat} {a p : Int} (h : FreeQ X t d bs a p X') (hd : DOK d bs) (e : bs = pre ++ (s, true) :: post) (ea : a = ((1 + sumS pre : Nat) : Int)) :
    ∃ d', Rep X' t d' ∧ Mv X (d.hs t) X' (d'.hs t) ∧ p = 0 ∧ d'.W = freeW d.W (1 + sumS pre - prevS pre) (prevS pre + s + nextS post) ∧ DOK d' (freeB pre s post) := by
  obtain ⟨d', r, mv, ⟨hn, _⟩ | ⟨pre', s', post', e', ea', q1, q2, q3⟩⟩ := h
  · exact absurd ea (hn _ s (by rw [e]; exact walk_three.2 (.inr (.inl rfl))))
  · have hz := hd.w.sz
    rw [e] at hz
    obtain ⟨e1, e2, e3⟩ := split_uniq hz (e.symm.trans e') (by omega)
    cases e2
    subst e1 e3
    exact ⟨d', r, mv, q1, q2, q3⟩

/-- shown -/
theorem p12 : PC Try.prog 12 [] (.bool true) := by
  refine lawOf (X := X12) rfl FN12 (by kernel_rfl) (by decide) (E12 ((c14 20 (by decide)).mono ?_))
  rintro p X2 (⟨h, _⟩ | ⟨m, t, d, e, h1, h2, rfl, r, _, hd, hW⟩)
  · exact absurd (by decide) h
  have : m = 20 := by omega
  subst this
  have w1 : d.W[1]? = some 38 := by rw [hW, newW_get (by omega)]; rfl
  have w2 : d.W[2]? = some poisonW := by rw [hW, newW_get (by omega)]; rfl
  have hlen : d.W.length = 20 := by rw [hW, newW_len (by omega)]
  have r1 : rawR d.W 1 = (38, true) := by unfold rawR; rw [if_neg (by decide), if_neg (by omega)]; simp [List.getD, w1]
  have r2 : rawR d.W 2 = (poisonW, true) := by unfold rawR; rw [if_neg (by decide), if_neg (by omega)]; simp [List.getD, w2]
  refine ⟨fun e => (by cases e), fun _ => ⟨fun e => (by cases e), fun _ => ⟨_, c18 r 1, _, c18 r 2, _, c17 r hd, ?_⟩⟩⟩
  rw [r1, r2]
  refine ⟨fun e => absurd e (by decide), fun _ => ⟨fun e => absurd e (by decide), fun _ => ⟨fun e => absurd e (by decide), fun _ => ⟨fun e => absurd e (by decide), fun _ => ?_⟩⟩⟩⟩
  -- three words
  have b1 : BestAt [(20 - 1, false)] 3 [] 19 [] := ⟨rfl, by decide, fun p' s' hm _ => by simp [walk] at hm; simp [sumS]; omega⟩
  refine (c15 r hd (3 : Nat) (by decide)).mono ?_
  rintro p6 X7 hq
  obtain ⟨d7, r7, _, rfl, hW7, hd7⟩ := hq.ok hd (by decide) b1
  have e7 : allocB [] 3 19 [] = [(4, true), (15, false)] := by decide
  rw [e7] at hd7
  have b2 : BestAt [(4, true), (15, false)] 2 [(4, true)] 15 [] := ⟨rfl, by decide, fun p' s' hm _ => by simp [walk] at hm; simp [sumS]; omega⟩
  refine (c15 r7 hd7 (2 : Nat) (by decide)).mono ?_
  rintro p8 X9 hq
  obtain ⟨d9, r9, _, rfl, hW9, hd9⟩ := hq.ok hd7 (by decide) b2
  have e9 : allocB [(4, true)] 2 15 [] = [(4, true), (3, true), (12, false)] := by decide
  rw [e9] at hd9
  have l9 : d9.W.length = 20 := by rw [hd9.w.len]; rfl
  have w9 : d9.W[1]? = some 9 := hd9.w.h 1 4 true (by simp [walk])
  have r10 : rawR d9.W 1 = (9, true) := by unfold rawR; rw [if_neg (by decide), if_neg (by omega)]; simp [List.getD, w9]
  refine ⟨_, c18 r9 1, _, c17 r9 hd9, _, c19 r9 hd9, _, p44 _ _ (by decide), ?_⟩
  rw [r10]
  refine ⟨fun e => absurd e (by decide), fun _ => ⟨fun e => absurd e (by decide), fun _ => ⟨fun e => absurd e (by decide), fun _ => ⟨fun e => absurd e (by decide), fun _ => ⟨fun e => absurd e (by decide), fun _ => ⟨fun e => absurd e (by decide), fun _ => ⟨fun e => absurd e (by decide), fun _ => ⟨fun e => absurd e (by decide), fun _ => ?_⟩⟩⟩⟩⟩⟩⟩⟩
  refine (c26 r9 hd9 1 2 7).mono ?_
  rintro p14 X15 ⟨rfl, d15, r15, _, rfl, hd15⟩
  have pl : placeR [(4, true), (3, true), (12, false)] 1 2 = (4, 0) := by decide
  have pl3 : placeR [(4, true), (3, true), (12, false)] 1 3 = (0, 1) := by decide
  have pl2 : placeR [(4, true), (3, true), (12, false)] 2 0 = (0, 24) := by decide
  refine ⟨_, c45 r15 hd15 1 2, _, c45 r15 hd15 1 3, _, c45 r15 hd15 2 0, ?_⟩
  have rd2 : readR (writeW d9.W [(4, true), (3, true), (12, false)] 1 2 7) [(4, true), (3, true), (12, false)] 1 2 = (7, 0) := by
    unfold readR writeW
    rw [pl]
    simp [List.getD, List.getElem?_set, l9]
  have rd3 : (readR (writeW d9.W [(4, true), (3, true), (12, false)] 1 2 7) [(4, true), (3, true), (12, false)] 1 3).2 = 1 := by unfold readR; rw [pl3]
  have rd0 : (readR (writeW d9.W [(4, true), (3, true), (12, false)] 1 2 7) [(4, true), (3, true), (12, false)] 2 0).2 = 24 := by unfold readR; rw [pl2]
  refine (c16 r15 hd15 1).mono ?_
  rintro p19 X20 hq
  obtain ⟨d20, r20, _, rfl, _, hd20⟩ := hq.ok hd15 (pre := []) (s := 4) (post := [(3, true), (12, false)]) rfl rfl
  have e20 : freeB [] 4 [(3, true), (12, false)] = [(4, false), (3, true), (12, false)] := by decide
  rw [e20] at hd20
  have b3 : BestAt [(4, false), (3, true), (12, false)] 2 [] 4 [(3, true), (12, false)] := ⟨rfl, by decide, fun p' s' hm _ => by simp [walk] at hm; simp [sumS]; omega⟩
  refine (c15 r20 hd20 (2 : Nat) (by decide)).mono ?_
  rintro p21 X22 hq
  obtain ⟨d22, r22, _, rfl, _, hd22⟩ := hq.ok hd20 (by decide) b3
  have e22 : allocB [] 2 4 [(3, true), (12, false)] = [(4, true), (3, true), (12, false)] := by decide
  rw [e22] at hd22
  have b4 : BestAt [(4, true), (3, true), (12, false)] 1 [(4, true), (3, true)] 12 [] := ⟨rfl, by decide, fun p' s' hm _ => by simp [walk] at hm; simp [sumS]; omega⟩
  refine (c15 r22 hd22 (1 : Nat) (by decide)).mono ?_
  rintro p23 X24 hq
  obtain ⟨d24, r24, _, rfl, _, hd24⟩ := hq.ok hd22 (by decide) b4
  have e24 : allocB [(4, true), (3, true)] 1 12 [] = [(4, true), (3, true), (2, true), (10, false)] := by decide
  rw [e24] at hd24
  refine (c15 r24 hd24 (20 : Nat) (by decide)).mono ?_
  rintro p25 X26 hq
  obtain ⟨r26, _, rfl⟩ := hq.full (by decide) (fun p' s' hm => by simp [walk] at hm; omega)
  refine ⟨_, c25 r26 hd24 1, ?_⟩
  have hs : sizeR [(4, true), (3, true), (2, true), (10, false)] 1 = (3, true) := by decide
  rw [rd2, rd3, rd0, hs, pl]
  refine ⟨fun _ => ⟨fun _ => ⟨fun _ => ⟨fun _ => ⟨fun _ => ⟨fun _ => ⟨fun _ => ⟨fun _ => ⟨fun _ => ⟨fun _ => ⟨fun _ => ⟨fun _ => ⟨rfl, rfl⟩, fun e => ?_⟩, fun e => ?_⟩, fun e => ?_⟩, fun e => ?_⟩, fun e => ?_⟩, fun e => ?_⟩, fun e => ?_⟩, fun e => ?_⟩, fun e => ?_⟩, fun e => ?_⟩, fun e => ?_⟩, fun e => ?_⟩ <;> exact absurd e (by decide)

end Go.Proofs.Ytefpoodhdfggdaa.AB

set_option linter.unusedVariables false
set_option linter.unusedSimpArgs false
namespace Go.Proofs.Ytefpoodhdfggdaa.AB
open Go

/-- a block's head is read -/
theorem raw_head {d : AD} {pre post : List Bl} {b : Bl} (hd : DOK d (pre ++ b :: post)) : rawR d.W (((1 + sumS pre : Nat) : Int)) = (AB.hd b.1 b.2, true) := by
  have hin : (1 + sumS pre, b.1, b.2) ∈ walk 1 (pre ++ b :: post) := walk_three.2 (.inr (.inl rfl))
  have h1 := hd.w.bd hin
  have h2 := hd.w.h _ _ _ hin
  unfold rawR
  rw [if_neg (by omega), if_neg (by omega), Int.toNat_natCast]
  simp [List.getD, h2]

theorem hd_div (s : Nat) (u : Bool) : Int.tdiv (hd s u) 2 = (s : Int) := by
  unfold hd
  rw [Int.tdiv_eq_ediv_of_nonneg (by split <;> omega)]
  split <;> omega

theorem hd_mod (s : Nat) (u : Bool) : (Int.tmod (hd s u) 2 == 0) = !u := by
  unfold hd
  rw [Int.tmod_eq_emod_of_nonneg (by split <;> omega)]
  cases u
  · simp
  · simp only [if_true, Bool.not_true, beq_eq_false_iff_ne, ne_eq]; omega

abbrev OP : Type := Int × (Int × (Int × (Int × Bool)))
abbrev cOP : Cd := .pair (.int .i64) (.pair (.int .i64) (.pair (.int .i64) (.pair (.int .i64) .bool)))

def opOK (o : OP) : Prop := (-9223372036854775808 ≤ o.1 ∧ o.1 ≤ 9223372036854775807) ∧ (-9223372036854775808 ≤ o.2.1 ∧ o.2.1 ≤ 9223372036854775807) ∧ (-9223372036854775808 ≤ o.2.2.1 ∧ o.2.2.1 ≤ 9223372036854775807) ∧ (-9223372036854775808 ≤ o.2.2.2.1 ∧ o.2.2.2.1 ≤ 9223372036854775807)

theorem op_get {script : List OP} (h : ∀ o ∈ script, opOK o) {i : Nat} (hi : i < script.length) : opOK (script.getD i (0, (0, (0, (0, false))))) := by
  simp only [List.getD, List.getElem?_eq_getElem hi, Option.getD_some]
  exact h _ (List.getElem_mem hi)

theorem usedAt_len (bs : List Bl) (hz : sz2 bs) : (usedAt bs).length ≤ sumS bs := by
  have h1 : ∀ (bs : List Bl) p, sz2 bs → (walk p bs).length ≤ sumS bs := by
    intro bs
    induction bs with
    | nil => intro p _; exact Nat.le_refl _
    | cons b r ih =>
      intro p hz
      obtain ⟨z1, z2⟩ := sz2_cons.1 hz
      have := ih (p + b.1) z2
      simp only [walk, sumS, List.length_cons]; omega
  unfold usedAt
  rw [List.length_map]
  exact Nat.le_trans (List.length_filter_le _ _) (h1 bs 1 hz)

theorem script_ok {script : List OP} (f : Cd.wf (.slice cOP) script) : ∀ o ∈ script, opOK o := fun o ho => by
  have h := f.2 o ho
  exact ⟨h.1, h.2.1, h.2.2.1, h.2.2.2.1⟩

/-- the least free block of so many words, the first of those, among these -/
def Least (bs : List Bl) (n : Nat) (q s : Nat) : Prop :=
  (q = 0 ∧ noFit bs n) ∨ ((q, s, false) ∈ walk 1 bs ∧ n + 1 ≤ s ∧ ∀ p' s', (p', s', false) ∈ walk 1 bs → n + 1 ≤ s' → s < s' ∨ s = s' ∧ q ≤ p')

theorem least_pos {bs : List Bl} {n q s : Nat} (hz : sz2 bs) (h : Least bs n q s) : q = 0 ∧ noFit bs n ∨ 1 ≤ q ∧ ∃ pre post, q = 1 + sumS pre ∧ BestAt bs n pre s post := by
  rcases h with h | ⟨h1, h2, h3⟩
  · exact .inl h
  · obtain ⟨pre, post, e, rfl⟩ := walk_split h1
    exact .inr ⟨by omega, pre, post, rfl, e, h2, h3⟩

/-- one block more is looked at -/
theorem least_step {pre : List Bl} {n q s : Nat} {b : Bl} (hz : sz2 (pre ++ [b])) (h : Least pre n q s) :
    Least (pre ++ [b]) n (if b.2 = false ∧ n + 1 ≤ b.1 ∧ (q = 0 ∨ b.1 < s) then 1 + sumS pre else q) (if b.2 = false ∧ n + 1 ≤ b.1 ∧ (q = 0 ∨ b.1 < s) then b.1 else s) := by
  have hm : ∀ x, x ∈ walk 1 (pre ++ [b]) ↔ x ∈ walk 1 pre ∨ x = (1 + sumS pre, b.1, b.2) := by
    intro x
    rw [walk_app, List.mem_append]
    simp [walk]
  obtain ⟨z1, z2⟩ := sz2_app.1 hz
  split
  · rename_i c
    obtain ⟨c1, c2, c3⟩ := c
    refine .inr ⟨(hm _).2 (.inr (by rw [c1])), c2, fun p' s' hp hs => ?_⟩
    rcases (hm _).1 hp with hp | hp
    · rcases h with ⟨_, h⟩ | ⟨h1, h2, h3⟩
      · exact absurd hs (h _ _ hp)
      · have := h3 _ _ hp hs
        have hq := walk_bd z1 h1
        omega
    · injection hp with e1 e2
      injection e2 with e2 e3
      exact .inr ⟨e2.symm, by omega⟩
  · rename_i c
    rcases h with ⟨h0, h⟩ | ⟨h1, h2, h3⟩
    · refine .inl ⟨h0, fun p' s' hp hs => ?_⟩
      rcases (hm _).1 hp with hp | hp
      · exact h _ _ hp hs
      · injection hp with e1 e2
        injection e2 with e2 e3
        exact c ⟨e3.symm, by omega, .inl h0⟩
    · refine .inr ⟨(hm _).2 (.inl h1), h2, fun p' s' hp hs => ?_⟩
      rcases (hm _).1 hp with hp | hp
      · exact h3 _ _ hp hs
      · injection hp with e1 e2
        injection e2 with e2 e3
        have hq := walk_bd z1 h1
        by_cases hb : b.1 < s
        · exact absurd ⟨e3.symm, by omega, .inr hb⟩ c
        · omega

end Go.Proofs.Ytefpoodhdfggdaa.AB

set_option linter.unusedVariables false
set_option linter.unusedSimpArgs false
set_option maxRecDepth 100000
set_option maxHeartbeats 2000000
namespace Go.Proofs.Ytefpoodhdfggdaa.AB
open Go
/-! crucible/crucibleref5.New -/
noncomputable def X20 : Cx := ⟨tt, [], [(52, [])], [(20, [(3, 1, .x (.pure (.int .i64))), (3, 2, .x ccrucibleref5_Arena), (3, 3, .x ccrucibleref5_Arena), (5, 2, .xc)])], [], []⟩
theorem FN20 : fnsB Try.prog X20.fns := (show True from trivial)
theorem E20 (X : XH) (words0 : Int) {R : ((Option Nat)) → XH → Prop} (h : (((decide (words0 < (16 : Int))) = true → R none X) ∧ ((decide (words0 < (16 : Int))) = false → (((decide (words0 > (1048576 : Int))) = true → R none X) ∧
 ((decide (words0 > (1048576 : Int))) = false → (0 ≤ words0 ∧ words0 ≤ words0 ∧ words0 * (8 : Int) ≤ (room : Int) ∧ words0 ≤ 9223372036854775807 ∧ (∀ (X1 : XH), X1 = (XH.add X (.arr (.pure (.int .i64)) (List.replicate (words0).toNat (0 : Int)))) → (∀ (X2 : XH), X2 = (XH.add X1 (.arr ccrucibleref5_Arena [((some ⟨X.n, 0, (words0).toNat, (words0).toNat⟩), ())])) → (∃ (a3 : ((Option SlH) × Unit)), XH.el X2 ccrucibleref5_Arena X1.n 0 = some a3 ∧ (∃ (u4 : SlH), a3.1 = some u4 ∧ 0 ≤ (1 : Int) ∧ (1 : Int) < ((u4.len : Nat) : Int) ∧ (∃ (a5 : Int), XH.el X2 (.pure (.int .i64)) u4.h ((u4.off + ((1 : Int)).toNat)) = some a5 ∧ (∀ (X6 : XH), X6 = (XH.setEl X2 (.pure (.int .i64)) u4.h ((u4.off + ((1 : Int)).toNat)) ((IntKind.wrap .i64 ((2 : Int) * (IntKind.wrap .i64 (words0 - (1 : Int))))))) → (XC Try.prog 52 [] [(.ref (some X1.n) ccrucibleref5_Arena 0 []), (.v (.int .i64 (2 : Int))), (.v (.int .i64 words0))] X6 (fun (p7 : Unit) (X8 : XH) => R (some X1.n) X8)))))))))))))) :
  fnK X20.tt (callN Try.prog X20 0) (X20.md 20) (X20.mk1 20) Try.f20 [(.v (.int .i64 words0))] ⟨[], [some (.heap X)], ⟨0, []⟩⟩ (xfin [(.ref ccrucibleref5_Arena)] R) := Eq.mp (by kernel_rfl) h
end Go.Proofs.Ytefpoodhdfggdaa.AB

set_option linter.unusedVariables false
set_option linter.unusedSimpArgs false
set_option maxRecDepth 100000
set_option maxHeartbeats 2000000
namespace Go.Proofs.Ytefpoodhdfggdaa.AB
open Go
/-! (*crucible/crucibleref5.Arena).Used -/
noncomputable def X21 : Cx := ⟨tt, [], [], [], [(21, [(0, mkM 36 0 [0, 3, 4], 0)])], []⟩
theorem FN21 : fnsB Try.prog X21.fns := (show True from trivial)
def M21_0 : List Bool × Nat := (mkM 36 0 [0, 3, 4], 1)
def S21_0 (a0 : Nat) (out3 : List Int) (out3k : Tok) (k4 : Int) (hq0 : XH) (T : Toks) : St :=
  mkS 36 [(0, (.ref (some a0) ccrucibleref5_Arena 0 [])), (3, (.v (.list (.int .i64) out3 out3k))), (4, (.v (.int .i64 k4)))] [(some (.heap hq0))] T
noncomputable def B21_0 : (Exit → St → Prop) → St → Prop := (awp X21.tt (callN Try.prog X21 0) (X21.md 21) 1 (X21.mk1 21) 0 (codeAt [1, 1, 0, 1, 0, 0] (bd Try.f21)))
noncomputable def K21_0 (R : ((List Int)) → XH → Prop) : Exit → St → Prop := seqK ((awp X21.tt (callN Try.prog X21 0) (X21.md 21) 1 (X21.mk1 21) 0 (codeAt [1, 1, 1] (bd Try.f21))) (retK tt Try.f21.results.toList fun x s' => xfin [(.pure (.slice (.int .i64)))] R x ⟨[], s'.hp, s'.T⟩)) (retK tt Try.f21.results.toList fun x s' => xfin [(.pure (.slice (.int .i64)))] R x ⟨[], s'.hp, s'.T⟩)
noncomputable def Q21_0 (R : ((List Int)) → XH → Prop) : Exit → St → Prop := (blockK 0 (K21_0 R))
theorem E21 (X : XH) (a0 : Nat) {R : ((List Int)) → XH → Prop} (h : (Loops B21_0 M21_0 (Q21_0 R)
  (S21_0 a0 ([] : List Int) .exact (1 : Int) X ⟨0, []⟩))) :
  fnK X21.tt (callN Try.prog X21 0) (X21.md 21) (X21.mk1 21) Try.f21 [(.ref (some a0) ccrucibleref5_Arena 0 [])] ⟨[], [some (.heap X)], ⟨0, []⟩⟩ (xfin [(.pure (.slice (.int .i64)))] R) := Eq.mp (by kernel_rfl) h
theorem L21_0 (a0 : Nat) (out3 : List Int) (out3k : Tok) (k4 : Int) (hq0 : XH) (T : Toks) {R : ((List Int)) → XH → Prop} {k0 : St → Prop}
 (h : (∃ (a1 : ((Option SlH) × Unit)), XH.el hq0 ccrucibleref5_Arena a0 0 = some a1 ∧ (((decide (k4 < (((slN a1.1) : Nat) : Int))) = true → (∃ (a2 : ((Option SlH) × Unit)), XH.el hq0 ccrucibleref5_Arena a0 0 = some a2 ∧ (∃ (u3 : SlH), a2.1 = some u3 ∧ 0 ≤ k4 ∧ k4 < ((u3.len : Nat) : Int) ∧ (∃ (a4 : Int), XH.el hq0 (.pure (.int .i64)) u3.h ((u3.off + (k4).toNat)) = some a4 ∧ ((2 : Int) ≠ 0 ∧ ((((Int.tmod a4 (2 : Int)) == (1 : Int)) = true → (Tok.own out3k T.l ∧ ((out3).length + (([k4] : List Int)).length) * 8 ≤ room ∧ (∃ (a5 : ((Option SlH) × Unit)), XH.el hq0 ccrucibleref5_Arena a0 0 = some a5 ∧ (∃ (u6 : SlH), a5.1 = some u6 ∧ 0 ≤ k4 ∧ k4 < ((u6.len : Nat) : Int) ∧ (∃ (a7 : Int), XH.el hq0 (.pure (.int .i64)) u6.h ((u6.off + (k4).toNat)) = some a7 ∧ ((2 : Int) ≠ 0 ∧ k0 (S21_0 a0 ((out3 ++ ([k4] : List Int))) (.tk T.n) ((IntKind.wrap .i64 (k4 + (IntKind.wrap .i64 (Int.tdiv a7 (2 : Int)))))) hq0 ⟨(T.n + 1), (T.n :: Tok.drop out3k T.l)⟩))))))) ∧
 (((Int.tmod a4 (2 : Int)) == (1 : Int)) = false → (∃ (a8 : ((Option SlH) × Unit)), XH.el hq0 ccrucibleref5_Arena a0 0 = some a8 ∧ (∃ (u9 : SlH), a8.1 = some u9 ∧ 0 ≤ k4 ∧ k4 < ((u9.len : Nat) : Int) ∧ (∃ (a10 : Int), XH.el hq0 (.pure (.int .i64)) u9.h ((u9.off + (k4).toNat)) = some a10 ∧ ((2 : Int) ≠ 0 ∧ k0 (S21_0 a0 out3 out3k ((IntKind.wrap .i64 (k4 + (IntKind.wrap .i64 (Int.tdiv a10 (2 : Int)))))) hq0 T)))))))))))) ∧
 ((decide (k4 < (((slN a1.1) : Nat) : Int))) = false → R out3 hq0)))) :
  B21_0 (loopQ M21_0 k0 (Q21_0 R)) (S21_0 a0 out3 out3k k4 hq0 T) := Eq.mp (by kernel_rfl) h
end Go.Proofs.Ytefpoodhdfggdaa.AB

set_option linter.unusedVariables false
set_option linter.unusedSimpArgs false
set_option maxRecDepth 100000
set_option maxHeartbeats 2000000
namespace Go.Proofs.Ytefpoodhdfggdaa.AB
open Go
/-! (*crucible/crucibleref5.Arena).poison -/
noncomputable def X52 : Cx := ⟨tt, [], [], [], [(52, [(0, mkM 19 0 [0, 2, 6], 0)])], []⟩
theorem FN52 : fnsB Try.prog X52.fns := (show True from trivial)
def M52_0 : List Bool × Nat := (mkM 19 0 [0, 2, 6], 1)
def S52_0 (a0 : Nat) (to2 : Int) (i6 : Int) (hq0 : XH) (T : Toks) : St :=
  mkS 19 [(0, (.ref (some a0) ccrucibleref5_Arena 0 [])), (2, (.v (.int .i64 to2))), (6, (.v (.int .i64 i6)))] [(some (.heap hq0))] T
noncomputable def B52_0 : (Exit → St → Prop) → St → Prop := (awp X52.tt (callN Try.prog X52 0) (X52.md 52) 1 (X52.mk1 52) 0 (codeAt [1, 0, 0] (bd Try.f52)))
noncomputable def Q52_0 (R : Unit → XH → Prop) : Exit → St → Prop := (blockK 0 (retK tt Try.f52.results.toList fun x s' => xfin [] R x ⟨[], s'.hp, s'.T⟩))
theorem E52 (X : XH) (a0 : Nat) (from1 : Int) (to2 : Int) {R : Unit → XH → Prop} (h : (Loops B52_0 M52_0 (Q52_0 R)
  (S52_0 a0 to2 from1 X ⟨0, []⟩))) :
  fnK X52.tt (callN Try.prog X52 0) (X52.md 52) (X52.mk1 52) Try.f52 [(.ref (some a0) ccrucibleref5_Arena 0 []), (.v (.int .i64 from1)), (.v (.int .i64 to2))] ⟨[], [some (.heap X)], ⟨0, []⟩⟩ (xfin [] R) := Eq.mp (by kernel_rfl) h
theorem L52_0 (a0 : Nat) (to2 : Int) (i6 : Int) (hq0 : XH) (T : Toks) {R : Unit → XH → Prop} {k0 : St → Prop}
 (h : (((decide (i6 < to2)) = true → (∃ (a1 : ((Option SlH) × Unit)), XH.el hq0 ccrucibleref5_Arena a0 0 = some a1 ∧ (∃ (u2 : SlH), a1.1 = some u2 ∧ 0 ≤ i6 ∧ i6 < ((u2.len : Nat) : Int) ∧ (∃ (a3 : Int), XH.el hq0 (.pure (.int .i64)) u2.h ((u2.off + (i6).toNat)) = some a3 ∧ (∀ (X4 : XH), X4 = (XH.setEl hq0 (.pure (.int .i64)) u2.h ((u2.off + (i6).toNat)) (-6148914691236517206 : Int)) → k0 (S52_0 a0 to2 ((IntKind.wrap .i64 (i6 + (1 : Int)))) X4 T)))))) ∧
 ((decide (i6 < to2)) = false → R () hq0))) :
  B52_0 (loopQ M52_0 k0 (Q52_0 R)) (S52_0 a0 to2 i6 hq0 T) := Eq.mp (by kernel_rfl) h
end Go.Proofs.Ytefpoodhdfggdaa.AB

set_option linter.unusedVariables false
set_option linter.unusedSimpArgs false
set_option maxRecDepth 100000
set_option maxHeartbeats 2000000
namespace Go.Proofs.Ytefpoodhdfggdaa.AB
open Go
/-! (*crucible/crucibleref5.Arena).Fits -/
noncomputable def X53 : Cx := ⟨tt, [], [(83, [(.pure (.int .i64))])], [(53, [(1, 9, .rd)])], [], []⟩
theorem FN53 : fnsB Try.prog X53.fns := (show True from trivial)
theorem E53 (X : XH) (a0 : Nat) (n1 : Int) {R : (Bool) → XH → Prop} (h : (((decide (n1 ≥ (1 : Int))) = true → (((decide (n1 ≤ (1048576 : Int))) = true → (∃ (p1 : Int), RC Try.prog 83 [(.pure (.int .i64))] [(.ref (some a0) ccrucibleref5_Arena 0 []), (.v (.int .i64 n1))] X p1 ∧ R ((decide (p1 > (0 : Int)))) X)) ∧ ((decide (n1 ≤ (1048576 : Int))) = false → R false X))) ∧ ((decide (n1 ≥ (1 : Int))) = false → R false X))) :
  fnK X53.tt (callN Try.prog X53 0) (X53.md 53) (X53.mk1 53) Try.f53 [(.ref (some a0) ccrucibleref5_Arena 0 []), (.v (.int .i64 n1))] ⟨[], [some (.heap X)], ⟨0, []⟩⟩ (xfin [(.pure .bool)] R) := Eq.mp (by kernel_rfl) h
end Go.Proofs.Ytefpoodhdfggdaa.AB

set_option linter.unusedVariables false
set_option linter.unusedSimpArgs false
set_option maxRecDepth 100000
set_option maxHeartbeats 2000000
namespace Go.Proofs.Ytefpoodhdfggdaa.AB
open Go
/-! (*crucible/crucibleref5.Arena).Write -/
noncomputable def X56 : Cx := ⟨tt, [], [(57, [(.pure (.int .i64)), (.pure (.int .i64))])], [(56, [(1, 3, .rd)])], [], []⟩
theorem FN56 : fnsB Try.prog X56.fns := (show True from trivial)
theorem E56 (X : XH) (a0 : Nat) (at1 : Int) (i2 : Int) (v3 : Int) {R : (Int) → XH → Prop} (h : (∃ (p1 : Int × Int), RC Try.prog 57 [(.pure (.int .i64)), (.pure (.int .i64))] [(.ref (some a0) ccrucibleref5_Arena 0 []), (.v (.int .i64 at1)), (.v (.int .i64 i2))] X p1 ∧ (((p1.2 == (0 : Int)) = true → (∃ (a2 : ((Option SlH) × Unit)), XH.el X ccrucibleref5_Arena a0 0 = some a2 ∧ (∃ (u3 : SlH), a2.1 = some u3 ∧ 0 ≤ (IntKind.wrap .i64 ((IntKind.wrap .i64 (at1 + (1 : Int))) + i2)) ∧ (IntKind.wrap .i64 ((IntKind.wrap .i64 (at1 + (1 : Int))) + i2)) < ((u3.len : Nat) : Int) ∧ (∃ (a4 : Int), XH.el X (.pure (.int .i64)) u3.h ((u3.off + ((IntKind.wrap .i64 ((IntKind.wrap .i64 (at1 + (1 : Int))) + i2))).toNat)) = some a4 ∧ (∀ (X5 : XH), X5 = (XH.setEl X (.pure (.int .i64)) u3.h ((u3.off + ((IntKind.wrap .i64 ((IntKind.wrap .i64 (at1 + (1 : Int))) + i2))).toNat)) v3) → R p1.2 X5))))) ∧
 ((p1.2 == (0 : Int)) = false → R p1.2 X)))) :
  fnK X56.tt (callN Try.prog X56 0) (X56.md 56) (X56.mk1 56) Try.f56 [(.ref (some a0) ccrucibleref5_Arena 0 []), (.v (.int .i64 at1)), (.v (.int .i64 i2)), (.v (.int .i64 v3))] ⟨[], [some (.heap X)], ⟨0, []⟩⟩ (xfin [(.pure (.int .i64))] R) := Eq.mp (by kernel_rfl) h
end Go.Proofs.Ytefpoodhdfggdaa.AB

set_option linter.unusedVariables false
set_option linter.unusedSimpArgs false
set_option maxRecDepth 100000
set_option maxHeartbeats 2000000
namespace Go.Proofs.Ytefpoodhdfggdaa.AB
open Go
/-! (*crucible/crucibleref5.Arena).Read -/
noncomputable def X57 : Cx := ⟨tt, [], [(58, [(.pure (.int .i64)), (.pure .bool)])], [(57, [(1, 2, .rd)])], [], []⟩
theorem FN57 : fnsB Try.prog X57.fns := (show True from trivial)
theorem E57 (X : XH) (a0 : Nat) (at1 : Int) (i2 : Int) {R : (Int × Int) → XH → Prop} (h : (∃ (p1 : Int × Bool), RC Try.prog 58 [(.pure (.int .i64)), (.pure .bool)] [(.ref (some a0) ccrucibleref5_Arena 0 []), (.v (.int .i64 at1))] X p1 ∧ (((!p1.2) = true → R ((0 : Int), (24 : Int)) X) ∧
 ((!p1.2) = false → (((decide (i2 < (0 : Int))) = true → R ((0 : Int), (1 : Int)) X) ∧ ((decide (i2 < (0 : Int))) = false → (((decide (i2 ≥ p1.1)) = true → R ((0 : Int), (1 : Int)) X) ∧
 ((decide (i2 ≥ p1.1)) = false → (∃ (a2 : ((Option SlH) × Unit)), XH.el X ccrucibleref5_Arena a0 0 = some a2 ∧ (∃ (u3 : SlH), a2.1 = some u3 ∧ 0 ≤ (IntKind.wrap .i64 ((IntKind.wrap .i64 (at1 + (1 : Int))) + i2)) ∧ (IntKind.wrap .i64 ((IntKind.wrap .i64 (at1 + (1 : Int))) + i2)) < ((u3.len : Nat) : Int) ∧ (∃ (a4 : Int), XH.el X (.pure (.int .i64)) u3.h ((u3.off + ((IntKind.wrap .i64 ((IntKind.wrap .i64 (at1 + (1 : Int))) + i2))).toNat)) = some a4 ∧ R (a4, (0 : Int)) X))))))))))) :
  fnK X57.tt (callN Try.prog X57 0) (X57.md 57) (X57.mk1 57) Try.f57 [(.ref (some a0) ccrucibleref5_Arena 0 []), (.v (.int .i64 at1)), (.v (.int .i64 i2))] ⟨[], [some (.heap X)], ⟨0, []⟩⟩ (xfin [(.pure (.int .i64)), (.pure (.int .i64))] R) := Eq.mp (by kernel_rfl) h
end Go.Proofs.Ytefpoodhdfggdaa.AB

set_option linter.unusedVariables false
set_option linter.unusedSimpArgs false
set_option maxRecDepth 100000
set_option maxHeartbeats 2000000
namespace Go.Proofs.Ytefpoodhdfggdaa.AB
open Go
/-! (*crucible/crucibleref5.Arena).Size -/
noncomputable def X58 : Cx := ⟨tt, [], [(84, [(.pure .bool)])], [(58, [(1, 2, .rd)])], [], []⟩
theorem FN58 : fnsB Try.prog X58.fns := (show True from trivial)
theorem E58 (X : XH) (a0 : Nat) (at1 : Int) {R : (Int × Bool) → XH → Prop} (h : (∃ (p1 : Bool), RC Try.prog 84 [(.pure .bool)] [(.ref (some a0) ccrucibleref5_Arena 0 []), (.v (.int .i64 at1))] X p1 ∧ (((!p1) = true → R ((0 : Int), false) X) ∧
 ((!p1) = false → (∃ (a2 : ((Option SlH) × Unit)), XH.el X ccrucibleref5_Arena a0 0 = some a2 ∧ (∃ (u3 : SlH), a2.1 = some u3 ∧ 0 ≤ at1 ∧ at1 < ((u3.len : Nat) : Int) ∧ (∃ (a4 : Int), XH.el X (.pure (.int .i64)) u3.h ((u3.off + (at1).toNat)) = some a4 ∧ ((2 : Int) ≠ 0 ∧ R ((IntKind.wrap .i64 ((IntKind.wrap .i64 (Int.tdiv a4 (2 : Int))) - (1 : Int))), true) X)))))))) :
  fnK X58.tt (callN Try.prog X58 0) (X58.md 58) (X58.mk1 58) Try.f58 [(.ref (some a0) ccrucibleref5_Arena 0 []), (.v (.int .i64 at1))] ⟨[], [some (.heap X)], ⟨0, []⟩⟩ (xfin [(.pure (.int .i64)), (.pure .bool)] R) := Eq.mp (by kernel_rfl) h
end Go.Proofs.Ytefpoodhdfggdaa.AB

set_option linter.unusedVariables false
set_option linter.unusedSimpArgs false
set_option maxRecDepth 100000
set_option maxHeartbeats 2000000
namespace Go.Proofs.Ytefpoodhdfggdaa.AB
open Go
/-! (*crucible/crucibleref5.Arena).Words -/
noncomputable def X59 : Cx := ⟨tt, [], [], [], [(59, [(0, mkM 55 0 [0, 4, 5, 6], 0)])], []⟩
theorem FN59 : fnsB Try.prog X59.fns := (show True from trivial)
def M59_0 : List Bool × Nat := (mkM 55 0 [0, 4, 5, 6], 1)
def S59_0 (a0 : Nat) (used4 : Int) (free5 : Int) (k6 : Int) (hq0 : XH) (T : Toks) : St :=
  mkS 55 [(0, (.ref (some a0) ccrucibleref5_Arena 0 [])), (4, (.v (.int .i64 used4))), (5, (.v (.int .i64 free5))), (6, (.v (.int .i64 k6)))] [(some (.heap hq0))] T
noncomputable def B59_0 : (Exit → St → Prop) → St → Prop := (awp X59.tt (callN Try.prog X59 0) (X59.md 59) 1 (X59.mk1 59) 0 (codeAt [1, 1, 1, 0, 1, 0, 0] (bd Try.f59)))
noncomputable def K59_0 (R : (Int × Int) → XH → Prop) : Exit → St → Prop := seqK ((awp X59.tt (callN Try.prog X59 0) (X59.md 59) 1 (X59.mk1 59) 0 (codeAt [1, 1, 1, 1] (bd Try.f59))) (retK tt Try.f59.results.toList fun x s' => xfin [(.pure (.int .i64)), (.pure (.int .i64))] R x ⟨[], s'.hp, s'.T⟩)) (retK tt Try.f59.results.toList fun x s' => xfin [(.pure (.int .i64)), (.pure (.int .i64))] R x ⟨[], s'.hp, s'.T⟩)
noncomputable def Q59_0 (R : (Int × Int) → XH → Prop) : Exit → St → Prop := (blockK 0 (K59_0 R))
theorem E59 (X : XH) (a0 : Nat) {R : (Int × Int) → XH → Prop} (h : (Loops B59_0 M59_0 (Q59_0 R)
  (S59_0 a0 (0 : Int) (0 : Int) (1 : Int) X ⟨0, []⟩))) :
  fnK X59.tt (callN Try.prog X59 0) (X59.md 59) (X59.mk1 59) Try.f59 [(.ref (some a0) ccrucibleref5_Arena 0 [])] ⟨[], [some (.heap X)], ⟨0, []⟩⟩ (xfin [(.pure (.int .i64)), (.pure (.int .i64))] R) := Eq.mp (by kernel_rfl) h
theorem L59_0 (a0 : Nat) (used4 : Int) (free5 : Int) (k6 : Int) (hq0 : XH) (T : Toks) {R : (Int × Int) → XH → Prop} {k0 : St → Prop}
 (h : (∃ (a1 : ((Option SlH) × Unit)), XH.el hq0 ccrucibleref5_Arena a0 0 = some a1 ∧ (((decide (k6 < (((slN a1.1) : Nat) : Int))) = true → (∃ (a2 : ((Option SlH) × Unit)), XH.el hq0 ccrucibleref5_Arena a0 0 = some a2 ∧ (∃ (u3 : SlH), a2.1 = some u3 ∧ 0 ≤ k6 ∧ k6 < ((u3.len : Nat) : Int) ∧ (∃ (a4 : Int), XH.el hq0 (.pure (.int .i64)) u3.h ((u3.off + (k6).toNat)) = some a4 ∧ ((2 : Int) ≠ 0 ∧ ((((Int.tmod a4 (2 : Int)) == (1 : Int)) = true → (∃ (a5 : ((Option SlH) × Unit)), XH.el hq0 ccrucibleref5_Arena a0 0 = some a5 ∧ (∃ (u6 : SlH), a5.1 = some u6 ∧ 0 ≤ k6 ∧ k6 < ((u6.len : Nat) : Int) ∧ (∃ (a7 : Int), XH.el hq0 (.pure (.int .i64)) u6.h ((u6.off + (k6).toNat)) = some a7 ∧ ((2 : Int) ≠ 0 ∧ (∃ (a8 : ((Option SlH) × Unit)), XH.el hq0 ccrucibleref5_Arena a0 0 = some a8 ∧ (∃ (u9 : SlH), a8.1 = some u9 ∧ 0 ≤ k6 ∧ k6 < ((u9.len : Nat) : Int) ∧ (∃ (a10 : Int), XH.el hq0 (.pure (.int .i64)) u9.h ((u9.off + (k6).toNat)) = some a10 ∧ ((2 : Int) ≠ 0 ∧ k0 (S59_0 a0 ((IntKind.wrap .i64 (used4 + (IntKind.wrap .i64 (Int.tdiv a7 (2 : Int)))))) free5 ((IntKind.wrap .i64 (k6 + (IntKind.wrap .i64 (Int.tdiv a10 (2 : Int)))))) hq0 T)))))))))) ∧
 (((Int.tmod a4 (2 : Int)) == (1 : Int)) = false → (∃ (a11 : ((Option SlH) × Unit)), XH.el hq0 ccrucibleref5_Arena a0 0 = some a11 ∧ (∃ (u12 : SlH), a11.1 = some u12 ∧ 0 ≤ k6 ∧ k6 < ((u12.len : Nat) : Int) ∧ (∃ (a13 : Int), XH.el hq0 (.pure (.int .i64)) u12.h ((u12.off + (k6).toNat)) = some a13 ∧ ((2 : Int) ≠ 0 ∧ (∃ (a14 : ((Option SlH) × Unit)), XH.el hq0 ccrucibleref5_Arena a0 0 = some a14 ∧ (∃ (u15 : SlH), a14.1 = some u15 ∧ 0 ≤ k6 ∧ k6 < ((u15.len : Nat) : Int) ∧ (∃ (a16 : Int), XH.el hq0 (.pure (.int .i64)) u15.h ((u15.off + (k6).toNat)) = some a16 ∧ ((2 : Int) ≠ 0 ∧ k0 (S59_0 a0 used4 ((IntKind.wrap .i64 (free5 + (IntKind.wrap .i64 (Int.tdiv a13 (2 : Int)))))) ((IntKind.wrap .i64 (k6 + (IntKind.wrap .i64 (Int.tdiv a16 (2 : Int)))))) hq0 T)))))))))))))))) ∧
 ((decide (k6 < (((slN a1.1) : Nat) : Int))) = false → R (used4, free5) hq0)))) :
  B59_0 (loopQ M59_0 k0 (Q59_0 R)) (S59_0 a0 used4 free5 k6 hq0 T) := Eq.mp (by kernel_rfl) h
end Go.Proofs.Ytefpoodhdfggdaa.AB

set_option linter.unusedVariables false
set_option linter.unusedSimpArgs false
set_option maxRecDepth 100000
set_option maxHeartbeats 2000000
namespace Go.Proofs.Ytefpoodhdfggdaa.AB
open Go
/-! (*crucible/crucibleref5.Arena).best -/
noncomputable def X83 : Cx := ⟨tt, [], [], [], [(83, [(0, mkM 69 0 [0, 1, 5, 6], 0)])], []⟩
theorem FN83 : fnsB Try.prog X83.fns := (show True from trivial)
def M83_0 : List Bool × Nat := (mkM 69 0 [0, 1, 5, 6], 1)
def S83_0 (a0 : Nat) (n1 : Int) (at5 : Int) (k6 : Int) (hq0 : XH) (T : Toks) : St :=
  mkS 69 [(0, (.ref (some a0) ccrucibleref5_Arena 0 [])), (1, (.v (.int .i64 n1))), (5, (.v (.int .i64 at5))), (6, (.v (.int .i64 k6)))] [(some (.heap hq0))] T
noncomputable def B83_0 : (Exit → St → Prop) → St → Prop := (awp X83.tt (callN Try.prog X83 0) (X83.md 83) 1 (X83.mk1 83) 0 (codeAt [1, 1, 0, 1, 0, 0] (bd Try.f83)))
noncomputable def K83_0 (R : (Int) → XH → Prop) : Exit → St → Prop := seqK ((awp X83.tt (callN Try.prog X83 0) (X83.md 83) 1 (X83.mk1 83) 0 (codeAt [1, 1, 1] (bd Try.f83))) (retK tt Try.f83.results.toList fun x s' => xfin [(.pure (.int .i64))] R x ⟨[], s'.hp, s'.T⟩)) (retK tt Try.f83.results.toList fun x s' => xfin [(.pure (.int .i64))] R x ⟨[], s'.hp, s'.T⟩)
noncomputable def Q83_0 (R : (Int) → XH → Prop) : Exit → St → Prop := (blockK 0 (K83_0 R))
theorem E83 (X : XH) (a0 : Nat) (n1 : Int) {R : (Int) → XH → Prop} (h : (Loops B83_0 M83_0 (Q83_0 R)
  (S83_0 a0 n1 (0 : Int) (1 : Int) X ⟨0, []⟩))) :
  fnK X83.tt (callN Try.prog X83 0) (X83.md 83) (X83.mk1 83) Try.f83 [(.ref (some a0) ccrucibleref5_Arena 0 []), (.v (.int .i64 n1))] ⟨[], [some (.heap X)], ⟨0, []⟩⟩ (xfin [(.pure (.int .i64))] R) := Eq.mp (by kernel_rfl) h
theorem L83_0 (a0 : Nat) (n1 : Int) (at5 : Int) (k6 : Int) (hq0 : XH) (T : Toks) {R : (Int) → XH → Prop} {k0 : St → Prop}
 (h : (∃ (a1 : ((Option SlH) × Unit)), XH.el hq0 ccrucibleref5_Arena a0 0 = some a1 ∧ (((decide (k6 < (((slN a1.1) : Nat) : Int))) = true → (∃ (a2 : ((Option SlH) × Unit)), XH.el hq0 ccrucibleref5_Arena a0 0 = some a2 ∧ (∃ (u3 : SlH), a2.1 = some u3 ∧ 0 ≤ k6 ∧ k6 < ((u3.len : Nat) : Int) ∧ (∃ (a4 : Int), XH.el hq0 (.pure (.int .i64)) u3.h ((u3.off + (k6).toNat)) = some a4 ∧ ((2 : Int) ≠ 0 ∧ ((((Int.tmod a4 (2 : Int)) == (0 : Int)) = true → (∃ (a5 : ((Option SlH) × Unit)), XH.el hq0 ccrucibleref5_Arena a0 0 = some a5 ∧ (∃ (u6 : SlH), a5.1 = some u6 ∧ 0 ≤ k6 ∧ k6 < ((u6.len : Nat) : Int) ∧ (∃ (a7 : Int), XH.el hq0 (.pure (.int .i64)) u6.h ((u6.off + (k6).toNat)) = some a7 ∧ ((2 : Int) ≠ 0 ∧ (((decide ((IntKind.wrap .i64 ((IntKind.wrap .i64 (Int.tdiv a7 (2 : Int))) - (1 : Int))) ≥ n1)) = true → (((at5 == (0 : Int)) = true → (∃ (a8 : ((Option SlH) × Unit)), XH.el hq0 ccrucibleref5_Arena a0 0 = some a8 ∧ (∃ (u9 : SlH), a8.1 = some u9 ∧ 0 ≤ k6 ∧ k6 < ((u9.len : Nat) : Int) ∧ (∃ (a10 : Int), XH.el hq0 (.pure (.int .i64)) u9.h ((u9.off + (k6).toNat)) = some a10 ∧ ((2 : Int) ≠ 0 ∧ k0 (S83_0 a0 n1 k6 ((IntKind.wrap .i64 (k6 + (IntKind.wrap .i64 (Int.tdiv a10 (2 : Int)))))) hq0 T)))))) ∧ ((at5 == (0 : Int)) = false → (∃ (a11 : ((Option SlH) × Unit)), XH.el hq0 ccrucibleref5_Arena a0 0 = some a11 ∧ (∃ (u12 : SlH), a11.1 = some u12 ∧ 0 ≤ k6 ∧ k6 < ((u12.len : Nat) : Int) ∧ (∃ (a13 : Int), XH.el hq0 (.pure (.int .i64)) u12.h ((u12.off + (k6).toNat)) = some a13 ∧ (∃ (a14 : ((Option SlH) × Unit)), XH.el hq0 ccrucibleref5_Arena a0 0 = some a14 ∧ (∃ (u15 : SlH), a14.1 = some u15 ∧ 0 ≤ at5 ∧ at5 < ((u15.len : Nat) : Int) ∧ (∃ (a16 : Int), XH.el hq0 (.pure (.int .i64)) u15.h ((u15.off + (at5).toNat)) = some a16 ∧ (((decide (a13 < a16)) = true → (∃ (a17 : ((Option SlH) × Unit)), XH.el hq0 ccrucibleref5_Arena a0 0 = some a17 ∧ (∃ (u18 : SlH), a17.1 = some u18 ∧ 0 ≤ k6 ∧ k6 < ((u18.len : Nat) : Int) ∧ (∃ (a19 : Int), XH.el hq0 (.pure (.int .i64)) u18.h ((u18.off + (k6).toNat)) = some a19 ∧ ((2 : Int) ≠ 0 ∧ k0 (S83_0 a0 n1 k6 ((IntKind.wrap .i64 (k6 + (IntKind.wrap .i64 (Int.tdiv a19 (2 : Int)))))) hq0 T)))))) ∧
 ((decide (a13 < a16)) = false → (∃ (a20 : ((Option SlH) × Unit)), XH.el hq0 ccrucibleref5_Arena a0 0 = some a20 ∧ (∃ (u21 : SlH), a20.1 = some u21 ∧ 0 ≤ k6 ∧ k6 < ((u21.len : Nat) : Int) ∧ (∃ (a22 : Int), XH.el hq0 (.pure (.int .i64)) u21.h ((u21.off + (k6).toNat)) = some a22 ∧ ((2 : Int) ≠ 0 ∧ k0 (S83_0 a0 n1 at5 ((IntKind.wrap .i64 (k6 + (IntKind.wrap .i64 (Int.tdiv a22 (2 : Int)))))) hq0 T)))))))))))))))) ∧ ((decide ((IntKind.wrap .i64 ((IntKind.wrap .i64 (Int.tdiv a7 (2 : Int))) - (1 : Int))) ≥ n1)) = false → (∃ (a23 : ((Option SlH) × Unit)), XH.el hq0 ccrucibleref5_Arena a0 0 = some a23 ∧ (∃ (u24 : SlH), a23.1 = some u24 ∧ 0 ≤ k6 ∧ k6 < ((u24.len : Nat) : Int) ∧ (∃ (a25 : Int), XH.el hq0 (.pure (.int .i64)) u24.h ((u24.off + (k6).toNat)) = some a25 ∧ ((2 : Int) ≠ 0 ∧ k0 (S83_0 a0 n1 at5 ((IntKind.wrap .i64 (k6 + (IntKind.wrap .i64 (Int.tdiv a25 (2 : Int)))))) hq0 T)))))))))))) ∧ (((Int.tmod a4 (2 : Int)) == (0 : Int)) = false → (∃ (a26 : ((Option SlH) × Unit)), XH.el hq0 ccrucibleref5_Arena a0 0 = some a26 ∧ (∃ (u27 : SlH), a26.1 = some u27 ∧ 0 ≤ k6 ∧ k6 < ((u27.len : Nat) : Int) ∧ (∃ (a28 : Int), XH.el hq0 (.pure (.int .i64)) u27.h ((u27.off + (k6).toNat)) = some a28 ∧ ((2 : Int) ≠ 0 ∧ k0 (S83_0 a0 n1 at5 ((IntKind.wrap .i64 (k6 + (IntKind.wrap .i64 (Int.tdiv a28 (2 : Int)))))) hq0 T)))))))))))) ∧
 ((decide (k6 < (((slN a1.1) : Nat) : Int))) = false → R at5 hq0)))) :
  B83_0 (loopQ M83_0 k0 (Q83_0 R)) (S83_0 a0 n1 at5 k6 hq0 T) := Eq.mp (by kernel_rfl) h
end Go.Proofs.Ytefpoodhdfggdaa.AB

set_option linter.unusedVariables false
set_option linter.unusedSimpArgs false
set_option maxRecDepth 100000
set_option maxHeartbeats 2000000
namespace Go.Proofs.Ytefpoodhdfggdaa.AB
open Go
/-! (*crucible/crucibleref5.Arena).used -/
noncomputable def X84 : Cx := ⟨tt, [], [], [], [(84, [(0, mkM 40 0 [0, 1, 5], 0)])], []⟩
theorem FN84 : fnsB Try.prog X84.fns := (show True from trivial)
def M84_0 : List Bool × Nat := (mkM 40 0 [0, 1, 5], 1)
def S84_0 (a0 : Nat) (at1 : Int) (k5 : Int) (hq0 : XH) (T : Toks) : St :=
  mkS 40 [(0, (.ref (some a0) ccrucibleref5_Arena 0 [])), (1, (.v (.int .i64 at1))), (5, (.v (.int .i64 k5)))] [(some (.heap hq0))] T
noncomputable def B84_0 : (Exit → St → Prop) → St → Prop := (awp X84.tt (callN Try.prog X84 0) (X84.md 84) 1 (X84.mk1 84) 0 (codeAt [1, 0, 1, 0, 0] (bd Try.f84)))
noncomputable def K84_0 (R : (Bool) → XH → Prop) : Exit → St → Prop := seqK ((awp X84.tt (callN Try.prog X84 0) (X84.md 84) 1 (X84.mk1 84) 0 (codeAt [1, 1] (bd Try.f84))) (retK tt Try.f84.results.toList fun x s' => xfin [(.pure .bool)] R x ⟨[], s'.hp, s'.T⟩)) (retK tt Try.f84.results.toList fun x s' => xfin [(.pure .bool)] R x ⟨[], s'.hp, s'.T⟩)
noncomputable def Q84_0 (R : (Bool) → XH → Prop) : Exit → St → Prop := (blockK 0 (K84_0 R))
theorem E84 (X : XH) (a0 : Nat) (at1 : Int) {R : (Bool) → XH → Prop} (h : (Loops B84_0 M84_0 (Q84_0 R)
  (S84_0 a0 at1 (1 : Int) X ⟨0, []⟩))) :
  fnK X84.tt (callN Try.prog X84 0) (X84.md 84) (X84.mk1 84) Try.f84 [(.ref (some a0) ccrucibleref5_Arena 0 []), (.v (.int .i64 at1))] ⟨[], [some (.heap X)], ⟨0, []⟩⟩ (xfin [(.pure .bool)] R) := Eq.mp (by kernel_rfl) h
theorem L84_0 (a0 : Nat) (at1 : Int) (k5 : Int) (hq0 : XH) (T : Toks) {R : (Bool) → XH → Prop} {k0 : St → Prop}
 (h : (∃ (a1 : ((Option SlH) × Unit)), XH.el hq0 ccrucibleref5_Arena a0 0 = some a1 ∧ (((decide (k5 < (((slN a1.1) : Nat) : Int))) = true → (((decide (k5 ≤ at1)) = true → (((k5 == at1) = true → (∃ (a2 : ((Option SlH) × Unit)), XH.el hq0 ccrucibleref5_Arena a0 0 = some a2 ∧ (∃ (u3 : SlH), a2.1 = some u3 ∧ 0 ≤ k5 ∧ k5 < ((u3.len : Nat) : Int) ∧ (∃ (a4 : Int), XH.el hq0 (.pure (.int .i64)) u3.h ((u3.off + (k5).toNat)) = some a4 ∧ ((2 : Int) ≠ 0 ∧ R (((Int.tmod a4 (2 : Int)) == (1 : Int))) hq0))))) ∧
 ((k5 == at1) = false → (∃ (a5 : ((Option SlH) × Unit)), XH.el hq0 ccrucibleref5_Arena a0 0 = some a5 ∧ (∃ (u6 : SlH), a5.1 = some u6 ∧ 0 ≤ k5 ∧ k5 < ((u6.len : Nat) : Int) ∧ (∃ (a7 : Int), XH.el hq0 (.pure (.int .i64)) u6.h ((u6.off + (k5).toNat)) = some a7 ∧ ((2 : Int) ≠ 0 ∧ k0 (S84_0 a0 at1 ((IntKind.wrap .i64 (k5 + (IntKind.wrap .i64 (Int.tdiv a7 (2 : Int)))))) hq0 T)))))))) ∧
 ((decide (k5 ≤ at1)) = false → R false hq0))) ∧ ((decide (k5 < (((slN a1.1) : Nat) : Int))) = false → R false hq0)))) :
  B84_0 (loopQ M84_0 k0 (Q84_0 R)) (S84_0 a0 at1 k5 hq0 T) := Eq.mp (by kernel_rfl) h
end Go.Proofs.Ytefpoodhdfggdaa.AB

set_option linter.unusedVariables false
set_option linter.unusedSimpArgs false
namespace Go.Proofs.Ytefpoodhdfggdaa.AB
open Go

/-! the other arena: its words alone -/

abbrev cR : Xd := ccrucibleref5_Arena

structure RRep (X : XH) (t hw : Nat) (W : List Int) : Prop where
  box : Box X cR t ((some ⟨hw, 0, W.length, W.length⟩, ()) : Option SlH × Unit)
  w : X.at hw = some (.arr cI W)
  n : t ≠ hw

variable {X X' : XH} {t hw : Nat} {W : List Int} {bs : List Bl}

theorem RRep.lt (h : RRep X t hw W) : ∀ k ∈ [t, hw], k < X.n := by
  intro k hk
  simp only [List.mem_cons, List.not_mem_nil, or_false] at hk
  rcases hk with rfl | rfl
  · exact h.box.lt
  · exact at_lt h.w

theorem RRep.keep (h : RRep X t hw W) (e : ∀ k ∈ [t, hw], X'.at k = X.at k) : RRep X' t hw W :=
  ⟨h.box.keep (e _ (by simp)), (e _ (by simp)).trans h.w, h.n⟩

theorem RRep.set (h : RRep X t hw W) (i : Nat) (v : Int) : RRep (X.setEl cI hw i v) t hw (W.set i v) ∧ Mv X [t, hw] (X.setEl cI hw i v) [t, hw] := by
  rw [at_arr_setEl h.w]
  refine ⟨⟨?_, at_set_self h.w, h.n⟩, Mv.set (by simp)⟩
  rw [List.length_set]
  exact h.box.keep (at_set_ne h.n)

theorem RRep.get (h : RRep X t hw W) {k : Nat} (hk : k < W.length) : X.el cI hw (0 + ((k : Nat) : Int).toNat) = some (W.getD k 0) := by
  rw [Nat.zero_add, Int.toNat_natCast]; exact at_arr_el h.w hk

abbrev wS (hw : Nat) (W : List Int) : SlH := ⟨hw, 0, W.length, W.length⟩

/-- a place is looked at -/
theorem RRep.at' (h : RRep X t hw W) {k : Nat} (hk : k < W.length) {C : SlH → Int → Prop} (hC : C (wS hw W) (W.getD k 0)) :
    ∃ a2 : Option SlH × Unit, X.el cR t 0 = some a2 ∧ ∃ u3 : SlH, a2.1 = some u3 ∧ 0 ≤ (k : Int) ∧ (k : Int) < ((u3.len : Nat) : Int) ∧ ∃ a4 : Int, X.el cI u3.h (u3.off + ((k : Nat) : Int).toNat) = some a4 ∧ C u3 a4 :=
  ⟨_, h.box.el, wS hw W, rfl, by omega, by show (k : Int) < ((W.length : Nat) : Int); omega, _, h.get hk, hC⟩

theorem hd_odd (s : Nat) (u : Bool) : (Int.tmod (hd s u) 2 == 1) = u := by
  unfold hd
  rw [Int.tmod_eq_emod_of_nonneg (by split <;> omega)]
  cases u
  · simp
  · simp only [if_true, beq_iff_eq]; omega

/-- the words tell of these blocks' heads -/
def told (W : List Int) (bs : List Bl) : Prop := W.length = 1 + sumS bs ∧ W.length ≤ 1048576 ∧ sz2 bs ∧ ∀ p s u, (p, s, u) ∈ walk 1 bs → W[p]? = some (hd s u)

theorem WOK.told (h : WOK W bs) : told W bs := ⟨h.len, h.le, h.sz, h.h⟩

/-- of a block in a walk -/
theorem told.here {pre post : List Bl} {b : Bl} (h : told W (pre ++ b :: post)) : 2 ≤ b.1 ∧ 1 + sumS pre + b.1 ≤ W.length ∧ W.getD (1 + sumS pre) 0 = hd b.1 b.2 ∧ 1 + sumS (pre ++ [b]) = 1 + sumS pre + b.1 ∧
    IntKind.wrap .i64 (Int.tdiv (hd b.1 b.2) 2) = (b.1 : Int) ∧ IntKind.wrap .i64 (((1 + sumS pre : Nat) : Int) + (b.1 : Int)) = ((1 + sumS (pre ++ [b]) : Nat) : Int) := by
  obtain ⟨h1, h2, h3, h4⟩ := h
  have hin : (1 + sumS pre, b.1, b.2) ∈ walk 1 (pre ++ b :: post) := walk_three.2 (.inr (.inl rfl))
  have hb := walk_bd h3 hin
  have hs : sumS (pre ++ [b]) = sumS pre + b.1 := by rw [sumS_app]; simp [sumS]
  refine ⟨hb.2.1, by omega, ?_, by omega, ?_, ?_⟩
  · rw [List.getD, h4 _ _ _ hin]; rfl
  · rw [hd_div, wrap64 (by omega) (by omega)]
  · rw [wrap64 (by omega) (by omega)]; omega

theorem told.last {pre : List Bl} {post : List Bl} (h : told W (pre ++ post)) : (decide (((1 + sumS pre : Nat) : Int) < ((W.length : Nat) : Int)) = true → ∃ b post', post = b :: post') ∧ (decide (((1 + sumS pre : Nat) : Int) < ((W.length : Nat) : Int)) = false → post = []) := by
  obtain ⟨h1, h2, h3, h4⟩ := h
  rw [sumS_app] at h1
  cases post with
  | nil =>
    refine ⟨fun e => ?_, fun _ => rfl⟩
    have e := of_decide_eq_true e
    simp only [sumS] at h1; omega
  | cons b r =>
    refine ⟨fun _ => ⟨b, r, rfl⟩, fun e => ?_⟩
    have e := of_decide_eq_false e
    have := h3 b (by simp)
    simp only [sumS] at h1; omega

/-- poison -/
theorem c52 (h : RRep X t hw W) {a b : Nat} (hab : a ≤ b) (hb : b ≤ W.length) (hw' : W.length ≤ 1048576) :
    XC Try.prog 52 [] [.ref (some t) cR 0 [], .v (.int .i64 (a : Int)), .v (.int .i64 (b : Int))] X fun _ X' => RRep X' t hw (over W a (List.replicate (b - a) poisonW)) ∧ Mv X [t, hw] X' [t, hw] := by
  refine xcOf (X := X52) rfl FN52 (by kernel_rfl) (by decide) (E52 X t a b ?_)
  refine Loops.intro (fun q : Nat × XH => S52_0 t b ((a + q.1 : Nat) : Int) q.2 ⟨0, []⟩) (fun q => q.1 ≤ b - a ∧ RRep q.2 t hw (over W a (List.replicate q.1 poisonW)) ∧ Mv X [t, hw] q.2 [t, hw]) (fun q => b - a - q.1) (0, X) rfl
    ⟨Nat.zero_le _, by simp only [List.replicate_zero, over, List.append_nil, List.length_nil, Nat.add_zero, List.take_append_drop]; exact h, .refl _ _⟩ ?_
  rintro ⟨n, Y⟩ ⟨hn, h1, m1⟩
  have hn : n ≤ b - a := hn
  have h1 : RRep Y t hw (over W a (List.replicate n poisonW)) := h1
  have hl1 : (over W a (List.replicate n poisonW)).length = W.length := over_length (by simp; omega)
  refine L52_0 t b ((a + n : Nat) : Int) Y ⟨0, []⟩ ⟨fun hlt => ?_, fun hge => ?_⟩
  · have hlt := of_decide_eq_true hlt
    have ew : IntKind.wrap .i64 (((a + n : Nat) : Int) + 1) = ((a + (n + 1) : Nat) : Int) := by rw [wrap64 (by omega) (by omega)]; omega
    rw [ew]
    refine h1.at' (k := a + n) (by rw [hl1]; omega) ?_
    intro X4 e4
    have e4 : X4 = Y.setEl cI hw (0 + ((a + n : Nat) : Int).toNat) poisonW := e4
    rw [Nat.zero_add, Int.toNat_natCast] at e4
    obtain ⟨h5, m5⟩ := h1.set (a + n) poisonW
    rw [← e4] at h5 m5
    refine Again.mk (n + 1, X4) rfl ⟨show n + 1 ≤ b - a by omega, ?_, m1.trans m5⟩ (show b - a - (n + 1) < b - a - n by omega)
    have : (over W a (List.replicate n poisonW)).set (a + n) poisonW = over W a (List.replicate (n + 1) poisonW) := by
      refine List.ext_getElem? fun i => ?_
      rw [List.getElem?_set, over_length (by simp; omega), over_get (by simp; omega), over_get (by simp; omega)]
      simp only [List.length_replicate]
      by_cases e : a + n = i
      · subst e
        rw [if_pos rfl, if_pos (by omega), if_pos (by omega), List.getElem?_replicate, if_pos (by omega)]
      · rw [if_neg e]
        by_cases e2 : a ≤ i ∧ i < a + n
        · rw [if_pos e2, if_pos (by omega), List.getElem?_replicate, if_pos (by omega), List.getElem?_replicate, if_pos (by omega)]
        · rw [if_neg e2, if_neg (by omega)]
    rw [← this]; exact h5
  · have hge := of_decide_eq_false hge
    have : n = b - a := by omega
    subst this
    exact ⟨h1, m1⟩

/-- used -/
theorem c84 (h : RRep X t hw W) (ht : told W bs) (at1 : Int) (hat : -9223372036854775808 ≤ at1 ∧ at1 ≤ 9223372036854775807) : RC Try.prog 84 [.pure .bool] [.ref (some t) cR 0 [], .v (.int .i64 at1)] X (sizeAt bs at1).isSome := by
  refine xcOf (X := X84) rfl FN84 (by kernel_rfl) (by decide) (E84 X t at1 ?_)
  refine Loops.intro (fun q : List Bl × List Bl => S84_0 t at1 ((1 + sumS q.1 : Nat) : Int) X ⟨0, []⟩) (fun q => bs = q.1 ++ q.2 ∧ ∀ p s u, (p, s, u) ∈ walk 1 q.1 → (p : Int) ≠ at1) (fun q => q.2.length) ([], bs) rfl ⟨rfl, fun p s u h => by simp [walk] at h⟩ ?_
  rintro ⟨pre, post⟩ ⟨hbs, hno⟩
  have hbs : bs = pre ++ post := hbs
  have hno : ∀ p s u, (p, s, u) ∈ walk 1 pre → (p : Int) ≠ at1 := hno
  rw [hbs] at ht
  have hz := ht.2.2.1
  obtain ⟨z1, z2⟩ := sz2_app.1 hz
  refine L84_0 t at1 ((1 + sumS pre : Nat) : Int) X ⟨0, []⟩ ⟨_, h.box.el, fun e => ?_, fun e => ?_⟩
  · obtain ⟨b, post', rfl⟩ := ht.last.1 e
    obtain ⟨g1, g2, g3, g4, g5, g6⟩ := ht.here
    refine ⟨fun e1 => ⟨fun e2 => h.at' (by omega) ⟨by decide, ?_⟩, fun e2 => h.at' (by omega) ⟨by decide, ?_⟩⟩, fun e1 => ?_⟩
    · have e2 : ((1 + sumS pre : Nat) : Int) = at1 := by simpa using e2
      rw [g3, hd_odd]
      subst e2
      have e' : b.2 = (sizeAt bs ((1 + sumS pre : Nat) : Int)).isSome := by
        rw [hbs]
        cases hb : b.2 with
        | true => rw [(sizeAt_some hz).2 ⟨_, rfl, walk_three.2 (.inr (.inl (by rw [hb])))⟩]; rfl
        | false =>
          rw [(sizeAt_none hz).2 fun p s hm e => ?_]; rfl
          have : p = 1 + sumS pre := by omega
          subst this
          have := (walk_inj hz hm (walk_three.2 (.inr (.inl rfl)))).2
          rw [hb] at this; cases this
      exact ⟨e', rfl⟩
    · have e2 : ((1 + sumS pre : Nat) : Int) ≠ at1 := by simpa using e2
      rw [g3, g5, g6]
      refine Again.mk (pre ++ [b], post') rfl ⟨by rw [hbs]; simp, fun p s u hm => ?_⟩ (by simp)
      have hm : (p, s, u) ∈ walk 1 (pre ++ [b]) := hm
      rw [walk_app, List.mem_append] at hm
      rcases hm with hm | hm
      · exact hno p s u hm
      · simp only [walk, List.mem_singleton, Prod.mk.injEq] at hm
        rw [hm.1]; exact e2
    · have e1 := of_decide_eq_false e1
      have e' : false = (sizeAt bs at1).isSome := by
        rw [hbs, (sizeAt_none hz).2 fun p s hm e => ?_]; rfl
        rw [walk_app, List.mem_append] at hm
        rcases hm with hm | hm
        · exact hno _ _ _ hm e.symm
        · have := walk_bd z2 hm; omega
      exact ⟨e', rfl⟩
  · obtain rfl := ht.last.2 e
    have e' : false = (sizeAt bs at1).isSome := by
      rw [hbs, (sizeAt_none hz).2 fun p s hm e => ?_]; rfl
      rw [List.append_nil] at hm
      exact hno _ _ _ hm e.symm
    exact ⟨e', rfl⟩

end Go.Proofs.Ytefpoodhdfggdaa.AB

set_option linter.unusedVariables false
set_option linter.unusedSimpArgs false
namespace Go.Proofs.Ytefpoodhdfggdaa.AB
open Go

variable {X X' : XH} {t hw : Nat} {W : List Int} {bs : List Bl}

/-- the walk that looks for the least fitting block -/
def leastF (n : Nat) : List Bl → Nat → Nat → Nat → Nat × Nat
  | [], _, q, s => (q, s)
  | b :: r, k, q, s => leastF n r (k + b.1) (if b.2 = false ∧ n + 1 ≤ b.1 ∧ (q = 0 ∨ b.1 < s) then k else q) (if b.2 = false ∧ n + 1 ≤ b.1 ∧ (q = 0 ∨ b.1 < s) then b.1 else s)

def leastR (bs : List Bl) (n : Nat) : Nat × Nat := leastF n bs 1 0 0

theorem leastF_ok {n : Nat} : ∀ {post pre : List Bl} {q s : Nat}, sz2 (pre ++ post) → Least pre n q s → Least (pre ++ post) n (leastF n post (1 + sumS pre) q s).1 (leastF n post (1 + sumS pre) q s).2
  | [], pre, q, s, hz, h => by rw [List.append_nil]; exact h
  | b :: r, pre, q, s, hz, h => by
    have e : pre ++ b :: r = (pre ++ [b]) ++ r := by simp
    rw [e] at hz ⊢
    have hs : 1 + sumS pre + b.1 = 1 + sumS (pre ++ [b]) := by rw [sumS_app]; simp [sumS]; omega
    unfold leastF
    rw [hs]
    exact leastF_ok hz (least_step (sz2_app.1 hz).1 h)

theorem leastR_ok (hz : sz2 bs) (n : Nat) : Least bs n (leastR bs n).1 (leastR bs n).2 :=
  leastF_ok (pre := []) hz (.inl ⟨rfl, fun p s h => by simp [walk] at h⟩)

/-- best -/
theorem c83 (h : RRep X t hw W) (ht : told W bs) (n : Nat) (hn : n ≤ 1048576) : RC Try.prog 83 [.pure (.int .i64)] [.ref (some t) cR 0 [], .v (.int .i64 (n : Int))] X (((leastR bs n).1 : Nat) : Int) := by
  refine xcOf (X := X83) rfl FN83 (by kernel_rfl) (by decide) (E83 X t n ?_)
  refine Loops.intro (fun q : List Bl × List Bl × Nat × Nat => S83_0 t n (q.2.2.1 : Int) ((1 + sumS q.1 : Nat) : Int) X ⟨0, []⟩)
    (fun q => bs = q.1 ++ q.2.1 ∧ Least q.1 n q.2.2.1 q.2.2.2 ∧ leastF n q.2.1 (1 + sumS q.1) q.2.2.1 q.2.2.2 = leastR bs n) (fun q => q.2.1.length) ([], bs, 0, 0) rfl ⟨rfl, .inl ⟨rfl, fun p s h => by simp [walk] at h⟩, rfl⟩ ?_
  rintro ⟨pre, post, q, s⟩ ⟨hbs, hl, hR⟩
  have hbs : bs = pre ++ post := hbs
  have hl : Least pre n q s := hl
  have hR : leastF n post (1 + sumS pre) q s = leastR bs n := hR
  rw [hbs] at ht
  have hz := ht.2.2.1
  obtain ⟨z1, z2⟩ := sz2_app.1 hz
  refine L83_0 t n q ((1 + sumS pre : Nat) : Int) X ⟨0, []⟩ ⟨_, h.box.el, fun e => ?_, fun e => ?_⟩
  · obtain ⟨b, post', rfl⟩ := ht.last.1 e
    obtain ⟨g1, g2, g3, g4, g5, g6⟩ := ht.here
    have hstep := least_step (b := b) (sz2_app.2 ⟨z1, fun x hx => by rw [List.mem_singleton] at hx; subst hx; exact g1⟩) hl
    unfold leastF at hR
    rw [← g4] at hR
    have next : ∀ q' s', Least (pre ++ [b]) n q' s' → leastF n post' (1 + sumS (pre ++ [b])) q' s' = leastR bs n → Again (fun q : List Bl × List Bl × Nat × Nat => S83_0 t n (q.2.2.1 : Int) ((1 + sumS q.1 : Nat) : Int) X ⟨0, []⟩)
        (fun q => bs = q.1 ++ q.2.1 ∧ Least q.1 n q.2.2.1 q.2.2.2 ∧ leastF n q.2.1 (1 + sumS q.1) q.2.2.1 q.2.2.2 = leastR bs n) (fun q => q.2.1.length) ((b :: post').length) (S83_0 t n (q' : Int) ((1 + sumS (pre ++ [b]) : Nat) : Int) X ⟨0, []⟩) :=
      fun q' s' h1 h2 => Again.mk (pre ++ [b], post', q', s') rfl ⟨by rw [hbs]; simp, h1, h2⟩ (by simp)
    have yes : (b.2 = false ∧ n + 1 ≤ b.1 ∧ (q = 0 ∨ b.1 < s)) → Again (fun q : List Bl × List Bl × Nat × Nat => S83_0 t n (q.2.2.1 : Int) ((1 + sumS q.1 : Nat) : Int) X ⟨0, []⟩)
        (fun q => bs = q.1 ++ q.2.1 ∧ Least q.1 n q.2.2.1 q.2.2.2 ∧ leastF n q.2.1 (1 + sumS q.1) q.2.2.1 q.2.2.2 = leastR bs n) (fun q => q.2.1.length) ((b :: post').length) (S83_0 t n ((1 + sumS pre : Nat) : Int) ((1 + sumS (pre ++ [b]) : Nat) : Int) X ⟨0, []⟩) := fun c => by
      rw [if_pos c, if_pos c] at hstep hR
      exact next _ _ hstep hR
    have no : ¬ (b.2 = false ∧ n + 1 ≤ b.1 ∧ (q = 0 ∨ b.1 < s)) → Again (fun q : List Bl × List Bl × Nat × Nat => S83_0 t n (q.2.2.1 : Int) ((1 + sumS q.1 : Nat) : Int) X ⟨0, []⟩)
        (fun q => bs = q.1 ++ q.2.1 ∧ Least q.1 n q.2.2.1 q.2.2.2 ∧ leastF n q.2.1 (1 + sumS q.1) q.2.2.1 q.2.2.2 = leastR bs n) (fun q => q.2.1.length) ((b :: post').length) (S83_0 t n (q : Int) ((1 + sumS (pre ++ [b]) : Nat) : Int) X ⟨0, []⟩) := fun c => by
      rw [if_neg c, if_neg c] at hstep hR
      exact next _ _ hstep hR
    refine h.at' (by omega) ⟨by decide, ?_⟩
    rw [g3, hd_mod]
    have hWle := ht.2.1
    refine ⟨fun ev => h.at' (by omega) ⟨by decide, ?_⟩, fun ev => h.at' (by omega) ⟨by decide, ?_⟩⟩
    · have ev : b.2 = false := by simpa using ev
      rw [g3, g5, wrap64 (x := (b.1 : Int) - 1) (by omega) (by omega)]
      refine ⟨fun e1 => ⟨fun e2 => h.at' (by omega) ⟨by decide, ?_⟩, fun e2 => h.at' (by omega) ?_⟩, fun e1 => h.at' (by omega) ⟨by decide, ?_⟩⟩
      · have e1 := of_decide_eq_true e1
        have e2 : q = 0 := by have : (q : Int) = 0 := by simpa using e2
                              omega
        rw [g3, g5, g6]
        exact yes ⟨ev, by omega, .inl e2⟩
      · have e1 := of_decide_eq_true e1
        have e2 : q ≠ 0 := by have : ¬ (q : Int) = 0 := by simpa using e2
                              omega
        rcases hl with ⟨h0, _⟩ | ⟨h1, h2, h3⟩
        · exact absurd h0 e2
        have hq : 1 ≤ q ∧ 2 ≤ s ∧ q + s ≤ 1 + sumS pre := walk_bd z1 h1
        have hqg : W.getD q 0 = 2 * (s : Int) := by
          rw [List.getD, ht.2.2.2 q s false (by rw [walk_app]; exact List.mem_append_left _ h1)]
          simp [hd]
        have hlen := ht.1
        rw [sumS_app] at hlen
        refine h.at' (by omega) ?_
        rw [g3, hqg]
        have hhd : hd b.1 b.2 = 2 * (b.1 : Int) := by rw [ev]; simp [hd]
        refine ⟨fun e3 => h.at' (by omega) ⟨by decide, ?_⟩, fun e3 => h.at' (by omega) ⟨by decide, ?_⟩⟩
        · have e3 := of_decide_eq_true e3
          rw [hhd] at e3
          rw [g3, g5, g6]
          exact yes ⟨ev, by omega, .inr (by omega)⟩
        · have e3 := of_decide_eq_false e3
          rw [hhd] at e3
          have e3 : ¬ 2 * (b.1 : Int) < 2 * (s : Int) := e3
          rw [g3, g5, g6]
          refine no ?_
          rintro ⟨_, _, c | c⟩
          · exact e2 c
          · omega
      · have e1 := of_decide_eq_false e1
        rw [g3, g5, g6]
        exact no fun c => by have := c.2.1; omega
    · have ev : b.2 = true := by simpa using ev
      rw [g3, g5, g6]
      exact no fun c => by rw [ev] at c; cases c.1
  · obtain rfl := ht.last.2 e
    have e' : (q : Int) = (((leastR bs n).1 : Nat) : Int) := by rw [← hR]; rfl
    exact ⟨e', rfl⟩

/-- Words -/
theorem c59 (h : RRep X t hw W) (ht : told W bs) : RC Try.prog 59 [.pure (.int .i64), .pure (.int .i64)] [.ref (some t) cR 0 []] X (((usedSum bs : Nat) : Int), (sumS bs : Int) - ((usedSum bs : Nat) : Int)) := by
  refine xcOf (X := X59) rfl FN59 (by kernel_rfl) (by decide) (E59 X t ?_)
  refine Loops.intro (fun q : List Bl × List Bl => S59_0 t ((usedSum q.1 : Nat) : Int) ((sumS q.1 - usedSum q.1 : Nat) : Int) ((1 + sumS q.1 : Nat) : Int) X ⟨0, []⟩) (fun q => bs = q.1 ++ q.2) (fun q => q.2.length) ([], bs) rfl rfl ?_
  rintro ⟨pre, post⟩ hbs
  have hbs : bs = pre ++ post := hbs
  rw [hbs] at ht
  refine L59_0 t _ _ ((1 + sumS pre : Nat) : Int) X ⟨0, []⟩ ⟨_, h.box.el, fun e => ?_, fun e => ?_⟩
  · obtain ⟨b, post', rfl⟩ := ht.last.1 e
    obtain ⟨g1, g2, g3, g4, g5, g6⟩ := ht.here
    have hWle := ht.2.1
    have hu := usedSum_le pre
    have hus : usedSum (pre ++ [b]) = usedSum pre + (if b.2 then b.1 else 0) := by rw [usedSum_app]; simp [usedSum]
    refine h.at' (by omega) ⟨by decide, ?_⟩
    rw [g3, hd_odd]
    refine ⟨fun ev => h.at' (by omega) ⟨by decide, h.at' (by omega) ⟨by decide, ?_⟩⟩, fun ev => h.at' (by omega) ⟨by decide, h.at' (by omega) ⟨by decide, ?_⟩⟩⟩
    · rw [g3, g5, g6]
      rw [if_pos ev] at hus
      have e1 : IntKind.wrap .i64 (((usedSum pre : Nat) : Int) + (b.1 : Int)) = ((usedSum (pre ++ [b]) : Nat) : Int) := by rw [wrap64 (by omega) (by omega), hus]; omega
      have e2 : ((sumS pre - usedSum pre : Nat) : Int) = ((sumS (pre ++ [b]) - usedSum (pre ++ [b]) : Nat) : Int) := by omega
      rw [e1, e2]
      exact Again.mk (pre ++ [b], post') rfl (by rw [hbs]; simp) (by simp)
    · rw [g3, g5, g6]
      rw [if_neg (by rw [ev]; decide)] at hus
      have e1 : IntKind.wrap .i64 (((sumS pre - usedSum pre : Nat) : Int) + (b.1 : Int)) = ((sumS (pre ++ [b]) - usedSum (pre ++ [b]) : Nat) : Int) := by rw [wrap64 (by omega) (by omega)]; omega
      have e2 : ((usedSum pre : Nat) : Int) = ((usedSum (pre ++ [b]) : Nat) : Int) := by omega
      rw [e1, e2]
      exact Again.mk (pre ++ [b], post') rfl (by rw [hbs]; simp) (by simp)
  · obtain rfl := ht.last.2 e
    rw [List.append_nil] at hbs
    subst hbs
    have hu := usedSum_le bs
    have e' : (((usedSum bs : Nat) : Int), ((sumS bs - usedSum bs : Nat) : Int)) = (((usedSum bs : Nat) : Int), (sumS bs : Int) - ((usedSum bs : Nat) : Int)) := by rw [Int.ofNat_sub hu]
    exact ⟨e', rfl⟩

theorem usedAt_snoc (pre : List Bl) (b : Bl) : usedAt (pre ++ [b]) = usedAt pre ++ (if b.2 then [((1 + sumS pre : Nat) : Int)] else []) := by
  unfold usedAt
  rw [walk_app, List.filter_append, List.map_append]
  congr 1
  cases hb : b.2 <;> simp [walk, hb]

/-- Used -/
theorem c21 (h : RRep X t hw W) (ht : told W bs) : RC Try.prog 21 [.pure (.slice (.int .i64))] [.ref (some t) cR 0 []] X (usedAt bs) := by
  refine xcOf (X := X21) rfl FN21 (by kernel_rfl) (by decide) (E21 X t ?_)
  refine Loops.intro (fun q : List Bl × List Bl × Tok × Toks => S21_0 t (usedAt q.1) q.2.2.1 ((1 + sumS q.1 : Nat) : Int) X q.2.2.2) (fun q => bs = q.1 ++ q.2.1 ∧ q.2.2.1.fresh q.2.2.2) (fun q => q.2.1.length) ([], bs, .exact, ⟨0, []⟩) rfl ⟨rfl, trivial⟩ ?_
  rintro ⟨pre, post, k, T⟩ ⟨hbs, hk⟩
  have hbs : bs = pre ++ post := hbs
  have hk : k.fresh T := hk
  rw [hbs] at ht
  refine L21_0 t (usedAt pre) k ((1 + sumS pre : Nat) : Int) X T ⟨_, h.box.el, fun e => ?_, fun e => ?_⟩
  · obtain ⟨b, post', rfl⟩ := ht.last.1 e
    obtain ⟨g1, g2, g3, g4, g5, g6⟩ := ht.here
    have hWle := ht.2.1
    have hul := usedAt_len pre (sz2_app.1 ht.2.2.1).1
    have hus := usedAt_snoc pre b
    refine h.at' (by omega) ⟨by decide, ?_⟩
    rw [g3, hd_odd]
    refine ⟨fun ev => ⟨hk.own, ?_, h.at' (by omega) ⟨by decide, ?_⟩⟩, fun ev => h.at' (by omega) ⟨by decide, ?_⟩⟩
    · show ((usedAt pre).length + 1) * 8 ≤ 140737488355328
      omega
    · rw [g3, g5, g6]
      rw [if_pos ev] at hus
      rw [← hus]
      exact Again.mk (pre ++ [b], post', .tk T.n, _) rfl ⟨by rw [hbs]; simp, Tok.fresh_new ..⟩ (by simp)
    · rw [g3, g5, g6]
      rw [if_neg (by rw [ev]; decide), List.append_nil] at hus
      rw [← hus]
      exact Again.mk (pre ++ [b], post', k, T) rfl ⟨by rw [hbs]; simp, hk⟩ (by simp)
  · obtain rfl := ht.last.2 e
    rw [List.append_nil] at hbs
    subst hbs
    exact ⟨rfl, rfl⟩

/-- Size -/
theorem c58 (h : RRep X t hw W) (ht : told W bs) (a : Int) (ha : -9223372036854775808 ≤ a ∧ a ≤ 9223372036854775807) : RC Try.prog 58 [.pure (.int .i64), .pure .bool] [.ref (some t) cR 0 [], .v (.int .i64 a)] X (sizeR bs a) := by
  refine xcOf (X := X58) rfl FN58 (by kernel_rfl) (by decide) (E58 X t a ⟨_, c84 h ht a ha, fun e => ?_, fun e => ?_⟩)
  · have hs : sizeAt bs a = none := by simpa using e
    have e' : ((0 : Int), false) = sizeR bs a := by unfold sizeR; rw [hs]
    exact ⟨e', rfl⟩
  · obtain ⟨s, hs⟩ : ∃ s, sizeAt bs a = some s := by
      cases hs : sizeAt bs a with
      | some s => exact ⟨s, rfl⟩
      | none => rw [hs] at e; cases e
    obtain ⟨p, rfl, hm⟩ := (sizeAt_some ht.2.2.1).1 hs
    obtain ⟨pre, post, hbs, rfl⟩ := walk_split hm
    rw [hbs] at ht
    obtain ⟨g1, g2, g3, g4, g5, g6⟩ := ht.here
    have hWle := ht.2.1
    simp only at g1 g2 g3 g5
    refine h.at' (by omega) ⟨by decide, ?_⟩
    have e' : (IntKind.wrap .i64 (IntKind.wrap .i64 (Int.tdiv (W.getD (1 + sumS pre) 0) 2) - 1), true) = sizeR bs ((1 + sumS pre : Nat) : Int) := by
      rw [g3, g5, wrap64 (by omega) (by omega)]
      unfold sizeR; rw [hs]
    exact ⟨e', rfl⟩

/-- Read -/
theorem c57 (h : RRep X t hw W) (ht : WOK W bs) (a i : Int) (ha : -9223372036854775808 ≤ a ∧ a ≤ 9223372036854775807) : RC Try.prog 57 [.pure (.int .i64), .pure (.int .i64)] [.ref (some t) cR 0 [], .v (.int .i64 a), .v (.int .i64 i)] X (readR W bs a i) := by
  have hz0 : W.getD 0 0 = 0 := by rw [List.getD, ht.z]; rfl
  refine xcOf (X := X57) rfl FN57 (by kernel_rfl) (by decide) (E57 X t a i ⟨_, c58 h ht.told a ha, ?_⟩)
  cases hs : sizeAt bs a with
  | none =>
    have e1 : sizeR bs a = (0, false) := by unfold sizeR; rw [hs]
    have e2 : ((0 : Int), (24 : Int)) = readR W bs a i := by unfold readR placeR; rw [hs]; simp only [Int.toNat_zero, hz0]
    rw [e1]
    exact ⟨fun _ => ⟨e2, rfl⟩, fun e => absurd e (by decide)⟩
  | some s =>
    have e1 : sizeR bs a = ((s : Int) - 1, true) := by unfold sizeR; rw [hs]
    rw [e1]
    obtain ⟨p, rfl, hm⟩ := (sizeAt_some ht.sz).1 hs
    obtain ⟨b1, b2, b3⟩ := ht.bd hm
    have hle := ht.le
    refine ⟨fun e => (by simp at e), fun _ => ⟨fun e => ?_, fun e => ⟨fun e3 => ?_, fun e3 => ?_⟩⟩⟩
    · have e := of_decide_eq_true e
      have e2 : ((0 : Int), (1 : Int)) = readR W bs (p : Int) i := by unfold readR placeR; rw [hs]; dsimp only; rw [if_pos e]; simp only [Int.toNat_zero, hz0]
      exact ⟨e2, rfl⟩
    · have e := of_decide_eq_false e
      have e3 := of_decide_eq_true e3
      have e2 : ((0 : Int), (1 : Int)) = readR W bs (p : Int) i := by unfold readR placeR; rw [hs]; dsimp only; rw [if_neg e, if_pos e3]; simp only [Int.toNat_zero, hz0]
      exact ⟨e2, rfl⟩
    · have e := of_decide_eq_false e
      have e3 := of_decide_eq_false e3
      dsimp only at e3
      obtain ⟨j, rfl⟩ : ∃ j : Nat, i = j := ⟨i.toNat, by omega⟩
      have ew : IntKind.wrap .i64 (IntKind.wrap .i64 ((p : Int) + 1) + (j : Int)) = ((p + 1 + j : Nat) : Int) := by
        rw [wrap64 (x := (p : Int) + 1) (by omega) (by omega), wrap64 (by omega) (by omega)]; omega
      rw [ew]
      refine h.at' (by omega) ?_
      have e2 : (W.getD (p + 1 + j) 0, (0 : Int)) = readR W bs (p : Int) (j : Int) := by
        unfold readR placeR; rw [hs]; dsimp only; rw [if_neg e, if_neg e3]
        dsimp only
        rw [show ((p : Int) + 1 + (j : Int)).toNat = p + 1 + j by omega]
      exact ⟨e2, rfl⟩

/-- Write -/
theorem c56 (h : RRep X t hw W) (ht : WOK W bs) (a i v : Int) (ha : -9223372036854775808 ≤ a ∧ a ≤ 9223372036854775807) : XC Try.prog 56 [.pure (.int .i64)] [.ref (some t) cR 0 [], .v (.int .i64 a), .v (.int .i64 i), .v (.int .i64 v)] X
    fun p X' => p = (placeR bs a i).2 ∧ RRep X' t hw (writeW W bs a i v) ∧ Mv X [t, hw] X' [t, hw] := by
  refine xcOf (X := X56) rfl FN56 (by kernel_rfl) (by decide) (E56 X t a i v ⟨_, c57 h ht a i ha, fun e => ?_, fun e => ?_⟩)
  · have e : (placeR bs a i).2 = 0 := by simpa [readR] using e
    rcases place_ok ht a i with (e1 | e1) | ⟨p, s, j, rfl, rfl, hm, h1, e1, h2, h3⟩
    · rw [e1] at e; cases e
    · rw [e1] at e; cases e
    have hle := ht.le
    have ew : IntKind.wrap .i64 (IntKind.wrap .i64 ((p : Int) + 1) + (j : Int)) = ((p + 1 + j : Nat) : Int) := by
      rw [wrap64 (x := (p : Int) + 1) (by omega) (by omega), wrap64 (by omega) (by omega)]; omega
    rw [ew]
    refine h.at' (by omega) ?_
    intro X5 e5
    have e5 : X5 = X.setEl cI hw (0 + ((p + 1 + j : Nat) : Int).toNat) v := e5
    rw [Nat.zero_add, Int.toNat_natCast] at e5
    obtain ⟨h5, m5⟩ := h.set (p + 1 + j) v
    rw [← e5] at h5 m5
    have hW : writeW W bs (p : Int) (j : Int) v = W.set (p + 1 + j) v := by unfold writeW; rw [if_pos e, e1, Int.toNat_natCast]
    exact ⟨rfl, by rw [hW]; exact h5, m5⟩
  · have e : (placeR bs a i).2 ≠ 0 := by simpa [readR] using e
    have hW : writeW W bs a i v = W := by unfold writeW; rw [if_neg e]
    exact ⟨rfl, by rw [hW]; exact h, .refl _ _⟩

def fitsR (bs : List Bl) (n : Int) : Bool := decide (1 ≤ n ∧ n ≤ 1048576) && decide ((leastR bs n.toNat).1 > 0)

/-- Fits -/
theorem c53 (h : RRep X t hw W) (ht : told W bs) (n : Int) : RC Try.prog 53 [.pure .bool] [.ref (some t) cR 0 [], .v (.int .i64 n)] X (fitsR bs n) := by
  refine xcOf (X := X53) rfl FN53 (by kernel_rfl) (by decide) (E53 X t n ⟨fun e => ⟨fun e2 => ?_, fun e2 => ?_⟩, fun e => ?_⟩)
  · have e := of_decide_eq_true e
    have e2 := of_decide_eq_true e2
    obtain ⟨m, rfl⟩ : ∃ m : Nat, n = m := ⟨n.toNat, by omega⟩
    have e' : decide ((((leastR bs m).1 : Nat) : Int) > 0) = fitsR bs (m : Int) := by
      unfold fitsR
      rw [decide_eq_true (show 1 ≤ (m : Int) ∧ (m : Int) ≤ 1048576 from ⟨by omega, by omega⟩), Bool.true_and, Int.toNat_natCast]
      exact decide_eq_decide.2 (by omega)
    exact ⟨_, c83 h ht m (by omega), e', rfl⟩
  · have e2 := of_decide_eq_false e2
    have e' : false = fitsR bs n := by unfold fitsR; rw [decide_eq_false (by omega), Bool.false_and]
    exact ⟨e', rfl⟩
  · have e := of_decide_eq_false e
    have e' : false = fitsR bs n := by unfold fitsR; rw [decide_eq_false (by omega), Bool.false_and]
    exact ⟨e', rfl⟩

/-- New -/
theorem c20 (n : Int) : XC Try.prog 20 [.ref cR] [.v (.int .i64 n)] X
    fun p X' => (¬ (16 ≤ n ∧ n ≤ 1048576) ∧ p = (none : Option Nat) ∧ X' = X) ∨ ∃ (m t hw : Nat), n = m ∧ 16 ≤ m ∧ m ≤ 1048576 ∧ p = (some t : Option Nat) ∧ RRep X' t hw (newW m) ∧ Mv X [] X' [t, hw] := by
  refine xcOf (X := X20) rfl FN20 (by kernel_rfl) (by decide) (E20 X n ⟨fun e => ?_, fun e => ⟨fun e2 => ?_, fun e2 => ?_⟩⟩)
  · have e := of_decide_eq_true e
    exact .inl ⟨by omega, rfl, rfl⟩
  · have e2 := of_decide_eq_true e2
    exact .inl ⟨by omega, rfl, rfl⟩
  have e := of_decide_eq_false e
  have e2 := of_decide_eq_false e2
  obtain ⟨m, rfl⟩ : ∃ m : Nat, n = m := ⟨n.toNat, by omega⟩
  rw [Int.toNat_natCast]
  refine ⟨by omega, Int.le_refl _, by show (m : Int) * 8 ≤ ((140737488355328 : Nat) : Int); omega, by omega, ?_⟩
  intro X1 e1 X2 e22
  have n1 : X1.n = X.n + 1 := by rw [e1]; rfl
  have r2 : RRep X2 X1.n X.n (List.replicate m 0) := by
    refine ⟨?_, ?_, by omega⟩
    · show X2.at X1.n = _
      rw [e22, at_add_new, List.length_replicate]
    · rw [e22, at_add_old (by omega), e1, at_add_new]
  have m2 : Mv X [] X2 [X1.n, X.n] := by
    refine ⟨by rw [e22]; show X.n ≤ X1.n + 1; omega, fun k hk _ => ?_, fun k hk => .inr ?_⟩
    · rw [e22, at_add_old (by omega), e1, at_add_old hk]
    · simp only [List.mem_cons, List.not_mem_nil, or_false] at hk; omega
  have hone : (1 : Int) = ((1 : Nat) : Int) := rfl
  refine r2.at' (k := 1) (by rw [List.length_replicate]; omega) ?_
  intro X6 e6
  have ew : IntKind.wrap .i64 ((2 : Int) * IntKind.wrap .i64 ((m : Int) - 1)) = 2 * ((m - 1 : Nat) : Int) := by
    rw [wrap64 (x := (m : Int) - 1) (by omega) (by omega), wrap64 (by omega) (by omega)]; omega
  rw [ew] at e6
  have e6 : X6 = X2.setEl cI X.n 1 (2 * ((m - 1 : Nat) : Int)) := e6
  obtain ⟨r6, m6⟩ := r2.set 1 (2 * ((m - 1 : Nat) : Int))
  rw [← e6] at r6 m6
  refine (c52 r6 (a := 2) (b := m) (by omega) (by simp) (by simp; omega)).mono ?_
  rintro _ X8 ⟨r8, m8⟩
  exact .inr ⟨m, X1.n, X.n, rfl, by omega, by omega, rfl, r8, m2.trans (m6.trans m8)⟩

end Go.Proofs.Ytefpoodhdfggdaa.AB

set_option linter.unusedVariables false
set_option linter.unusedSimpArgs false
set_option maxRecDepth 100000
set_option maxHeartbeats 2000000
namespace Go.Proofs.Ytefpoodhdfggdaa.AB
open Go
/-! (*crucible/crucibleref5.Arena).Alloc -/
noncomputable def X54 : Cx := ⟨tt, [], [(83, [(.pure (.int .i64))])], [(54, [(3, 2, .rd)])], [(54, [(0, mkM 72 0 [0, 6, 7, 8], 0)])], []⟩
theorem FN54 : fnsB Try.prog X54.fns := (show True from trivial)
def M54_0 : List Bool × Nat := (mkM 72 0 [0, 6, 7, 8], 1)
def S54_0 (a0 : Nat) (at6 : Int) (size7 : Int) (i8 : Int) (hq0 : XH) (T : Toks) : St :=
  mkS 72 [(0, (.ref (some a0) ccrucibleref5_Arena 0 [])), (6, (.v (.int .i64 at6))), (7, (.v (.int .i64 size7))), (8, (.v (.int .i64 i8)))] [(some (.heap hq0))] T
noncomputable def B54_0 : (Exit → St → Prop) → St → Prop := (awp X54.tt (callN Try.prog X54 0) (X54.md 54) 1 (X54.mk1 54) 0 (codeAt [1, 1, 1, 1, 1, 1, 1, 0, 1, 0, 0] (bd Try.f54)))
noncomputable def K54_0 (R : (Int × Int) → XH → Prop) : Exit → St → Prop := seqK ((awp X54.tt (callN Try.prog X54 0) (X54.md 54) 1 (X54.mk1 54) 0 (codeAt [1, 1, 1, 1, 1, 1, 1, 1] (bd Try.f54))) (retK tt Try.f54.results.toList fun x s' => xfin [(.pure (.int .i64)), (.pure (.int .i64))] R x ⟨[], s'.hp, s'.T⟩)) (retK tt Try.f54.results.toList fun x s' => xfin [(.pure (.int .i64)), (.pure (.int .i64))] R x ⟨[], s'.hp, s'.T⟩)
noncomputable def Q54_0 (R : (Int × Int) → XH → Prop) : Exit → St → Prop := (blockK 0 (K54_0 R))
theorem E54 (X : XH) (a0 : Nat) (n1 : Int) {R : (Int × Int) → XH → Prop} (h : (((decide (n1 < (1 : Int))) = true → R ((0 : Int), (1 : Int)) X) ∧ ((decide (n1 < (1 : Int))) = false → (((decide (n1 > (1048576 : Int))) = true → R ((0 : Int), (1 : Int)) X) ∧
 ((decide (n1 > (1048576 : Int))) = false → (∃ (p1 : Int), RC Try.prog 83 [(.pure (.int .i64))] [(.ref (some a0) ccrucibleref5_Arena 0 []), (.v (.int .i64 n1))] X p1 ∧ (((p1 == (0 : Int)) = true → R ((0 : Int), (23 : Int)) X) ∧
 ((p1 == (0 : Int)) = false → (∃ (a2 : ((Option SlH) × Unit)), XH.el X ccrucibleref5_Arena a0 0 = some a2 ∧ (∃ (u3 : SlH), a2.1 = some u3 ∧ 0 ≤ p1 ∧ p1 < ((u3.len : Nat) : Int) ∧ (∃ (a4 : Int), XH.el X (.pure (.int .i64)) u3.h ((u3.off + (p1).toNat)) = some a4 ∧ ((2 : Int) ≠ 0 ∧ (((decide ((IntKind.wrap .i64 ((IntKind.wrap .i64 (Int.tdiv a4 (2 : Int))) - (1 : Int))) ≥ (IntKind.wrap .i64 (n1 + (2 : Int))))) = true → (∃ (a5 : ((Option SlH) × Unit)), XH.el X ccrucibleref5_Arena a0 0 = some a5 ∧ (∃ (u6 : SlH), a5.1 = some u6 ∧ 0 ≤ (IntKind.wrap .i64 ((IntKind.wrap .i64 (p1 + n1)) + (1 : Int))) ∧ (IntKind.wrap .i64 ((IntKind.wrap .i64 (p1 + n1)) + (1 : Int))) < ((u6.len : Nat) : Int) ∧ (∃ (a7 : Int), XH.el X (.pure (.int .i64)) u6.h ((u6.off + ((IntKind.wrap .i64 ((IntKind.wrap .i64 (p1 + n1)) + (1 : Int)))).toNat)) = some a7 ∧ (∀ (X8 : XH), X8 = (XH.setEl X (.pure (.int .i64)) u6.h ((u6.off + ((IntKind.wrap .i64 ((IntKind.wrap .i64 (p1 + n1)) + (1 : Int)))).toNat)) ((IntKind.wrap .i64 ((2 : Int) * (IntKind.wrap .i64 ((IntKind.wrap .i64 ((IntKind.wrap .i64 (Int.tdiv a4 (2 : Int))) - n1)) - (1 : Int))))))) → (∃ (a9 : ((Option SlH) × Unit)), XH.el X8 ccrucibleref5_Arena a0 0 = some a9 ∧ (∃ (u10 : SlH), a9.1 = some u10 ∧ 0 ≤ p1 ∧ p1 < ((u10.len : Nat) : Int) ∧ (∃ (a11 : Int), XH.el X8 (.pure (.int .i64)) u10.h ((u10.off + (p1).toNat)) = some a11 ∧ (∀ (X12 : XH), X12 = (XH.setEl X8 (.pure (.int .i64)) u10.h ((u10.off + (p1).toNat)) ((IntKind.wrap .i64 ((IntKind.wrap .i64 ((2 : Int) * (IntKind.wrap .i64 (n1 + (1 : Int))))) + (1 : Int))))) → (Loops B54_0 M54_0 (Q54_0 R)
  (S54_0 a0 p1 ((IntKind.wrap .i64 (n1 + (1 : Int)))) (1 : Int) X12 ⟨0, []⟩))))))))))) ∧
 ((decide ((IntKind.wrap .i64 ((IntKind.wrap .i64 (Int.tdiv a4 (2 : Int))) - (1 : Int))) ≥ (IntKind.wrap .i64 (n1 + (2 : Int))))) = false → (∃ (a13 : ((Option SlH) × Unit)), XH.el X ccrucibleref5_Arena a0 0 = some a13 ∧ (∃ (u14 : SlH), a13.1 = some u14 ∧ 0 ≤ p1 ∧ p1 < ((u14.len : Nat) : Int) ∧ (∃ (a15 : Int), XH.el X (.pure (.int .i64)) u14.h ((u14.off + (p1).toNat)) = some a15 ∧ (∀ (X16 : XH), X16 = (XH.setEl X (.pure (.int .i64)) u14.h ((u14.off + (p1).toNat)) ((IntKind.wrap .i64 ((IntKind.wrap .i64 ((2 : Int) * (IntKind.wrap .i64 (Int.tdiv a4 (2 : Int))))) + (1 : Int))))) → (Loops B54_0 M54_0 (Q54_0 R)
  (S54_0 a0 p1 ((IntKind.wrap .i64 (Int.tdiv a4 (2 : Int)))) (1 : Int) X16 ⟨0, []⟩)))))))))))))))))))) :
  fnK X54.tt (callN Try.prog X54 0) (X54.md 54) (X54.mk1 54) Try.f54 [(.ref (some a0) ccrucibleref5_Arena 0 []), (.v (.int .i64 n1))] ⟨[], [some (.heap X)], ⟨0, []⟩⟩ (xfin [(.pure (.int .i64)), (.pure (.int .i64))] R) := Eq.mp (by kernel_rfl) h
theorem L54_0 (a0 : Nat) (at6 : Int) (size7 : Int) (i8 : Int) (hq0 : XH) (T : Toks) {R : (Int × Int) → XH → Prop} {k0 : St → Prop}
 (h : (((decide (i8 < size7)) = true → (∃ (a17 : ((Option SlH) × Unit)), XH.el hq0 ccrucibleref5_Arena a0 0 = some a17 ∧ (∃ (u18 : SlH), a17.1 = some u18 ∧ 0 ≤ (IntKind.wrap .i64 (at6 + i8)) ∧ (IntKind.wrap .i64 (at6 + i8)) < ((u18.len : Nat) : Int) ∧ (∃ (a19 : Int), XH.el hq0 (.pure (.int .i64)) u18.h ((u18.off + ((IntKind.wrap .i64 (at6 + i8))).toNat)) = some a19 ∧ (∀ (X20 : XH), X20 = (XH.setEl hq0 (.pure (.int .i64)) u18.h ((u18.off + ((IntKind.wrap .i64 (at6 + i8))).toNat)) (0 : Int)) → k0 (S54_0 a0 at6 size7 ((IntKind.wrap .i64 (i8 + (1 : Int)))) X20 T)))))) ∧
 ((decide (i8 < size7)) = false → R (at6, (0 : Int)) hq0))) :
  B54_0 (loopQ M54_0 k0 (Q54_0 R)) (S54_0 a0 at6 size7 i8 hq0 T) := Eq.mp (by kernel_rfl) h
end Go.Proofs.Ytefpoodhdfggdaa.AB

set_option linter.unusedVariables false
set_option linter.unusedSimpArgs false
set_option maxRecDepth 100000
set_option maxHeartbeats 2000000
namespace Go.Proofs.Ytefpoodhdfggdaa.AB
open Go
/-! (*crucible/crucibleref5.Arena).Free -/
noncomputable def X55 : Cx := ⟨tt, [], [(52, []), (84, [(.pure .bool)])], [(55, [(1, 2, .rd), (6, 6, .xc)])], [(55, [(0, mkM 108 0 [0, 7, 8], 0)])], []⟩
theorem FN55 : fnsB Try.prog X55.fns := (show True from trivial)
def M55_0 : List Bool × Nat := (mkM 108 0 [0, 7, 8], 1)
def S55_0 (a0 : Nat) (last7 : Int) (k8 : Int) (hq0 : XH) (T : Toks) : St :=
  mkS 108 [(0, (.ref (some a0) ccrucibleref5_Arena 0 [])), (7, (.v (.int .i64 last7))), (8, (.v (.int .i64 k8)))] [(some (.heap hq0))] T
noncomputable def B55_0 : (Exit → St → Prop) → St → Prop := (awp X55.tt (callN Try.prog X55 0) (X55.md 55) 1 (X55.mk1 55) 0 (codeAt [1, 1, 1, 1, 1, 1, 1, 1, 0, 0, 0] (bd Try.f55)))
noncomputable def K55_0 (R : (Int) → XH → Prop) : Exit → St → Prop := seqK ((awp X55.tt (callN Try.prog X55 0) (X55.md 55) 1 (X55.mk1 55) 0 (codeAt [1, 1, 1, 1, 1, 1, 1, 1, 1] (bd Try.f55))) (retK tt Try.f55.results.toList fun x s' => xfin [(.pure (.int .i64))] R x ⟨[], s'.hp, s'.T⟩)) (retK tt Try.f55.results.toList fun x s' => xfin [(.pure (.int .i64))] R x ⟨[], s'.hp, s'.T⟩)
noncomputable def Q55_0 (R : (Int) → XH → Prop) : Exit → St → Prop := (blockK 0 (K55_0 R))
theorem E55 (X : XH) (a0 : Nat) (at1 : Int) {R : (Int) → XH → Prop} (h : (∃ (p1 : Bool), RC Try.prog 84 [(.pure .bool)] [(.ref (some a0) ccrucibleref5_Arena 0 []), (.v (.int .i64 at1))] X p1 ∧ (((!p1) = true → R (24 : Int) X) ∧
 ((!p1) = false → (∃ (a2 : ((Option SlH) × Unit)), XH.el X ccrucibleref5_Arena a0 0 = some a2 ∧ (∃ (u3 : SlH), a2.1 = some u3 ∧ 0 ≤ at1 ∧ at1 < ((u3.len : Nat) : Int) ∧ (∃ (a4 : Int), XH.el X (.pure (.int .i64)) u3.h ((u3.off + (at1).toNat)) = some a4 ∧ ((2 : Int) ≠ 0 ∧ (∃ (a5 : ((Option SlH) × Unit)), XH.el X ccrucibleref5_Arena a0 0 = some a5 ∧ (∃ (u6 : SlH), a5.1 = some u6 ∧ 0 ≤ at1 ∧ at1 < ((u6.len : Nat) : Int) ∧ (∃ (a7 : Int), XH.el X (.pure (.int .i64)) u6.h ((u6.off + (at1).toNat)) = some a7 ∧ (∀ (X8 : XH), X8 = (XH.setEl X (.pure (.int .i64)) u6.h ((u6.off + (at1).toNat)) ((IntKind.wrap .i64 ((2 : Int) * (IntKind.wrap .i64 (Int.tdiv a4 (2 : Int))))))) → (XC Try.prog 52 [] [(.ref (some a0) ccrucibleref5_Arena 0 []), (.v (.int .i64 ((IntKind.wrap .i64 (at1 + (1 : Int)))))), (.v (.int .i64 ((IntKind.wrap .i64 (at1 + (IntKind.wrap .i64 (Int.tdiv a4 (2 : Int))))))))] X8 (fun (p9 : Unit) (X10 : XH) => (Loops B55_0 M55_0 (Q55_0 R)
  (S55_0 a0 (0 : Int) (1 : Int) X10 ⟨0, []⟩)))))))))))))))) :
  fnK X55.tt (callN Try.prog X55 0) (X55.md 55) (X55.mk1 55) Try.f55 [(.ref (some a0) ccrucibleref5_Arena 0 []), (.v (.int .i64 at1))] ⟨[], [some (.heap X)], ⟨0, []⟩⟩ (xfin [(.pure (.int .i64))] R) := Eq.mp (by kernel_rfl) h
theorem L55_0 (a0 : Nat) (last7 : Int) (k8 : Int) (hq0 : XH) (T : Toks) {R : (Int) → XH → Prop} {k0 : St → Prop}
 (h : (∃ (a11 : ((Option SlH) × Unit)), XH.el hq0 ccrucibleref5_Arena a0 0 = some a11 ∧ (((decide (k8 < (((slN a11.1) : Nat) : Int))) = true → (∃ (a12 : ((Option SlH) × Unit)), XH.el hq0 ccrucibleref5_Arena a0 0 = some a12 ∧ (∃ (u13 : SlH), a12.1 = some u13 ∧ 0 ≤ k8 ∧ k8 < ((u13.len : Nat) : Int) ∧ (∃ (a14 : Int), XH.el hq0 (.pure (.int .i64)) u13.h ((u13.off + (k8).toNat)) = some a14 ∧ ((2 : Int) ≠ 0 ∧ (((decide (last7 > (0 : Int))) = true → (∃ (a15 : ((Option SlH) × Unit)), XH.el hq0 ccrucibleref5_Arena a0 0 = some a15 ∧ (∃ (u16 : SlH), a15.1 = some u16 ∧ 0 ≤ last7 ∧ last7 < ((u16.len : Nat) : Int) ∧ (∃ (a17 : Int), XH.el hq0 (.pure (.int .i64)) u16.h ((u16.off + (last7).toNat)) = some a17 ∧ ((2 : Int) ≠ 0 ∧ ((((Int.tmod a17 (2 : Int)) == (0 : Int)) = true → (∃ (a18 : ((Option SlH) × Unit)), XH.el hq0 ccrucibleref5_Arena a0 0 = some a18 ∧ (∃ (u19 : SlH), a18.1 = some u19 ∧ 0 ≤ k8 ∧ k8 < ((u19.len : Nat) : Int) ∧ (∃ (a20 : Int), XH.el hq0 (.pure (.int .i64)) u19.h ((u19.off + (k8).toNat)) = some a20 ∧ ((2 : Int) ≠ 0 ∧ ((((Int.tmod a20 (2 : Int)) == (0 : Int)) = true → (∃ (a21 : ((Option SlH) × Unit)), XH.el hq0 ccrucibleref5_Arena a0 0 = some a21 ∧ (∃ (a22 : ((Option SlH) × Unit)), XH.el hq0 ccrucibleref5_Arena a0 0 = some a22 ∧ (∃ (u23 : SlH), a22.1 = some u23 ∧ 0 ≤ last7 ∧ last7 < ((u23.len : Nat) : Int) ∧ (∃ (a24 : Int), XH.el hq0 (.pure (.int .i64)) u23.h ((u23.off + (last7).toNat)) = some a24 ∧ (∃ (a25 : ((Option SlH) × Unit)), XH.el hq0 ccrucibleref5_Arena a0 0 = some a25 ∧ (∃ (u26 : SlH), a25.1 = some u26 ∧ 0 ≤ k8 ∧ k8 < ((u26.len : Nat) : Int) ∧ (∃ (a27 : Int), XH.el hq0 (.pure (.int .i64)) u26.h ((u26.off + (k8).toNat)) = some a27 ∧ (∃ (u28 : SlH), a21.1 = some u28 ∧ 0 ≤ last7 ∧ last7 < ((u28.len : Nat) : Int) ∧ (∃ (a29 : Int), XH.el hq0 (.pure (.int .i64)) u28.h ((u28.off + (last7).toNat)) = some a29 ∧ (∀ (X30 : XH), X30 = (XH.setEl hq0 (.pure (.int .i64)) u28.h ((u28.off + (last7).toNat)) ((IntKind.wrap .i64 (a24 + a27)))) → (∃ (a31 : ((Option SlH) × Unit)), XH.el X30 ccrucibleref5_Arena a0 0 = some a31 ∧ (∃ (u32 : SlH), a31.1 = some u32 ∧ 0 ≤ k8 ∧ k8 < ((u32.len : Nat) : Int) ∧ (∃ (a33 : Int), XH.el X30 (.pure (.int .i64)) u32.h ((u32.off + (k8).toNat)) = some a33 ∧ (∀ (X34 : XH), X34 = (XH.setEl X30 (.pure (.int .i64)) u32.h ((u32.off + (k8).toNat)) (-6148914691236517206 : Int)) → k0 (S55_0 a0 last7 ((IntKind.wrap .i64 (k8 + (IntKind.wrap .i64 (Int.tdiv a14 (2 : Int)))))) X34 T)))))))))))))))) ∧
 (((Int.tmod a20 (2 : Int)) == (0 : Int)) = false → k0 (S55_0 a0 k8 ((IntKind.wrap .i64 (k8 + (IntKind.wrap .i64 (Int.tdiv a14 (2 : Int)))))) hq0 T)))))))) ∧ (((Int.tmod a17 (2 : Int)) == (0 : Int)) = false → k0 (S55_0 a0 k8 ((IntKind.wrap .i64 (k8 + (IntKind.wrap .i64 (Int.tdiv a14 (2 : Int)))))) hq0 T)))))))) ∧ ((decide (last7 > (0 : Int))) = false → k0 (S55_0 a0 k8 ((IntKind.wrap .i64 (k8 + (IntKind.wrap .i64 (Int.tdiv a14 (2 : Int)))))) hq0 T)))))))) ∧
 ((decide (k8 < (((slN a11.1) : Nat) : Int))) = false → R (0 : Int) hq0)))) :
  B55_0 (loopQ M55_0 k0 (Q55_0 R)) (S55_0 a0 last7 k8 hq0 T) := Eq.mp (by kernel_rfl) h
end Go.Proofs.Ytefpoodhdfggdaa.AB

set_option linter.unusedVariables false
set_option linter.unusedSimpArgs false
namespace Go.Proofs.Ytefpoodhdfggdaa.AB
open Go

variable {X X' : XH} {t hw : Nat} {W : List Int} {bs : List Bl}

/-- words are made zero -/
theorem zeros54 {R : Int × Int → XH → Prop} (h : RRep X t hw W) {a s : Nat} (h1 : 1 ≤ s) (ha : a + s ≤ W.length) (hle : W.length ≤ 1048576) (hR : ∀ Y, RRep Y t hw (over W (a + 1) (List.replicate (s - 1) 0)) → Mv X [t, hw] Y [t, hw] → R ((a : Int), 0) Y) :
    Loops B54_0 M54_0 (Q54_0 (fun p X' => R p X')) (S54_0 t (a : Int) (s : Int) 1 X ⟨0, []⟩) := by
  refine Loops.intro (fun q : Nat × XH => S54_0 t (a : Int) (s : Int) ((1 + q.1 : Nat) : Int) q.2 ⟨0, []⟩) (fun q => q.1 ≤ s - 1 ∧ RRep q.2 t hw (over W (a + 1) (List.replicate q.1 0)) ∧ Mv X [t, hw] q.2 [t, hw]) (fun q => s - 1 - q.1) (0, X) rfl
    ⟨Nat.zero_le _, by simp only [List.replicate_zero, over, List.append_nil, List.length_nil, Nat.add_zero, List.take_append_drop]; exact h, .refl _ _⟩ ?_
  rintro ⟨n, Y⟩ ⟨hn, r1, m1⟩
  have hn : n ≤ s - 1 := hn
  have r1 : RRep Y t hw (over W (a + 1) (List.replicate n 0)) := r1
  have hl1 : (over W (a + 1) (List.replicate n 0)).length = W.length := over_length (by simp; omega)
  refine L54_0 t a s ((1 + n : Nat) : Int) Y ⟨0, []⟩ ⟨fun hlt => ?_, fun hge => ?_⟩
  · have hlt := of_decide_eq_true hlt
    have ew : IntKind.wrap .i64 ((a : Int) + ((1 + n : Nat) : Int)) = ((a + 1 + n : Nat) : Int) := by rw [wrap64 (by omega) (by omega)]; omega
    have ew2 : IntKind.wrap .i64 (((1 + n : Nat) : Int) + 1) = ((1 + (n + 1) : Nat) : Int) := by rw [wrap64 (by omega) (by omega)]; omega
    rw [ew, ew2]
    refine r1.at' (k := a + 1 + n) (by rw [hl1]; omega) ?_
    intro X4 e4
    have e4 : X4 = Y.setEl cI hw (0 + ((a + 1 + n : Nat) : Int).toNat) 0 := e4
    rw [Nat.zero_add, Int.toNat_natCast] at e4
    obtain ⟨h5, m5⟩ := r1.set (a + 1 + n) 0
    rw [← e4] at h5 m5
    refine Again.mk (n + 1, X4) rfl ⟨show n + 1 ≤ s - 1 by omega, ?_, m1.trans m5⟩ (show s - 1 - (n + 1) < s - 1 - n by omega)
    have : (over W (a + 1) (List.replicate n 0)).set (a + 1 + n) 0 = over W (a + 1) (List.replicate (n + 1) 0) := by
      refine List.ext_getElem? fun i => ?_
      rw [List.getElem?_set, over_length (by simp; omega), over_get (by simp; omega), over_get (by simp; omega)]
      simp only [List.length_replicate]
      by_cases e : a + 1 + n = i
      · subst e
        rw [if_pos rfl, if_pos (by omega), if_pos (by omega), List.getElem?_replicate, if_pos (by omega)]
      · rw [if_neg e]
        by_cases e2 : a + 1 ≤ i ∧ i < a + 1 + n
        · rw [if_pos e2, if_pos (by omega), List.getElem?_replicate, if_pos (by omega), List.getElem?_replicate, if_pos (by omega)]
        · rw [if_neg e2, if_neg (by omega)]
    rw [← this]; exact h5
  · have hge := of_decide_eq_false hge
    have : n = s - 1 := by omega
    subst this
    exact hR Y r1 m1

/-- what Alloc comes to, there -/
def RAllocQ (X : XH) (t hw : Nat) (W : List Int) (bs : List Bl) (n : Int) (p : Int × Int) (X' : XH) : Prop :=
  ∃ W', RRep X' t hw W' ∧ Mv X [t, hw] X' [t, hw] ∧
    ((¬ (1 ≤ n ∧ n ≤ 1048576) ∧ p = (0, 1) ∧ W' = W) ∨
     (∃ m : Nat, n = m ∧ 1 ≤ m ∧ m ≤ 1048576 ∧
       ((noFit bs m ∧ p = (0, 23) ∧ W' = W) ∨
        ∃ pre s post, BestAt bs m pre s post ∧ p = (((1 + sumS pre : Nat) : Int), 0) ∧ W' = allocW W (1 + sumS pre) m s)))

/-- Alloc -/
theorem c54 (h : RRep X t hw W) (ht : WOK W bs) (n : Int) : XC Try.prog 54 [.pure (.int .i64), .pure (.int .i64)] [.ref (some t) cR 0 [], .v (.int .i64 n)] X (RAllocQ X t hw W bs n) := by
  refine xcOf (X := X54) rfl FN54 (by kernel_rfl) (by decide) (E54 X t n ⟨fun e => ?_, fun e => ⟨fun e2 => ?_, fun e2 => ?_⟩⟩)
  · have e := of_decide_eq_true e
    exact ⟨W, h, .refl _ _, .inl ⟨by omega, rfl, rfl⟩⟩
  · have e2 := of_decide_eq_true e2
    exact ⟨W, h, .refl _ _, .inl ⟨by omega, rfl, rfl⟩⟩
  have e := of_decide_eq_false e
  have e2 := of_decide_eq_false e2
  obtain ⟨m, rfl⟩ : ∃ m : Nat, n = m := ⟨n.toNat, by omega⟩
  have hm1 : 1 ≤ m := by omega
  have hm2 : m ≤ 1048576 := by omega
  have hwle := ht.le
  refine ⟨_, c83 h ht.told m hm2, ?_⟩
  rcases least_pos ht.sz (leastR_ok ht.sz m) with ⟨h0, hno⟩ | ⟨hq1, pre, post, hq, hb⟩
  · rw [h0]
    exact ⟨fun _ => ⟨W, h, .refl _ _, .inr ⟨m, rfl, hm1, hm2, .inl ⟨hno, rfl, rfl⟩⟩⟩, fun e => absurd e (by decide)⟩
  · generalize (leastR bs m).2 = s at hb
    rw [hq]
    have htold := ht.told
    rw [hb.e] at htold
    obtain ⟨g1, g2, g3, g4, g5, g6⟩ := htold.here
    simp only at g1 g2 g3 g5
    have hle := hb.le
    refine ⟨fun e => ?_, fun _ => ?_⟩
    · have : ((1 + sumS pre : Nat) : Int) = 0 := by simpa using e
      omega
    have fin : ∀ (Y : XH) (W0 : List Int), RRep Y t hw W0 → Mv X [t, hw] Y [t, hw] → W0.length = W.length → (if 2 ≤ s - (m + 1) then W.set (1 + sumS pre + (m + 1)) (2 * ((s - (m + 1) : Nat) : Int)) else W).set (1 + sumS pre) (hd (allocS m s) true) = W0 →
        Loops B54_0 M54_0 (Q54_0 (RAllocQ X t hw W bs (m : Int))) (S54_0 t ((1 + sumS pre : Nat) : Int) ((allocS m s : Nat) : Int) 1 Y ⟨0, []⟩) := by
      intro Y W0 r0 m0 hl0 hW0
      have hS : allocS m s ≤ s ∧ 1 ≤ allocS m s := by unfold allocS; split <;> omega
      refine zeros54 r0 hS.2 (by rw [hl0]; omega) (by omega) fun Z rz mz => ?_
      refine ⟨_, rz, m0.trans mz, .inr ⟨m, rfl, hm1, hm2, .inr ⟨pre, s, post, hb, rfl, ?_⟩⟩⟩
      unfold allocW
      rw [hW0]
    refine h.at' (by omega) ⟨by decide, ?_⟩
    rw [g3, g5, wrap64 (x := (s : Int) - 1) (by omega) (by omega), wrap64 (x := (m : Int) + 2) (by omega) (by omega), wrap64 (x := (m : Int) + 1) (by omega) (by omega)]
    refine ⟨fun c => ?_, fun c => ?_⟩
    · have c := of_decide_eq_true c
      have c2 : 2 ≤ s - (m + 1) := by omega
      have hS : allocS m s = m + 1 := by unfold allocS; rw [if_pos c2]
      have w1 : IntKind.wrap .i64 (IntKind.wrap .i64 (((1 + sumS pre : Nat) : Int) + (m : Int)) + 1) = ((1 + sumS pre + (m + 1) : Nat) : Int) := by
        rw [wrap64 (x := ((1 + sumS pre : Nat) : Int) + (m : Int)) (by omega) (by omega), wrap64 (by omega) (by omega)]; omega
      have w2 : IntKind.wrap .i64 ((2 : Int) * IntKind.wrap .i64 (IntKind.wrap .i64 ((s : Int) - (m : Int)) - 1)) = 2 * ((s - (m + 1) : Nat) : Int) := by
        rw [wrap64 (x := (s : Int) - (m : Int)) (by omega) (by omega), wrap64 (x := (s : Int) - (m : Int) - 1) (by omega) (by omega), wrap64 (by omega) (by omega)]; omega
      have w3 : IntKind.wrap .i64 (IntKind.wrap .i64 ((2 : Int) * ((m : Int) + 1)) + 1) = hd (allocS m s) true := by
        rw [wrap64 (x := (2 : Int) * ((m : Int) + 1)) (by omega) (by omega), wrap64 (by omega) (by omega), hS]
        simp only [hd, if_true]; omega
      rw [w1, w2, w3]
      refine h.at' (by omega) ?_
      intro X8 e8
      have e8 : X8 = X.setEl cI hw (0 + ((1 + sumS pre + (m + 1) : Nat) : Int).toNat) (2 * ((s - (m + 1) : Nat) : Int)) := e8
      rw [Nat.zero_add, Int.toNat_natCast] at e8
      obtain ⟨r8, m8⟩ := h.set (1 + sumS pre + (m + 1)) (2 * ((s - (m + 1) : Nat) : Int))
      rw [← e8] at r8 m8
      refine r8.at' (by rw [List.length_set]; omega) ?_
      intro X12 e12
      have e12 : X12 = X8.setEl cI hw (0 + ((1 + sumS pre : Nat) : Int).toNat) (hd (allocS m s) true) := e12
      rw [Nat.zero_add, Int.toNat_natCast] at e12
      obtain ⟨r12, m12⟩ := r8.set (1 + sumS pre) (hd (allocS m s) true)
      rw [← e12] at r12 m12
      have := fin X12 _ r12 (m8.trans m12) (by simp) (by rw [if_pos c2])
      rw [hS] at this
      exact this
    · have c := of_decide_eq_false c
      have c2 : ¬ 2 ≤ s - (m + 1) := by omega
      have hS : allocS m s = s := by unfold allocS; rw [if_neg c2]
      have w3 : IntKind.wrap .i64 (IntKind.wrap .i64 ((2 : Int) * (s : Int)) + 1) = hd (allocS m s) true := by
        rw [wrap64 (x := (2 : Int) * (s : Int)) (by omega) (by omega), wrap64 (by omega) (by omega), hS]
        simp only [hd, if_true]
      rw [w3]
      refine h.at' (by omega) ?_
      intro X12 e12
      have e12 : X12 = X.setEl cI hw (0 + ((1 + sumS pre : Nat) : Int).toNat) (hd (allocS m s) true) := e12
      rw [Nat.zero_add, Int.toNat_natCast] at e12
      obtain ⟨r12, m12⟩ := h.set (1 + sumS pre) (hd (allocS m s) true)
      rw [← e12] at r12 m12
      have := fin X12 _ r12 m12 (by simp) (by rw [if_neg c2])
      rw [hS] at this
      exact this

/-! free neighbours are made one -/

def mstep (st : List Bl × List Int) (b : Bl) : List Bl × List Int :=
  if 0 < prevS st.1 ∧ b.2 = false then (restL st.1 ++ [(prevS st.1 + b.1, false)], (st.2.set (1 + sumS (restL st.1)) (2 * ((prevS st.1 + b.1 : Nat) : Int))).set (1 + sumS st.1) poisonW) else (st.1 ++ [b], st.2)

theorem mfold_apart : ∀ (l M : List Bl) (W : List Int), apart l → (∀ x y, M.getLast? = some x → l.head? = some y → ¬ (x.2 = false ∧ y.2 = false)) → l.foldl mstep (M, W) = (M ++ l, W)
  | [], M, W, _, _ => by simp
  | b :: r, M, W, ha, hh => by
    obtain ⟨a1, a2⟩ := apart_head.1 ha
    have hm : mstep (M, W) b = (M ++ [b], W) := by
      unfold mstep
      rw [if_neg]
      rintro ⟨c1, c2⟩
      rcases pre_split M with ⟨s, h1, h2⟩ | ⟨_, h2, _⟩
      · exact hh (s, false) b (by rw [h1]; simp) rfl ⟨rfl, c2⟩
      · simp only at c1; omega
    rw [List.foldl_cons, hm, mfold_apart r (M ++ [b]) W a1 fun x y hx hy => ?_]
    · simp
    · simp only [List.getLast?_append, List.getLast?_singleton, Option.some_or, Option.some.injEq] at hx
      subst hx
      exact a2 y hy

theorem prevS_snoc (l : List Bl) (x : Nat) : prevS (l ++ [(x, false)]) = x ∧ restL (l ++ [(x, false)]) = l := by
  unfold prevS restL
  simp

theorem merge_fin {pre post : List Bl} {s : Nat} (h : WOK W (pre ++ (s, true) :: post)) :
    ((pre ++ (s, false) :: post).foldl mstep ([], freeW W (1 + sumS pre) s)).2 = freeW W (1 + sumS pre - prevS pre) (prevS pre + s + nextS post) := by
  have hin : (1 + sumS pre, s, true) ∈ walk 1 (pre ++ (s, true) :: post) := walk_three.2 (.inr (.inl rfl))
  obtain ⟨b1, b2, b3⟩ := h.bd hin
  have hl := restL_sum pre
  have hr := restR_sum post
  have hlen0 := h.len
  simp only [sumS_app, sumS] at hlen0
  obtain ⟨p1, p2, p3⟩ := apart_app.1 h.ap
  obtain ⟨p4, p5⟩ := apart_head.1 p2
  rw [List.foldl_append, mfold_apart pre [] _ p1 (fun x y hx => by cases hx), List.nil_append, List.foldl_cons]
  -- the block itself
  have hsL : sumS (restL pre) = sumS pre - prevS pre := by omega
  have h2 : ∃ W2 : List Int, mstep (pre, freeW W (1 + sumS pre) s) (s, false) = (restL pre ++ [(prevS pre + s, false)], W2) ∧ W2.length = W.length ∧ ∀ i : Nat, W2[i]? = (freeW W (1 + sumS pre - prevS pre) (prevS pre + s))[i]? := by
    have hf1 := freeW_get (W := W) (at' := 1 + sumS pre) (s := s) b3 (by omega)
    have hf2 := freeW_get (W := W) (at' := 1 + sumS pre - prevS pre) (s := prevS pre + s) (by omega) (by omega)
    have hfl := freeW_len (W := W) (at' := 1 + sumS pre) (s := s) b3 (by omega)
    rcases pre_split pre with ⟨s0, h1, h2⟩ | ⟨h1, h2, _⟩
    · have hs0 : 2 ≤ s0 := h.sz (s0, false) (by rw [h1]; simp)
      have hbody : ∀ i, 1 + sumS pre - prevS pre < i → i < 1 + sumS pre → W[i]? = some poisonW := fun i hi1 hi2 => by
        have hin0 : (1 + sumS (restL pre), s0, false) ∈ walk 1 (pre ++ (s, true) :: post) := by
          rw [h1, List.append_assoc]; rw [prevS_snoc _ s0 |>.2]; exact walk_three.2 (.inr (.inl rfl))
        exact h.f _ _ hin0 i (by omega) (by omega)
      refine ⟨_, by unfold mstep; rw [if_pos ⟨by simp only; omega, rfl⟩], by simp [hfl], fun i => ?_⟩
      simp only
      rw [List.getElem?_set, List.getElem?_set, List.length_set, hfl, hf1, hf2]
      by_cases c1 : 1 + sumS pre = i
      · subst c1
        rw [if_pos rfl, if_pos (by omega), if_neg (by omega), if_pos (by omega)]
      · rw [if_neg c1]
        by_cases c2 : 1 + sumS (restL pre) = i
        · subst c2
          rw [if_pos rfl, if_pos (by omega), if_pos (by omega)]
        · rw [if_neg c2, if_neg (show ¬ i = 1 + sumS pre by omega), if_neg (show ¬ i = 1 + sumS pre - prevS pre by omega)]
          by_cases c3 : 1 + sumS pre < i ∧ i < 1 + sumS pre + s
          · rw [if_pos c3, if_pos (by omega)]
          · rw [if_neg c3]
            by_cases c4 : 1 + sumS pre - prevS pre < i ∧ i < 1 + sumS pre - prevS pre + (prevS pre + s)
            · rw [if_pos c4]; exact hbody i (by omega) (by omega)
            · rw [if_neg c4]
    · refine ⟨freeW W (1 + sumS pre) s, by unfold mstep; rw [if_neg (by simp only; omega), h1, h2, Nat.zero_add], hfl, fun i => ?_⟩
      rw [h2, Nat.sub_zero, Nat.zero_add]
  obtain ⟨W2, e2, l2, g2⟩ := h2
  rw [e2]
  have hf2 := freeW_get (W := W) (at' := 1 + sumS pre - prevS pre) (s := prevS pre + s) (by omega) (by omega)
  have hf3 := freeW_get (W := W) (at' := 1 + sumS pre - prevS pre) (s := prevS pre + s + nextS post) (by omega) (by omega)
  rcases post_split post with ⟨s0, h1, h2⟩ | ⟨h1, h2, h3⟩
  · have hs0 : 2 ≤ s0 := h.sz (s0, false) (by rw [h1]; simp)
    have hbody : ∀ i, 1 + sumS pre + s < i → i < 1 + sumS pre + s + nextS post → W[i]? = some poisonW := fun i hi1 hi2 => by
      have hin0 : (1 + sumS pre + s, s0, false) ∈ walk 1 (pre ++ (s, true) :: post) := by
        rw [h1]; exact walk_three.2 (.inr (.inr (by simp [walk])))
      exact h.f _ _ hin0 i (by omega) (by omega)
    rw [h1] at p4
    obtain ⟨q1, q2⟩ := apart_head.1 p4
    have hm : mstep (restL pre ++ [(prevS pre + s, false)], W2) (s0, false) = (restL pre ++ [(prevS pre + s + s0, false)], (W2.set (1 + sumS (restL pre)) (2 * ((prevS pre + s + s0 : Nat) : Int))).set (1 + sumS pre + s) poisonW) := by
      unfold mstep
      obtain ⟨u1, u2⟩ := prevS_snoc (restL pre) (prevS pre + s)
      simp only [u1, u2]
      rw [if_pos ⟨by omega, trivial⟩, sumS_app]
      simp only [sumS]
      rw [show 1 + (sumS (restL pre) + (prevS pre + s + 0)) = 1 + sumS pre + s by omega]
    have hpost : List.foldl mstep (restL pre ++ [(prevS pre + s, false)], W2) post = List.foldl mstep (restL pre ++ [(prevS pre + s + s0, false)], (W2.set (1 + sumS (restL pre)) (2 * ((prevS pre + s + s0 : Nat) : Int))).set (1 + sumS pre + s) poisonW) (restR post) := by
      conv => lhs; rw [h1]
      rw [List.foldl_cons, hm]
    rw [hpost, mfold_apart _ _ _ q1 fun x y hx hy => ?_]
    · refine List.ext_getElem? fun i => ?_
      simp only
      rw [List.getElem?_set, List.getElem?_set, List.length_set, l2, g2, hf2, hf3]
      by_cases c1 : 1 + sumS pre + s = i
      · subst c1
        rw [if_pos rfl, if_pos (by omega), if_neg (by omega), if_pos (by omega)]
      · rw [if_neg c1]
        by_cases c2 : 1 + sumS (restL pre) = i
        · subst c2
          rw [if_pos rfl, if_pos (by omega), if_pos (by omega), h2]
        · rw [if_neg c2, if_neg (show ¬ i = 1 + sumS pre - prevS pre by omega)]
          rw [if_neg (show ¬ i = 1 + sumS pre - prevS pre by omega)]
          by_cases c3 : 1 + sumS pre - prevS pre < i ∧ i < 1 + sumS pre - prevS pre + (prevS pre + s)
          · rw [if_pos c3, if_pos (by omega)]
          · rw [if_neg c3]
            by_cases c4 : 1 + sumS pre - prevS pre < i ∧ i < 1 + sumS pre - prevS pre + (prevS pre + s + nextS post)
            · rw [if_pos c4]; exact hbody i (by omega) (by omega)
            · rw [if_neg c4]
    · simp only [List.getLast?_append, List.getLast?_singleton, Option.some_or, Option.some.injEq] at hx
      subst hx
      have := q2 y hy
      rintro ⟨_, c⟩
      exact this ⟨rfl, c⟩
  · rw [mfold_apart _ _ _ p4 fun x y hx hy => ?_]
    · refine List.ext_getElem? fun i => ?_
      simp only
      rw [g2, h2, Nat.add_zero]
    · have := h3 y hy
      rintro ⟨_, c⟩
      rw [this] at c; cases c

end Go.Proofs.Ytefpoodhdfggdaa.AB

set_option linter.unusedVariables false
set_option linter.unusedSimpArgs false
namespace Go.Proofs.Ytefpoodhdfggdaa.AB
open Go

variable {X X' : XH} {t hw : Nat} {W : List Int} {bs : List Bl}

def lastQ (M : List Bl) : Nat :=
  match M.getLast? with
  | none => 0
  | some b => 1 + sumS M - b.1

theorem lastQ_snoc (M : List Bl) (b : Bl) : lastQ (M ++ [b]) = 1 + sumS M := by
  unfold lastQ
  simp only [List.getLast?_append, List.getLast?_singleton, Option.some_or]
  rw [sumS_app]; simp [sumS]; omega

theorem told.merge {M rest : List Bl} {m : Nat} {b : Bl} (h : told W (M ++ (m, false) :: b :: rest)) :
    told ((W.set (1 + sumS M) (2 * ((m + b.1 : Nat) : Int))).set (1 + sumS M + m) poisonW) (M ++ (m + b.1, false) :: rest) := by
  obtain ⟨h1, h2, h3, h4⟩ := h
  obtain ⟨z1, z2⟩ := sz2_app.1 h3
  obtain ⟨z2, z3⟩ := sz2_cons.1 z2
  obtain ⟨z3, z4⟩ := sz2_cons.1 z3
  simp only at z2
  simp only [sumS_app, sumS] at h1
  refine ⟨?_, by simpa using h2, sz2_app.2 ⟨z1, sz2_cons.2 ⟨by simp only; omega, z4⟩⟩, fun p s u hm => ?_⟩
  · simp only [List.length_set, sumS_app, sumS]; omega
  · rcases walk_three.1 hm with g | g | g
    · have hb := walk_bd z1 g
      rw [List.getElem?_set_ne (by omega), List.getElem?_set_ne (by omega)]
      exact h4 p s u (walk_three.2 (.inl g))
    · cases g
      rw [List.getElem?_set_ne (by omega), List.getElem?_set_self (by omega)]
      simp [hd]
    · have hb := walk_bd z4 g
      simp only at hb g
      rw [List.getElem?_set_ne (by omega), List.getElem?_set_ne (by omega)]
      refine h4 p s u (walk_three.2 (.inr (.inr ?_)))
      simp only [walk, List.mem_cons]
      rw [show 1 + sumS M + m + b.1 = 1 + sumS M + (m + b.1) by omega]
      exact .inr g

theorem merge55 {R : Int → XH → Prop} (h : RRep X t hw W) (ht : told W bs) (hR : ∀ Y, RRep Y t hw ((bs.foldl mstep ([], W)).2) → Mv X [t, hw] Y [t, hw] → R 0 Y) :
    Loops B55_0 M55_0 (Q55_0 (fun p X' => R p X')) (S55_0 t 0 1 X ⟨0, []⟩) := by
  refine Loops.intro (fun q : List Bl × List Bl × List Int × XH => S55_0 t (lastQ q.1 : Int) ((1 + sumS q.1 : Nat) : Int) q.2.2.2 ⟨0, []⟩)
    (fun q => told q.2.2.1 (q.1 ++ q.2.1) ∧ q.2.1.foldl mstep (q.1, q.2.2.1) = bs.foldl mstep ([], W) ∧ RRep q.2.2.2 t hw q.2.2.1 ∧ Mv X [t, hw] q.2.2.2 [t, hw]) (fun q => q.2.1.length) ([], bs, W, X) rfl ⟨ht, rfl, h, .refl _ _⟩ ?_
  rintro ⟨M, rest, V, Y⟩ ⟨ht0, hf0, r0, mv0⟩
  have ht : told V (M ++ rest) := ht0
  have hf : rest.foldl mstep (M, V) = bs.foldl mstep ([], W) := hf0
  have r : RRep Y t hw V := r0
  have mv : Mv X [t, hw] Y [t, hw] := mv0
  refine L55_0 t (lastQ M) ((1 + sumS M : Nat) : Int) Y ⟨0, []⟩ ⟨_, r.box.el, fun e => ?_, fun e => ?_⟩
  · obtain ⟨b, rest', rfl⟩ := ht.last.1 e
    obtain ⟨g1, g2, g3, g4, g5, g6⟩ := ht.here
    have hVle := ht.2.1
    have hz := ht.2.2.1
    rw [List.foldl_cons] at hf
    refine r.at' (by omega) ⟨by decide, ?_⟩
    rw [g3, g5, g6]
    -- it is set behind the others
    have next : mstep (M, V) b = (M ++ [b], V) → Again (fun q : List Bl × List Bl × List Int × XH => S55_0 t (lastQ q.1 : Int) ((1 + sumS q.1 : Nat) : Int) q.2.2.2 ⟨0, []⟩)
        (fun q => told q.2.2.1 (q.1 ++ q.2.1) ∧ q.2.1.foldl mstep (q.1, q.2.2.1) = bs.foldl mstep ([], W) ∧ RRep q.2.2.2 t hw q.2.2.1 ∧ Mv X [t, hw] q.2.2.2 [t, hw]) (fun q => q.2.1.length) ((b :: rest').length)
        (S55_0 t ((1 + sumS M : Nat) : Int) ((1 + sumS (M ++ [b]) : Nat) : Int) Y ⟨0, []⟩) := fun hm => by
      rw [hm] at hf
      refine Again.mk (M ++ [b], rest', V, Y) ?_ ⟨by simpa using ht, hf, r, mv⟩ (by simp)
      show _ = S55_0 t ((lastQ (M ++ [b]) : Nat) : Int) _ _ _
      rw [lastQ_snoc]
    rcases pre_split M with ⟨m, hM, hm⟩ | ⟨hM, hm, hu⟩
    · -- the last one is free
      generalize hM0 : restL M = M0 at hM
      have hm2 : 2 ≤ m := hz (m, false) (by rw [hM]; simp)
      have hlq : lastQ M = 1 + sumS M0 := by rw [hM, lastQ_snoc]
      have hsM : sumS M = sumS M0 + m := by rw [hM, sumS_app]; simp [sumS]
      have ht2 : told V (M0 ++ (m, false) :: b :: rest') := by rw [hM] at ht; simpa using ht
      obtain ⟨k1, k2, k3, k4, k5, k6⟩ := ht2.here
      simp only at k1 k2 k3 k5
      rw [hlq]
      refine ⟨fun _ => r.at' (by omega) ⟨by decide, ?_⟩, fun e => absurd (of_decide_eq_false e) (by omega)⟩
      rw [k3, hd_mod]
      refine ⟨fun _ => r.at' (by omega) ⟨by decide, ?_⟩, fun e => absurd e (by decide)⟩
      rw [g3, hd_mod]
      refine ⟨fun ev => ?_, fun ev => ?_⟩
      · have ev : b.2 = false := by simpa using ev
        refine ⟨_, r.box.el, r.at' (by omega) ?_⟩
        refine r.at' (by omega) ⟨wS hw V, rfl, by omega, by show ((1 + sumS M0 : Nat) : Int) < ((V.length : Nat) : Int); omega, _, r.get (k := 1 + sumS M0) (by omega), fun X30 e30 => ?_⟩
        rw [g3, k3] at e30
        have hw1 : IntKind.wrap .i64 (hd m false + hd b.1 b.2) = 2 * ((m + b.1 : Nat) : Int) := by
          rw [ev]; simp only [hd]
          rw [wrap64 (by simp; omega) (by simp; omega)]; simp; omega
        rw [hw1] at e30
        have e30 : X30 = Y.setEl cI hw (0 + ((1 + sumS M0 : Nat) : Int).toNat) (2 * ((m + b.1 : Nat) : Int)) := e30
        rw [Nat.zero_add, Int.toNat_natCast] at e30
        obtain ⟨r30, m30⟩ := r.set (1 + sumS M0) (2 * ((m + b.1 : Nat) : Int))
        rw [← e30] at r30 m30
        refine r30.at' (by rw [List.length_set]; omega) ?_
        intro X34 e34
        have e34 : X34 = X30.setEl cI hw (0 + ((1 + sumS M : Nat) : Int).toNat) poisonW := e34
        rw [Nat.zero_add, Int.toNat_natCast] at e34
        obtain ⟨r34, m34⟩ := r30.set (1 + sumS M) poisonW
        rw [← e34] at r34 m34
        have hst : mstep (M, V) b = (M0 ++ [(m + b.1, false)], (V.set (1 + sumS M0) (2 * ((m + b.1 : Nat) : Int))).set (1 + sumS M) poisonW) := by
          unfold mstep
          rw [if_pos ⟨by simp only; omega, ev⟩]
          simp only [hM0, hm]
        rw [hst] at hf
        have htm := ht2.merge
        rw [show 1 + sumS M0 + m = 1 + sumS M by omega] at htm
        refine Again.mk (M0 ++ [(m + b.1, false)], rest', _, X34) ?_ ⟨by simpa using htm, hf, r34, mv.trans (m30.trans m34)⟩ (by simp)
        show _ = S55_0 t ((lastQ (M0 ++ [(m + b.1, false)]) : Nat) : Int) ((1 + sumS (M0 ++ [(m + b.1, false)]) : Nat) : Int) X34 _
        rw [lastQ_snoc]
        have : sumS (M ++ [b]) = sumS (M0 ++ [(m + b.1, false)]) := by rw [sumS_app, sumS_app]; simp only [sumS]; omega
        rw [this]
      · have ev : b.2 = true := by simpa using ev
        exact next (by unfold mstep; rw [if_neg (by rw [ev]; simp)])
    · have hst : mstep (M, V) b = (M ++ [b], V) := by unfold mstep; rw [if_neg (by simp only; omega)]
      rcases List.eq_nil_or_concat M with hn | ⟨M0, c, hc⟩
      · have hlq : lastQ M = 0 := by rw [hn]; rfl
        rw [hlq]
        exact ⟨fun e => absurd (of_decide_eq_true e) (by omega), fun _ => next hst⟩
      · have hc : M = M0 ++ [c] := by rw [hc]; simp
        have hc2 : c.2 = true := hu c (by rw [hc]; simp)
        have hlq : lastQ M = 1 + sumS M0 := by rw [hc, lastQ_snoc]
        have ht2 : told V (M0 ++ c :: b :: rest') := by rw [hc] at ht; simpa using ht
        obtain ⟨k1, k2, k3, k4, k5, k6⟩ := ht2.here
        rw [hlq]
        refine ⟨fun _ => r.at' (by omega) ⟨by decide, ?_⟩, fun e => absurd (of_decide_eq_false e) (by omega)⟩
        rw [k3, hd_mod, hc2]
        exact ⟨fun e => absurd e (by decide), fun _ => next hst⟩
  · obtain rfl := ht.last.2 e
    have hf : (M, V) = bs.foldl mstep ([], W) := hf
    exact hR Y (by rw [← hf]; exact r) mv

/-- what Free comes to, there -/
def RFreeQ (X : XH) (t hw : Nat) (W : List Int) (bs : List Bl) (a : Int) (p : Int) (X' : XH) : Prop :=
  ∃ W', RRep X' t hw W' ∧ Mv X [t, hw] X' [t, hw] ∧
    (((∀ q s : Nat, (q, s, true) ∈ walk 1 bs → a ≠ (q : Int)) ∧ p = 24 ∧ W' = W) ∨
     ∃ pre s post, bs = pre ++ (s, true) :: post ∧ a = ((1 + sumS pre : Nat) : Int) ∧ p = 0 ∧ W' = freeW W (1 + sumS pre - prevS pre) (prevS pre + s + nextS post))

/-- Free -/
theorem c55 (h : RRep X t hw W) (ht : WOK W bs) (a : Int) (ha : -9223372036854775808 ≤ a ∧ a ≤ 9223372036854775807) : XC Try.prog 55 [.pure (.int .i64)] [.ref (some t) cR 0 [], .v (.int .i64 a)] X (RFreeQ X t hw W bs a) := by
  refine xcOf (X := X55) rfl FN55 (by kernel_rfl) (by decide) (E55 X t a ⟨_, c84 h ht.told a ha, fun e => ?_, fun e => ?_⟩)
  · have hs : sizeAt bs a = none := by simpa using e
    have := (sizeAt_none ht.sz).1 hs
    exact ⟨W, h, .refl _ _, .inl ⟨this, rfl, rfl⟩⟩
  · obtain ⟨s, hs⟩ : ∃ s, sizeAt bs a = some s := by
      cases hs : sizeAt bs a with
      | some s => exact ⟨s, rfl⟩
      | none => rw [hs] at e; cases e
    obtain ⟨p, rfl, hm⟩ := (sizeAt_some ht.sz).1 hs
    obtain ⟨pre, post, hbs, rfl⟩ := walk_split hm
    subst hbs
    have htold := ht.told
    obtain ⟨g1, g2, g3, g4, g5, g6⟩ := htold.here
    have hle := ht.le
    simp only at g1 g2 g3 g5
    refine h.at' (by omega) ⟨by decide, h.at' (by omega) ?_⟩
    intro X8 e8
    rw [g3, g5] at e8
    have e8 : X8 = X.setEl cI hw (0 + ((1 + sumS pre : Nat) : Int).toNat) (IntKind.wrap .i64 (2 * (s : Int))) := e8
    rw [Nat.zero_add, Int.toNat_natCast, wrap64 (by omega) (by omega)] at e8
    obtain ⟨r8, m8⟩ := h.set (1 + sumS pre) (2 * (s : Int))
    rw [← e8] at r8 m8
    rw [g3, g5]
    have w1 : IntKind.wrap .i64 (((1 + sumS pre : Nat) : Int) + 1) = ((1 + sumS pre + 1 : Nat) : Int) := by rw [wrap64 (by omega) (by omega)]; omega
    have w2 : IntKind.wrap .i64 (((1 + sumS pre : Nat) : Int) + (s : Int)) = ((1 + sumS pre + s : Nat) : Int) := by rw [wrap64 (by omega) (by omega)]; omega
    rw [w1, w2]
    refine (c52 r8 (a := 1 + sumS pre + 1) (b := 1 + sumS pre + s) (by omega) (by rw [List.length_set]; omega) (by rw [List.length_set]; omega)).mono ?_
    rintro _ X10 ⟨r10, m10⟩
    rw [show 1 + sumS pre + s - (1 + sumS pre + 1) = s - 1 by omega] at r10
    have r10 : RRep X10 t hw (freeW W (1 + sumS pre) s) := r10
    have hfg := freeW_get (W := W) (at' := 1 + sumS pre) (s := s) g2 (by omega)
    have hfl := freeW_len (W := W) (at' := 1 + sumS pre) (s := s) g2 (by omega)
    have hz := ht.sz
    obtain ⟨z1, z2⟩ := sz2_app.1 hz
    obtain ⟨z2, z3⟩ := sz2_cons.1 z2
    have ht1 : told (freeW W (1 + sumS pre) s) (pre ++ (s, false) :: post) := by
      refine ⟨by rw [hfl, ht.len]; simp [sumS_app, sumS], by rw [hfl]; exact hle, sz2_app.2 ⟨z1, sz2_cons.2 ⟨z2, z3⟩⟩, fun p s' u hm => ?_⟩
      rcases walk_three.1 hm with g | g | g
      · have := walk_bd z1 g
        rw [hfg, if_neg (by omega), if_neg (by omega)]
        exact ht.h p s' u (walk_three.2 (.inl g))
      · cases g
        rw [hfg, if_pos rfl]; simp [hd]
      · have := walk_bd z3 g
        simp only at this g
        rw [hfg, if_neg (by omega), if_neg (by omega)]
        exact ht.h p s' u (walk_three.2 (.inr (.inr g)))
    refine merge55 r10 ht1 fun Y rY mY => ?_
    rw [merge_fin ht] at rY
    exact ⟨_, rY, m8.trans (m10.trans mY), .inr ⟨pre, s, post, rfl, rfl, rfl, rfl⟩⟩

end Go.Proofs.Ytefpoodhdfggdaa.AB

set_option linter.unusedVariables false
set_option linter.unusedSimpArgs false
set_option maxRecDepth 100000
set_option maxHeartbeats 2000000
namespace Go.Proofs.Ytefpoodhdfggdaa.AB
open Go
/-! crucible/cruciblelaw5.does -/
noncomputable def X22 : Cx := ⟨tt, [(13, [.cd (.int .i64)])], [(15, [(.pure (.int .i64)), (.pure (.int .i64))]), (16, [(.pure (.int .i64))]), (24, [(.pure .bool)]), (25, [(.pure (.int .i64)), (.pure .bool)]), (26, [(.pure (.int .i64))]), (45, [(.pure (.int .i64)), (.pure (.int .i64))]), (53, [(.pure .bool)]), (54, [(.pure (.int .i64)), (.pure (.int .i64))]), (55, [(.pure (.int .i64))]), (56, [(.pure (.int .i64))]), (57, [(.pure (.int .i64)), (.pure (.int .i64))]), (58, [(.pure (.int .i64)), (.pure .bool)])], [(22, [(5, 3, .rd), (5, 7, .rd), (7, 3, .xc), (8, 3, .xc), (12, 3, .xc), (12, 7, .xc), (14, 7, .xc), (14, 15, .xc), (16, 5, .rd), (17, 5, .rd), (19, 3, .rd), (20, 3, .rd), (2000012, 0, .dflt), (2000012, 1, .dflt), (2000012, 2, .dflt), (2000012, 4, .dflt), (2000012, 5, .dflt), (2000012, 6, .dflt), (2000012, 3, .dflt), (2000012, 7, .dflt), (2000012, 8, .dflt), (2000012, 9, .dflt), (2000014, 0, .dflt), (2000014, 1, .dflt), (2000014, 2, .dflt), (2000014, 3, .dflt), (2000014, 4, .dflt), (2000014, 5, .dflt), (2000014, 6, .dflt), (2000014, 8, .dflt), (2000014, 9, .dflt), (2000014, 10, .dflt), (2000014, 11, .dflt), (2000014, 12, .dflt), (2000014, 13, .dflt), (2000014, 14, .dflt), (2000014, 7, .dflt), (2000014, 15, .dflt), (2000014, 16, .dflt), (2000014, 17, .dflt)])], [], []⟩
theorem FN22 : fnsB Try.prog X22.fns := (show True from trivial)
theorem E22 (X : XH) (a0 : Nat) (r1 : Nat) (o2 : (Int × (Int × (Int × (Int × Bool))))) {R : (Bool) → XH → Prop} (h : (∃ p1 : Int, PC Try.prog 13 [(.int .i64 o2.1), (.int .i64 (8 : Int))] (.int .i64 p1) ∧ (((p1 == (0 : Int)) = true → (((p1 == (0 : Int)) = true → (∃ (p2 : Bool), RC Try.prog 24 [(.pure .bool)] [(.ref (some a0) carena_Arena 0 []), (.v (.int .i64 o2.2.2.1))] X p2 ∧ (∃ (p3 : Bool), RC Try.prog 53 [(.pure .bool)] [(.ref (some r1) ccrucibleref5_Arena 0 []), (.v (.int .i64 o2.2.2.1))] X p3 ∧ (((!(p2 == p3)) = true → R false X) ∧
 ((!(p2 == p3)) = false → (XC Try.prog 15 [(.pure (.int .i64)), (.pure (.int .i64))] [(.ref (some a0) carena_Arena 0 []), (.v (.int .i64 o2.2.2.1))] X (fun (p4 : Int × Int) (X5 : XH) => (XC Try.prog 54 [(.pure (.int .i64)), (.pure (.int .i64))] [(.ref (some r1) ccrucibleref5_Arena 0 []), (.v (.int .i64 o2.2.2.1))] X5 (fun (p6 : Int × Int) (X7 : XH) => (((p4.1 == p6.1) = true → R (p4.2 == p6.2) X7) ∧ ((p4.1 == p6.1) = false → R false X7))))))))))) ∧
 ((p1 == (0 : Int)) = false → (((p1 == (3 : Int)) = true → (((p1 == (3 : Int)) = true → (XC Try.prog 16 [(.pure (.int .i64))] [(.ref (some a0) carena_Arena 0 []), (.v (.int .i64 o2.2.1))] X (fun (p8 : Int) (X9 : XH) => (XC Try.prog 55 [(.pure (.int .i64))] [(.ref (some r1) ccrucibleref5_Arena 0 []), (.v (.int .i64 o2.2.1))] X9 (fun (p10 : Int) (X11 : XH) => R (p8 == p10) X11))))) ∧
 ((p1 == (3 : Int)) = false → (((p1 == (5 : Int)) = true → (XC Try.prog 26 [(.pure (.int .i64))] [(.ref (some a0) carena_Arena 0 []), (.v (.int .i64 o2.2.1)), (.v (.int .i64 o2.2.2.1)), (.v (.int .i64 o2.2.2.2.1))] X (fun (p12 : Int) (X13 : XH) => (XC Try.prog 56 [(.pure (.int .i64))] [(.ref (some r1) ccrucibleref5_Arena 0 []), (.v (.int .i64 o2.2.1)), (.v (.int .i64 o2.2.2.1)), (.v (.int .i64 o2.2.2.2.1))] X13 (fun (p14 : Int) (X15 : XH) => R (p12 == p14) X15))))) ∧
 ((p1 == (5 : Int)) = false → (((p1 == (6 : Int)) = true → (∃ (p16 : Int × Int), RC Try.prog 45 [(.pure (.int .i64)), (.pure (.int .i64))] [(.ref (some a0) carena_Arena 0 []), (.v (.int .i64 o2.2.1)), (.v (.int .i64 o2.2.2.1))] X p16 ∧ (∃ (p17 : Int × Int), RC Try.prog 57 [(.pure (.int .i64)), (.pure (.int .i64))] [(.ref (some r1) ccrucibleref5_Arena 0 []), (.v (.int .i64 o2.2.1)), (.v (.int .i64 o2.2.2.1))] X p17 ∧ (((p16.1 == p17.1) = true → R (p16.2 == p17.2) X) ∧ ((p16.1 == p17.1) = false → R false X))))) ∧
 ((p1 == (6 : Int)) = false → (∃ (p18 : Int × Bool), RC Try.prog 25 [(.pure (.int .i64)), (.pure .bool)] [(.ref (some a0) carena_Arena 0 []), (.v (.int .i64 o2.2.1))] X p18 ∧ (∃ (p19 : Int × Bool), RC Try.prog 58 [(.pure (.int .i64)), (.pure .bool)] [(.ref (some r1) ccrucibleref5_Arena 0 []), (.v (.int .i64 o2.2.1))] X p19 ∧ (((p18.1 == p19.1) = true → R (p18.2 == p19.2) X) ∧ ((p18.1 == p19.1) = false → R false X))))))))))) ∧
 ((p1 == (3 : Int)) = false → (((p1 == (4 : Int)) = true → (XC Try.prog 16 [(.pure (.int .i64))] [(.ref (some a0) carena_Arena 0 []), (.v (.int .i64 o2.2.1))] X (fun (p20 : Int) (X21 : XH) => (XC Try.prog 55 [(.pure (.int .i64))] [(.ref (some r1) ccrucibleref5_Arena 0 []), (.v (.int .i64 o2.2.1))] X21 (fun (p22 : Int) (X23 : XH) => R (p20 == p22) X23))))) ∧
 ((p1 == (4 : Int)) = false → (((p1 == (5 : Int)) = true → (XC Try.prog 26 [(.pure (.int .i64))] [(.ref (some a0) carena_Arena 0 []), (.v (.int .i64 o2.2.1)), (.v (.int .i64 o2.2.2.1)), (.v (.int .i64 o2.2.2.2.1))] X (fun (p24 : Int) (X25 : XH) => (XC Try.prog 56 [(.pure (.int .i64))] [(.ref (some r1) ccrucibleref5_Arena 0 []), (.v (.int .i64 o2.2.1)), (.v (.int .i64 o2.2.2.1)), (.v (.int .i64 o2.2.2.2.1))] X25 (fun (p26 : Int) (X27 : XH) => R (p24 == p26) X27))))) ∧
 ((p1 == (5 : Int)) = false → (((p1 == (6 : Int)) = true → (∃ (p28 : Int × Int), RC Try.prog 45 [(.pure (.int .i64)), (.pure (.int .i64))] [(.ref (some a0) carena_Arena 0 []), (.v (.int .i64 o2.2.1)), (.v (.int .i64 o2.2.2.1))] X p28 ∧ (∃ (p29 : Int × Int), RC Try.prog 57 [(.pure (.int .i64)), (.pure (.int .i64))] [(.ref (some r1) ccrucibleref5_Arena 0 []), (.v (.int .i64 o2.2.1)), (.v (.int .i64 o2.2.2.1))] X p29 ∧ (((p28.1 == p29.1) = true → R (p28.2 == p29.2) X) ∧ ((p28.1 == p29.1) = false → R false X))))) ∧
 ((p1 == (6 : Int)) = false → (∃ (p30 : Int × Bool), RC Try.prog 25 [(.pure (.int .i64)), (.pure .bool)] [(.ref (some a0) carena_Arena 0 []), (.v (.int .i64 o2.2.1))] X p30 ∧ (∃ (p31 : Int × Bool), RC Try.prog 58 [(.pure (.int .i64)), (.pure .bool)] [(.ref (some r1) ccrucibleref5_Arena 0 []), (.v (.int .i64 o2.2.1))] X p31 ∧ (((p30.1 == p31.1) = true → R (p30.2 == p31.2) X) ∧ ((p30.1 == p31.1) = false → R false X))))))))))))))) ∧
 ((p1 == (0 : Int)) = false → (((p1 == (1 : Int)) = true → (((p1 == (1 : Int)) = true → (∃ (p32 : Bool), RC Try.prog 24 [(.pure .bool)] [(.ref (some a0) carena_Arena 0 []), (.v (.int .i64 o2.2.2.1))] X p32 ∧ (∃ (p33 : Bool), RC Try.prog 53 [(.pure .bool)] [(.ref (some r1) ccrucibleref5_Arena 0 []), (.v (.int .i64 o2.2.2.1))] X p33 ∧ (((!(p32 == p33)) = true → R false X) ∧
 ((!(p32 == p33)) = false → (XC Try.prog 15 [(.pure (.int .i64)), (.pure (.int .i64))] [(.ref (some a0) carena_Arena 0 []), (.v (.int .i64 o2.2.2.1))] X (fun (p34 : Int × Int) (X35 : XH) => (XC Try.prog 54 [(.pure (.int .i64)), (.pure (.int .i64))] [(.ref (some r1) ccrucibleref5_Arena 0 []), (.v (.int .i64 o2.2.2.1))] X35 (fun (p36 : Int × Int) (X37 : XH) => (((p34.1 == p36.1) = true → R (p34.2 == p36.2) X37) ∧ ((p34.1 == p36.1) = false → R false X37))))))))))) ∧
 ((p1 == (1 : Int)) = false → (((p1 == (3 : Int)) = true → (((p1 == (3 : Int)) = true → (XC Try.prog 16 [(.pure (.int .i64))] [(.ref (some a0) carena_Arena 0 []), (.v (.int .i64 o2.2.1))] X (fun (p38 : Int) (X39 : XH) => (XC Try.prog 55 [(.pure (.int .i64))] [(.ref (some r1) ccrucibleref5_Arena 0 []), (.v (.int .i64 o2.2.1))] X39 (fun (p40 : Int) (X41 : XH) => R (p38 == p40) X41))))) ∧
 ((p1 == (3 : Int)) = false → (((p1 == (5 : Int)) = true → (XC Try.prog 26 [(.pure (.int .i64))] [(.ref (some a0) carena_Arena 0 []), (.v (.int .i64 o2.2.1)), (.v (.int .i64 o2.2.2.1)), (.v (.int .i64 o2.2.2.2.1))] X (fun (p42 : Int) (X43 : XH) => (XC Try.prog 56 [(.pure (.int .i64))] [(.ref (some r1) ccrucibleref5_Arena 0 []), (.v (.int .i64 o2.2.1)), (.v (.int .i64 o2.2.2.1)), (.v (.int .i64 o2.2.2.2.1))] X43 (fun (p44 : Int) (X45 : XH) => R (p42 == p44) X45))))) ∧
 ((p1 == (5 : Int)) = false → (((p1 == (6 : Int)) = true → (∃ (p46 : Int × Int), RC Try.prog 45 [(.pure (.int .i64)), (.pure (.int .i64))] [(.ref (some a0) carena_Arena 0 []), (.v (.int .i64 o2.2.1)), (.v (.int .i64 o2.2.2.1))] X p46 ∧ (∃ (p47 : Int × Int), RC Try.prog 57 [(.pure (.int .i64)), (.pure (.int .i64))] [(.ref (some r1) ccrucibleref5_Arena 0 []), (.v (.int .i64 o2.2.1)), (.v (.int .i64 o2.2.2.1))] X p47 ∧ (((p46.1 == p47.1) = true → R (p46.2 == p47.2) X) ∧ ((p46.1 == p47.1) = false → R false X))))) ∧
 ((p1 == (6 : Int)) = false → (∃ (p48 : Int × Bool), RC Try.prog 25 [(.pure (.int .i64)), (.pure .bool)] [(.ref (some a0) carena_Arena 0 []), (.v (.int .i64 o2.2.1))] X p48 ∧ (∃ (p49 : Int × Bool), RC Try.prog 58 [(.pure (.int .i64)), (.pure .bool)] [(.ref (some r1) ccrucibleref5_Arena 0 []), (.v (.int .i64 o2.2.1))] X p49 ∧ (((p48.1 == p49.1) = true → R (p48.2 == p49.2) X) ∧ ((p48.1 == p49.1) = false → R false X))))))))))) ∧
 ((p1 == (3 : Int)) = false → (((p1 == (4 : Int)) = true → (XC Try.prog 16 [(.pure (.int .i64))] [(.ref (some a0) carena_Arena 0 []), (.v (.int .i64 o2.2.1))] X (fun (p50 : Int) (X51 : XH) => (XC Try.prog 55 [(.pure (.int .i64))] [(.ref (some r1) ccrucibleref5_Arena 0 []), (.v (.int .i64 o2.2.1))] X51 (fun (p52 : Int) (X53 : XH) => R (p50 == p52) X53))))) ∧
 ((p1 == (4 : Int)) = false → (((p1 == (5 : Int)) = true → (XC Try.prog 26 [(.pure (.int .i64))] [(.ref (some a0) carena_Arena 0 []), (.v (.int .i64 o2.2.1)), (.v (.int .i64 o2.2.2.1)), (.v (.int .i64 o2.2.2.2.1))] X (fun (p54 : Int) (X55 : XH) => (XC Try.prog 56 [(.pure (.int .i64))] [(.ref (some r1) ccrucibleref5_Arena 0 []), (.v (.int .i64 o2.2.1)), (.v (.int .i64 o2.2.2.1)), (.v (.int .i64 o2.2.2.2.1))] X55 (fun (p56 : Int) (X57 : XH) => R (p54 == p56) X57))))) ∧
 ((p1 == (5 : Int)) = false → (((p1 == (6 : Int)) = true → (∃ (p58 : Int × Int), RC Try.prog 45 [(.pure (.int .i64)), (.pure (.int .i64))] [(.ref (some a0) carena_Arena 0 []), (.v (.int .i64 o2.2.1)), (.v (.int .i64 o2.2.2.1))] X p58 ∧ (∃ (p59 : Int × Int), RC Try.prog 57 [(.pure (.int .i64)), (.pure (.int .i64))] [(.ref (some r1) ccrucibleref5_Arena 0 []), (.v (.int .i64 o2.2.1)), (.v (.int .i64 o2.2.2.1))] X p59 ∧ (((p58.1 == p59.1) = true → R (p58.2 == p59.2) X) ∧ ((p58.1 == p59.1) = false → R false X))))) ∧
 ((p1 == (6 : Int)) = false → (∃ (p60 : Int × Bool), RC Try.prog 25 [(.pure (.int .i64)), (.pure .bool)] [(.ref (some a0) carena_Arena 0 []), (.v (.int .i64 o2.2.1))] X p60 ∧ (∃ (p61 : Int × Bool), RC Try.prog 58 [(.pure (.int .i64)), (.pure .bool)] [(.ref (some r1) ccrucibleref5_Arena 0 []), (.v (.int .i64 o2.2.1))] X p61 ∧ (((p60.1 == p61.1) = true → R (p60.2 == p61.2) X) ∧ ((p60.1 == p61.1) = false → R false X))))))))))))))) ∧
 ((p1 == (1 : Int)) = false → (((p1 == (2 : Int)) = true → (∃ (p62 : Bool), RC Try.prog 24 [(.pure .bool)] [(.ref (some a0) carena_Arena 0 []), (.v (.int .i64 o2.2.2.1))] X p62 ∧ (∃ (p63 : Bool), RC Try.prog 53 [(.pure .bool)] [(.ref (some r1) ccrucibleref5_Arena 0 []), (.v (.int .i64 o2.2.2.1))] X p63 ∧ (((!(p62 == p63)) = true → R false X) ∧
 ((!(p62 == p63)) = false → (XC Try.prog 15 [(.pure (.int .i64)), (.pure (.int .i64))] [(.ref (some a0) carena_Arena 0 []), (.v (.int .i64 o2.2.2.1))] X (fun (p64 : Int × Int) (X65 : XH) => (XC Try.prog 54 [(.pure (.int .i64)), (.pure (.int .i64))] [(.ref (some r1) ccrucibleref5_Arena 0 []), (.v (.int .i64 o2.2.2.1))] X65 (fun (p66 : Int × Int) (X67 : XH) => (((p64.1 == p66.1) = true → R (p64.2 == p66.2) X67) ∧ ((p64.1 == p66.1) = false → R false X67))))))))))) ∧
 ((p1 == (2 : Int)) = false → (((p1 == (3 : Int)) = true → (((p1 == (3 : Int)) = true → (XC Try.prog 16 [(.pure (.int .i64))] [(.ref (some a0) carena_Arena 0 []), (.v (.int .i64 o2.2.1))] X (fun (p68 : Int) (X69 : XH) => (XC Try.prog 55 [(.pure (.int .i64))] [(.ref (some r1) ccrucibleref5_Arena 0 []), (.v (.int .i64 o2.2.1))] X69 (fun (p70 : Int) (X71 : XH) => R (p68 == p70) X71))))) ∧
 ((p1 == (3 : Int)) = false → (((p1 == (5 : Int)) = true → (XC Try.prog 26 [(.pure (.int .i64))] [(.ref (some a0) carena_Arena 0 []), (.v (.int .i64 o2.2.1)), (.v (.int .i64 o2.2.2.1)), (.v (.int .i64 o2.2.2.2.1))] X (fun (p72 : Int) (X73 : XH) => (XC Try.prog 56 [(.pure (.int .i64))] [(.ref (some r1) ccrucibleref5_Arena 0 []), (.v (.int .i64 o2.2.1)), (.v (.int .i64 o2.2.2.1)), (.v (.int .i64 o2.2.2.2.1))] X73 (fun (p74 : Int) (X75 : XH) => R (p72 == p74) X75))))) ∧
 ((p1 == (5 : Int)) = false → (((p1 == (6 : Int)) = true → (∃ (p76 : Int × Int), RC Try.prog 45 [(.pure (.int .i64)), (.pure (.int .i64))] [(.ref (some a0) carena_Arena 0 []), (.v (.int .i64 o2.2.1)), (.v (.int .i64 o2.2.2.1))] X p76 ∧ (∃ (p77 : Int × Int), RC Try.prog 57 [(.pure (.int .i64)), (.pure (.int .i64))] [(.ref (some r1) ccrucibleref5_Arena 0 []), (.v (.int .i64 o2.2.1)), (.v (.int .i64 o2.2.2.1))] X p77 ∧ (((p76.1 == p77.1) = true → R (p76.2 == p77.2) X) ∧ ((p76.1 == p77.1) = false → R false X))))) ∧
 ((p1 == (6 : Int)) = false → (∃ (p78 : Int × Bool), RC Try.prog 25 [(.pure (.int .i64)), (.pure .bool)] [(.ref (some a0) carena_Arena 0 []), (.v (.int .i64 o2.2.1))] X p78 ∧ (∃ (p79 : Int × Bool), RC Try.prog 58 [(.pure (.int .i64)), (.pure .bool)] [(.ref (some r1) ccrucibleref5_Arena 0 []), (.v (.int .i64 o2.2.1))] X p79 ∧ (((p78.1 == p79.1) = true → R (p78.2 == p79.2) X) ∧ ((p78.1 == p79.1) = false → R false X))))))))))) ∧
 ((p1 == (3 : Int)) = false → (((p1 == (4 : Int)) = true → (XC Try.prog 16 [(.pure (.int .i64))] [(.ref (some a0) carena_Arena 0 []), (.v (.int .i64 o2.2.1))] X (fun (p80 : Int) (X81 : XH) => (XC Try.prog 55 [(.pure (.int .i64))] [(.ref (some r1) ccrucibleref5_Arena 0 []), (.v (.int .i64 o2.2.1))] X81 (fun (p82 : Int) (X83 : XH) => R (p80 == p82) X83))))) ∧
 ((p1 == (4 : Int)) = false → (((p1 == (5 : Int)) = true → (XC Try.prog 26 [(.pure (.int .i64))] [(.ref (some a0) carena_Arena 0 []), (.v (.int .i64 o2.2.1)), (.v (.int .i64 o2.2.2.1)), (.v (.int .i64 o2.2.2.2.1))] X (fun (p84 : Int) (X85 : XH) => (XC Try.prog 56 [(.pure (.int .i64))] [(.ref (some r1) ccrucibleref5_Arena 0 []), (.v (.int .i64 o2.2.1)), (.v (.int .i64 o2.2.2.1)), (.v (.int .i64 o2.2.2.2.1))] X85 (fun (p86 : Int) (X87 : XH) => R (p84 == p86) X87))))) ∧
 ((p1 == (5 : Int)) = false → (((p1 == (6 : Int)) = true → (∃ (p88 : Int × Int), RC Try.prog 45 [(.pure (.int .i64)), (.pure (.int .i64))] [(.ref (some a0) carena_Arena 0 []), (.v (.int .i64 o2.2.1)), (.v (.int .i64 o2.2.2.1))] X p88 ∧ (∃ (p89 : Int × Int), RC Try.prog 57 [(.pure (.int .i64)), (.pure (.int .i64))] [(.ref (some r1) ccrucibleref5_Arena 0 []), (.v (.int .i64 o2.2.1)), (.v (.int .i64 o2.2.2.1))] X p89 ∧ (((p88.1 == p89.1) = true → R (p88.2 == p89.2) X) ∧ ((p88.1 == p89.1) = false → R false X))))) ∧
 ((p1 == (6 : Int)) = false → (∃ (p90 : Int × Bool), RC Try.prog 25 [(.pure (.int .i64)), (.pure .bool)] [(.ref (some a0) carena_Arena 0 []), (.v (.int .i64 o2.2.1))] X p90 ∧ (∃ (p91 : Int × Bool), RC Try.prog 58 [(.pure (.int .i64)), (.pure .bool)] [(.ref (some r1) ccrucibleref5_Arena 0 []), (.v (.int .i64 o2.2.1))] X p91 ∧ (((p90.1 == p91.1) = true → R (p90.2 == p91.2) X) ∧ ((p90.1 == p91.1) = false → R false X)))))))))))))))))))) :
  fnK X22.tt (callN Try.prog X22 0) (X22.md 22) (X22.mk1 22) Try.f22 [(.ref (some a0) carena_Arena 0 []), (.ref (some r1) ccrucibleref5_Arena 0 []), (.v (.agg [(.int .i64 o2.1), (.int .i64 o2.2.1), (.int .i64 o2.2.2.1), (.int .i64 o2.2.2.2.1), (.bool o2.2.2.2.2)]))] ⟨[], [some (.heap X)], ⟨0, []⟩⟩ (xfin [(.pure .bool)] R) := Eq.mp (by kernel_rfl) h
end Go.Proofs.Ytefpoodhdfggdaa.AB

set_option linter.unusedVariables false
set_option linter.unusedSimpArgs false
set_option maxRecDepth 100000
set_option maxHeartbeats 2000000
namespace Go.Proofs.Ytefpoodhdfggdaa.AB
open Go
/-! crucible/cruciblelaw5.alike -/
noncomputable def X23 : Cx := ⟨tt, [(44, [.cd .bool])], [(17, [(.pure (.int .i64)), (.pure (.int .i64))]), (18, [(.pure (.int .i64)), (.pure .bool)]), (19, [(.pure (.slice (.int .i64)))]), (21, [(.pure (.slice (.int .i64)))]), (59, [(.pure (.int .i64)), (.pure (.int .i64))])], [(23, [(4, 2, .rd), (10, 1, .rd), (11, 1, .rd), (12, 1, .rd), (12, 3, .rd)])], [(23, [(0, mkM 83 0 [0, 1, 5], 0)])], []⟩
theorem FN23 : fnsB Try.prog X23.fns := (show True from trivial)
def M23_0 : List Bool × Nat := (mkM 83 0 [0, 1, 5], 1)
def S23_0 (a0 : Nat) (r1 : Nat) (i5 : Int) (hq0 : XH) (T : Toks) : St :=
  mkS 83 [(0, (.ref (some a0) carena_Arena 0 [])), (1, (.ref (some r1) ccrucibleref5_Arena 0 [])), (5, (.v (.int .i64 i5)))] [(some (.heap hq0))] T
noncomputable def B23_0 : (Exit → St → Prop) → St → Prop := (awp X23.tt (callN Try.prog X23 0) (X23.md 23) 1 (X23.mk1 23) 0 (codeAt [1, 0, 1, 0, 0] (bd Try.f23)))
noncomputable def K23_0 (R : (Bool) → XH → Prop) : Exit → St → Prop := seqK ((awp X23.tt (callN Try.prog X23 0) (X23.md 23) 1 (X23.mk1 23) 0 (codeAt [1, 1] (bd Try.f23))) (retK tt Try.f23.results.toList fun x s' => xfin [(.pure .bool)] R x ⟨[], s'.hp, s'.T⟩)) (retK tt Try.f23.results.toList fun x s' => xfin [(.pure .bool)] R x ⟨[], s'.hp, s'.T⟩)
noncomputable def Q23_0 (R : (Bool) → XH → Prop) : Exit → St → Prop := (blockK 0 (K23_0 R))
theorem E23 (X : XH) (a0 : Nat) (r1 : Nat) {R : (Bool) → XH → Prop} (h : (Loops B23_0 M23_0 (Q23_0 R)
  (S23_0 a0 r1 (-1 : Int) X ⟨0, []⟩))) :
  fnK X23.tt (callN Try.prog X23 0) (X23.md 23) (X23.mk1 23) Try.f23 [(.ref (some a0) carena_Arena 0 []), (.ref (some r1) ccrucibleref5_Arena 0 [])] ⟨[], [some (.heap X)], ⟨0, []⟩⟩ (xfin [(.pure .bool)] R) := Eq.mp (by kernel_rfl) h
theorem L23_0 (a0 : Nat) (r1 : Nat) (i5 : Int) (hq0 : XH) (T : Toks) {R : (Bool) → XH → Prop} {k0 : St → Prop}
 (h : (∃ (a1 : ((Option SlH) × Unit)), XH.el hq0 ccrucibleref5_Arena r1 0 = some a1 ∧ (((decide (i5 ≤ (((slN a1.1) : Nat) : Int))) = true → (∃ (p2 : Int × Bool), RC Try.prog 18 [(.pure (.int .i64)), (.pure .bool)] [(.ref (some a0) carena_Arena 0 []), (.v (.int .i64 i5))] hq0 p2 ∧ (((decide (i5 < (0 : Int))) = true → ((p2.2 = true → R false hq0) ∧ (p2.2 = false → (((p2.1 != (0 : Int)) = true → R false hq0) ∧
 ((p2.1 != (0 : Int)) = false → k0 (S23_0 a0 r1 ((IntKind.wrap .i64 (i5 + (1 : Int)))) hq0 T)))))) ∧ ((decide (i5 < (0 : Int))) = false → (∃ (a3 : ((Option SlH) × Unit)), XH.el hq0 ccrucibleref5_Arena r1 0 = some a3 ∧ (((decide (i5 ≥ (((slN a3.1) : Nat) : Int))) = true → ((p2.2 = true → R false hq0) ∧ (p2.2 = false → (((p2.1 != (0 : Int)) = true → R false hq0) ∧
 ((p2.1 != (0 : Int)) = false → k0 (S23_0 a0 r1 ((IntKind.wrap .i64 (i5 + (1 : Int)))) hq0 T)))))) ∧
 ((decide (i5 ≥ (((slN a3.1) : Nat) : Int))) = false → (((!p2.2) = true → R false hq0) ∧ ((!p2.2) = false → (∃ (a4 : ((Option SlH) × Unit)), XH.el hq0 ccrucibleref5_Arena r1 0 = some a4 ∧ (∃ (u5 : SlH), a4.1 = some u5 ∧ 0 ≤ i5 ∧ i5 < ((u5.len : Nat) : Int) ∧ (∃ (a6 : Int), XH.el hq0 (.pure (.int .i64)) u5.h ((u5.off + (i5).toNat)) = some a6 ∧ (((p2.1 != a6) = true → R false hq0) ∧
 ((p2.1 != a6) = false → k0 (S23_0 a0 r1 ((IntKind.wrap .i64 (i5 + (1 : Int)))) hq0 T))))))))))))))) ∧
 ((decide (i5 ≤ (((slN a1.1) : Nat) : Int))) = false → (∃ (p7 : Int × Int), RC Try.prog 17 [(.pure (.int .i64)), (.pure (.int .i64))] [(.ref (some a0) carena_Arena 0 [])] hq0 p7 ∧ (∃ (p8 : Int × Int), RC Try.prog 59 [(.pure (.int .i64)), (.pure (.int .i64))] [(.ref (some r1) ccrucibleref5_Arena 0 [])] hq0 p8 ∧ (∃ (p9 : (List Int)), RC Try.prog 19 [(.pure (.slice (.int .i64)))] [(.ref (some a0) carena_Arena 0 [])] hq0 p9 ∧ (∃ (p10 : (List Int)), RC Try.prog 21 [(.pure (.slice (.int .i64)))] [(.ref (some r1) ccrucibleref5_Arena 0 [])] hq0 p10 ∧ (∃ p11 : Bool, PC Try.prog 44 [(.list (.int .i64) p9 .no), (.list (.int .i64) p10 .no)] (.bool p11) ∧ ((p11 = true → (((p7.1 == p8.1) = true → R (p7.2 == p8.2) hq0) ∧ ((p7.1 == p8.1) = false → R false hq0))) ∧ (p11 = false → R false hq0))))))))))) :
  B23_0 (loopQ M23_0 k0 (Q23_0 R)) (S23_0 a0 r1 i5 hq0 T) := Eq.mp (by kernel_rfl) h
end Go.Proofs.Ytefpoodhdfggdaa.AB

set_option linter.unusedVariables false
set_option linter.unusedSimpArgs false
namespace Go.Proofs.Ytefpoodhdfggdaa.AB
open Go

variable {X X1 X2 : XH} {t t2 hw : Nat} {d d' : AD} {bs bs' : List Bl}

/-- the two arenas, with the same words -/
structure Both (X : XH) (t : Nat) (d : AD) (bs : List Bl) (t2 hw : Nat) : Prop where
  r : Rep X t d
  hd : DOK d bs
  rr : RRep X t2 hw d.W
  sep : ∀ k ∈ [t2, hw], k ∉ d.hs t

theorem Both.step1 (h : Both X t d bs t2 hw) (m : Mv X (d.hs t) X1 (d'.hs t)) : RRep X1 t2 hw d.W ∧ ∀ k ∈ [t2, hw], k ∉ d'.hs t :=
  ⟨h.rr.keep fun k hk => m.keep k (h.rr.lt k hk) (h.sep k hk), fun k hk q => (m.own k q).elim (h.sep k hk) fun g => absurd (h.rr.lt k hk) (by omega)⟩

theorem Both.step2 (r' : Rep X1 t d') (sep1 : ∀ k ∈ [t2, hw], k ∉ d'.hs t) (hd' : DOK d' bs') (rr' : RRep X2 t2 hw d'.W) (m2 : Mv X1 [t2, hw] X2 [t2, hw]) : Both X2 t d' bs' t2 hw :=
  ⟨r'.mv m2 fun k hk q => sep1 k q hk, hd', rr', sep1⟩

theorem fits_eq (hd : DOK d bs) (n : Int) : (bestR d.L n).2 = fitsR bs n := by
  have h1 := fits_iff hd n
  have hz := hd.w.sz
  rw [Bool.eq_iff_iff, h1]
  unfold fitsR
  rw [Bool.and_eq_true, decide_eq_true_eq, decide_eq_true_eq]
  constructor
  · rintro ⟨a, b, p, s, hm, hs⟩
    refine ⟨⟨a, b⟩, ?_⟩
    rcases least_pos hz (leastR_ok hz n.toNat) with ⟨_, hno⟩ | ⟨hq, _⟩
    · exact absurd (by omega) (hno p s hm)
    · exact hq
  · rintro ⟨⟨a, b⟩, c⟩
    refine ⟨a, b, ?_⟩
    rcases least_pos hz (leastR_ok hz n.toNat) with ⟨h0, _⟩ | ⟨hq, pre, post, he, hb⟩
    · rw [h0] at c; exact absurd c (Nat.lt_irrefl 0)
    · exact ⟨_, _, by rw [hb.e]; exact walk_three.2 (.inr (.inl rfl)), by have := hb.le; omega⟩

/-- does -/
theorem c22 (h : Both X t d bs t2 hw) {o : OP} (ho : opOK o) : XC Try.prog 22 [.pure .bool] [.ref (some t) cA 0 [], .ref (some t2) cR 0 [], .v (.agg [.int .i64 o.1, .int .i64 o.2.1, .int .i64 o.2.2.1, .int .i64 o.2.2.2.1, .bool o.2.2.2.2])] X
    fun p X' => p = true ∧ ∃ d' bs', Both X' t d' bs' t2 hw ∧ sumS bs' = sumS bs := by
  obtain ⟨o1, hA0, hB, hC⟩ := ho
  refine xcOf (X := X22) rfl FN22 (by kernel_rfl) (by decide) (E22 X t t2 o ⟨_, pick_ok o.1 (n := 8) o1 (by omega), fun e => ⟨fun _ => ?_, fun e' => absurd (e.symm.trans e') (by decide)⟩,
    fun e => ⟨fun e1 => ⟨fun _ => ?_, fun e' => absurd (e1.symm.trans e') (by decide)⟩, fun e1 => ⟨fun e2 => ?_, fun e2 => ⟨fun e3 => ⟨fun _ => ?_, fun e' => absurd (e3.symm.trans e') (by decide)⟩, fun e3 => ⟨fun e4 => ?_, fun e4 => ⟨fun e5 => ?_, fun e5 => ⟨fun e6 => ?_, fun e6 => ?_⟩⟩⟩⟩⟩⟩⟩)
  · refine ⟨_, c24 h.r h.hd o.2.2.1 hB, _, c53 h.rr h.hd.w.told o.2.2.1, fun e => ?_, fun _ => ?_⟩
    · rw [fits_eq h.hd] at e; simp at e
    refine (c15 h.r h.hd o.2.2.1 hB).mono ?_
    rintro p4 X5 ⟨d', r', m, hA⟩
    obtain ⟨rr1, sep1⟩ := h.step1 m
    refine (c54 rr1 h.hd.w o.2.2.1).mono ?_
    rintro p6 X7 ⟨W', rr2, m2, hQ⟩
    rcases hA with ⟨hno, rfl, rfl⟩ | ⟨n, en, g1, g2, ⟨hno, rfl, rfl⟩ | ⟨pre, s, post, hb, rfl, hW, hd'⟩⟩
    · rcases hQ with ⟨_, rfl, rfl⟩ | ⟨n2, en2, k1, k2, _⟩
      · exact ⟨fun _ => ⟨rfl, _, bs, Both.step2 r' sep1 h.hd rr2 m2, rfl⟩, fun e => absurd e (by decide)⟩
      · exact absurd ⟨by omega, by omega⟩ hno
    · rcases hQ with ⟨hn, _⟩ | ⟨n2, en2, k1, k2, ⟨_, rfl, rfl⟩ | ⟨pre2, s2, post2, hb2, _⟩⟩
      · exact absurd ⟨by omega, by omega⟩ hn
      · exact ⟨fun _ => ⟨rfl, _, bs, Both.step2 r' sep1 h.hd rr2 m2, rfl⟩, fun e => absurd e (by decide)⟩
      · have : n2 = n := by omega
        subst this
        exact absurd hb2.le (hno _ _ (by rw [hb2.e]; exact walk_three.2 (.inr (.inl rfl))))
    · rcases hQ with ⟨hn, _⟩ | ⟨n2, en2, k1, k2, ⟨hno, _⟩ | ⟨pre2, s2, post2, hb2, rfl, hW2⟩⟩
      · exact absurd ⟨by omega, by omega⟩ hn
      · have : n2 = n := by omega
        subst this
        exact absurd hb.le (hno _ _ (by rw [hb.e]; exact walk_three.2 (.inr (.inl rfl))))
      · have : n2 = n := by omega
        subst this
        obtain ⟨rfl, rfl, rfl⟩ := hb.uniq h.hd.w.sz hb2
        refine ⟨fun _ => ⟨rfl, d', _, Both.step2 r' sep1 hd' ?_ m2, (h.hd.w.alloc hb g1).2⟩, fun e => (by simp at e)⟩
        rw [hW, ← hW2]; exact rr2
  · refine ⟨_, c24 h.r h.hd o.2.2.1 hB, _, c53 h.rr h.hd.w.told o.2.2.1, fun e => ?_, fun _ => ?_⟩
    · rw [fits_eq h.hd] at e; simp at e
    refine (c15 h.r h.hd o.2.2.1 hB).mono ?_
    rintro p4 X5 ⟨d', r', m, hA⟩
    obtain ⟨rr1, sep1⟩ := h.step1 m
    refine (c54 rr1 h.hd.w o.2.2.1).mono ?_
    rintro p6 X7 ⟨W', rr2, m2, hQ⟩
    rcases hA with ⟨hno, rfl, rfl⟩ | ⟨n, en, g1, g2, ⟨hno, rfl, rfl⟩ | ⟨pre, s, post, hb, rfl, hW, hd'⟩⟩
    · rcases hQ with ⟨_, rfl, rfl⟩ | ⟨n2, en2, k1, k2, _⟩
      · exact ⟨fun _ => ⟨rfl, _, bs, Both.step2 r' sep1 h.hd rr2 m2, rfl⟩, fun e => absurd e (by decide)⟩
      · exact absurd ⟨by omega, by omega⟩ hno
    · rcases hQ with ⟨hn, _⟩ | ⟨n2, en2, k1, k2, ⟨_, rfl, rfl⟩ | ⟨pre2, s2, post2, hb2, _⟩⟩
      · exact absurd ⟨by omega, by omega⟩ hn
      · exact ⟨fun _ => ⟨rfl, _, bs, Both.step2 r' sep1 h.hd rr2 m2, rfl⟩, fun e => absurd e (by decide)⟩
      · have : n2 = n := by omega
        subst this
        exact absurd hb2.le (hno _ _ (by rw [hb2.e]; exact walk_three.2 (.inr (.inl rfl))))
    · rcases hQ with ⟨hn, _⟩ | ⟨n2, en2, k1, k2, ⟨hno, _⟩ | ⟨pre2, s2, post2, hb2, rfl, hW2⟩⟩
      · exact absurd ⟨by omega, by omega⟩ hn
      · have : n2 = n := by omega
        subst this
        exact absurd hb.le (hno _ _ (by rw [hb.e]; exact walk_three.2 (.inr (.inl rfl))))
      · have : n2 = n := by omega
        subst this
        obtain ⟨rfl, rfl, rfl⟩ := hb.uniq h.hd.w.sz hb2
        refine ⟨fun _ => ⟨rfl, d', _, Both.step2 r' sep1 hd' ?_ m2, (h.hd.w.alloc hb g1).2⟩, fun e => (by simp at e)⟩
        rw [hW, ← hW2]; exact rr2
  · refine ⟨_, c24 h.r h.hd o.2.2.1 hB, _, c53 h.rr h.hd.w.told o.2.2.1, fun e => ?_, fun _ => ?_⟩
    · rw [fits_eq h.hd] at e; simp at e
    refine (c15 h.r h.hd o.2.2.1 hB).mono ?_
    rintro p4 X5 ⟨d', r', m, hA⟩
    obtain ⟨rr1, sep1⟩ := h.step1 m
    refine (c54 rr1 h.hd.w o.2.2.1).mono ?_
    rintro p6 X7 ⟨W', rr2, m2, hQ⟩
    rcases hA with ⟨hno, rfl, rfl⟩ | ⟨n, en, g1, g2, ⟨hno, rfl, rfl⟩ | ⟨pre, s, post, hb, rfl, hW, hd'⟩⟩
    · rcases hQ with ⟨_, rfl, rfl⟩ | ⟨n2, en2, k1, k2, _⟩
      · exact ⟨fun _ => ⟨rfl, _, bs, Both.step2 r' sep1 h.hd rr2 m2, rfl⟩, fun e => absurd e (by decide)⟩
      · exact absurd ⟨by omega, by omega⟩ hno
    · rcases hQ with ⟨hn, _⟩ | ⟨n2, en2, k1, k2, ⟨_, rfl, rfl⟩ | ⟨pre2, s2, post2, hb2, _⟩⟩
      · exact absurd ⟨by omega, by omega⟩ hn
      · exact ⟨fun _ => ⟨rfl, _, bs, Both.step2 r' sep1 h.hd rr2 m2, rfl⟩, fun e => absurd e (by decide)⟩
      · have : n2 = n := by omega
        subst this
        exact absurd hb2.le (hno _ _ (by rw [hb2.e]; exact walk_three.2 (.inr (.inl rfl))))
    · rcases hQ with ⟨hn, _⟩ | ⟨n2, en2, k1, k2, ⟨hno, _⟩ | ⟨pre2, s2, post2, hb2, rfl, hW2⟩⟩
      · exact absurd ⟨by omega, by omega⟩ hn
      · have : n2 = n := by omega
        subst this
        exact absurd hb.le (hno _ _ (by rw [hb.e]; exact walk_three.2 (.inr (.inl rfl))))
      · have : n2 = n := by omega
        subst this
        obtain ⟨rfl, rfl, rfl⟩ := hb.uniq h.hd.w.sz hb2
        refine ⟨fun _ => ⟨rfl, d', _, Both.step2 r' sep1 hd' ?_ m2, (h.hd.w.alloc hb g1).2⟩, fun e => (by simp at e)⟩
        rw [hW, ← hW2]; exact rr2
  · refine (c16 h.r h.hd o.2.1).mono ?_
    rintro p4 X5 ⟨d', r', m, hA⟩
    obtain ⟨rr1, sep1⟩ := h.step1 m
    refine (c55 rr1 h.hd.w o.2.1 hA0).mono ?_
    rintro p6 X7 ⟨W', rr2, m2, hQ⟩
    rcases hA with ⟨hno, rfl, rfl⟩ | ⟨pre, s, post, e, ea, rfl, hW, hd'⟩
    · rcases hQ with ⟨_, rfl, rfl⟩ | ⟨pre2, s2, post2, e2, ea2, _⟩
      · exact ⟨rfl, _, bs, Both.step2 r' sep1 h.hd rr2 m2, rfl⟩
      · exact absurd ea2 (hno _ s2 (by rw [e2]; exact walk_three.2 (.inr (.inl rfl))))
    · rcases hQ with ⟨hno, _⟩ | ⟨pre2, s2, post2, e2, ea2, rfl, hW2⟩
      · exact absurd ea (hno _ s (by rw [e]; exact walk_three.2 (.inr (.inl rfl))))
      · have hz := h.hd.w.sz
        rw [e] at hz
        obtain ⟨u1, u2, u3⟩ := split_uniq hz (e.symm.trans e2) (by omega)
        cases u2
        subst u1 u3
        refine ⟨rfl, d', _, Both.step2 r' sep1 hd' ?_ m2, by rw [freeB_sum, ← e]⟩
        rw [hW, ← hW2]; exact rr2
  · refine (c16 h.r h.hd o.2.1).mono ?_
    rintro p4 X5 ⟨d', r', m, hA⟩
    obtain ⟨rr1, sep1⟩ := h.step1 m
    refine (c55 rr1 h.hd.w o.2.1 hA0).mono ?_
    rintro p6 X7 ⟨W', rr2, m2, hQ⟩
    rcases hA with ⟨hno, rfl, rfl⟩ | ⟨pre, s, post, e, ea, rfl, hW, hd'⟩
    · rcases hQ with ⟨_, rfl, rfl⟩ | ⟨pre2, s2, post2, e2, ea2, _⟩
      · exact ⟨rfl, _, bs, Both.step2 r' sep1 h.hd rr2 m2, rfl⟩
      · exact absurd ea2 (hno _ s2 (by rw [e2]; exact walk_three.2 (.inr (.inl rfl))))
    · rcases hQ with ⟨hno, _⟩ | ⟨pre2, s2, post2, e2, ea2, rfl, hW2⟩
      · exact absurd ea (hno _ s (by rw [e]; exact walk_three.2 (.inr (.inl rfl))))
      · have hz := h.hd.w.sz
        rw [e] at hz
        obtain ⟨u1, u2, u3⟩ := split_uniq hz (e.symm.trans e2) (by omega)
        cases u2
        subst u1 u3
        refine ⟨rfl, d', _, Both.step2 r' sep1 hd' ?_ m2, by rw [freeB_sum, ← e]⟩
        rw [hW, ← hW2]; exact rr2
  · refine (c26 h.r h.hd o.2.1 o.2.2.1 o.2.2.2.1).mono ?_
    rintro p12 X13 ⟨hp12, d', r', m, hdd, hd'⟩
    obtain ⟨rr1, sep1⟩ := h.step1 m
    refine (c56 rr1 h.hd.w o.2.1 o.2.2.1 o.2.2.2.1 hA0).mono ?_
    rintro p14 X15 ⟨hp14, rr2, m2⟩
    have q12 : @Eq Int p12 (placeR bs o.2.1 o.2.2.1).2 := hp12
    have q14 : @Eq Int p14 (placeR bs o.2.1 o.2.2.1).2 := hp14
    have e' : (@BEq.beq Int _ p12 p14) = true := beq_iff_eq.2 (q12.trans q14.symm)
    refine ⟨e', d', bs, Both.step2 r' sep1 hd' ?_ m2, rfl⟩
    rw [hdd]; exact rr2
  · have e1 : ((readR d.W bs o.2.1 o.2.2.1).2 == (readR d.W bs o.2.1 o.2.2.1).2) = true := beq_self_eq_true _
    exact ⟨_, c45 h.r h.hd o.2.1 o.2.2.1, _, c57 h.rr h.hd.w o.2.1 o.2.2.1 hA0, fun _ => ⟨e1, d, bs, h, rfl⟩, fun e => (by simp at e)⟩
  · have e1 : ((sizeR bs o.2.1).2 == (sizeR bs o.2.1).2) = true := beq_self_eq_true _
    exact ⟨_, c25 h.r h.hd o.2.1, _, c58 h.rr h.hd.w.told o.2.1 hA0, fun _ => ⟨e1, d, bs, h, rfl⟩, fun e => (by simp at e)⟩

/-- alike -/
theorem c23 (h : Both X t d bs t2 hw) : RC Try.prog 23 [.pure .bool] [.ref (some t) cA 0 [], .ref (some t2) cR 0 []] X true := by
  have hle := h.hd.w.le
  refine xcOf (X := X23) rfl FN23 (by kernel_rfl) (by decide) (E23 X t t2 ?_)
  refine Loops.intro (fun j : Nat => S23_0 t t2 ((j : Int) - 1) X ⟨0, []⟩) (fun j => j ≤ d.W.length + 2) (fun j => d.W.length + 2 - j) 0 rfl (Nat.zero_le _) ?_
  intro j hj
  refine L23_0 t t2 ((j : Int) - 1) X ⟨0, []⟩ ⟨_, h.rr.box.el, fun e => ?_, fun e => ?_⟩
  · have e := of_decide_eq_true e
    have e : (j : Int) - 1 ≤ ((d.W.length : Nat) : Int) := e
    have hw1 : IntKind.wrap .i64 ((j : Int) - 1 + 1) = ((j + 1 : Nat) : Int) - 1 := by rw [wrap64 (by omega) (by omega)]; omega
    rw [hw1]
    refine ⟨_, c18 h.r ((j : Int) - 1), fun e2 => ?_, fun e2 => ⟨_, h.rr.box.el, fun e3 => ?_, fun e3 => ?_⟩⟩
    · have e2 := of_decide_eq_true e2
      have hr : rawR d.W ((j : Int) - 1) = (0, false) := by unfold rawR; rw [if_pos e2]
      rw [hr]
      exact ⟨fun e => (by cases e), fun _ => ⟨fun e => absurd e (by decide), fun _ => Again.mk (j + 1) rfl (by omega) (by omega)⟩⟩
    · have e2 := of_decide_eq_false e2
      have e3 := of_decide_eq_true e3
      have e3 : (j : Int) - 1 ≥ ((d.W.length : Nat) : Int) := e3
      have hr : rawR d.W ((j : Int) - 1) = (0, false) := by unfold rawR; rw [if_neg e2, if_pos e3]
      rw [hr]
      exact ⟨fun e => (by cases e), fun _ => ⟨fun e => absurd e (by decide), fun _ => Again.mk (j + 1) rfl (by omega) (by omega)⟩⟩
    · have e2 := of_decide_eq_false e2
      have e3 := of_decide_eq_false e3
      have e3 : ¬ (j : Int) - 1 ≥ ((d.W.length : Nat) : Int) := e3
      obtain ⟨k, rfl⟩ : ∃ k, j = k + 1 := ⟨j - 1, by omega⟩
      have hk : ((k + 1 : Nat) : Int) - 1 = (k : Int) := by omega
      rw [hk] at e3 ⊢
      have hr : rawR d.W (k : Int) = (d.W.getD k 0, true) := by unfold rawR; rw [if_neg (by omega), if_neg e3, Int.toNat_natCast]
      rw [hr]
      refine ⟨fun e => (by simp at e), fun _ => h.rr.at' (by omega) ?_⟩
      exact ⟨fun e => (by simp at e), fun _ => Again.mk (k + 1 + 1) rfl (by omega) (by omega)⟩
  · have e1 : (((sumS bs : Int) - ((usedSum bs : Nat) : Int)) == ((sumS bs : Int) - ((usedSum bs : Nat) : Int))) = true := beq_self_eq_true _
    have hul := usedAt_len bs h.hd.w.sz
    have hlen := h.hd.w.len
    have h44 := p44 (usedAt bs) (usedAt bs) (by omega)
    rw [beq_self_eq_true] at h44
    exact ⟨_, c17 h.r h.hd, _, c59 h.rr h.hd.w.told, _, c19 h.r h.hd, _, c21 h.rr h.hd.w.told, _, h44, fun _ => ⟨fun _ => ⟨e1, rfl⟩, fun e => (by simp at e)⟩, fun e => (by cases e)⟩

end Go.Proofs.Ytefpoodhdfggdaa.AB

set_option linter.unusedVariables false
set_option linter.unusedSimpArgs false
set_option maxRecDepth 100000
set_option maxHeartbeats 2000000
namespace Go.Proofs.Ytefpoodhdfggdaa.AB
open Go
/-! crucible/cruciblelaw5.ArenaPlays -/
noncomputable def X6 : Cx := ⟨tt, [(12, [.cd .bool]), (13, [.cd (.int .i64)])], [(14, [(.ref carena_Arena), (.pure (.int .i64))]), (20, [(.ref ccrucibleref5_Arena)]), (21, [(.pure (.slice (.int .i64)))]), (22, [(.pure .bool)]), (23, [(.pure .bool)])], [(6, [(6, 1, .xc), (7, 1, .xc), (14, 1, .rd), (17, 3, .xc), (20, 2, .rd)])], [(6, [(0, mkM 99 0 [1, 5, 6, 8, 9], 0)])], []⟩
theorem FN6 : fnsB Try.prog X6.fns := (show True from trivial)
def M6_0 : List Bool × Nat := (mkM 99 0 [1, 5, 6, 8, 9], 1)
def S6_0 (script1 : List (Int × (Int × (Int × (Int × Bool))))) (head5 : Bool) (a6 : Option Nat) (r8 : Option Nat) (i9 : Int) (hq0 : XH) (T : Toks) : St :=
  mkS 99 [(1, (.v (.list (.pair (.int .i64) (.pair (.int .i64) (.pair (.int .i64) (.pair (.int .i64) .bool)))) script1 .no))), (5, (.v (.bool head5))), (6, (.ref a6 carena_Arena 0 [])), (8, (.ref r8 ccrucibleref5_Arena 0 [])), (9, (.v (.int .i64 i9)))] [(some (.heap hq0))] T
noncomputable def B6_0 : (Exit → St → Prop) → St → Prop := (awp X6.tt (callN Try.prog X6 0) (X6.md 6) 1 (X6.mk1 6) 0 (codeAt [1, 1, 1, 1, 1, 1, 1, 0, 1, 0, 0] (bd Try.f6)))
noncomputable def K6_0 (R : V → Prop) : Exit → St → Prop := seqK ((awp X6.tt (callN Try.prog X6 0) (X6.md 6) 1 (X6.mk1 6) 0 (codeAt [1, 1, 1, 1, 1, 1, 1, 1] (bd Try.f6))) (retK tt Try.f6.results.toList fun x s' => topK R x ⟨[], s'.hp, s'.T⟩)) (retK tt Try.f6.results.toList fun x s' => topK R x ⟨[], s'.hp, s'.T⟩)
noncomputable def Q6_0 (R : V → Prop) : Exit → St → Prop := (blockK 0 (K6_0 R))
theorem E6 (words0 : Int) (script1 : (List (Int × (Int × (Int × (Int × Bool)))))) {R : V → Prop} (h : (∃ p1 : Bool, PC Try.prog 12 [] (.bool p1) ∧ (((!p1) = true → R (.bool false)) ∧
 ((!p1) = false → (((decide (words0 > (3000 : Int))) = true → (((decide (words0 ≤ (1048576 : Int))) = true → (XC Try.prog 14 [(.ref carena_Arena), (.pure (.int .i64))] [(.v (.int .i64 (3000 : Int)))] XH.none (fun (p2 : (Option Nat) × Int) (X3 : XH) => (XC Try.prog 20 [(.ref ccrucibleref5_Arena)] [(.v (.int .i64 (3000 : Int)))] X3 (fun (p4 : (Option Nat)) (X5 : XH) => (((Option.isNone p4) = true → ((p1 = true → (((Option.isNone p4) = true → (((Option.isNone p2.1) = true → R (.bool ((p2.2 == (1 : Int))))) ∧ ((Option.isNone p2.1) = false → R (.bool false)))) ∧ ((Option.isNone p4) = false → R (.bool false)))) ∧ (p1 = false → R (.bool false)))) ∧ ((Option.isNone p4) = false → (((Option.isNone p2.1) = true → ((p1 = true → (((Option.isNone p4) = true → (((Option.isNone p2.1) = true → R (.bool ((p2.2 == (1 : Int))))) ∧ ((Option.isNone p2.1) = false → R (.bool false)))) ∧ ((Option.isNone p4) = false → R (.bool false)))) ∧ (p1 = false → R (.bool false)))) ∧
 ((Option.isNone p2.1) = false → (Loops B6_0 M6_0 (Q6_0 R)
  (S6_0 script1 p1 p2.1 p4 (0 : Int) X5 ⟨0, []⟩))))))))))) ∧
 ((decide (words0 ≤ (1048576 : Int))) = false → (XC Try.prog 14 [(.ref carena_Arena), (.pure (.int .i64))] [(.v (.int .i64 words0))] XH.none (fun (p6 : (Option Nat) × Int) (X7 : XH) => (XC Try.prog 20 [(.ref ccrucibleref5_Arena)] [(.v (.int .i64 words0))] X7 (fun (p8 : (Option Nat)) (X9 : XH) => (((Option.isNone p8) = true → ((p1 = true → (((Option.isNone p8) = true → (((Option.isNone p6.1) = true → R (.bool ((p6.2 == (1 : Int))))) ∧ ((Option.isNone p6.1) = false → R (.bool false)))) ∧ ((Option.isNone p8) = false → R (.bool false)))) ∧ (p1 = false → R (.bool false)))) ∧ ((Option.isNone p8) = false → (((Option.isNone p6.1) = true → ((p1 = true → (((Option.isNone p8) = true → (((Option.isNone p6.1) = true → R (.bool ((p6.2 == (1 : Int))))) ∧ ((Option.isNone p6.1) = false → R (.bool false)))) ∧ ((Option.isNone p8) = false → R (.bool false)))) ∧ (p1 = false → R (.bool false)))) ∧
 ((Option.isNone p6.1) = false → (Loops B6_0 M6_0 (Q6_0 R)
  (S6_0 script1 p1 p6.1 p8 (0 : Int) X9 ⟨0, []⟩))))))))))))) ∧ ((decide (words0 > (3000 : Int))) = false → (XC Try.prog 14 [(.ref carena_Arena), (.pure (.int .i64))] [(.v (.int .i64 words0))] XH.none (fun (p10 : (Option Nat) × Int) (X11 : XH) => (XC Try.prog 20 [(.ref ccrucibleref5_Arena)] [(.v (.int .i64 words0))] X11 (fun (p12 : (Option Nat)) (X13 : XH) => (((Option.isNone p12) = true → ((p1 = true → (((Option.isNone p12) = true → (((Option.isNone p10.1) = true → R (.bool ((p10.2 == (1 : Int))))) ∧ ((Option.isNone p10.1) = false → R (.bool false)))) ∧ ((Option.isNone p12) = false → R (.bool false)))) ∧ (p1 = false → R (.bool false)))) ∧ ((Option.isNone p12) = false → (((Option.isNone p10.1) = true → ((p1 = true → (((Option.isNone p12) = true → (((Option.isNone p10.1) = true → R (.bool ((p10.2 == (1 : Int))))) ∧ ((Option.isNone p10.1) = false → R (.bool false)))) ∧ ((Option.isNone p12) = false → R (.bool false)))) ∧ (p1 = false → R (.bool false)))) ∧
 ((Option.isNone p10.1) = false → (Loops B6_0 M6_0 (Q6_0 R)
  (S6_0 script1 p1 p10.1 p12 (0 : Int) X13 ⟨0, []⟩)))))))))))))))) :
  fnK X6.tt (callN Try.prog X6 0) (X6.md 6) (X6.mk1 6) Try.f6 [(.v (.int .i64 words0)), (.v (.list (.pair (.int .i64) (.pair (.int .i64) (.pair (.int .i64) (.pair (.int .i64) .bool)))) script1 .no))] ⟨[], [some (.heap XH.none)], ⟨0, []⟩⟩ (topK R) := Eq.mp (by kernel_rfl) h
theorem L6_0 (script1 : List (Int × (Int × (Int × (Int × Bool))))) (head5 : Bool) (a6 : Option Nat) (r8 : Option Nat) (i9 : Int) (hq0 : XH) (T : Toks) {R : V → Prop} {k0 : St → Prop}
 (h : (((decide (i9 < ((script1).length : Int))) = true → (((decide (i9 < (150 : Int))) = true → (0 ≤ i9 ∧ i9 < ((script1).length : Int) ∧ (∃ (p14 : (List Int)), RC Try.prog 21 [(.pure (.slice (.int .i64)))] [(.ref r8 ccrucibleref5_Arena 0 [])] hq0 p14 ∧ (((script1.getD (i9).toNat (0, (0, (0, (0, false))))).2.2.2.2 = true → (((decide (((p14).length : Int) > (0 : Int))) = true → (∃ p15 : Int, PC Try.prog 13 [(.int .i64 ((script1.getD (i9).toNat (0, (0, (0, (0, false))))).1)), (.int .i64 (8 : Int))] (.int .i64 p15) ∧ (((decide (p15 > (2 : Int))) = true → (∃ p16 : Int, PC Try.prog 13 [(.int .i64 ((script1.getD (i9).toNat (0, (0, (0, (0, false))))).2.1)), (.int .i64 (((p14).length : Int)))] (.int .i64 p16) ∧ (0 ≤ p16 ∧ p16 < ((p14).length : Int) ∧ (XC Try.prog 22 [(.pure .bool)] [(.ref a6 carena_Arena 0 []), (.ref r8 ccrucibleref5_Arena 0 []), (.v (.agg [(.int .i64 ((script1.getD (i9).toNat (0, (0, (0, (0, false))))).1)), (.int .i64 ((p14.getD (p16).toNat 0))), (.int .i64 ((script1.getD (i9).toNat (0, (0, (0, (0, false))))).2.2.1)), (.int .i64 ((script1.getD (i9).toNat (0, (0, (0, (0, false))))).2.2.2.1)), (.bool ((script1.getD (i9).toNat (0, (0, (0, (0, false))))).2.2.2.2))]))] hq0 (fun (p17 : Bool) (X18 : XH) => (((!p17) = true → R (.bool false)) ∧
 ((!p17) = false → (∃ (p19 : Bool), RC Try.prog 23 [(.pure .bool)] [(.ref a6 carena_Arena 0 []), (.ref r8 ccrucibleref5_Arena 0 [])] X18 p19 ∧ (((!p19) = true → R (.bool false)) ∧
 ((!p19) = false → k0 (S6_0 script1 head5 a6 r8 ((IntKind.wrap .i64 (i9 + (1 : Int)))) X18 T))))))))))) ∧
 ((decide (p15 > (2 : Int))) = false → (XC Try.prog 22 [(.pure .bool)] [(.ref a6 carena_Arena 0 []), (.ref r8 ccrucibleref5_Arena 0 []), (.v (.agg [(.int .i64 ((script1.getD (i9).toNat (0, (0, (0, (0, false))))).1)), (.int .i64 ((script1.getD (i9).toNat (0, (0, (0, (0, false))))).2.1)), (.int .i64 ((script1.getD (i9).toNat (0, (0, (0, (0, false))))).2.2.1)), (.int .i64 ((script1.getD (i9).toNat (0, (0, (0, (0, false))))).2.2.2.1)), (.bool ((script1.getD (i9).toNat (0, (0, (0, (0, false))))).2.2.2.2))]))] hq0 (fun (p20 : Bool) (X21 : XH) => (((!p20) = true → R (.bool false)) ∧
 ((!p20) = false → (∃ (p22 : Bool), RC Try.prog 23 [(.pure .bool)] [(.ref a6 carena_Arena 0 []), (.ref r8 ccrucibleref5_Arena 0 [])] X21 p22 ∧ (((!p22) = true → R (.bool false)) ∧
 ((!p22) = false → k0 (S6_0 script1 head5 a6 r8 ((IntKind.wrap .i64 (i9 + (1 : Int)))) X21 T)))))))))))) ∧ ((decide (((p14).length : Int) > (0 : Int))) = false → (XC Try.prog 22 [(.pure .bool)] [(.ref a6 carena_Arena 0 []), (.ref r8 ccrucibleref5_Arena 0 []), (.v (.agg [(.int .i64 ((script1.getD (i9).toNat (0, (0, (0, (0, false))))).1)), (.int .i64 ((script1.getD (i9).toNat (0, (0, (0, (0, false))))).2.1)), (.int .i64 ((script1.getD (i9).toNat (0, (0, (0, (0, false))))).2.2.1)), (.int .i64 ((script1.getD (i9).toNat (0, (0, (0, (0, false))))).2.2.2.1)), (.bool ((script1.getD (i9).toNat (0, (0, (0, (0, false))))).2.2.2.2))]))] hq0 (fun (p23 : Bool) (X24 : XH) => (((!p23) = true → R (.bool false)) ∧
 ((!p23) = false → (∃ (p25 : Bool), RC Try.prog 23 [(.pure .bool)] [(.ref a6 carena_Arena 0 []), (.ref r8 ccrucibleref5_Arena 0 [])] X24 p25 ∧ (((!p25) = true → R (.bool false)) ∧
 ((!p25) = false → k0 (S6_0 script1 head5 a6 r8 ((IntKind.wrap .i64 (i9 + (1 : Int)))) X24 T))))))))))) ∧ ((script1.getD (i9).toNat (0, (0, (0, (0, false))))).2.2.2.2 = false → (XC Try.prog 22 [(.pure .bool)] [(.ref a6 carena_Arena 0 []), (.ref r8 ccrucibleref5_Arena 0 []), (.v (.agg [(.int .i64 ((script1.getD (i9).toNat (0, (0, (0, (0, false))))).1)), (.int .i64 ((script1.getD (i9).toNat (0, (0, (0, (0, false))))).2.1)), (.int .i64 ((script1.getD (i9).toNat (0, (0, (0, (0, false))))).2.2.1)), (.int .i64 ((script1.getD (i9).toNat (0, (0, (0, (0, false))))).2.2.2.1)), (.bool ((script1.getD (i9).toNat (0, (0, (0, (0, false))))).2.2.2.2))]))] hq0 (fun (p26 : Bool) (X27 : XH) => (((!p26) = true → R (.bool false)) ∧
 ((!p26) = false → (∃ (p28 : Bool), RC Try.prog 23 [(.pure .bool)] [(.ref a6 carena_Arena 0 []), (.ref r8 ccrucibleref5_Arena 0 [])] X27 p28 ∧ (((!p28) = true → R (.bool false)) ∧
 ((!p28) = false → k0 (S6_0 script1 head5 a6 r8 ((IntKind.wrap .i64 (i9 + (1 : Int)))) X27 T))))))))))))) ∧
 ((decide (i9 < (150 : Int))) = false → R (.bool head5)))) ∧ ((decide (i9 < ((script1).length : Int))) = false → R (.bool head5)))) :
  B6_0 (loopQ M6_0 k0 (Q6_0 R)) (S6_0 script1 head5 a6 r8 i9 hq0 T) := Eq.mp (by kernel_rfl) h
end Go.Proofs.Ytefpoodhdfggdaa.AB

set_option linter.unusedVariables false
set_option linter.unusedSimpArgs false
namespace Go.Proofs.Ytefpoodhdfggdaa.AB
open Go

set_option maxHeartbeats 1000000 in
/-- ArenaPlays -/
theorem p6 (words : Int) (script : List OP) (hw : -9223372036854775808 ≤ words ∧ words ≤ 9223372036854775807) (hs : ∀ o ∈ script, opOK o) (hsl : script.length ≤ 9223372036854775807) :
    PC Try.prog 6 [.int .i64 words, .list cOP script .no] (.bool true) := by
  refine lawOf (X := X6) rfl FN6 (by kernel_rfl) (by decide) (E6 words script ⟨true, p12, fun e => (by cases e), fun _ => ?_⟩)
  -- the play
  have play : ∀ (X0 : XH) (t t2 : Nat), (∃ d bs hw, Both X0 t d bs t2 hw) → Loops B6_0 M6_0 (Q6_0 fun v => v.norm = .bool true ∧ (V.bool true).nt = true) (S6_0 script true (some t) (some t2) 0 X0 ⟨0, []⟩) := by
    intro X0 t t2 h0
    refine Loops.intro (fun q : Nat × XH => S6_0 script true (some t) (some t2) (q.1 : Int) q.2 ⟨0, []⟩) (fun q => q.1 ≤ 150 ∧ ∃ d bs hw, Both q.2 t d bs t2 hw) (fun q => 150 - q.1) (0, X0) rfl ⟨Nat.zero_le _, h0⟩ ?_
    rintro ⟨i, X⟩ ⟨hi, d, bs, hw, h⟩
    have hi : i ≤ 150 := hi
    have h : Both X t d bs t2 hw := h
    refine L6_0 script true (some t) (some t2) i X ⟨0, []⟩ ⟨fun e => ⟨fun e2 => ?_, fun e2 => ⟨rfl, rfl⟩⟩, fun e => ⟨rfl, rfl⟩⟩
    have e := of_decide_eq_true e
    have e2 := of_decide_eq_true e2
    have hi' : i < script.length := by omega
    have hop := op_get hs hi'
    have hle := h.hd.w.le
    have hlen := h.hd.w.len
    have hul := usedAt_len bs h.hd.w.sz
    rw [Int.toNat_natCast]
    obtain ⟨o, hO⟩ : ∃ o, o = (script.getD i (0, (0, (0, (0, false))))) := ⟨_, rfl⟩
    rw [← hO] at hop ⊢
    obtain ⟨o1, o2, o3, o4⟩ := hop
    have step : ∀ o' : OP, opOK o' → XC Try.prog 22 [.pure .bool] [.ref (some t) cA 0 [], .ref (some t2) cR 0 [], .v (.agg [.int .i64 o'.1, .int .i64 o'.2.1, .int .i64 o'.2.2.1, .int .i64 o'.2.2.2.1, .bool o'.2.2.2.2])] X fun (p : Bool) X' =>
        (((!p) = true → (V.bool false).norm = .bool true ∧ (V.bool true).nt = true) ∧ ((!p) = false → ∃ p19 : Bool, RC Try.prog 23 [.pure .bool] [.ref (some t) cA 0 [], .ref (some t2) cR 0 []] X' p19 ∧
          (((!p19) = true → (V.bool false).norm = .bool true ∧ (V.bool true).nt = true) ∧ ((!p19) = false → Again (fun q : Nat × XH => S6_0 script true (some t) (some t2) (q.1 : Int) q.2 ⟨0, []⟩) (fun q => q.1 ≤ 150 ∧ ∃ d bs hw, Both q.2 t d bs t2 hw) (fun q => 150 - q.1) (150 - i)
            (S6_0 script true (some t) (some t2) (IntKind.wrap .i64 ((i : Int) + 1)) X' ⟨0, []⟩))))) := by
      intro o' ho'
      refine (c22 h ho').mono ?_
      rintro p X' ⟨rfl, d', bs', h', _⟩
      refine ⟨fun e => (by cases e), fun _ => ⟨true, c23 h', fun e => (by cases e), fun _ => ?_⟩⟩
      rw [wrap64 (by omega) (by omega)]
      exact Again.mk (i + 1, X') rfl ⟨by show i + 1 ≤ 150; omega, d', bs', hw, h'⟩ (show 150 - (i + 1) < 150 - i by omega)
    refine ⟨by omega, by omega, _, c21 h.rr h.hd.w.told, fun _ => ⟨fun e3 => ?_, fun _ => step o ⟨o1, o2, o3, o4⟩⟩, fun _ => step o ⟨o1, o2, o3, o4⟩⟩
    have e3 := of_decide_eq_true e3
    have e3 : ((usedAt bs).length : Int) > 0 := e3
    have hpl := pickR_lt o.2.1 (n := (usedAt bs).length) (by omega)
    refine ⟨_, pick_ok o.1 (n := 8) o1 (by omega), fun _ => ⟨_, pick_ok o.2.1 (n := (usedAt bs).length) o2 (by omega), by omega, by omega, ?_⟩, fun _ => step o ⟨o1, o2, o3, o4⟩⟩
    rw [Int.toNat_natCast]
    refine step (o.1, ((usedAt bs).getD (pickR o.2.1 (usedAt bs).length) 0, (o.2.2.1, (o.2.2.2.1, o.2.2.2.2)))) ⟨o1, ?_, o3, o4⟩
    have hg : (usedAt bs).getD (pickR o.2.1 (usedAt bs).length) 0 ∈ usedAt bs := by
      simp only [List.getD, List.getElem?_eq_getElem hpl.1, Option.getD_some]
      exact List.getElem_mem _
    obtain ⟨p, s, he, hm⟩ := usedAt_mem.1 hg
    have hb := h.hd.w.bd hm
    show -9223372036854775808 ≤ (usedAt bs).getD (pickR o.2.1 (usedAt bs).length) 0 ∧ (usedAt bs).getD (pickR o.2.1 (usedAt bs).length) 0 ≤ 9223372036854775807
    omega
  -- both are made
  have new : ∀ w : Int, -9223372036854775808 ≤ w ∧ w ≤ 9223372036854775807 → XC Try.prog 14 [.ref carena_Arena, .pure (.int .i64)] [.v (.int .i64 w)] XH.none (fun (p2 : Option Nat × Int) (X3 : XH) => XC Try.prog 20 [.ref ccrucibleref5_Arena] [.v (.int .i64 w)] X3 (fun (p4 : Option Nat) (X5 : XH) =>
      (((Option.isNone p4) = true → (((true : Bool) = true → (((Option.isNone p4) = true → (((Option.isNone p2.1) = true → (V.bool (p2.2 == (1 : Int))).norm = .bool true ∧ (V.bool true).nt = true) ∧ ((Option.isNone p2.1) = false → (V.bool false).norm = .bool true ∧ (V.bool true).nt = true))) ∧ ((Option.isNone p4) = false → (V.bool false).norm = .bool true ∧ (V.bool true).nt = true))) ∧ ((true : Bool) = false → (V.bool false).norm = .bool true ∧ (V.bool true).nt = true))) ∧
      ((Option.isNone p4) = false → (((Option.isNone p2.1) = true → (((true : Bool) = true → (((Option.isNone p4) = true → (((Option.isNone p2.1) = true → (V.bool (p2.2 == (1 : Int))).norm = .bool true ∧ (V.bool true).nt = true) ∧ ((Option.isNone p2.1) = false → (V.bool false).norm = .bool true ∧ (V.bool true).nt = true))) ∧ ((Option.isNone p4) = false → (V.bool false).norm = .bool true ∧ (V.bool true).nt = true))) ∧ ((true : Bool) = false → (V.bool false).norm = .bool true ∧ (V.bool true).nt = true))) ∧
      ((Option.isNone p2.1) = false → Loops B6_0 M6_0 (Q6_0 fun v => v.norm = .bool true ∧ (V.bool true).nt = true) (S6_0 script true p2.1 p4 0 X5 ⟨0, []⟩))))))) := by
    intro w hw
    refine (c14 w hw).mono ?_
    rintro p2 X3 (⟨hno, rfl, rfl⟩ | ⟨m, t, d, e, h1, h2, rfl, r, _, hd, hW⟩)
    · refine (c20 w).mono ?_
      rintro p4 X5 (⟨_, rfl, _⟩ | ⟨m, t, hw, e, h1, h2, _⟩)
      · exact ⟨fun _ => ⟨fun _ => ⟨fun _ => ⟨fun _ => ⟨rfl, rfl⟩, fun e => (by cases e)⟩, fun e => (by cases e)⟩, fun e => (by cases e)⟩, fun e => (by cases e)⟩
      · exact absurd ⟨by omega, by omega⟩ hno
    · refine (c20 w).mono ?_
      rintro p4 X5 (⟨hno, _⟩ | ⟨m', t2, hw2, e', h1', h2', rfl, r2, m2⟩)
      · exact absurd ⟨by omega, by omega⟩ hno
      · have : m' = m := by omega
        subst this
        refine ⟨fun e => (by cases e), fun _ => ⟨fun e => (by cases e), fun _ => play X5 t t2 ⟨d, _, hw2, ?_, hd, by rw [hW]; exact r2, fun k hk q => ?_⟩⟩⟩
        · exact r.mv m2 fun k _ => by simp
        · exact (m2.own k hk).elim (fun g => by cases g) fun g => absurd (r.lt k q) (by omega)
  exact ⟨fun _ => ⟨fun _ => new 3000 (by decide), fun _ => new words hw⟩, fun _ => new words hw⟩

theorem law_ArenaPlays (words : Int) (script : List OP) (f0 : Cd.wf (.int .i64) words) (f1 : Cd.wf (.slice cOP) script) : PC Try.prog 6 [.int .i64 words, .list cOP script .no] (.bool true) :=
  p6 words script f0 (script_ok f1) f1.1

end Go.Proofs.Ytefpoodhdfggdaa.AB

