/- Parts of the proof: an evaluator of code on plain values, and that it is right of the model. -/
import Derived.Test.YtdcljlafookliaaDoorABx2
set_option linter.unusedVariables false
set_option linter.unusedSimpArgs false
namespace Go.Proofs.YtdcljlafookliaaDoor.AB
open Go

def Run (KF : St → (TV → St → Prop) → Prop) (s : St) (K : TV → St → Prop) (c : Nat) : Prop :=
 ∃ x hp, K x ⟨s.tm, hp, s.T⟩ ∧ (c ≠ 2 → hp = s.hp) ∧ s.hp.length ≤ hp.length ∧
  ∀ s'' K', ((c = 0 ∧ K' x s'') ∨ (s''.hp = s.hp ∧ K' x ⟨s''.tm, hp, s''.T⟩)) → KF s'' K'

def RunA (KF : St → (TV → St → Prop) → Prop) (s : St) (K : TV → St → Prop) (tk : Tok) : Prop :=
 ∃ cd l, tk.own s.T.l ∧ K (.v (.list cd l (.tk s.T.n))) ⟨s.tm, s.hp, ⟨s.T.n + 1, s.T.n :: tk.drop s.T.l⟩⟩ ∧
  ∀ s'' K', tk.own s''.T.l → K' (.v (.list cd l (.tk s''.T.n))) ⟨s''.tm, s''.hp, ⟨s''.T.n + 1, s''.T.n :: tk.drop s''.T.l⟩⟩ → KF s'' K'

variable {KF : St → (TV → St → Prop) → Prop} {tt : TT} {s : St} {K : TV → St → Prop}

theorem Run.quiet {c : Nat} {x : TV} (h : K x s) (hh : ∀ s'' K', K' x s'' → KF s'' K') : Run KF s K c := by
 refine ⟨x, s.hp, h, fun _ => rfl, Nat.le_refl _, fun s'' K' h' => ?_⟩
 rcases h' with ⟨_, h'⟩ | ⟨h1, h3⟩
 ·exact hh _ _ h'
 ·rw [← h1] at h3; exact hh _ _ h3

theorem Run.read {c : Nat} (hc : c ≠ 0) {x : TV} (h : K x s) (hh : ∀ s'' K', s''.hp = s.hp → K' x s'' → KF s'' K') : Run KF s K c := by
 refine ⟨x, s.hp, h, fun _ => rfl, Nat.le_refl _, fun s'' K' h' => ?_⟩
 rcases h' with ⟨h0, h'⟩ | ⟨h1, h3⟩
 ·exact absurd h0 hc
 ·exact hh _ _ h1 (by rw [← h1] at h3; exact h3)

theorem Run.eff {x : TV} {hp : Hp} (hl : s.hp.length ≤ hp.length) (h : K x ⟨s.tm, hp, s.T⟩)
  (hh : ∀ s'' K', s''.hp = s.hp → K' x ⟨s''.tm, hp, s''.T⟩ → KF s'' K') : Run KF s K 2 := by
 refine ⟨x, hp, h, fun hc => absurd rfl hc, hl, fun s'' K' h' => ?_⟩
 rcases h' with ⟨h0, h'⟩ | ⟨h1, h3⟩
 ·cases h0
 ·exact hh _ _ h1 h3

theorem run_pick {c a b : TV} {n : Nat} (h : pickK c a b s K) : Run (pickK c a b) s K n := by
 unfold pickK at h
 split at h
 ·exact .quiet h (fun _ _ h' => h')
 ·exact .quiet h (fun _ _ h' => h')
 ·split at h
  ·rename_i x y hx hy
   exact .quiet h (fun _ _ h' => by unfold pickK; simp only [hx, hy]; exact h')
  ·rename_i t _ _ hne
   have gen : ∀ s'' K', ((t = true → K' a s'') ∧ (t = false → K' b s'')) → pickK (.v (.bool t)) a b s'' K' := by
    intro s'' K' h'
    unfold pickK
    cases ha : boolOf a with
    | none => exact h'
    | some x =>
     cases hb : boolOf b with
     | none => exact h'
     | some y => exact (hne x y ha hb).elim
   cases t
   ·exact .quiet (h.2 rfl) (fun _ _ h' => gen _ _ ⟨fun e => (Bool.false_ne_true e).elim, fun _ => h'⟩)
   ·exact .quiet (h.1 rfl) (fun _ _ h' => gen _ _ ⟨fun _ => h', fun e => (Bool.false_ne_true e.symm).elim⟩)
 ·exact h.elim

theorem run_load {t : Nat} {p : TV} {c : Nat} (hc : c = 0 → ∃ y, p = .v y) (h : loadK tt t p s K) : Run (loadK tt t p) s K c := by
 unfold loadK at h
 split at h
 ·rename_i x f
  split at h
  ·rename_i y hy
   exact .quiet h (fun _ _ h' => by unfold loadK; simp only [hy]; exact h')
  ·exact h.elim
 ·rename_i i g e f
  have hc0 : c ≠ 0 := fun e => by obtain ⟨_, h⟩ := hc e; cases h
  split at h
  ·rename_i x hx
   split at h
   ·split at h
    ·rename_i y hy
     exact .read hc0 h (fun _ _ h1 h' => by unfold loadK; simp only [h1, hx, hy]; exact h')
    ·exact h.elim
   ·exact h.elim
  ·rename_i g' c' l ts hx
   obtain ⟨ha, hb, h⟩ := h
   split at h
   ·rename_i y hy
    exact .read hc0 h (fun _ _ h1 h' => by unfold loadK; simp only [h1, hx, hy]; exact ⟨ha, hb, h'⟩)
   ·exact h.elim
  ·exact h.elim
 ·exact h.elim

theorem run_store {t : Nat} {p x : TV} (h : storeK tt t p x s K) : Run (storeK tt t p x) s K 2 := by
 unfold storeK at h
 split at h
 ·rename_i i g e f
  split at h
  ·rename_i y hy
   split at h
   ·split at h
    ·rename_i z hz
     exact .eff (hp := s.hp.set i (some (.box z))) (by simp) h (fun s'' _ h1 h' => by unfold storeK; simp only [h1, hy, hz]; unfold St.setO; rw [h1]; exact h')
    ·exact h.elim
   ·exact h.elim
  ·rename_i g' c l ts hy
   obtain ⟨ha, hb, h⟩ := h
   split at h
   ·rename_i z hz
    split at h
    ·rename_i b hb'
     exact .eff (hp := s.hp.set i (some _)) (by simp) h (fun s'' _ h1 h' => by unfold storeK; simp only [h1, hy, hz, hb']; unfold St.setO; rw [h1]; exact ⟨ha, hb, h'⟩)
    ·exact h.elim
   ·exact h.elim
  ·exact h.elim
 ·exact h.elim

theorem run_build {t : Nat} {parts} {n : Nat} (h : buildK tt t parts s K) : Run (buildK tt t parts) s K n := by
 unfold buildK at h
 split at h
 ·rename_i h1
  split at h
  ·rename_i cs h2
   exact .quiet h (fun _ _ h' => by unfold buildK; simp only [h1, h2]; exact h')
  ·exact h.elim
 ·exact h.elim

theorem run_buildSlice {t len : Nat} {parts} {n : Nat} (h : buildSliceK tt t len parts s K) : Run (buildSliceK tt t len parts) s K n := by
 unfold buildSliceK at h
 split at h
 ·rename_i e h1
  split at h
  ·rename_i l h2 h3 h4
   exact .quiet h (fun _ _ h' => by unfold buildSliceK; simp only [h1, h2, h3, h4]; exact h')
  ·exact h.elim
 ·exact h.elim

theorem run_buildArr {t len : Nat} {parts : List (Nat × TV)} (h : buildArrK tt t len parts s K) : Run (buildArrK tt t len parts) s K 2 := by
 unfold buildArrK at h
 split at h
 ·rename_i e h1
  split at h
  ·rename_i l h2 h3 h4
   refine .eff (hp := s.hp ++ [some _]) (by simp) h (fun s'' _ q1 h' => ?_)
   unfold buildArrK; simp only [h1, h2, h3, h4]
   unfold St.addO; rw [q1]; exact h'
  ·exact h.elim
 ·exact h.elim

theorem run_appendZ {e : Nat} {k2 : TK} {x y : TV} (h : appendZK tt e k2 x y s K) : Run (appendZK tt e k2 x y) s K 2 := by
 unfold appendZK at h
 split at h
 ·rename_i i g off len n k
  split at h
  ·rename_i g' c l ts hi
   split at h
   ·rename_i z h1 h2
    obtain ⟨h0, h3, h4, h5, h⟩ := h
    refine .eff (hp := s.hp.set i (some _)) (by simp) h (fun s'' _ q1 h' => ?_)
    have hi' : s''.hp.getD i none = some (.arr g' c l ts) := by rw [q1]; exact hi
    unfold appendZK; simp only [h1, h2, hi']
    unfold St.setO; rw [q1]; exact ⟨h0, h3, h4, h5, h'⟩
   ·exact h.elim
  ·exact h.elim
 ·exact h.elim

theorem run_appendA {t t2 : Nat} {c : Cd} {l : List c.T} {tk : Tok} {y : TV} (h : appendK tt t t2 (.v (.list c l tk)) y s K) : RunA (appendK tt t t2 (.v (.list c l tk)) y) s K tk := by
 unfold appendK at h
 split at h
 case h_1 => exact h.elim
 case h_3 => exact h.elim
 rename_i e he hs
 dsimp only at h
 split at h
 ·rename_i l' h1 h2
  obtain ⟨h3, h4, h⟩ := h
  refine ⟨c, l ++ l', h3, h, fun s'' K' ho h' => ?_⟩
  have h2' : srcOf c y s''.hp = some l' := h2
  unfold appendK; simp only [he, hs, h1, h2']
  exact ⟨ho, h4, h'⟩
 ·exact h.elim

theorem run_append {t t2 : Nat} {x y : TV} (hx : ∀ c l tk, x ≠ .v (.list c l tk)) (h : appendK tt t t2 x y s K) : Run (appendK tt t t2 x y) s K 2 := by
 unfold appendK at h
 split at h
 case h_1 =>
  rename_i e he hs
  have := run_appendZ h
  obtain ⟨x, hp, h1, h2, h3, h4⟩ := this
  exact ⟨x, hp, h1, h2, h3, fun s'' K' q => by unfold appendK; simp only [he, hs]; exact h4 s'' K' q⟩
 case h_3 => exact h.elim
 rename_i e he hs
 split at h
 ·exact absurd rfl (hx _ _ _)
 ·rename_i i g off len
  split at h
  ·rename_i g' c l ts hi
   split at h
   ·rename_i l' h1 h2
    obtain ⟨h3, h4, h5, h⟩ := h
    refine .eff (hp := s.hp.set i (some _)) (by simp) h (fun s'' _ q1 h' => ?_)
    have h2' : srcOf c y s''.hp = some l' := by rw [q1]; exact h2
    have hi' : s''.hp.getD i none = some (.arr g' c l ts) := by rw [q1]; exact hi
    unfold appendK; simp only [he, hs, h1, h2', hi']
    unfold St.setO; rw [q1]; exact ⟨h3, h4, h5, h'⟩
   ·exact h.elim
  ·exact h.elim
 ·exact h.elim

theorem run_len {k : TK} {x : TV} {c : Nat} (hc : c = 0 → ∃ y, x = .v y) (h : lenK k x s K) : Run (lenK k x) s K c := by
 unfold lenK at h
 split at h
 ·exact .quiet h (fun _ _ h' => h')
 ·exact .quiet h (fun _ _ h' => h')
 ·exact .quiet h (fun _ _ h' => h')
 ·exact .quiet h (fun _ _ h' => h')
 ·exact .quiet h (fun _ _ h' => h')
 ·exact .quiet h (fun _ _ h' => h')
 ·have hc0 : c ≠ 0 := fun e => by obtain ⟨_, h⟩ := hc e; cases h
  split at h
  ·rename_i hx
   exact .read hc0 h (fun _ _ h1 h' => by unfold lenK; simp only [h1, hx]; exact h')
  ·exact h.elim
 ·exact .quiet h (fun _ _ h' => by unfold lenK; simpa using h')
 ·exact h.elim

theorem run_intBin {op : BinOp} {k : IntKind} {a b : Int} {k0 : V → Prop} (h : intBin op k a b k0) : ∃ x, k0 x ∧ ∀ k1 : V → Prop, k1 x → intBin op k a b k1 := by
 unfold intBin at h
 split at h <;> first
  | exact h.elim
  | exact ⟨_, h, fun _ h' => h'⟩
  | exact ⟨_, h.2, fun _ h' => ⟨h.1, h'⟩⟩

theorem run_strBin {op : BinOp} {a b : List UInt8} {k0 : V → Prop} (h : strBin op a b k0) : ∃ x, k0 x ∧ ∀ k1 : V → Prop, k1 x → strBin op a b k1 := by
 unfold strBin at h
 split at h <;> first
  | exact h.elim
  | exact ⟨_, h, fun _ h' => h'⟩
  | exact ⟨_, h.2, fun _ h' => ⟨h.1, h'⟩⟩

def binTail (ok : Bool) (k : TK) (cst : Bool) (op : BinOp) (x y : TV) (s : St) (K : TV → St → Prop) : Prop :=
 match ok, cst, nilK k x, nilK k y with
 | true, true, some a, some b => match a || b, op with
  | true, .eql => K (.v (cond (a && b) .tt .ff)) s
  | true, .neq => K (.v (cond (a && b) .ff .tt)) s
  | _, _ => False
 | _, _, _, _ => match ok, isBoolK k, boolOf x, boolOf y with
  | true, true, some a, some b => match op with
   | .eql => K (.v (.bool (a == b))) s
   | .neq => K (.v (.bool (!(a == b)))) s
   | _ => False
  | _, _, _, _ => False

theorem bin_tail {ok : Bool} {k : TK} {cst : Bool} {op : BinOp} {x y : TV} (hn1 : ∀ k a k' b, x = .v (.int k a) → y = .v (.int k' b) → False)
  (hn2 : ∀ a b, x = .v (.str a) → y = .v (.str b) → False) : binK ok k cst op x y = binTail ok k cst op x y := by
 funext s K
 unfold binK
 split
 ·exact (hn1 _ _ _ _ rfl rfl).elim
 ·exact (hn2 _ _ rfl rfl).elim
 ·rfl

theorem run_binTail {ok : Bool} {k : TK} {cst : Bool} {op : BinOp} {x y : TV} {n : Nat} (h : binTail ok k cst op x y s K) : Run (binTail ok k cst op x y) s K n := by
 have red : ∀ s'' K', binTail ok k cst op x y s'' K' → binTail ok k cst op x y s'' K' := fun _ _ h => h
 revert red
 generalize hF : binTail ok k cst op x y = F at h ⊢
 rw [← hF] at h
 intro red
 have red : ∀ s'' K', binTail ok k cst op x y s'' K' → F s'' K' := by rw [← hF]; exact fun _ _ h => h
 clear hF
 unfold binTail at h red
 generalize nilK k x = n1 at h red
 generalize nilK k y = n2 at h red
 generalize isBoolK k = n3 at h red
 generalize boolOf x = n4 at h red
 generalize boolOf y = n5 at h red
 cases ok <;> cases cst <;> rcases n1 with _ | (_ | _) <;> rcases n2 with _ | (_ | _) <;> cases n3 <;> rcases n4 with _ | a4 <;> rcases n5 with _ | a5 <;> cases op <;> first
  | exact h.elim
  | exact .quiet h red

theorem run_bin {ok : Bool} {k : TK} {cst : Bool} {op : BinOp} {x y : TV} {n : Nat} (h : binK ok k cst op x y s K) : Run (binK ok k cst op x y) s K n := by
 by_cases h1 : ∃ k a k' b, x = .v (.int k a) ∧ y = .v (.int k' b)
 ·obtain ⟨k, a, k', b, rfl, rfl⟩ := h1
  unfold binK at h
  dsimp only at h
  split at h
  ·exact .quiet h.2 (fun _ _ h' => ⟨h.1, h'⟩)
  ·exact .quiet h.2 (fun _ _ h' => ⟨h.1, h'⟩)
  ·rename_i hn1 hn2
   split at h
   ·rename_i hk
    obtain ⟨v, hv, hall⟩ := run_intBin h
    refine .quiet hv (fun s'' K' h' => ?_)
    unfold binK
    cases op <;> first
     | (simp only [hk]; exact hall (fun v => K' (.v v) s'') h')
     | exact (hn1 rfl).elim
     | exact (hn2 rfl).elim
   ·exact h.elim
 ·by_cases h2 : ∃ a b, x = .v (.str a) ∧ y = .v (.str b)
  ·obtain ⟨a, b, rfl, rfl⟩ := h2
   have h : strBin op a b (fun v => K (.v v) s) := h
   obtain ⟨v, hv, hall⟩ := run_strBin h
   exact .quiet (KF := binK ok k cst op (.v (.str a)) (.v (.str b))) hv (fun s'' K' h' => hall (fun v => K' (.v v) s'') h')
  ·have e := bin_tail (ok := ok) (k := k) (cst := cst) (op := op) (x := x) (y := y) (fun k a k' b q1 q2 => h1 ⟨k, a, k', b, q1, q2⟩) (fun a b q1 q2 => h2 ⟨a, b, q1, q2⟩)
   rw [e] at h ⊢
   exact run_binTail h

theorem run_buildBox {t len : Nat} {parts : List (Nat × TV)} (h : buildBoxK tt t len parts s K) : Run (buildBoxK tt t len parts) s K 2 := by
 unfold buildBoxK at h
 split at h
 case h_2 => exact h.elim
 rename_i e hok hk
 split at h
 ·rename_i cs h1 h2 h3 h4 h5
  refine .eff (hp := s.hp ++ [some _]) (by simp) h (fun s'' _ q1 h' => ?_)
  unfold buildBoxK
  simp only [hok, hk, h1, h2, h3, h4, h5]
  unfold St.addO; rw [q1]; exact h'
 ·exact h.elim

theorem run_lit {c : Nat} (h : Run KF s (litK K) c) : Run (fun s K => KF s (litK K)) s K c := by
 obtain ⟨x, hp, h1, h2, h3, h4⟩ := h
 unfold litK at h1
 split at h1
 ·exact ⟨_, hp, h1, h2, h3, fun s'' K' h' => h4 s'' (litK K') h'⟩
 ·exact ⟨_, hp, h1, h2, h3, fun s'' K' h' => h4 s'' (litK K') h'⟩
 ·exact h1.elim

theorem run_un {op : UnOp} {x : TV} {n : Nat} (h : unK op x s K) : Run (unK op x) s K n := by
 unfold unK at h
 split at h <;> first
  | exact h.elim
  | exact .quiet h (fun _ _ h' => h')

theorem run_convert {src dst : Nat} {x : TV} {n : Nat} (hc : n = 0 → ∃ y, x = .v y) (h : convertK tt src dst x s K) : Run (convertK tt src dst x) s K n := by
 unfold convertK at h
 split at h
 ·rename_i hk
  exact .quiet h (fun _ _ h' => by unfold convertK; simp only [hk]; exact h')
 ·rename_i hk
  exact .quiet h (fun _ _ h' => by unfold convertK; simp only [hk]; exact h')
 ·rename_i hk
  split at h
  ·rename_i h1 h2 h3
   exact .quiet h (fun _ _ h' => by unfold convertK; simp only [hk, h1, h2, h3]; exact h')
  ·exact h.elim
 ·rename_i hk
  split at h
  ·rename_i e h1
   split at h
   ·rename_i h2
    exact .quiet h (fun _ _ h' => by unfold convertK; simp only [hk, h1, h2]; exact h')
   ·exact h.elim
  ·exact h.elim
 ·rename_i i g len hk
  have hc0 : n ≠ 0 := fun e => by obtain ⟨_, h⟩ := hc e; cases h
  split at h
  ·rename_i e g' l ts h1 h2
   split at h
   ·rename_i h3
    exact .read hc0 h.2.2 (fun s'' K' q1 h' => by unfold convertK; simp only [hk, h1, q1, h2, h3]; exact ⟨h.1, h.2.1, h'⟩)
   ·exact h.elim
  ·exact h.elim
 ·exact h.elim

theorem run_bounds {len : Nat} {lo hi : Option TV} {k0 : Nat → Nat → Prop} (h : boundsK len lo hi k0) : ∃ a b, k0 a b ∧ ∀ k1 : Nat → Nat → Prop, k1 a b → boundsK len lo hi k1 := by
 unfold boundsK at h
 split at h
 ·exact ⟨_, _, h, fun _ h' => h'⟩
 ·exact ⟨_, _, h.2.2, fun _ h' => ⟨h.1, h.2.1, h'⟩⟩
 ·exact ⟨_, _, h.2.2, fun _ h' => ⟨h.1, h.2.1, h'⟩⟩
 ·exact ⟨_, _, h.2.2.2, fun _ h' => ⟨h.1, h.2.1, h.2.2.1, h'⟩⟩
 ·exact h.elim

theorem run_slice {t : Nat} {x : TV} {lo hi mx : Option TV} {n : Nat} (hc : n = 0 → ∃ y, x = .v y) (h : sliceK tt t x lo hi mx s K) : Run (sliceK tt t x lo hi mx) s K n := by
 unfold sliceK at h
 split at h
 ·rename_i hk
  split at h
  ·obtain ⟨a, b, hab, hall⟩ := run_bounds h
   exact .quiet hab (fun s'' K' h' => by unfold sliceK; simp only [hk]; exact hall (fun a b => K' _ s'') h')
  ·exact h.elim
 ·rename_i c l tk hk
  split at h
  ·rename_i e he
   split at h
   ·rename_i hd
    split at h
    ·obtain ⟨a, b, hab, hall⟩ := run_bounds h
     exact .quiet hab (fun s'' K' h' => by unfold sliceK; simp only [hk, he, hd]; exact hall (fun a b => K' _ s'') h')
    ·obtain ⟨h1, h2, h⟩ := h
     split at h
     ·obtain ⟨a, b, hab, hall⟩ := run_bounds h
      exact .quiet hab.2 (fun s'' K' h' => by unfold sliceK; simp only [hk, he, hd]; exact ⟨h1, h2, hall (fun a b => b = _ ∧ K' _ s'') ⟨hab.1, h'⟩⟩)
     ·exact h.elim
    ·exact h.elim
   ·exact h.elim
  ·exact h.elim
 ·rename_i i g off len hk
  have hc0 : n ≠ 0 := fun e => by obtain ⟨_, h⟩ := hc e; cases h
  split at h
  ·rename_i e g' c l ts he hi
   split at h
   ·rename_i hd
    obtain ⟨h1, h⟩ := h
    obtain ⟨a, b, hab, hall⟩ := run_bounds h
    exact .read hc0 hab (fun s'' K' q1 h' => by unfold sliceK; simp only [hk, he, q1, hi, hd]; exact ⟨h1, hall (fun a b => K' _ s'') h'⟩)
   ·exact h.elim
  ·exact h.elim
 ·exact h.elim

theorem run_makeSlice {t : Nat} {l c : TV} (h : makeSliceK tt t l c s K) : Run (makeSliceK tt t l c) s K 2 := by
 unfold makeSliceK at h
 split at h
 ·rename_i e k n k' m he
  split at h
  ·rename_i z hz
   obtain ⟨h1, h2, h3, h4, h⟩ := h
   refine .eff (hp := s.hp ++ [some _]) (by simp) h (fun s'' _ q1 h' => ?_)
   unfold makeSliceK; simp only [he, hz]
   unfold St.addO; rw [q1]; exact ⟨h1, h2, h3, h4, h'⟩
  ·exact h.elim
 ·exact h.elim

theorem run_makeList {t : Nat} {l c : TV} {d : Nat} (h : makeListK tt t l c s K) : Run (makeListK tt t l c) s K d := by
 unfold makeListK at h
 split at h
 ·rename_i e k n k' m he
  split at h
  ·rename_i z hz
   obtain ⟨h1, h2, h3, h4, h⟩ := h
   exact .quiet h (fun _ _ h' => by unfold makeListK; simp only [he, hz]; exact ⟨h1, h2, h3, h4, h'⟩)
  ·exact h.elim
 ·exact h.elim

theorem run_fieldAddr {t : Nat} {x : TV} {f : Nat} {n : Nat} (h : fieldAddrK tt t x f s K) : Run (fieldAddrK tt t x f) s K n := by
 unfold fieldAddrK at h
 split at h
 ·rename_i fs hk
  split at h
  ·rename_i off ft hf
   split at h
   ·rename_i h1
    exact .quiet h (fun _ _ h' => by unfold fieldAddrK; simp only [hk, hf, h1]; exact h')
   ·rename_i h1
    exact .quiet h (fun _ _ h' => by unfold fieldAddrK; simp only [hk, hf, h1]; exact h')
   ·exact h.elim
  ·exact h.elim
 ·exact h.elim

theorem run_field {t : Nat} {x : TV} {f : Nat} {n : Nat} (h : fieldK tt t x f s K) : Run (fieldK tt t x f) s K n := by
 unfold fieldK at h
 split at h
 ·rename_i fs hk
  split at h
  ·rename_i off ft hf
   split at h
   ·split at h
    ·rename_i y hy
     exact .quiet h (fun _ _ h' => by unfold fieldK; simp only [hk, hf, hy]; exact h')
    ·exact h.elim
   ·split at h
    ·rename_i y hy
     exact .quiet h (fun _ _ h' => by unfold fieldK; simp only [hk, hf, hy]; exact h')
    ·exact h.elim
   ·exact h.elim
  ·exact h.elim
 ·exact h.elim

theorem run_indexAddr {t : Nat} {x ix : TV} {n : Nat} (hc : n = 0 → ∃ y, x = .v y) (h : indexAddrK tt t x ix s K) : Run (indexAddrK tt t x ix) s K n := by
 unfold indexAddrK at h
 split at h
 ·unfold bslK at h
  split at h
  case h_2 => exact h.elim
  rename_i h1 h2
  split at h
  case h_2 => exact h.elim
  rename_i h3 h4
  split at h
  case h_2 => exact h.elim
  rename_i h5
  exact .quiet h (fun _ _ h' => by unfold indexAddrK bslK; simp only [h1, h2, h3, h4, h5]; exact h')
 ·rename_i e c l tk k i he
  split at h
  ·rename_i hd
   exact .quiet h.2.2 (fun _ _ h' => by unfold indexAddrK; simp only [he, hd]; exact ⟨h.1, h.2.1, h'⟩)
  ·exact h.elim
 ·rename_i e j g off len k i he
  have hc0 : n ≠ 0 := fun e => by obtain ⟨_, h⟩ := hc e; cases h
  split at h
  ·rename_i g' c l ts hi
   split at h
   ·rename_i hd
    exact .read hc0 h.2.2.2 (fun s'' K' q1 h' => by unfold indexAddrK; simp only [he, q1, hi, hd]; exact ⟨h.1, h.2.1, h.2.2.1, h'⟩)
   ·exact h.elim
  ·exact h.elim
 ·exact h.elim

theorem run_index {t : Nat} {x ix : TV} {n : Nat} (h : indexK tt t x ix s K) : Run (indexK tt t x ix) s K n := by
 unfold indexK at h
 split at h
 ·rename_i hk
  exact .quiet h.2.2 (fun _ _ h' => by unfold indexK; simp only [hk]; exact ⟨h.1, h.2.1, h'⟩)
 ·rename_i hk
  split at h
  ·rename_i xs h1 h2 h3
   exact .quiet h.2.2 (fun _ _ h' => by unfold indexK; simp only [hk, h1, h2, h3]; exact ⟨h.1, h.2.1, h'⟩)
  ·exact h.elim
 ·exact h.elim

theorem run_look {c : Cd} {tok ok : Bool} {r : Option (c.T × Tok)} {z : V} (h : lookK c tok ok r z s K) :
  ∃ x, K x s ∧ ∀ s'' K', K' x s'' → lookK c tok ok r z s'' K' := by
 unfold lookK at h
 cases r with
 | none => exact ⟨_, h.2 rfl, fun _ _ h' => by unfold lookK; exact ⟨fun _ _ e => (nomatch e), fun _ => h'⟩⟩
 | some p => exact ⟨_, h.1 p.1 p.2 rfl, fun _ _ h' => by unfold lookK; exact ⟨fun a t e => by cases e; exact h', fun e => (nomatch e)⟩⟩

theorem run_lookup {t : Nat} {m k : TV} {ok : Bool} {n : Nat} (hc : n = 0 → ∃ y, m = .v y) (h : lookupK tt t m k ok s K) : Run (lookupK tt t m k ok) s K n := by
 unfold lookupK at h
 split at h
 ·rename_i kc vc i hm
  have hc0 : n ≠ 0 := fun e => by obtain ⟨_, h⟩ := hc e; cases h
  split at h
  ·rename_i kc' vc' es hi
   split at h
   ·rename_i a h1 h2 h3
    obtain ⟨x, hx, hall⟩ := run_look h
    exact .read hc0 hx (fun s'' K' q1 h' => by unfold lookupK; simp only [hm, q1, hi, h1, h2, h3]; exact hall _ _ h')
   ·exact h.elim
  ·exact h.elim
 ·rename_i kc vc kc' vc' es hm
  split at h
  ·rename_i a h1 h2 h3
   obtain ⟨x, hx, hall⟩ := run_look h
   exact .quiet hx (fun s'' K' h' => by unfold lookupK; simp only [hm, h1, h2, h3]; exact hall _ _ h')
  ·exact h.elim
 ·exact h.elim

theorem run_mapUpdate {t : Nat} {m k x : TV} (h : mapUpdateK tt t m k x s K) : Run (mapUpdateK tt t m k x) s K 2 := by
 unfold mapUpdateK at h
 split at h
 ·rename_i kc vc i hm
  split at h
  ·rename_i kc' vc' es hi
   split at h
   ·rename_i a b h1 h2 h3 h4 h5
    refine .eff (hp := s.hp.set i (some _)) (by simp) h (fun s'' _ q1 h' => ?_)
    unfold mapUpdateK; simp only [hm, q1, hi, h1, h2, h3, h4, h5]
    unfold St.setO; rw [q1]; exact h'
   ·exact h.elim
  ·exact h.elim
 ·exact h.elim

theorem run_extract {x : TV} {i : Nat} {n : Nat} (h : extractK x i s K) : Run (extractK x i) s K n := by
 unfold extractK at h
 split at h
 ·split at h
  ·rename_i y hy
   exact .quiet h (fun _ _ h' => by unfold extractK; simp only [hy]; exact h')
  ·exact h.elim
 ·split at h
  ·rename_i y hy
   exact .quiet h (fun _ _ h' => by unfold extractK; simp only [hy]; exact h')
  ·exact h.elim
 ·exact h.elim

theorem run_makeFunc {f : FuncId} {caps : List TV} {n : Nat} (h : makeFuncK f caps s K) : Run (makeFuncK f caps) s K n := by
 cases caps with
 | nil => exact .quiet (KF := makeFuncK f []) h (fun _ _ h' => h')
 | cons a l => exact .quiet (KF := makeFuncK f (a :: l)) h (fun _ _ h' => h')

end Go.Proofs.YtdcljlafookliaaDoor.AB

namespace Go.Proofs.YtdcljlafookliaaDoor.AB
open Go

theorem vql_zero {x : TV} (h : vql x = 0) (hx : isXv x = false) : ∃ y, x = .v y := by
  cases x with
  | v y => exact ⟨y, rfl⟩
  | sl c u => exact absurd hx Bool.noConfusion
  | _ => exact absurd h (Nat.succ_ne_zero 0)

theorem ev_isXv {tt : TT} {s : St} {t : Nat} {x : Operand} : isXv (s.ev tt t x) = isXv (s.ev tt 0 x) := by cases x <;> rfl

theorem vq_zero {x : TV} (h : vq x = 0) : ∃ y, x = .v y := by
  cases x <;> first
    | exact ⟨_, rfl⟩
    | cases h

theorem vqs_zero : ∀ {l : List TV}, vqs l = 0 → ∀ x ∈ l, ∃ y, x = .v y
  | [], _, x, hx => by cases hx
  | .v a :: l, h, x, hx => by
    rcases List.mem_cons.1 hx with rfl | hx
    · exact ⟨_, rfl⟩
    · exact vqs_zero (l := l) h x hx
  | .ptr _ _ _ _ :: _, h, _, _ => by cases h
  | .arr _ _ _ _ :: _, h, _, _ => by cases h
  | .mapr _ :: _, h, _, _ => by cases h
  | .clo _ _ :: _, h, _, _ => by cases h
  | .iter _ :: _, h, _, _ => by cases h
  | .bsl _ _ :: _, h, _, _ => by cases h
  | .ifc _ :: _, h, _, _ => by cases h
  | .agg _ :: _, h, _, _ => by cases h
  | .tup _ :: _, h, _, _ => by cases h
  | .ref _ _ _ _ :: _, h, _, _ => by cases h
  | .sl _ _ :: _, h, _, _ => by cases h
  | .mp _ _ _ :: _, h, _, _ => by cases h

def Loc (hp hp' : Hp) : Prop := hp.length ≤ hp'.length ∧ ∀ i : Nat, i + 1 < hp.length → hp'[i + 1]? = hp[i + 1]?

theorem Loc.refl (hp : Hp) : Loc hp hp := ⟨Nat.le_refl _, fun _ _ => rfl⟩
theorem Loc.trans {a b c : Hp} (h : Loc a b) (k : Loc b c) : Loc a c := ⟨Nat.le_trans h.1 k.1, fun i hi => (k.2 i (Nat.lt_of_lt_of_le hi h.1)).trans (h.2 i hi)⟩
theorem Loc.set (hp : Hp) (o : Option O) : Loc hp (hp.set 0 o) := ⟨by simp, fun i _ => by simp⟩
theorem Loc.add (hp : Hp) (o : Option O) : Loc hp (hp ++ [o]) := ⟨by simp, fun i hi => List.getElem?_append_left hi⟩

def NdPost (s s'' : St) (K : TV → St → Prop) (x : TV) (s1 : St) : Prop :=
  s1.tm = s''.tm ∧ Loc s.hp s1.hp ∧ s1.T = s.T ∧ K x ⟨s.tm, s1.hp, s1.T⟩

def CallDet (call : CallP) : Prop := (∀ f args s K, call .dflt f args s K → ∃ x, K x s ∧ ∀ s'' K', K' x s'' → call .dflt f args s'' K') ∧
  (∀ f args s K, call .rd f args s K → ∃ x, K x s ∧ ∀ s'' K', s''.hp = s.hp → K' x s'' → call .rd f args s'' K') ∧
  (∀ f args s K, call .xc f args s K → ∀ s'', s''.hp = s.hp → s''.T = s.T → call .xc f args s'' fun x s1 => NdPost s s'' K x s1) ∧
  ∀ m c f args s K, call (.meth m c) f args s K → ∃ x, K x s ∧ ∀ s'' K', K' x s'' → call (.meth m c) f args s'' K'

def EvEq (tt : TT) (o : Oper) (s s'' : St) : Prop := ∀ ty, ∀ z ∈ o.op.operands, s''.ev tt ty z = s.ev tt ty z

def RunE (tt : TT) (call : CallP) (md : Md) (o : Oper) (s : St) (K : TV → St → Prop) : Prop :=
  ∃ x hp, K x ⟨s.tm, hp, s.T⟩ ∧ (cls tt md o s ≠ 2 → hp = s.hp) ∧ s.hp.length ≤ hp.length ∧
    ∀ s'' K', EvEq tt o s s'' → ((cls tt md o s = 0 ∧ K' x s'') ∨ (s''.hp = s.hp ∧ K' x ⟨s''.tm, hp, s''.T⟩)) → aop tt call md o s'' K'

def RunEA (tt : TT) (call : CallP) (md : Md) (o : Oper) (s : St) (K : TV → St → Prop) : Prop :=
  ∃ (z : Operand) (cd : Cd) (l0 : List cd.T) (cd' : Cd) (l : List cd'.T) (tk : Tok), z ∈ o.op.operands ∧ s.ev tt 0 z = .v (.list cd l0 tk) ∧ tk.own s.T.l ∧
    K (.v (.list cd' l (.tk s.T.n))) ⟨s.tm, s.hp, ⟨s.T.n + 1, s.T.n :: tk.drop s.T.l⟩⟩ ∧
    ∀ s'' K', EvEq tt o s s'' → tk.own s''.T.l → K' (.v (.list cd' l (.tk s''.T.n))) ⟨s''.tm, s''.hp, ⟨s''.T.n + 1, s''.T.n :: tk.drop s''.T.l⟩⟩ → aop tt call md o s'' K'

def RunE0 (tt : TT) (call : CallP) (md : Md) (o : Oper) (s : St) (K : TV → St → Prop) : Prop :=
  ∃ x hp, K x ⟨s.tm, hp, s.T⟩ ∧ (cls tt md o s ≠ 2 → hp = s.hp) ∧ s.hp.length ≤ hp.length ∧
    ∀ s'' K', EvEq tt o s s'' → ((cls tt md o s = 0 ∧ K' x s'') ∨ (s''.hp = s.hp ∧ K' x ⟨s''.tm, hp, s''.T⟩)) → aop0 tt call md o s'' K'

def RunEA0 (tt : TT) (call : CallP) (md : Md) (o : Oper) (s : St) (K : TV → St → Prop) : Prop :=
  ∃ (z : Operand) (cd : Cd) (l0 : List cd.T) (cd' : Cd) (l : List cd'.T) (tk : Tok), z ∈ o.op.operands ∧ s.ev tt 0 z = .v (.list cd l0 tk) ∧ tk.own s.T.l ∧
    K (.v (.list cd' l (.tk s.T.n))) ⟨s.tm, s.hp, ⟨s.T.n + 1, s.T.n :: tk.drop s.T.l⟩⟩ ∧
    ∀ s'' K', EvEq tt o s s'' → tk.own s''.T.l → K' (.v (.list cd' l (.tk s''.T.n))) ⟨s''.tm, s''.hp, ⟨s''.T.n + 1, s''.T.n :: tk.drop s''.T.l⟩⟩ → aop0 tt call md o s'' K'

section
variable {tt : TT} {call : CallP} {md : Md} {o : Oper} {s : St} {K : TV → St → Prop}

theorem RunE.of {KF : St → (TV → St → Prop) → Prop} (h : Run KF s K (cls tt md o s)) (hh : ∀ s'' K', EvEq tt o s s'' → KF s'' K' → aop tt call md o s'' K') : RunE tt call md o s K := by
  obtain ⟨x, hp, h1, h2, h3, h4⟩ := h
  exact ⟨x, hp, h1, h2, h3, fun s'' K' he h => hh s'' K' he (h4 s'' K' h)⟩

theorem RunE0.of {KF : St → (TV → St → Prop) → Prop} (h : Run KF s K (cls tt md o s)) (hh : ∀ s'' K', EvEq tt o s s'' → KF s'' K' → aop0 tt call md o s'' K') : RunE0 tt call md o s K := by
  obtain ⟨x, hp, h1, h2, h3, h4⟩ := h
  exact ⟨x, hp, h1, h2, h3, fun s'' K' he h => hh s'' K' he (h4 s'' K' h)⟩

theorem map_congr {l : List Operand} {f g : Operand → TV} (h : ∀ z ∈ l, f z = g z) : l.map f = l.map g := List.map_congr_left h

theorem parts_congr {l : List (Nat × Operand)} {f g : Operand → TV} (h : ∀ p ∈ l, f p.2 = g p.2) : (l.map fun (i, x) => (i, f x)) = (l.map fun (i, x) => (i, g x)) :=
  List.map_congr_left fun p hp => by
    obtain ⟨i, x⟩ := p
    simp only [h (i, x) hp]

theorem run_builtin {b : Builtin} {args : List TV} {ts : List Nat} {c : Nat} (hb : b = .append → c = 2) (hb2 : b = .append → ∀ c l tk r, args ≠ .v (.list c l tk) :: r) (hc : c = 0 → ∀ x ∈ args, ∃ y, x = .v y)
    (h : builtinK tt b args ts s K) : Run (builtinK tt b args ts) s K c := by
  unfold builtinK at h
  split at h
  · split at h
    · exact run_len (fun e => hc e _ (List.mem_singleton.2 rfl)) h
    · exact h.elim
  · have := hb rfl
    subst this
    split at h
    · exact run_append (fun c l tk e => hb2 rfl c l tk _ (by rw [e])) h
    · exact h.elim
  · split at h
    · rename_i hk
      exact .quiet h (fun _ _ h' => by unfold builtinK; simp only [hk]; exact h')
    · exact h.elim
  · split at h
    · rename_i hk
      exact .quiet h (fun _ _ h' => by unfold builtinK; simp only [hk]; exact h')
    · exact h.elim
  · exact h.elim

theorem aop0_run (hcd : CallDet call) (hX : isX tt md o s = false) (h3 : cls tt md o s ≠ 3) (h4 : cls tt md o s ≠ 4) (h : aop0 tt call md o s K) : RunE0 tt call md o s K := by
  unfold aop0 at h
  split at h
  case h_1 => exact h.elim
  rename_i hty
  have start : ∀ s'' K', (match o.op with
    | op => aop0 tt call md o s'' K') → aop0 tt call md o s'' K' := fun _ _ h => h
  clear start
  cases hop : o.op <;> rw [hop] at h hty <;> dsimp only at h
  case move x =>
    refine .of (KF := fun s' K' => K' (s.ev tt o.type x) s') (.quiet h fun _ _ h => h) fun s'' K' he h' => ?_
    unfold aop0; simp only [hop, hty]
    rw [he _ x (by simp [hop, Op.operands])]; exact h'
  case assign x =>
    by_cases hm : md = .mut ∧ x = .const (.slice none 0 0)
    · obtain ⟨rfl, rfl⟩ := hm
      have h : (match sliceElem tt o.type with
        | some e => K (.arr s.hp.length 0 0 0) (s.addO (.arr 0 (tt.at e).code [] (fun _ => .no)))
        | none => False) := h
      cases hse : sliceElem tt o.type with
      | none => rw [hse] at h; exact h.elim
      | some e =>
        rw [hse] at h
        have hcl : cls tt .mut o s = 2 := by simp [cls, hop, clsAs, clsBS]
        refine .of (KF := fun s' K' => K' (.arr s'.hp.length 0 0 0) (s'.addO (.arr 0 (tt.at e).code [] (fun _ => .no)))) (by
          rw [hcl]
          refine .eff (hp := s.hp ++ [some _]) (by simp) h (fun s'' _ q1 h' => ?_)
          unfold St.addO; rw [q1]; exact h') fun s'' K' he h' => ?_
        unfold aop0; simp only [hop, hty, hse]; exact h'
    · have h' : K (s.ev tt o.type x) s := by
        split at h
        · exact (hm ⟨rfl, rfl⟩).elim
        · exact h
      refine .of (KF := fun s' K' => K' (s.ev tt o.type x) s') (.quiet h' fun _ _ h => h) fun s'' K' he h' => ?_
      unfold aop0; simp only [hop, hty]
      rw [← he _ x (by simp [hop, Op.operands])] at h'
      split
      · exact (hm ⟨rfl, rfl⟩).elim
      · exact h'
  case pick c a b =>
    refine .of (run_pick h) fun s'' K' he h' => ?_
    unfold aop0; simp only [hop, hty]
    rw [he _ c (by simp [hop, Op.operands]), he _ a (by simp [hop, Op.operands]), he _ b (by simp [hop, Op.operands])]; exact h'
  case alloc e =>
    have hcl : cls tt md o s = 2 := by simp [cls, hop]
    by_cases hm : md = .mut
    · subst hm
      have h : (match sliceElem tt e with
        | some el => K (.ptr (s.hp.length + 1) 0 0 0) ((s.addO (.arr 0 (tt.at el).code [] (fun _ => .no))).addO (.box (.arr s.hp.length 0 0 0)))
        | none => False) := h
      cases hse : sliceElem tt e with
      | none => rw [hse] at h; exact h.elim
      | some el =>
        rw [hse] at h
        refine .of (KF := fun s' K' => K' (.ptr (s'.hp.length + 1) 0 0 0) ((s'.addO (.arr 0 (tt.at el).code [] (fun _ => .no))).addO (.box (.arr s'.hp.length 0 0 0)))) (by
          rw [hcl]
          refine .eff (hp := (s.hp ++ [some _]) ++ [some _]) (by simp) h (fun s'' _ q1 h' => ?_)
          unfold St.addO; rw [q1]; exact h') fun s'' K' he h' => ?_
        unfold aop0; simp only [hop, hty, hse]; exact h'
    · have h' : K (.ptr s.hp.length 0 0 0) (s.addO (.box (.v (tt.at e).zero))) := by
        split at h
        · exact (hm rfl).elim
        · exact h
      refine .of (KF := fun s' K' => K' (.ptr s'.hp.length 0 0 0) (s'.addO (.box (.v (tt.at e).zero)))) (by
        rw [hcl]
        refine .eff (hp := s.hp ++ [some _]) (by simp) h' (fun s'' _ q1 h' => ?_)
        unfold St.addO; rw [q1]; exact h') fun s'' K' he h' => ?_
      unfold aop0; simp only [hop, hty]; exact h'
  case box e x =>
    have hcl : cls tt md o s = 2 := by simp [cls, hop]
    split at h
    · rename_i hall
      refine .of (KF := fun s' K' => K' (.ptr s'.hp.length 0 0 0) (s'.addO (.box (s.ev tt e x)))) (by
        rw [hcl]
        refine .eff (hp := s.hp ++ [some _]) (by simp) h (fun s'' _ q1 h' => ?_)
        unfold St.addO; rw [q1]; exact h') fun s'' K' he h' => ?_
      unfold aop0; simp only [hop, hty]
      rw [he _ x (by simp [hop, Op.operands]), hall]; exact h'
    · exact h.elim
  case build t parts =>
    refine .of (run_build h) fun s'' K' he h' => ?_
    unfold aop0; simp only [hop, hty]
    have e := parts_congr (l := parts.toList) (f := s''.ev tt 0) (g := s.ev tt 0) fun p hp => he 0 p.2 (by
      rw [hop]
      simp only [Op.operands]
      first
        | exact Array.mem_map.2 ⟨p, Array.mem_toList_iff.1 hp, rfl⟩
        | exact List.mem_toArray.2 (List.mem_map.2 ⟨p, hp, rfl⟩))
    exact cast (congrArg (fun l => buildK tt t l s'' K') e.symm) h'
  case buildSlice t len parts =>
    have e : ∀ s'', EvEq tt o s s'' → (parts.toList.map fun (i, x) => (i, s''.ev tt 0 x)) = (parts.toList.map fun (i, x) => (i, s.ev tt 0 x)) := fun s'' he =>
      parts_congr (l := parts.toList) (f := s''.ev tt 0) (g := s.ev tt 0) fun p hp => he 0 p.2 (by
        rw [hop]
        simp only [Op.operands]
        first
          | exact Array.mem_map.2 ⟨p, Array.mem_toList_iff.1 hp, rfl⟩
          | exact List.mem_toArray.2 (List.mem_map.2 ⟨p, hp, rfl⟩))
    by_cases hm : md = .mut
    · subst hm
      have h : buildBoxK tt t len (parts.toList.map fun (i, x) => (i, s.ev tt 0 x)) s K := h
      have hcl : cls tt .mut o s = 2 := by simp [cls, hop, clsAs, clsBS]
      refine .of (by rw [hcl]; exact run_buildBox h) fun s'' K' he h' => ?_
      unfold aop0; simp only [hop, hty]
      exact cast (congrArg (fun l => buildBoxK tt t len l s'' K') (e s'' he).symm) h'
    by_cases hm2 : md = .lend
    · subst hm2
      have h : buildArrK tt t len (parts.toList.map fun (i, x) => (i, s.ev tt 0 x)) s K := h
      have hcl : cls tt .lend o s = 2 := by simp [cls, hop, clsAs, clsBS]
      refine .of (by rw [hcl]; exact run_buildArr h) fun s'' K' he h' => ?_
      unfold aop0; simp only [hop, hty]
      exact cast (congrArg (fun l => buildArrK tt t len l s'' K') (e s'' he).symm) h'
    · have h' : buildSliceK tt t len (parts.toList.map fun (i, x) => (i, s.ev tt 0 x)) s K := by
        split at h
        · exact (hm rfl).elim
        · exact (hm2 rfl).elim
        · exact h
      refine .of (run_buildSlice h') fun s'' K' he h' => ?_
      unfold aop0; simp only [hop, hty]
      exact cast (congrArg (fun l => buildSliceK tt t len l s'' K') (e s'' he).symm) h'
  case load t a =>
    refine .of (run_load (fun e => vq_zero (by simpa [cls, hop] using e)) h) fun s'' K' he h' => ?_
    unfold aop0; simp only [hop, hty]
    rw [he _ a (by simp [hop, Op.operands])]; exact h'
  case store t a x =>
    have hcl : cls tt md o s = 2 := by simp [cls, hop]
    refine .of (by rw [hcl]; exact run_store h) fun s'' K' he h' => ?_
    unfold aop0; simp only [hop, hty]
    rw [he _ a (by simp [hop, Op.operands]), he _ x (by simp [hop, Op.operands])]; exact h'
  case nilCheck x =>
    split at h
    · rename_i hn
      refine .of (KF := fun s' K' => K' (s.ev tt 0 x) s') (.quiet h fun _ _ h => h) fun s'' K' he h' => ?_
      unfold aop0; simp only [hop, hty]
      rw [he _ x (by simp [hop, Op.operands]), hn]; exact h'
    · exact h.elim
  case binOp op t x y t' =>
    by_cases hm : md = .mut
    · subst hm
      have h : binK (tt.at t).ok (tt.at t).k (Region.isConst x || Region.isConst y) op (s.ev tt 0 x) (s.ev tt 0 y) s (litK K) := h
      refine .of (run_lit (run_bin h)) fun s'' K' he h' => ?_
      unfold aop0; simp only [hop, hty]
      rw [he _ x (by simp [hop, Op.operands]), he _ y (by simp [hop, Op.operands])]; exact h'
    · by_cases hm2 : md = .lend
      · subst hm2
        exact absurd (by simp [cls, hop, clsBi]) h3
      have h' : binK (tt.at t).ok (tt.at t).k (Region.isConst x || Region.isConst y) op (s.ev tt 0 x) (s.ev tt 0 y) s K := by
        split at h
        · exact (hm rfl).elim
        · exact (hm2 rfl).elim
        · exact h
      refine .of (run_bin h') fun s'' K' he h' => ?_
      unfold aop0; simp only [hop, hty]
      rw [he _ x (by simp [hop, Op.operands]), he _ y (by simp [hop, Op.operands])]; exact h'
  case unOp op t x =>
    refine .of (run_un h) fun s'' K' he h' => ?_
    unfold aop0; simp only [hop, hty]
    rw [he _ x (by simp [hop, Op.operands])]; exact h'
  case convert src dst x =>
    refine .of (run_convert (fun e => vq_zero (by
      have e : clsCv md (s.ev tt src x) = 0 := by simpa [cls, hop] using e
      unfold clsCv at e
      split at e
      · cases e
      · exact e)) h) fun s'' K' he h' => ?_
    unfold aop0; simp only [hop, hty]
    rw [he _ x (by simp [hop, Op.operands])]; exact h'
  case makeFunc fo first caps =>
    cases fo with
    | func f =>
      dsimp only at h
      split at h
      · rename_i hfirst
        refine .of (run_makeFunc h) fun s'' K' he h' => ?_
        unfold aop0; simp only [hop, hty, hfirst]
        rw [map_congr (f := s''.ev tt 0) (g := s.ev tt 0) fun z hz => he 0 z (by rw [hop]; simp [Op.operands, Array.mem_toList_iff.1 hz])]
        exact h'
      · exact h.elim
    | _ => exact h.elim
  case makeMap t r =>
    have hcl : cls tt md o s = 2 := by simp [cls, hop]
    cases r with
    | some x => exact h.elim
    | none =>
      dsimp only at h
      split at h
      · rename_i kc vc hmc
        refine .of (KF := fun s' K' => K' (.mapr s'.hp.length) (s'.addO (.map kc vc []))) (by
          rw [hcl]
          refine .eff (hp := s.hp ++ [some _]) (by simp) h (fun s'' _ q1 h' => ?_)
          unfold St.addO; rw [q1]; exact h') fun s'' K' he h' => ?_
        unfold aop0; simp only [hop, hty, hmc]; exact h'
      · exact h.elim
  case makeSlice t l c =>
    have hcl : cls tt md o s = 2 := by simp [cls, hop]
    by_cases hm : md = .lend
    · subst hm
      have h : makeListK tt t (s.ev tt 0 l) (s.ev tt 0 c) s K := h
      refine .of (run_makeList h) fun s'' K' he h' => ?_
      unfold aop0; simp only [hop, hty]
      rw [he _ l (by simp [hop, Op.operands]), he _ c (by simp [hop, Op.operands])]; exact h'
    · have h' : makeSliceK tt t (s.ev tt 0 l) (s.ev tt 0 c) s K := by
        split at h
        · exact (hm rfl).elim
        · exact h
      refine .of (by rw [hcl]; exact run_makeSlice h') fun s'' K' he h' => ?_
      unfold aop0; simp only [hop, hty]
      rw [he _ l (by simp [hop, Op.operands]), he _ c (by simp [hop, Op.operands])]; exact h'
  case slice t x lo hi mx =>
    refine .of (run_slice (fun e => vql_zero (by simpa [cls, hop] using e) (by rw [ev_isXv]; cases md <;> simp [isX, hop] at hX <;> exact hX)) h) fun s'' K' he h' => ?_
    unfold aop0; simp only [hop, hty]
    have h1 : lo.map (s''.ev tt 0) = lo.map (s.ev tt 0) := by
      cases hv : lo with
      | none => rfl
      | some z => simp only [Option.map_some]; rw [he 0 z (by rw [hop, hv]; simp [Op.operands])]
    have h2 : hi.map (s''.ev tt 0) = hi.map (s.ev tt 0) := by
      cases hv : hi with
      | none => rfl
      | some z => simp only [Option.map_some]; rw [he 0 z (by rw [hop, hv]; simp [Op.operands])]
    have h3 : mx.map (s''.ev tt 0) = mx.map (s.ev tt 0) := by
      cases hv : mx with
      | none => rfl
      | some z => simp only [Option.map_some]; rw [he 0 z (by rw [hop, hv]; simp [Op.operands])]
    rw [he _ x (by simp [hop, Op.operands]), h1, h2, h3]; exact h'
  case fieldAddr t x f =>
    refine .of (run_fieldAddr h) fun s'' K' he h' => ?_
    unfold aop0; simp only [hop, hty]
    rw [he _ x (by simp [hop, Op.operands])]; exact h'
  case field t x f =>
    refine .of (run_field h) fun s'' K' he h' => ?_
    unfold aop0; simp only [hop, hty]
    rw [he _ x (by simp [hop, Op.operands])]; exact h'
  case indexAddr t x i =>
    refine .of (run_indexAddr (fun e => vql_zero (by simpa [cls, hop] using e) (by rw [ev_isXv]; cases md <;> simp [isX, hop] at hX <;> exact hX)) h) fun s'' K' he h' => ?_
    unfold aop0; simp only [hop, hty]
    rw [he _ x (by simp [hop, Op.operands]), he _ i (by simp [hop, Op.operands])]; exact h'
  case index t x i =>
    refine .of (run_index h) fun s'' K' he h' => ?_
    unfold aop0; simp only [hop, hty]
    rw [he _ x (by simp [hop, Op.operands]), he _ i (by simp [hop, Op.operands])]; exact h'
  case lookup t m k ok =>
    refine .of (run_lookup (fun e => vq_zero (by simpa [cls, hop] using e)) h) fun s'' K' he h' => ?_
    unfold aop0; simp only [hop, hty]
    rw [he _ m (by simp [hop, Op.operands]), he _ k (by simp [hop, Op.operands])]; exact h'
  case mapUpdate t m k x =>
    have hcl : cls tt md o s = 2 := by simp [cls, hop]
    refine .of (by rw [hcl]; exact run_mapUpdate h) fun s'' K' he h' => ?_
    unfold aop0; simp only [hop, hty]
    rw [he _ m (by simp [hop, Op.operands]), he _ k (by simp [hop, Op.operands]), he _ x (by simp [hop, Op.operands])]; exact h'
  case extract x i =>
    refine .of (run_extract h) fun s'' K' he h' => ?_
    unfold aop0; simp only [hop, hty]
    rw [he _ x (by simp [hop, Op.operands])]; exact h'
  case call c =>
    have hargs : ∀ s'', EvEq tt o s s'' → c.args.toList.map (s''.ev tt 0) = c.args.toList.map (s.ev tt 0) := fun s'' he =>
      map_congr fun z hz => he 0 z (by rw [hop]; simp [Op.operands, Call.operands, Array.mem_toList_iff.1 hz])
    cases hce : c.callee with
    | builtin b =>
      rw [hce] at h
      dsimp only at h
      have hax : anyX (c.args.toList.map (s.ev tt 0)) = false := by
        cases md <;> first
          | (simp [isX] at hX; done)
          | simpa [isX, hop, hce] using hX
      have hcl : b = .append → cls tt md o s = (match c.args.toList.map (s.ev tt 0) with
        | .v (.list _ _ _) :: _ => 4
        | _ => 2) := fun e => by
        subst e
        have e0 : cls tt md o s = clsApp md (c.args.toList.map (s.ev tt 0)) := by simp only [cls, hop, hce, clsB]
        have e1 : clsApp md (c.args.toList.map (s.ev tt 0)) = (match c.args.toList.map (s.ev tt 0) with
          | .v (.list _ _ _) :: _ => 4
          | _ => 2) := by
          cases md <;> first
            | (simp [isX] at hX; done)
            | (simp only [clsApp, hax]; rfl)
        rw [e0, e1]
      refine .of (run_builtin (fun e => by
        have := hcl e
        split at this
        · exact absurd this h4
        · exact this) (fun e c' l tk r he => by
        have := hcl e
        rw [he] at this
        exact h4 this) (fun e => vqs_zero (by
        cases b <;> first
          | (simp [cls, hop, hce, clsB] at e <;> exact e)
          | (exfalso
             have := hcl rfl
             rw [e] at this
             split at this <;> cases this))) h) fun s'' K' he h' => ?_
      unfold aop0; simp only [hop, hty, hce]
      rw [hargs s'' he]; exact h'
    | value f =>
      rw [hce] at h
      dsimp only at h
      have hmd : md = .dflt ∨ md = .rd := by
        cases md <;> first
          | exact .inl rfl
          | exact .inr rfl
          | (simp [cls, hop, hce, clsV] at h3)
      rcases hmd with rfl | rfl
      rotate_left
      · have hcl : cls tt .rd o s = 1 := by simp [cls, hop, hce, clsV]
        split at h
        · rename_i g hf
          obtain ⟨x, hx, hall⟩ := hcd.2.1 _ _ _ _ h
          refine .of (KF := fun s' K' => call .rd g (c.args.toList.map (s.ev tt 0)) s' K') (.read (by rw [hcl]; decide) hx hall) fun s'' K' he h' => ?_
          unfold aop0; simp only [hop, hty, hce]
          rw [he _ f (by simp [hop, Op.operands, Call.operands, hce]), hf, hargs s'' he]; exact h'
        · rename_i g caps hf
          obtain ⟨x, hx, hall⟩ := hcd.2.1 _ _ _ _ h
          refine .of (KF := fun s' K' => call .rd g (c.args.toList.map (s.ev tt 0) ++ caps) s' K') (.read (by rw [hcl]; decide) hx hall) fun s'' K' he h' => ?_
          unfold aop0; simp only [hop, hty, hce]
          rw [he _ f (by simp [hop, Op.operands, Call.operands, hce]), hf, hargs s'' he]; exact h'
        · exact h.elim
      have hcl : cls tt .dflt o s = 0 := by simp [cls, hop, hce, clsV]
      split at h
      · rename_i g hf
        obtain ⟨x, hx, hall⟩ := hcd.1 _ _ _ _ h
        refine .of (KF := fun s' K' => call .dflt g (c.args.toList.map (s.ev tt 0)) s' K') (.quiet hx hall) fun s'' K' he h' => ?_
        unfold aop0; simp only [hop, hty, hce]
        rw [he _ f (by simp [hop, Op.operands, Call.operands, hce]), hf, hargs s'' he]; exact h'
      · rename_i g caps hf
        obtain ⟨x, hx, hall⟩ := hcd.1 _ _ _ _ h
        refine .of (KF := fun s' K' => call .dflt g (c.args.toList.map (s.ev tt 0) ++ caps) s' K') (.quiet hx hall) fun s'' K' he h' => ?_
        unfold aop0; simp only [hop, hty, hce]
        rw [he _ f (by simp [hop, Op.operands, Call.operands, hce]), hf, hargs s'' he]; exact h'
      · exact h.elim
    | invoke r m =>
      rw [hce] at h
      dsimp only at h
      unfold invokeK at h
      split at h
      case h_2 => exact h.elim
      rename_i m0 c0
      have hcl : cls tt (.meth m0 c0) o s = 0 := by simp [cls, hop, hce, clsM]
      obtain ⟨x, hx, hall⟩ := hcd.2.2.2 _ _ _ _ _ _ h
      refine .of (KF := fun s' K' => call (.meth m c0) 0 (s.ev tt 0 r :: c.args.toList.map (s.ev tt 0)) s' K') (.quiet hx hall) fun s'' K' he h' => ?_
      unfold aop0; simp only [hop, hty, hce]
      show invokeK call (.meth m0 c0) m _ s'' K'
      rw [he _ r (by simp [hop, Op.operands, Call.operands, hce]), hargs s'' he]; exact h'
  all_goals exact h.elim

theorem vq_ne4 (x : TV) : vq x ≠ 4 := by
  cases x <;> exact fun e => by cases e

theorem vql_ne4 (x : TV) : vql x ≠ 4 := by
  cases x <;> exact fun e => by cases e

theorem vqs_ne4 : ∀ l : List TV, vqs l ≠ 4
  | [] => fun e => by cases e
  | .v _ :: l => vqs_ne4 l
  | .ptr _ _ _ _ :: _ => fun e => by cases e
  | .arr _ _ _ _ :: _ => fun e => by cases e
  | .mapr _ :: _ => fun e => by cases e
  | .clo _ _ :: _ => fun e => by cases e
  | .iter _ :: _ => fun e => by cases e
  | .bsl _ _ :: _ => fun e => by cases e
  | .ifc _ :: _ => fun e => by cases e
  | .agg _ :: _ => fun e => by cases e
  | .tup _ :: _ => fun e => by cases e
  | .ref _ _ _ _ :: _ => fun e => by cases e
  | .sl _ _ :: _ => fun e => by cases e
  | .mp _ _ _ :: _ => fun e => by cases e

theorem cls_four (h : cls tt md o s = 4) : ∃ c cd l tk r, o.op = .call c ∧ c.callee = .builtin .append ∧ c.args.toList.map (s.ev tt 0) = .v (.list cd l tk) :: r := by
  unfold cls at h
  cases hop : o.op <;> rw [hop] at h <;> dsimp only at h
  case call c =>
    cases hce : c.callee with
    | builtin b =>
      rw [hce] at h
      cases b <;> dsimp only [clsB] at h <;> first
        | exact absurd h (vqs_ne4 _)
        | (cases h; done)
        | skip
      unfold clsApp at h
      split at h
      · cases h
      · split at h
        · cases h
        · split at h
          · rename_i cd l tk r he
            exact ⟨c, cd, l, tk, r, rfl, hce, he⟩
          · cases h
    | value f => rw [hce] at h; dsimp only [clsV] at h; split at h <;> cases h
    | invoke r m => rw [hce] at h; dsimp only [clsM] at h; split at h <;> cases h
  all_goals first
    | cases h
    | exact absurd h (vq_ne4 _)
    | exact absurd h (vql_ne4 _)
    | (unfold clsCv at h; split at h <;> first | cases h | exact absurd h (vq_ne4 _))
    | (unfold clsAs at h; split at h <;> cases h)
    | (unfold clsBS at h; split at h <;> first | cases h | (split at h <;> cases h))
    | (unfold clsBi at h; split at h <;> cases h)

theorem aop0_runA (hX : isX tt md o s = false) (h4 : cls tt md o s = 4) (h : aop0 tt call md o s K) : RunEA0 tt call md o s K := by
  obtain ⟨c, cd, l0, tk, r, hop, hce, hargs0⟩ := cls_four h4
  unfold aop0 at h
  split at h
  case h_1 => exact h.elim
  rename_i hty
  rw [hop] at h hty
  dsimp only at h
  rw [hce] at h
  dsimp only at h
  have hargs : ∀ s'', EvEq tt o s s'' → c.args.toList.map (s''.ev tt 0) = c.args.toList.map (s.ev tt 0) := fun s'' he =>
    map_congr fun z hz => he 0 z (by rw [hop]; simp [Op.operands, Call.operands, Array.mem_toList_iff.1 hz])
  obtain ⟨z, hz1, hz2⟩ : ∃ z, z ∈ c.args.toList ∧ s.ev tt 0 z = .v (.list cd l0 tk) := by
    cases ha : c.args.toList with
    | nil => rw [ha] at hargs0; simp at hargs0
    | cons z rest => rw [ha] at hargs0; exact ⟨z, List.mem_cons_self .., (List.cons.inj hargs0).1⟩
  rw [hargs0] at h
  unfold builtinK at h
  split at h <;> first
    | (rename_i hb _; cases hb; done)
    | skip
  · rename_i x y hb hxy
    have hx := (List.cons.inj hxy).1
    subst hx
    split at h
    · rename_i t t2 hts
      obtain ⟨cd', l, h1, h2, h3⟩ := run_appendA h
      refine ⟨z, cd, l0, cd', l, tk, by rw [hop]; simp [Op.operands, Call.operands, Array.mem_toList_iff.1 hz1], hz2, h1, h2, fun s'' K' he ho h' => ?_⟩
      unfold aop0; simp only [hop, hty, hce]
      rw [hargs s'' he, hargs0, hts, (List.cons.inj hxy).2]
      exact h3 s'' K' ho h'
    · exact h.elim
  all_goals exact h.elim

end
end Go.Proofs.YtdcljlafookliaaDoor.AB

namespace Go.Proofs.YtdcljlafookliaaDoor.AB
open Go

section
variable {KF : St → (TV → St → Prop) → Prop} {tt : TT} {call : CallP} {md : Md} {o : Oper} {s : St} {K : TV → St → Prop}

theorem vq_ne0 {x : TV} (h : isXv x = true) : vq x = 1 := by
  cases x <;> first
    | rfl
    | cases h

theorem setX_hp {s s'' : St} (h : s''.hp = s.hp) (X : XH) : setX s'' X = ⟨s''.tm, (setX s X).hp, s''.T⟩ := by
  simp only [setX, St.setO, h]

theorem run_name {KF : St → (TV → St → Prop) → Prop} {X : XH} {x : TV} (h : nameX s X x K) (hh : ∀ s'' K', s''.hp = s.hp → nameX s'' X x K' → KF s'' K') : Run KF s K 2 := by
  refine .eff (hp := (setX s X).hp) (by simp [setX, St.setO]) (h X rfl) (fun s'' K' hq h' => hh s'' K' hq ?_)
  intro X' e
  subst e
  rw [setX_hp hq]; exact h'

theorem run_xload {t : Nat} {p : TV} {c : Nat} (hc : c ≠ 0) (h : xload tt t p s K) : Run (xload tt t p) s K c := by
  unfold xload at h
  split at h
  case h_2 => exact h.elim
  rename_i h0 hX
  split at h
  case h_2 => exact h.elim
  rename_i hf
  obtain ⟨a, ha, h⟩ := h
  refine .read hc h fun s'' K' hq h' => ?_
  unfold xload; simp only [hq, hX, hf]; exact ⟨a, ha, h'⟩

theorem run_xstore {t : Nat} {p x : TV} (h : xstore tt t p x s K) : Run (xstore tt t p x) s K 2 := by
  unfold xstore at h
  split at h
  case h_2 => exact h.elim
  rename_i hX
  split at h
  case h_2 => exact h.elim
  rename_i hf
  obtain ⟨a, ha, h⟩ := h
  split at h
  case h_2 => exact h.elim
  rename_i a' hw
  refine run_name h fun s'' K' hq h' => ?_
  unfold xstore; simp only [hq, hX, hf]; refine ⟨a, ha, ?_⟩; simp only [hw]; exact h'

theorem run_xnilCheck {x : TV} {n : Nat} (h : xnilCheck x s K) : Run (xnilCheck x) s K n := by
  unfold xnilCheck at h
  split at h
  · obtain ⟨hh, rfl, h⟩ := refK_iff.1 h
    exact .quiet h fun _ _ h' => by unfold xnilCheck; exact h'
  · exact h.elim

theorem run_xbin {op : BinOp} {t : Nat} {x y : TV} {n : Nat} (h : xbin tt op t x y s K) : Run (xbin tt op t x y) s K n := by
  unfold xbin at h
  split at h
  case h_2 => exact h.elim
  rename_i b h1 h2 h3
  split at h
  · exact .quiet h fun _ _ h' => by unfold xbin; simp only [h1, h2, h3]; exact h'
  · exact .quiet h fun _ _ h' => by unfold xbin; simp only [h1, h2, h3]; exact h'
  · exact h.elim

theorem run_xfieldAddr {t : Nat} {x : TV} {f n : Nat} (h : xfieldAddr tt t x f s K) : Run (xfieldAddr tt t x f) s K n := by
  unfold xfieldAddr at h
  split at h
  case h_2 => exact h.elim
  rename_i hk
  split at h
  case h_2 => exact h.elim
  rename_i off ft hft
  split at h
  case h_2 => exact h.elim
  rename_i hb
  exact .quiet h fun _ _ h' => by unfold xfieldAddr; simp only [hk, hft, hb]; exact h'

theorem run_xindexAddr {t : Nat} {x ix : TV} {n : Nat} (h : xindexAddr tt t x ix s K) : Run (xindexAddr tt t x ix) s K n := by
  unfold xindexAddr at h
  split at h
  · split at h
    case h_2 => exact h.elim
    rename_i e he
    split at h
    case h_2 => exact h.elim
    rename_i hf
    obtain ⟨u, hu, h0, h1, h⟩ := h
    exact .quiet h fun _ _ h' => by unfold xindexAddr; simp only [he, hf]; exact ⟨u, hu, h0, h1, h'⟩
  · split at h
    case h_2 => exact h.elim
    rename_i q1 q2 q3
    split at h
    case h_2 => exact h.elim
    rename_i hb
    obtain ⟨h0, h1, h⟩ := h
    exact .quiet h fun _ _ h' => by unfold xindexAddr; simp only [q1, q2, q3, hb]; exact ⟨h0, h1, h'⟩
  · exact h.elim

theorem run_boundsX {len cap : Nat} {lo hi : Option TV} {k0 : Nat → Nat → Prop} (h : boundsX len cap lo hi k0) : ∃ a b, k0 a b ∧ ∀ k1 : Nat → Nat → Prop, k1 a b → boundsX len cap lo hi k1 := by
  unfold boundsX at h
  split at h
  · exact ⟨_, _, h, fun _ h' => by unfold boundsX; exact h'⟩
  · exact ⟨_, _, h.2.2, fun _ h' => by unfold boundsX; exact ⟨h.1, h.2.1, h'⟩⟩
  · exact ⟨_, _, h.2.2, fun _ h' => by unfold boundsX; exact ⟨h.1, h.2.1, h'⟩⟩
  · exact ⟨_, _, h.2.2.2, fun _ h' => by unfold boundsX; exact ⟨h.1, h.2.1, h.2.2.1, h'⟩⟩
  · exact h.elim

theorem run_xslice {t : Nat} {x : TV} {lo hi mx : Option TV} {n : Nat} (h : xslice tt t x lo hi mx s K) : Run (xslice tt t x lo hi mx) s K n := by
  unfold xslice at h
  split at h
  case h_2 => exact h.elim
  rename_i e he
  split at h
  case h_2 => exact h.elim
  rename_i hf
  split at h
  · obtain ⟨a, b, h1, h2⟩ := run_boundsX h
    exact .quiet h1 fun _ _ h' => by unfold xslice; simp only [he, hf]; exact h2 _ h'
  · split at h
    case h_2 => exact h.elim
    obtain ⟨h0, h3, h⟩ := h
    obtain ⟨a, b, h1, h2⟩ := run_boundsX h
    exact .quiet h1 fun _ _ h' => by unfold xslice; simp only [he, hf]; exact ⟨h0, h3, h2 _ h'⟩
  · exact h.elim

theorem run_xlookup {t : Nat} {m k : TV} {ok : Bool} {n : Nat} (hn : n ≠ 0) (h : xlookup tt t m k ok s K) : Run (xlookup tt t m k ok) s K n := by
  unfold xlookup at h
  split at h
  case h_2 => exact h.elim
  rename_i kc vc x X hX
  split at h
  case h_2 => exact h.elim
  rename_i e a he ha
  split at h
  case h_2 => exact h.elim
  rename_i z hf hz
  obtain ⟨es, hes, h1, h2⟩ := h
  cases hm : mfind (kc.keq a) es with
  | some v =>
    refine .read hn (h1 v hm) fun s'' K' hq h' => ?_
    unfold xlookup; simp only [hq, hX, he, ha, hf, hz]
    refine ⟨es, hes, ?_, ?_⟩
    · intro u hu; rw [hm] at hu; cases hu; exact h'
    · intro e; rw [hm] at e; cases e
  | none =>
    refine .read hn (h2 hm) fun s'' K' hq h' => ?_
    unfold xlookup; simp only [hq, hX, he, ha, hf, hz]
    refine ⟨es, hes, ?_, ?_⟩
    · intro u hu; rw [hm] at hu; cases hu
    · intro e; exact h'

theorem run_xmapUpdate {t : Nat} {m k v : TV} (h : xmapUpdate tt t m k v s K) : Run (xmapUpdate tt t m k v) s K 2 := by
  unfold xmapUpdate at h
  split at h
  case h_2 => exact h.elim
  rename_i kc vc x X hX
  split at h
  case h_2 => exact h.elim
  rename_i e a b he ha hb
  split at h
  case h_2 => exact h.elim
  rename_i hf
  obtain ⟨hh, es, h1, h2, h⟩ := h
  refine run_name h fun s'' K' hq h' => ?_
  unfold xmapUpdate; simp only [hq, hX, he, ha, hb, hf]; exact ⟨hh, es, h1, h2, h'⟩

theorem run_xdelete {t : Nat} {m k : TV} (h : xdelete tt t m k s K) : Run (xdelete tt t m k) s K 2 := by
  unfold xdelete at h
  split at h
  case h_2 => exact h.elim
  rename_i kc vc x X hX
  split at h
  case h_2 => exact h.elim
  rename_i e a he ha
  obtain ⟨hh, es, h1, h2, h⟩ := h
  refine run_name h fun s'' K' hq h' => ?_
  unfold xdelete; simp only [hq, hX, he, ha]; exact ⟨hh, es, h1, h2, h'⟩

theorem run_xconvert {src dst : Nat} {x : TV} {n : Nat} (hn : n ≠ 0) (h : xconvert tt src dst x s K) : Run (xconvert tt src dst x) s K n := by
  unfold xconvert at h
  split at h
  case h_2 => exact h.elim
  rename_i hX
  split at h
  case h_2 => exact h.elim
  rename_i h1 h2
  split at h
  case h_2 => exact h.elim
  rename_i h3 h4
  obtain ⟨l, hl, h⟩ := h
  refine .read hn h fun s'' K' hq h' => ?_
  unfold xconvert; simp only [hq, hX, h1, h2, h3, h4]; exact ⟨l, hl, h'⟩

theorem run_xmkI {t : Nat} {x : TV} {n : Nat} (h : xmkI tt t x s K) : Run (xmkI tt t x) s K n := by
  unfold xmkI at h
  split at h
  · rename_i a h1 h2
    exact .quiet h fun _ _ h' => by unfold xmkI; simp only [h1, h2]; exact h'
  · exact h.elim

theorem run_xassert {t : Nat} {ok : Bool} {x : TV} {n : Nat} (h : xassert tt t ok x s K) : Run (xassert tt t ok x) s K n := by
  unfold xassert at h
  split at h
  case h_2 => exact h.elim
  rename_i e h1 h2
  obtain ⟨k1, k2⟩ := h
  by_cases he : ∃ y, e = some (t, y)
  · obtain ⟨y, rfl⟩ := he
    obtain ⟨a, rfl, k⟩ := k1 y rfl
    cases ok with
    | true => exact .quiet k fun _ _ h' => by unfold xassert; simp only [h1, h2]; exact ⟨fun y' e' => ⟨a, by cases e'; rfl, h'⟩, fun hn => absurd rfl (hn _)⟩
    | false => exact .quiet k fun _ _ h' => by unfold xassert; simp only [h1, h2]; exact ⟨fun y' e' => ⟨a, by cases e'; rfl, h'⟩, fun hn => absurd rfl (hn _)⟩
  · have hn : ∀ y, e ≠ some (t, y) := fun y q => he ⟨y, q⟩
    have k := k2 hn
    cases ok with
    | false => exact k.elim
    | true => exact .quiet k fun _ _ h' => by unfold xassert; simp only [h1, h2]; exact ⟨fun y' e' => absurd e' (hn y'), fun _ => h'⟩

theorem run_xalloc {c : Xd} {e : Nat} (h : xalloc tt c e s K) : Run (xalloc tt c e) s K 2 := by
  unfold xalloc at h
  split at h
  case h_2 => exact h.elim
  rename_i h1 h2
  refine run_name h fun s'' K' hq h' => ?_
  unfold xalloc; simp only [hq, h1, h2]; exact h'

theorem run_xbox {c : Xd} {e : Nat} {x : TV} (h : xbox tt c e x s K) : Run (xbox tt c e x) s K 2 := by
  unfold xbox at h
  split at h
  case h_2 => exact h.elim
  rename_i h1 h2 h3
  refine run_name h fun s'' K' hq h' => ?_
  unfold xbox; simp only [hq, h1, h2, h3]; exact h'

theorem run_xbuild {t : Nat} {parts : List (Nat × TV)} {n : Nat} (h : xbuild tt t parts s K) : Run (xbuild tt t parts) s K n := by
  unfold xbuild at h
  split at h
  case h_2 => exact h.elim
  rename_i h1
  split at h
  case h_2 => exact h.elim
  rename_i h2
  exact .quiet h fun _ _ h' => by unfold xbuild; simp only [h1, h2]; exact h'

theorem run_xmake {c : Xd} {t : Nat} {l m : TV} (h : xmake tt c t l m s K) : Run (xmake tt c t l m) s K 2 := by
  unfold xmake at h
  split at h
  case h_2 => exact h.elim
  rename_i h1 h2
  split at h
  case h_2 => exact h.elim
  rename_i h3
  obtain ⟨q0, q1, q2, q3, h⟩ := h
  refine run_name h fun s'' K' hq h' => ?_
  unfold xmake; simp only [hq, h1, h2, h3]; exact ⟨q0, q1, q2, q3, h'⟩

theorem run_xmakeMap {kc : Cd} {vc : Xd} {t : Nat} (h : xmakeMap tt kc vc t s K) : Run (xmakeMap tt kc vc t) s K 2 := by
  unfold xmakeMap at h
  split at h
  case h_2 => exact h.elim
  rename_i h1 h2
  split at h
  case h_2 => exact h.elim
  rename_i h3
  refine run_name h fun s'' K' hq h' => ?_
  unfold xmakeMap; simp only [hq, h1, h2, h3]; exact h'

theorem run_xlit0 {c : Xd} {t : Nat} {parts : List (Nat × TV)} {n : Nat} (h : xlit0 tt c t parts s K) : Run (xlit0 tt c t parts) s K n := by
  unfold xlit0 at h
  split at h
  case h_2 => exact h.elim
  rename_i e he
  split at h
  case h_2 => exact h.elim
  rename_i hf
  exact .quiet h fun _ _ h' => by unfold xlit0; simp only [he, hf]; exact h'

theorem run_xlit {c : Xd} {t len : Nat} {parts : List (Nat × TV)} (h : xlit tt c t len parts s K) : Run (xlit tt c t len parts) s K 2 := by
  unfold xlit at h
  split at h
  case h_2 => exact h.elim
  rename_i h1 h2
  split at h
  case h_2 => exact h.elim
  rename_i h3 h4
  refine run_name h fun s'' K' hq h' => ?_
  unfold xlit; simp only [hq, h1, h2, h3, h4]; exact h'

theorem run_xnil {c : Xd} {x : TV} {n : Nat} (h : xnil c x s K) : Run (xnil c x) s K n := by
  unfold xnil at h
  split at h <;> first
    | exact h.elim
    | exact .quiet h fun _ _ h' => by unfold xnil; exact h'

theorem run_xlen {t : Nat} {x : TV} {n : Nat} (hn : n ≠ 0) (h : xlen tt t x s K) : Run (xlen tt t x) s K n := by
  unfold xlen at h
  split at h
  · rename_i hk
    exact .quiet h fun _ _ h' => by unfold xlen; simp only [hk]; exact h'
  · rename_i hk hX
    obtain ⟨es, he, h⟩ := h
    refine .read hn h fun s'' K' hq h' => ?_
    unfold xlen; simp only [hk, hq, hX]; exact ⟨es, he, h'⟩
  · exact h.elim

theorem run_xcap {t : Nat} {x : TV} {n : Nat} (h : xcap tt t x s K) : Run (xcap tt t x) s K n := by
  unfold xcap at h
  split at h
  · rename_i hk
    exact .quiet h fun _ _ h' => by unfold xcap; simp only [hk]; exact h'
  · exact h.elim

theorem run_xcopy {t : Nat} {x y : TV} (h : xcopy tt t x y s K) : Run (xcopy tt t x y) s K 2 := by
  unfold xcopy at h
  split at h
  case h_2 => exact h.elim
  rename_i h1 h2
  split at h
  case h_2 => exact h.elim
  rename_i h3
  obtain ⟨d, l, q1, q2, h⟩ := h
  refine run_name h fun s'' K' hq h' => ?_
  unfold xcopy; simp only [hq, h1, h2, h3]; exact ⟨d, l, q1, q2, h'⟩

theorem run_xclear {t : Nat} {x : TV} (h : xclear tt t x s K) : Run (xclear tt t x) s K 2 := by
  unfold xclear at h
  split at h
  case h_2 => exact h.elim
  rename_i h1 h2
  split at h
  case h_2 => exact h.elim
  rename_i h3
  obtain ⟨d, q1, h⟩ := h
  refine run_name h fun s'' K' hq h' => ?_
  unfold xclear; simp only [hq, h1, h2, h3]; exact ⟨d, q1, h'⟩

theorem evx_eq {s'' : St} (he : EvEq tt o s s'') {ty : Nat} {z : Operand} (hz : z ∈ o.op.operands) : s''.evx tt ty z = s.evx tt ty z := by
  have := he ty z hz
  unfold St.evx
  split
  · rfl
  · exact this

theorem isX_congr {s'' : St} (he : EvEq tt o s s'') : isX tt md o s'' = isX tt md o s := by
  have call : ∀ c : Call, o.op = .call c → c.args.toList.map (s''.ev tt 0) = c.args.toList.map (s.ev tt 0) := fun c hop =>
    map_congr fun z hz => he 0 z (by rw [hop]; simp [Op.operands, Call.operands, Array.mem_toList_iff.1 hz])
  have main : ∀ m : Md, (∀ c, m ≠ .x c) → isX tt m o s'' = isX tt m o s := by
    intro m hm
    cases hop : o.op
    case binOp op t x y yt =>
      have h1 := he 0 x (by simp [hop, Op.operands])
      have h2 := he 0 y (by simp [hop, Op.operands])
      cases m <;> first
        | exact absurd rfl (hm _)
        | simp only [isX, hop, h1, h2]
    case call c =>
      have h1 := call c hop
      cases m <;> first
        | exact absurd rfl (hm _)
        | simp only [isX, hop, h1]
    case load t a =>
      have h1 := he 0 a (by simp [hop, Op.operands])
      cases m <;> first
        | exact absurd rfl (hm _)
        | simp only [isX, hop, h1]
    case store t a x =>
      have h1 := he 0 a (by simp [hop, Op.operands])
      cases m <;> first
        | exact absurd rfl (hm _)
        | simp only [isX, hop, h1]
    case fieldAddr t a x =>
      have h1 := he 0 a (by simp [hop, Op.operands])
      cases m <;> first
        | exact absurd rfl (hm _)
        | simp only [isX, hop, h1]
    case nilCheck a =>
      have h1 := he 0 a (by simp [hop, Op.operands])
      cases m <;> first
        | exact absurd rfl (hm _)
        | simp only [isX, hop, h1]
    case indexAddr t a x =>
      have h1 := he 0 a (by simp [hop, Op.operands])
      cases m <;> first
        | exact absurd rfl (hm _)
        | simp only [isX, hop, h1]
    case slice t a lo hi mx =>
      have h1 := he 0 a (by simp [hop, Op.operands])
      cases m <;> first
        | exact absurd rfl (hm _)
        | simp only [isX, hop, h1]
    case lookup t a k ok =>
      have h1 := he 0 a (by simp [hop, Op.operands])
      cases m <;> first
        | exact absurd rfl (hm _)
        | simp only [isX, hop, h1]
    case mapUpdate t a k x =>
      have h1 := he 0 a (by simp [hop, Op.operands])
      cases m <;> first
        | exact absurd rfl (hm _)
        | simp only [isX, hop, h1]
    case convert t d a =>
      have h1 := he 0 a (by simp [hop, Op.operands])
      cases m <;> first
        | exact absurd rfl (hm _)
        | simp only [isX, hop, h1]
    all_goals (cases m <;> first
      | exact absurd rfl (hm _)
      | simp only [isX, hop])
  cases md with
  | x c => rfl
  | _ => exact main _ (by intro c e; cases e)

theorem RunE.ofX {KF : St → (TV → St → Prop) → Prop} (hX : isX tt md o s = true) (hty : ((opTys o.op).all fun t => (tt.at t).ok) = true) (h : Run KF s K (cls tt md o s))
    (hh : ∀ s'' K', EvEq tt o s s'' → KF s'' K' → xaop tt md o s'' K') : RunE tt call md o s K := by
  obtain ⟨x, hp, h1, h2, h3, h4⟩ := h
  refine ⟨x, hp, h1, h2, h3, fun s'' K' he h => ?_⟩
  unfold aop
  rw [isX_congr he, hX]
  simp only [hty]
  exact hh s'' K' he (h4 s'' K' h)

theorem xaop_run (hX : isX tt md o s = true) (hty : ((opTys o.op).all fun t => (tt.at t).ok) = true) (h3 : cls tt md o s ≠ 3) (h : xaop tt md o s K) : RunE tt call md o s K := by
  unfold xaop at h
  cases hop : o.op <;> rw [hop] at h <;> dsimp only at h
  case assign x =>
    split at h
    case h_2 => exact h.elim
    rename_i c
    refine .ofX hX hty (run_xnil h) fun s'' K' he h' => ?_
    unfold xaop; simp only [hop]
    rw [evx_eq he (by simp [hop, Op.operands])]; exact h'
  case alloc e =>
    split at h
    case h_2 => exact h.elim
    rename_i c0
    refine .ofX hX hty (by have : cls tt (.x c0) o s = 2 := by simp [cls, hop]
                           rw [this]; exact run_xalloc h) fun s'' K' he h' => ?_
    unfold xaop; simp only [hop]; exact h'
  case box e x =>
    split at h
    case h_2 => exact h.elim
    rename_i c0
    refine .ofX hX hty (by have : cls tt (.x c0) o s = 2 := by simp [cls, hop]
                           rw [this]; exact run_xbox h) fun s'' K' he h' => ?_
    unfold xaop; simp only [hop]
    rw [evx_eq he (by simp [hop, Op.operands])]; exact h'
  case build t parts =>
    refine .ofX hX hty (run_xbuild h) fun s'' K' he h' => ?_
    unfold xaop; simp only [hop]
    rw [parts_congr (fun p hp => evx_eq (tt := tt) (ty := 0) he (by rw [hop]; simp [Op.operands]; exact ⟨p.1, Array.mem_toList_iff.1 hp⟩))]; exact h'
  case buildSlice t len parts =>
    split at h
    case h_2 => exact h.elim
    rename_i c0
    split at h
    · refine .ofX hX hty (run_xlit0 h) fun s'' K' he h' => ?_
      unfold xaop; simp only [hop]
      rw [parts_congr (fun p hp => evx_eq (tt := tt) (ty := 0) he (by rw [hop]; simp [Op.operands]; exact ⟨p.1, Array.mem_toList_iff.1 hp⟩))]; exact h'
    · refine .ofX hX hty (by have : cls tt (.x c0) o s = 2 := by simp [cls, hop, clsBS]
                             rw [this]; exact run_xlit h) fun s'' K' he h' => ?_
      unfold xaop; simp only [hop]
      rw [parts_congr (fun p hp => evx_eq (tt := tt) (ty := 0) he (by rw [hop]; simp [Op.operands]; exact ⟨p.1, Array.mem_toList_iff.1 hp⟩))]; exact h'
  case load t x =>
    have hv : isXv (s.ev tt 0 x) = true := by
      unfold xload at h
      split at h
      · rename_i e _; rw [e]; rfl
      · exact h.elim
    refine .ofX hX hty (run_xload (by simp [cls, hop, vq_ne0 hv]) h) fun s'' K' he h' => ?_
    unfold xaop; simp only [hop]
    rw [he _ x (by simp [hop, Op.operands])]; exact h'
  case store t x y =>
    refine .ofX hX hty (by have : cls tt md o s = 2 := by simp [cls, hop]
                           rw [this]; exact run_xstore h) fun s'' K' he h' => ?_
    unfold xaop; simp only [hop]
    rw [he _ x (by simp [hop, Op.operands]), evx_eq he (by simp [hop, Op.operands])]; exact h'
  case nilCheck x =>
    refine .ofX hX hty (run_xnilCheck h) fun s'' K' he h' => ?_
    unfold xaop; simp only [hop]
    rw [he _ x (by simp [hop, Op.operands])]; exact h'
  case binOp op t x y yt =>
    split at h
    case h_2 => exact h.elim
    rename_i h1 h2
    split at h
    · exfalso; exact h3 (by simp [cls, hop, clsBi])
    · rename_i hmd
      refine .ofX hX hty (run_xbin h) fun s'' K' he h' => ?_
      unfold xaop; simp only [hop]
      rw [he _ x (by simp [hop, Op.operands]), evx_eq he (by simp [hop, Op.operands]), h1, h2]
      exact h'
  case convert src dst x =>
    have hn : cls tt md o s ≠ 0 := by
      have hv : isXv (s.ev tt src x) = true := by
        unfold xconvert at h
        split at h
        · rename_i e _; rw [e]; rfl
        · exact h.elim
      have e0 : vq (s.ev tt src x) = 1 := vq_ne0 hv
      simp only [cls, hop, clsCv]
      split
      · decide
      · rw [e0]; decide
    refine .ofX hX hty (run_xconvert hn h) fun s'' K' he h' => ?_
    unfold xaop; simp only [hop]
    rw [he _ x (by simp [hop, Op.operands])]; exact h'
  case makeMap t r =>
    cases r with
    | some r => exact h.elim
    | none =>
      dsimp only at h
      split at h
      case h_2 => exact h.elim
      rename_i kc vc
      refine .ofX hX hty (by have : cls tt (.x (.mp kc vc)) o s = 2 := by simp [cls, hop]
                             rw [this]; exact run_xmakeMap h) fun s'' K' he h' => ?_
      unfold xaop; simp only [hop]; exact h'
  case makeSlice t l c =>
    split at h
    case h_2 => exact h.elim
    rename_i c0
    refine .ofX hX hty (by have : cls tt (.x c0) o s = 2 := by simp [cls, hop]
                           rw [this]; exact run_xmake h) fun s'' K' he h' => ?_
    unfold xaop; simp only [hop]
    rw [he _ l (by simp [hop, Op.operands]), he _ c (by simp [hop, Op.operands])]; exact h'
  case slice t x lo hi mx =>
    have opt : ∀ (s'' : St) (z : Option Operand), EvEq tt o s s'' → (∀ y, z = some y → y ∈ o.op.operands) → z.map (s''.ev tt 0) = z.map (s.ev tt 0) := by
      intro s'' z he hz
      cases z with
      | none => rfl
      | some y => simp only [Option.map_some, he 0 y (hz y rfl)]
    refine .ofX hX hty (run_xslice h) fun s'' K' he h' => ?_
    unfold xaop; simp only [hop]
    rw [he _ x (by simp [hop, Op.operands]), opt s'' lo he (by intro y hy; subst hy; simp [hop, Op.operands]), opt s'' hi he (by intro y hy; subst hy; simp [hop, Op.operands]),
      opt s'' mx he (by intro y hy; subst hy; simp [hop, Op.operands])]; exact h'
  case fieldAddr t x f =>
    refine .ofX hX hty (run_xfieldAddr h) fun s'' K' he h' => ?_
    unfold xaop; simp only [hop]
    rw [he _ x (by simp [hop, Op.operands])]; exact h'
  case indexAddr t x i =>
    refine .ofX hX hty (run_xindexAddr h) fun s'' K' he h' => ?_
    unfold xaop; simp only [hop]
    rw [he _ x (by simp [hop, Op.operands]), he _ i (by simp [hop, Op.operands])]; exact h'
  case lookup t m k ok =>
    have hn : cls tt md o s ≠ 0 := by
      have hv : isXv (s.ev tt 0 m) = true := by
        unfold xlookup at h
        split at h
        · rename_i e _; rw [e]; rfl
        · exact h.elim
      have e0 : vq (s.ev tt t m) = 1 := by
        cases m with
        | const c =>
          exfalso
          obtain ⟨q, hq⟩ : ∃ q, s.ev tt 0 (.const c) = .v q := ⟨_, rfl⟩
          rw [hq] at hv; cases hv
        | tmp t => exact vq_ne0 hv
        | func f => cases hv
        | global g => cases hv
      simp only [cls, hop, e0]; decide
    refine .ofX hX hty (run_xlookup hn h) fun s'' K' he h' => ?_
    unfold xaop; simp only [hop]
    rw [he _ m (by simp [hop, Op.operands]), he _ k (by simp [hop, Op.operands])]; exact h'
  case mapUpdate t m k x =>
    refine .ofX hX hty (by have : cls tt md o s = 2 := by simp [cls, hop]
                           rw [this]; exact run_xmapUpdate h) fun s'' K' he h' => ?_
    unfold xaop; simp only [hop]
    rw [he _ m (by simp [hop, Op.operands]), he _ k (by simp [hop, Op.operands]), evx_eq he (by simp [hop, Op.operands])]; exact h'
  case call c =>
    split at h
    case h_2 => exact h.elim
    rename_i b hce
    have hargs : ∀ s'', EvEq tt o s s'' → c.args.toList.map (s''.evx tt 0) = c.args.toList.map (s.evx tt 0) := fun s'' he =>
      map_congr fun z hz => evx_eq he (by rw [hop]; simp [Op.operands, Call.operands, Array.mem_toList_iff.1 hz])
    have fin : ∀ {KF : St → (TV → St → Prop) → Prop}, Run KF s K (cls tt md o s) → (∀ s'' K', KF s'' K' → xbuiltin tt md b (c.args.toList.map (s.evx tt 0)) c.argTypes.toList s'' K') → RunE tt call md o s K := by
      intro KF h1 h2
      refine .ofX hX hty h1 fun s'' K' he h' => ?_
      unfold xaop; simp only [hop, hce]
      rw [hargs s'' he]; exact h2 s'' K' h'
    -- a value of the heap among the operands
    have hone : ∀ x r, c.args.toList.map (s.evx tt 0) = x :: r → isXv x = true → vqs (c.args.toList.map (s.ev tt 0)) ≠ 0 := by
      intro x r hx hv
      cases ha : c.args.toList with
      | nil => rw [ha] at hx; cases hx
      | cons z rest =>
        rw [ha] at hx
        have hz : s.evx tt 0 z = x := (List.cons.inj hx).1
        have hz' : s.ev tt 0 z = x := by
          unfold St.evx at hz
          split at hz
          · subst hz; cases hv
          · exact hz
        simp only [List.map_cons, hz']
        cases x <;> first
          | (intro e; exact absurd (show (1 : Nat) = 0 from e) (by decide))
          | cases hv
    unfold xbuiltin at h
    split at h
    · rename_i x t h1 h2
      have hv : isXv x = true := by
        unfold xlen at h
        split at h <;> first | rfl | exact h.elim
      exact fin (run_xlen (by simp only [cls, hop, hce, clsB]; exact hone x _ h1 hv) h) fun s'' K' h' => by unfold xbuiltin; simp only [h1, h2]; exact h'
    · rename_i x t h1 h2
      exact fin (run_xcap h) fun s'' K' h' => by unfold xbuiltin; simp only [h1, h2]; exact h'
    · rename_i x y t t2 h1 h2
      split at h
      · exact absurd (by simp [cls, hop, hce, clsB, clsApp]) h3
      · rename_i hmd
        split at h
        · rename_i c0 l tk
          exfalso
          refine h3 ?_
          have hax : anyX (c.args.toList.map (s.ev tt 0)) = true := by
            cases md <;> first
              | exact (hmd _ rfl).elim
              | (simp only [isX, hop, hce] at hX; exact hX)
          simp only [cls, hop, hce, clsB]
          unfold clsApp
          split
          · rfl
          · rw [hax]
        · exact h.elim
    · rename_i x y t t2 h1 h2
      exact fin (by have : cls tt md o s = 2 := by simp [cls, hop, hce, clsB]
                    rw [this]; exact run_xcopy h) fun s'' K' h' => by unfold xbuiltin; simp only [h1, h2]; exact h'
    · rename_i x t h1 h2
      exact fin (by have : cls tt md o s = 2 := by simp [cls, hop, hce, clsB]
                    rw [this]; exact run_xclear h) fun s'' K' h' => by unfold xbuiltin; simp only [h1, h2]; exact h'
    · rename_i x y t t2 h1 h2
      exact fin (by have : cls tt md o s = 2 := by simp [cls, hop, hce, clsB]
                    rw [this]; exact run_xdelete h) fun s'' K' h' => by unfold xbuiltin; simp only [h1, h2]; exact h'
    · exact h.elim
  case makeInterface t x =>
    refine .ofX hX hty (run_xmkI h) fun s'' K' he h' => ?_
    unfold xaop; simp only [hop]
    rw [he _ x (by simp [hop, Op.operands])]; exact h'
  case typeAssert x xt t ok =>
    refine .ofX hX hty (run_xassert h) fun s'' K' he h' => ?_
    unfold xaop; simp only [hop]
    rw [he _ x (by simp [hop, Op.operands])]; exact h'
  all_goals exact h.elim

theorem aop_run (hcd : CallDet call) (h3 : cls tt md o s ≠ 3) (h4 : cls tt md o s ≠ 4) (h : aop tt call md o s K) : RunE tt call md o s K := by
  unfold aop at h
  split at h
  · rename_i hX
    split at h
    · rename_i hty
      exact xaop_run hX hty h3 h
    · exact h.elim
  · rename_i hX
    obtain ⟨x, hp, h1, h2, h3, h4⟩ := aop0_run hcd hX h3 h4 h
    refine ⟨x, hp, h1, h2, h3, fun s'' K' he h => ?_⟩
    unfold aop
    rw [isX_congr he, hX]
    exact h4 s'' K' he h

theorem aop_runA (h4 : cls tt md o s = 4) (h : aop tt call md o s K) : RunEA tt call md o s K := by
  have hX : isX tt md o s = false := by
    cases hX : isX tt md o s with
    | false => rfl
    | true =>
      exfalso
      obtain ⟨c, cd, l0, tk, r, hop, hce, hargs0⟩ := cls_four h4
      simp only [cls, hop, hce, clsB] at h4
      unfold clsApp at h4
      split at h4
      · cases h4
      · split at h4
        · cases h4
        · rename_i hmd _ hax
          cases md <;> first
            | exact hmd _ rfl
            | (simp only [isX, hop, hce] at hX; rw [hax] at hX; cases hX)
  unfold aop at h
  rw [hX] at h
  dsimp only at h
  obtain ⟨z, cd, l0, cd', l, tk, h1, h2, h3, h4, h5⟩ := aop0_runA hX h4 h
  refine ⟨z, cd, l0, cd', l, tk, h1, h2, h3, h4, fun s'' K' he ho h' => ?_⟩
  unfold aop
  rw [isX_congr he, hX]
  exact h5 s'' K' he ho h'

end
end Go.Proofs.YtdcljlafookliaaDoor.AB

namespace Go.Proofs.YtdcljlafookliaaDoor.AB
open Go


def XLe (X X' : XH) : Prop := X.n ≤ X'.n ∧ ∀ h, h < X.n → X'.f h = X.f h

theorem XLe.refl (X : XH) : XLe X X := ⟨Nat.le_refl _, fun _ _ => rfl⟩
theorem XLe.trans {X Y Z : XH} (h : XLe X Y) (k : XLe Y Z) : XLe X Z :=
 ⟨Nat.le_trans h.1 k.1, fun i hi => (k.2 i (Nat.lt_of_lt_of_le hi h.1)).trans (h.2 i hi)⟩

theorem XLe.at {X X' : XH} (h : XLe X X') {k : Nat} {o : XO} (ho : X.at k = some o) : X'.at k = some o := by
 obtain ⟨h1, h2⟩ := at_get ho
 exact at_of ((h.2 k h2).trans h1) (Nat.lt_of_lt_of_le h2 h.1)

theorem XLe.arr {X X' : XH} (h : XLe X X') {c : Xd} {k : Nat} {l : List c.T} (ho : X.arr c k = some l) : X'.arr c k = some l := arr_at.2 (h.at (arr_at.1 ho))
theorem XLe.mp {X X' : XH} (h : XLe X X') {kc : Cd} {vc : Xd} {k : Nat} {l} (ho : X.mp kc vc k = some l) : X'.mp kc vc k = some l := mp_at.2 (h.at (mp_at.1 ho))

theorem XLe.el {X X' : XH} (h : XLe X X') {c : Xd} {k e : Nat} {a : c.T} (ho : X.el c k e = some a) : X'.el c k e = some a := by
 unfold XH.el at ho ⊢
 cases hl : X.arr c k with
 | none => rw [hl] at ho; cases ho
 | some l => rw [hl] at ho; rw [h.arr hl]; exact ho

theorem XLe.view {X X' : XH} (h : XLe X X') {c : Xd} {x : Option SlH} {l : List c.T} (ho : X.view c x = some l) : X'.view c x = some l := by
 unfold XH.view at ho ⊢
 cases x with
 | none => exact ho
 | some s =>
  dsimp only at ho ⊢
  cases hl : X.arr c s.h with
  | none => rw [hl] at ho; cases ho
  | some l => rw [hl] at ho; rw [h.arr hl]; exact ho

theorem XLe.vmp {X X' : XH} (h : XLe X X') {kc : Cd} {vc : Xd} {x : Option Nat} {l} (ho : X.vmp kc vc x = some l) : X'.vmp kc vc x = some l := by
 unfold XH.vmp at ho ⊢
 cases x with
 | none => exact ho
 | some k => exact h.mp ho

theorem XLe.add (X : XH) (o : XO) : XLe X (X.add o) := ⟨Nat.le_succ _, fun h hh => by simp only [XH.add]; rw [if_neg (by omega)]⟩

def Grown (hp hp' : Hp) : Prop := hp' = hp ∨ ∃ X X', hpX hp = some X ∧ hp' = hp.set 0 (some (.heap X')) ∧ XLe X X'

theorem hpX_set {hp : Hp} {X X' : XH} (h : hpX hp = some X) : hpX (hp.set 0 (some (.heap X'))) = some X' := by
 cases hp with
 | nil => cases h
 | cons a r => rfl

theorem Grown.refl (hp : Hp) : Grown hp hp := .inl rfl
theorem Grown.trans {a b c : Hp} (h : Grown a b) (k : Grown b c) : Grown a c := by
 rcases h with rfl | ⟨X, X', h1, rfl, h2⟩
 ·exact k
 ·rcases k with rfl | ⟨Y, Y', k1, rfl, k2⟩
  ·exact .inr ⟨X, X', h1, rfl, h2⟩
  ·rw [hpX_set h1] at k1
   cases k1
   exact .inr ⟨X, Y', h1, by rw [List.set_set], h2.trans k2⟩

theorem Grown.hpX {a b : Hp} (h : Grown a b) {X : XH} (hX : AB.hpX a = some X) : ∃ X', AB.hpX b = some X' ∧ XLe X X' := by
 rcases h with rfl | ⟨Y, Y', h1, rfl, h2⟩
 ·exact ⟨X, hX, .refl _⟩
 ·rw [hX] at h1; cases h1
  exact ⟨Y', hpX_set hX, h2⟩

theorem Grown.len {a b : Hp} (h : Grown a b) : b.length = a.length := by
 rcases h with rfl | ⟨Y, Y', h1, rfl, h2⟩
 ·rfl
 ·simp


def RunM (KF : St → (TV → St → Prop) → Prop) (s : St) (K : TV → St → Prop) : Prop :=
 ∃ x, K x s ∧ ∀ s'' K', Grown s.hp s''.hp → K' x s'' → KF s'' K'

def RunG (KF : St → (TV → St → Prop) → Prop) (s : St) (K : TV → St → Prop) : Prop :=
 ∃ x hp, K x ⟨s.tm, hp, s.T⟩ ∧ Grown s.hp hp ∧ ∀ s'' K', s''.hp = s.hp → K' x ⟨s''.tm, hp, s''.T⟩ → KF s'' K'

section
variable {KF : St → (TV → St → Prop) → Prop} {tt : TT} {call : CallP} {md : Md} {o : Oper} {s : St} {K : TV → St → Prop}

theorem Run.m (h : Run KF s K 0) : RunM KF s K := by
 obtain ⟨x, hp, h1, h2, _, h4⟩ := h
 have : hp = s.hp := h2 (by decide)
 subst this
 exact ⟨x, h1, fun s'' K' _ h' => h4 s'' K' (.inl ⟨rfl, h'⟩)⟩

theorem runm_xload {t : Nat} {p : TV} (h : xload tt t p s K) : RunM (xload tt t p) s K := by
 unfold xload at h
 split at h
 case h_2 => exact h.elim
 rename_i h0 hX
 split at h
 case h_2 => exact h.elim
 rename_i hf
 obtain ⟨a, ha, h⟩ := h
 refine ⟨_, h, fun s'' K' hq h' => ?_⟩
 obtain ⟨X', hX', hle⟩ := hq.hpX hX
 unfold xload; simp only [hX', hf]; exact ⟨a, hle.el ha, h'⟩

theorem runm_xlookup {t : Nat} {m k : TV} {ok : Bool} (h : xlookup tt t m k ok s K) : RunM (xlookup tt t m k ok) s K := by
 unfold xlookup at h
 split at h
 case h_2 => exact h.elim
 rename_i kc vc x X hX
 split at h
 case h_2 => exact h.elim
 rename_i e a he ha
 split at h
 case h_2 => exact h.elim
 rename_i z hf hz
 obtain ⟨es, hes, h1, h2⟩ := h
 cases hm : mfind (kc.keq a) es with
 | some v =>
  refine ⟨_, h1 v hm, fun s'' K' hq h' => ?_⟩
  obtain ⟨X', hX', hle⟩ := hq.hpX hX
  unfold xlookup; simp only [hX', he, ha, hf, hz]
  refine ⟨es, hle.vmp hes, ?_, ?_⟩
  ·intro u hu; rw [hm] at hu; cases hu; exact h'
  ·intro e; rw [hm] at e; cases e
 | none =>
  refine ⟨_, h2 hm, fun s'' K' hq h' => ?_⟩
  obtain ⟨X', hX', hle⟩ := hq.hpX hX
  unfold xlookup; simp only [hX', he, ha, hf, hz]
  refine ⟨es, hle.vmp hes, ?_, ?_⟩
  ·intro u hu; rw [hm] at hu; cases hu
  ·intro e; exact h'

theorem runm_xconvert {src dst : Nat} {x : TV} (h : xconvert tt src dst x s K) : RunM (xconvert tt src dst x) s K := by
 unfold xconvert at h
 split at h
 case h_2 => exact h.elim
 rename_i hX
 split at h
 case h_2 => exact h.elim
 rename_i h1 h2
 split at h
 case h_2 => exact h.elim
 rename_i h3 h4
 obtain ⟨l, hl, h⟩ := h
 refine ⟨_, h, fun s'' K' hq h' => ?_⟩
 obtain ⟨X', hX', hle⟩ := hq.hpX hX
 unfold xconvert; simp only [hX', h1, h2, h3, h4]; exact ⟨l, hle.view hl, h'⟩

theorem runm_xlen {t : Nat} {x : TV} (h : xlen tt t x s K) : RunM (xlen tt t x) s K := by
 unfold xlen at h
 split at h
 ·rename_i hk
  exact ⟨_, h, fun _ _ _ h' => by unfold xlen; simp only [hk]; exact h'⟩
 ·rename_i hk hX
  obtain ⟨es, he, h⟩ := h
  refine ⟨_, h, fun s'' K' hq h' => ?_⟩
  obtain ⟨X', hX', hle⟩ := hq.hpX hX
  unfold xlen; simp only [hk, hX']; exact ⟨es, hle.vmp he, h'⟩
 ·exact h.elim

theorem rung_name {KF : St → (TV → St → Prop) → Prop} {X X' : XH} {x : TV} (hX : hpX s.hp = some X) (hle : XLe X X') (h : nameX s X' x K)
  (hh : ∀ s'' K', s''.hp = s.hp → nameX s'' X' x K' → KF s'' K') : RunG KF s K := by
 refine ⟨x, (setX s X').hp, h X' rfl, .inr ⟨X, X', hX, rfl, hle⟩, fun s'' K' hq h' => hh s'' K' hq ?_⟩
 intro X' e
 subst e
 rw [setX_hp hq]; exact h'

theorem rung_xalloc {c : Xd} {e : Nat} (h : xalloc tt c e s K) : RunG (xalloc tt c e) s K := by
 unfold xalloc at h
 split at h
 case h_2 => exact h.elim
 rename_i h1 h2
 refine rung_name (by first | exact h1 | exact h2) (.add _ _) h fun s'' K' hq h' => ?_
 unfold xalloc; simp only [hq, h1, h2]; exact h'

theorem rung_xbox {c : Xd} {e : Nat} {x : TV} (h : xbox tt c e x s K) : RunG (xbox tt c e x) s K := by
 unfold xbox at h
 split at h
 case h_2 => exact h.elim
 rename_i h1 h2 h3
 refine rung_name (by first | exact h1 | exact h2 | exact h3) (.add _ _) h fun s'' K' hq h' => ?_
 unfold xbox; simp only [hq, h1, h2, h3]; exact h'

theorem rung_xmake {c : Xd} {t : Nat} {l m : TV} (h : xmake tt c t l m s K) : RunG (xmake tt c t l m) s K := by
 unfold xmake at h
 split at h
 case h_2 => exact h.elim
 rename_i h1 h2
 split at h
 case h_2 => exact h.elim
 rename_i h3
 obtain ⟨q0, q1, q2, q3, h⟩ := h
 refine rung_name (by first | exact h1 | exact h2 | exact h3) (.add _ _) h fun s'' K' hq h' => ?_
 unfold xmake; simp only [hq, h1, h2, h3]; exact ⟨q0, q1, q2, q3, h'⟩

theorem rung_xmakeMap {kc : Cd} {vc : Xd} {t : Nat} (h : xmakeMap tt kc vc t s K) : RunG (xmakeMap tt kc vc t) s K := by
 unfold xmakeMap at h
 split at h
 case h_2 => exact h.elim
 rename_i h1 h2
 split at h
 case h_2 => exact h.elim
 rename_i h3
 refine rung_name (by first | exact h1 | exact h2 | exact h3) (.add _ _) h fun s'' K' hq h' => ?_
 unfold xmakeMap; simp only [hq, h1, h2, h3]; exact h'

theorem rung_xlit {c : Xd} {t len : Nat} {parts : List (Nat × TV)} (h : xlit tt c t len parts s K) : RunG (xlit tt c t len parts) s K := by
 unfold xlit at h
 split at h
 case h_2 => exact h.elim
 rename_i h1 h2
 split at h
 case h_2 => exact h.elim
 rename_i h3 h4
 refine rung_name (by first | exact h1 | exact h2 | exact h3 | exact h4) (.add _ _) h fun s'' K' hq h' => ?_
 unfold xlit; simp only [hq, h1, h2, h3, h4]; exact h'

theorem rung_xlit0 {c : Xd} {t : Nat} {parts : List (Nat × TV)} (h : xlit0 tt c t parts s K) : RunG (xlit0 tt c t parts) s K := by
 unfold xlit0 at h
 split at h
 case h_2 => exact h.elim
 rename_i e he
 split at h
 case h_2 => exact h.elim
 rename_i hf
 refine ⟨_, s.hp, h, .refl _, fun s'' K' hq h' => ?_⟩
 unfold xlit0; simp only [he, hf]
 rw [← hq] at h'; exact h'

def RunF (tt : TT) (call : CallP) (md : Md) (o : Oper) (s : St) (K : TV → St → Prop) (c : Nat) : Prop :=
 ∃ x hp, K x ⟨s.tm, hp, s.T⟩ ∧ (c ≠ 2 → c ≠ 6 → hp = s.hp) ∧ s.hp.length ≤ hp.length ∧ (c = 6 → Grown s.hp hp) ∧
  ∀ s'' K', EvEq tt o s s'' → ((c = 0 ∧ K' x s'') ∨ (c = 5 ∧ Grown s.hp s''.hp ∧ K' x s'') ∨ (s''.hp = s.hp ∧ K' x ⟨s''.tm, hp, s''.T⟩)) → aop tt call md o s'' K'

theorem RunE.f (h : RunE tt call md o s K) (h0 : cls tt md o s ≠ 5) (h1 : cls tt md o s ≠ 6) : RunF tt call md o s K (cls tt md o s) := by
 obtain ⟨x, hp, e1, e2, e3, e4⟩ := h
 refine ⟨x, hp, e1, fun h2 _ => e2 h2, e3, fun e => absurd e h1, fun s'' K' he h => e4 s'' K' he ?_⟩
 rcases h with h | ⟨h, _⟩ | h
 ·exact .inl h
 ·exact absurd h h0
 ·exact .inr h

theorem RunM.f {KF : St → (TV → St → Prop) → Prop} (hX : isX tt md o s = true) (hty : ((opTys o.op).all fun t => (tt.at t).ok) = true) (h : RunM KF s K)
  (hh : ∀ s'' K', EvEq tt o s s'' → KF s'' K' → xaop tt md o s'' K') : RunF tt call md o s K 5 := by
 obtain ⟨x, h1, h2⟩ := h
 refine ⟨x, s.hp, h1, fun _ _ => rfl, Nat.le_refl _, fun e => (by cases e), fun s'' K' he h => ?_⟩
 unfold aop
 rw [isX_congr he, hX]
 simp only [hty]
 refine hh s'' K' he ?_
 rcases h with ⟨h, _⟩ | ⟨_, h, h'⟩ | ⟨h, h'⟩
 ·cases h
 ·exact h2 s'' K' h h'
 ·refine h2 s'' K' (by rw [h]; exact .refl _) ?_
  rw [← h] at h'; exact h'

theorem RunG.f {KF : St → (TV → St → Prop) → Prop} (hX : isX tt md o s = true) (hty : ((opTys o.op).all fun t => (tt.at t).ok) = true) (h : RunG KF s K)
  (hh : ∀ s'' K', EvEq tt o s s'' → KF s'' K' → xaop tt md o s'' K') : RunF tt call md o s K 6 := by
 obtain ⟨x, hp, h1, h2, h3⟩ := h
 refine ⟨x, hp, h1, fun _ e => absurd rfl e, by rw [h2.len]; exact Nat.le_refl _, fun _ => h2, fun s'' K' he h => ?_⟩
 unfold aop
 rw [isX_congr he, hX]
 simp only [hty]
 refine hh s'' K' he ?_
 rcases h with ⟨h, _⟩ | ⟨h, _⟩ | ⟨h, h'⟩
 ·cases h
 ·cases h
 ·exact h3 s'' K' h h'

theorem cls_lt (tt : TT) (md : Md) (o : Oper) (s : St) : cls tt md o s < 5 := by
 have v1 : ∀ x : TV, vq x < 5 := fun x => by cases x <;> simp [vq]
 have v3 : ∀ x : TV, vql x < 5 := fun x => by cases x <;> simp [vql]
 have v2 : ∀ l : List TV, vqs l < 5 := by
  intro l
  induction l with
  | nil => simp [vqs]
  | cons x l ih => cases x <;> first | exact ih | simp [vqs]
 unfold cls
 split <;> first
  | exact v1 _
  | exact v3 _
  | decide
  | skip
 ·unfold clsCv; split
  ·decide
  ·exact v1 _
 all_goals first
  | (unfold clsAs; split <;> decide)
  | (unfold clsBS; split <;> first | decide | (split <;> decide))
  | (unfold clsBi; split <;> decide)
  | skip
 ·split
  ·unfold clsB
   split <;> first
    | decide
    | exact v2 _
    | skip
   unfold clsApp
   split
   ·decide
   ·split
    ·decide
    ·split <;> decide
  ·unfold clsV; split <;> decide
  ·first
   | decide
   | (unfold clsM; split <;> decide)

theorem clsG_four (h : clsG tt md o s = 4) : cls tt md o s = 4 := by
 unfold clsG at h
 split at h
 ·split at h
  ·cases h
  ·split at h <;> cases h
  ·exact h
 ·exact h

theorem xaop_runM (hX : isX tt md o s = true) (hty : ((opTys o.op).all fun t => (tt.at t).ok) = true) (h1 : cls tt md o s = 1) (h : xaop tt md o s K) : RunF tt call md o s K 5 := by
 unfold xaop at h
 cases hop : o.op <;> rw [hop] at h <;> dsimp only at h <;> first
  | exact h.elim
  | (simp [cls, hop] at h1; done)
  | skip
 case load t x =>
  refine RunM.f hX hty (runm_xload h) fun s'' K' he h' => ?_
  unfold xaop; simp only [hop]
  rw [he _ x (by simp [hop, Op.operands])]; exact h'
 case assign x => exfalso; simp only [cls, hop, clsAs] at h1; split at h1 <;> cases h1
 case binOp => exfalso; simp only [cls, hop, clsBi] at h1; split at h1 <;> cases h1
 case buildSlice t len parts => exfalso; simp only [cls, hop, clsBS] at h1; split at h1 <;> first | cases h1 | (split at h1 <;> cases h1)
 case convert src dst x =>
  refine RunM.f hX hty (runm_xconvert h) fun s'' K' he h' => ?_
  unfold xaop; simp only [hop]
  rw [he _ x (by simp [hop, Op.operands])]; exact h'
 case slice t x lo hi mx =>
  have opt : ∀ (s'' : St) (z : Option Operand), EvEq tt o s s'' → (∀ y, z = some y → y ∈ o.op.operands) → z.map (s''.ev tt 0) = z.map (s.ev tt 0) := by
   intro s'' z he hz
   cases z with
   | none => rfl
   | some y => simp only [Option.map_some, he 0 y (hz y rfl)]
  refine RunM.f hX hty (run_xslice (n := 0) h).m fun s'' K' he h' => ?_
  unfold xaop; simp only [hop]
  rw [he _ x (by simp [hop, Op.operands]), opt s'' lo he (by intro y hy; subst hy; simp [hop, Op.operands]), opt s'' hi he (by intro y hy; subst hy; simp [hop, Op.operands]),
   opt s'' mx he (by intro y hy; subst hy; simp [hop, Op.operands])]; exact h'
 case indexAddr t x i =>
  refine RunM.f hX hty (run_xindexAddr (n := 0) h).m fun s'' K' he h' => ?_
  unfold xaop; simp only [hop]
  rw [he _ x (by simp [hop, Op.operands]), he _ i (by simp [hop, Op.operands])]; exact h'
 case lookup t m k ok =>
  refine RunM.f hX hty (runm_xlookup h) fun s'' K' he h' => ?_
  unfold xaop; simp only [hop]
  rw [he _ m (by simp [hop, Op.operands]), he _ k (by simp [hop, Op.operands])]; exact h'
 case call c =>
  split at h
  case h_2 => exact h.elim
  rename_i b hce
  have hargs : ∀ s'', EvEq tt o s s'' → c.args.toList.map (s''.evx tt 0) = c.args.toList.map (s.evx tt 0) := fun s'' he =>
   map_congr fun z hz => evx_eq he (by rw [hop]; simp [Op.operands, Call.operands, Array.mem_toList_iff.1 hz])
  have fin : ∀ {KF : St → (TV → St → Prop) → Prop}, RunM KF s K → (∀ s'' K', KF s'' K' → xbuiltin tt md b (c.args.toList.map (s.evx tt 0)) c.argTypes.toList s'' K') → RunF tt call md o s K 5 := by
   intro KF h1 h2
   refine RunM.f hX hty h1 fun s'' K' he h' => ?_
   unfold xaop; simp only [hop, hce]
   rw [hargs s'' he]; exact h2 s'' K' h'
  unfold xbuiltin at h
  split at h
  ·rename_i x t h1 h2
   exact fin (runm_xlen h) fun s'' K' h' => by unfold xbuiltin; simp only [h1, h2]; exact h'
  ·rename_i x t h1 h2
   exact fin (run_xcap (n := 0) h).m fun s'' K' h' => by unfold xbuiltin; simp only [h1, h2]; exact h'
  ·exfalso
   simp only [cls, hop, hce, clsB] at h1
   unfold clsApp at h1
   split at h1
   ·cases h1
   ·split at h1
    ·cases h1
    ·split at h1 <;> cases h1
  ·exfalso; simp [cls, hop, hce, clsB] at h1
  ·exfalso; simp [cls, hop, hce, clsB] at h1
  ·exfalso; simp [cls, hop, hce, clsB] at h1
  ·exact h.elim

theorem xaop_runG (hX : isX tt md o s = true) (hty : ((opTys o.op).all fun t => (tt.at t).ok) = true) (ha : isAdd o.op = true) (h : xaop tt md o s K) : RunF tt call md o s K 6 := by
 unfold xaop at h
 cases hop : o.op <;> rw [hop] at h ha <;> dsimp only at h <;> first
  | exact h.elim
  | (cases ha; done)
  | skip
 case alloc e =>
  split at h
  case h_2 => exact h.elim
  refine RunG.f hX hty (rung_xalloc h) fun s'' K' he h' => ?_
  unfold xaop; simp only [hop]; exact h'
 case box e x =>
  split at h
  case h_2 => exact h.elim
  refine RunG.f hX hty (rung_xbox h) fun s'' K' he h' => ?_
  unfold xaop; simp only [hop]
  rw [evx_eq he (by simp [hop, Op.operands])]; exact h'
 case buildSlice t len parts =>
  split at h
  case h_2 => exact h.elim
  split at h
  ·refine RunG.f hX hty (rung_xlit0 h) fun s'' K' he h' => ?_
   unfold xaop; simp only [hop]
   rw [parts_congr (fun p hp => evx_eq (tt := tt) (ty := 0) he (by rw [hop]; simp [Op.operands]; exact ⟨p.1, Array.mem_toList_iff.1 hp⟩))]; exact h'
  ·refine RunG.f hX hty (rung_xlit h) fun s'' K' he h' => ?_
   unfold xaop; simp only [hop]
   rw [parts_congr (fun p hp => evx_eq (tt := tt) (ty := 0) he (by rw [hop]; simp [Op.operands]; exact ⟨p.1, Array.mem_toList_iff.1 hp⟩))]; exact h'
 case makeMap t r =>
  cases r with
  | some r => exact h.elim
  | none =>
   dsimp only at h
   split at h
   case h_2 => exact h.elim
   refine RunG.f hX hty (rung_xmakeMap h) fun s'' K' he h' => ?_
   unfold xaop; simp only [hop]; exact h'
 case makeSlice t l c =>
  split at h
  case h_2 => exact h.elim
  refine RunG.f hX hty (rung_xmake h) fun s'' K' he h' => ?_
  unfold xaop; simp only [hop]
  rw [he _ l (by simp [hop, Op.operands]), he _ c (by simp [hop, Op.operands])]; exact h'

theorem clsG_false (hX : isX tt md o s = false) : clsG tt md o s = cls tt md o s := by
 unfold clsG; rw [hX]

theorem clsG_true (hX : isX tt md o s = true) : (cls tt md o s = 1 ∧ clsG tt md o s = 5) ∨ (cls tt md o s = 2 ∧ isAdd o.op = true ∧ clsG tt md o s = 6) ∨ clsG tt md o s = cls tt md o s := by
 unfold clsG; rw [hX]
 dsimp only
 split
 ·rename_i h; exact .inl ⟨h, rfl⟩
 ·rename_i h
  cases ha : isAdd o.op with
  | true => exact .inr (.inl ⟨h, rfl, rfl⟩)
  | false => exact .inr (.inr h.symm)
 ·exact .inr (.inr rfl)

theorem clsG_le (tt : TT) (md : Md) (o : Oper) (s : St) : clsG tt md o s ≤ 6 := by
 have hlt := cls_lt tt md o s
 cases hX : isX tt md o s with
 | false => rw [clsG_false hX]; omega
 | true => rcases clsG_true hX with ⟨_, h⟩ | ⟨_, _, h⟩ | h <;> rw [h] <;> omega

theorem aop_runF (hcd : CallDet call) (h3 : clsG tt md o s ≠ 3) (h4 : clsG tt md o s ≠ 4) (h : aop tt call md o s K) : RunF tt call md o s K (clsG tt md o s) := by
 have hlt := cls_lt tt md o s
 have old : clsG tt md o s = cls tt md o s → RunF tt call md o s K (clsG tt md o s) := by
  intro e
  rw [e] at h3 h4 ⊢
  exact (aop_run hcd h3 h4 h).f (by omega) (by omega)
 cases hX : isX tt md o s with
 | false => exact old (clsG_false hX)
 | true =>
  unfold aop at h
  rw [hX] at h
  dsimp only at h
  split at h
  case h_2 => exact h.elim
  rename_i hty
  rcases clsG_true hX with ⟨h1, h2⟩ | ⟨h1, ha, h2⟩ | h1
  ·rw [h2]; exact xaop_runM hX hty h1 h
  ·rw [h2]; exact xaop_runG hX hty ha h
  ·exact old h1

theorem aop_runFA (h4 : clsG tt md o s = 4) (h : aop tt call md o s K) : RunEA tt call md o s K := aop_runA (clsG_four h4) h

def RunH (tt : TT) (call : CallP) (md : Md) (o : Oper) (s : St) (K : TV → St → Prop) (c : Nat) : Prop :=
 ∃ x hp, K x ⟨s.tm, hp, s.T⟩ ∧ (c ≠ 2 → c ≠ 6 → c ≠ 9 → hp = s.hp) ∧ s.hp.length ≤ hp.length ∧ (c = 6 → Grown s.hp hp) ∧ (c = 9 → Loc s.hp hp) ∧
  ∀ s'' K', EvEq tt o s s'' → ((c = 0 ∧ K' x s'') ∨ (c = 5 ∧ Grown s.hp s''.hp ∧ K' x s'') ∨ (c = 8 ∧ Loc s.hp s''.hp ∧ K' x s'') ∨ (s''.hp = s.hp ∧ K' x ⟨s''.tm, hp, s''.T⟩)) → aop tt call md o s'' K'

theorem clsH_few (tt : TT) (md : Md) (o : Oper) (s : St) (h : clsH tt md o s ≠ 3) : clsH tt md o s < 3 ∨ clsH tt md o s = 4 ∨ clsH tt md o s = 5 ∨ clsH tt md o s = 6 ∨ clsH tt md o s = 8 ∨ clsH tt md o s = 9 := by
 unfold clsH at h ⊢
 split
 ·exact .inr (.inr (.inr (.inr (.inl rfl))))
 ·rename_i hl
  rw [hl] at h
  dsimp only at h
  split
  ·exact .inr (.inr (.inr (.inr (.inr rfl))))
  ·rename_i ha
   rw [ha] at h
   have := clsG_le tt md o s
   have h : clsG tt md o s ≠ 3 := h
   omega

theorem clsH_four (h : clsH tt md o s = 4) : clsG tt md o s = 4 := by
 unfold clsH at h
 split at h
 ·cases h
 ·split at h
  ·cases h
  ·exact h

theorem loc_load {i g e f t : Nat} (h : loadK tt t (.ptr (i + 1) g e f) s K) : ∃ x, K x s ∧ ∀ s'' K', Loc s.hp s''.hp → K' x s'' → loadK tt t (.ptr (i + 1) g e f) s'' K' := by
 have hi : i + 1 < s.hp.length := by
  rcases Nat.lt_or_ge (i + 1) s.hp.length with h' | h'
  ·exact h'
  ·unfold loadK at h
   have : s.hp.getD (i + 1) none = none := by simp only [List.getD]; rw [List.getElem?_eq_none h']; rfl
   simp only [this] at h
 have hl : ∀ s'' : St, Loc s.hp s''.hp → s''.hp.getD (i + 1) none = s.hp.getD (i + 1) none := fun s'' h => by simp only [List.getD, h.2 i hi]
 unfold loadK at h
 dsimp only at h
 split at h
 ·rename_i x hx
  split at h
  case h_2 => exact h.elim
  split at h
  case h_2 => exact h.elim
  rename_i y hy
  exact ⟨y, h, fun s'' K' hq h' => by unfold loadK; simp only [hl s'' hq, hx, hy]; exact h'⟩
 ·rename_i g' c' l ts hx
  obtain ⟨ha, hb, h⟩ := h
  split at h
  case h_2 => exact h.elim
  rename_i y hy
  exact ⟨_, h, fun s'' K' hq h' => by unfold loadK; simp only [hl s'' hq, hx, hy]; exact ⟨ha, hb, h'⟩⟩
 ·exact h.elim

theorem aop_runH (hcd : CallDet call) (h3 : clsH tt md o s ≠ 3) (h4 : clsH tt md o s ≠ 4) (h : aop tt call md o s K) : RunH tt call md o s K (clsH tt md o s) := by
 cases hl : isLoc tt o s with
 | false =>
  cases hal : isAl md o with
  | true =>
   have e : clsH tt md o s = 9 := by unfold clsH; rw [hl, hal]
   rw [e]
   unfold isAl at hal
   split at hal
   case h_2 => cases hal
   rename_i t hop
   have hX : ∀ s : St, isX tt md o s = false := by
    intro s
    cases md <;> first
     | (cases hal; done)
     | simp [isX, hop]
   have un : ∀ (s : St) K, aop tt call md o s K ↔ (((opTys o.op).all fun t => (tt.at t).ok) = true ∧ K (.ptr s.hp.length 0 0 0) (s.addO (.box (.v (tt.at t).zero)))) := by
    intro s K
    unfold aop
    rw [hX s]
    show aop0 tt call md o s K ↔ _
    unfold aop0
    cases hty : (opTys o.op).all fun t => (tt.at t).ok with
    | false => exact ⟨fun h => h.elim, fun h => by cases h.1⟩
    | true =>
     simp only [hop]
     cases md <;> first
      | (cases hal; done)
      | exact ⟨fun h => ⟨trivial, h⟩, fun h => h.2⟩
   obtain ⟨hty, h⟩ := (un s K).1 h
   refine ⟨.ptr s.hp.length 0 0 0, (s.hp ++ [some (O.box (TV.v (tt.at t).zero))] : Hp), h, fun _ _ e => absurd rfl e, by simp, fun e => (by cases e), fun _ => Loc.add _ _, fun s'' K' he h' => (un s'' K').2 ⟨hty, ?_⟩⟩
   rcases h' with ⟨h', _⟩ | ⟨h', _⟩ | ⟨h', _⟩ | ⟨hq, h'⟩
   ·cases h'
   ·cases h'
   ·cases h'
   ·unfold St.addO; rw [hq]; exact h'
  | false =>
  have e : clsH tt md o s = clsG tt md o s := by unfold clsH; rw [hl, hal]
  rw [e] at h3 h4 ⊢
  obtain ⟨x, hp, e1, e2, e3, e4, e5⟩ := aop_runF hcd h3 h4 h
  refine ⟨x, hp, e1, fun a b _ => e2 a b, e3, e4, fun e9 => (by have := clsG_le tt md o s; omega), fun s'' K' he h => e5 s'' K' he ?_⟩
  rcases h with h | h | ⟨h, _⟩ | h
  ·exact .inl h
  ·exact .inr (.inl h)
  ·have := clsG_le tt md o s; omega
  ·exact .inr (.inr h)
 | true =>
  have e : clsH tt md o s = 8 := by unfold clsH; rw [hl]
  rw [e]
  unfold isLoc at hl
  split at hl
  case h_2 => cases hl
  rename_i t a hop
  split at hl
  case h_2 => cases hl
  rename_i i g e' f hev
  have hX : isX tt md o s = true → False := by
   intro hX
   unfold aop at h
   rw [hX] at h
   dsimp only at h
   split at h
   ·unfold xaop at h
    simp only [hop] at h
    rw [hev] at h
    exact h
   ·exact h
  cases hx : isX tt md o s with
  | true => exact (hX hx).elim
  | false =>
   unfold aop at h
   rw [hx] at h
   have h : aop0 tt call md o s K := h
   unfold aop0 at h
   split at h
   case h_1 => exact h.elim
   rename_i hty
   simp only [hop] at h
   rw [hev] at h
   obtain ⟨x, h1, h2⟩ := loc_load h
   refine ⟨x, s.hp, h1, fun _ _ _ => rfl, Nat.le_refl _, fun e => (by cases e), fun e => (by cases e), fun s'' K' he h => ?_⟩
   unfold aop
   rw [isX_congr he, hx]
   show aop0 tt call md o s'' K'
   unfold aop0
   rw [hty]
   dsimp only
   simp only [hop]
   rw [he 0 a (by simp [hop, Op.operands]), hev]
   rcases h with ⟨h, _⟩ | ⟨h, _⟩ | ⟨_, h, h'⟩ | ⟨h, h'⟩
   ·cases h
   ·cases h
   ·exact h2 s'' K' h h'
   ·refine h2 s'' K' (by rw [h]; exact .refl _) ?_
    rw [← h] at h'; exact h'

theorem aop_runHA (h4 : clsH tt md o s = 4) (h : aop tt call md o s K) : RunEA tt call md o s K := aop_runFA (clsH_four h4) h

theorem aop_nd (hcd : CallDet call) (hn : isNd md o = true) (h : aop tt call md o s K) {s'' : St} (he : EvEq tt o s s'') (hq : s''.hp = s.hp) (hT : s''.T = s.T) :
  aop tt call md o s'' (fun x s1 => NdPost s s'' K x s1) := by
 unfold isNd at hn
 split at hn
 ·cases hn
 split at hn
 case h_2 => cases hn
 rename_i c hop
 have hargs : c.args.toList.map (s''.ev tt 0) = c.args.toList.map (s.ev tt 0) := map_congr fun z hz => he 0 z (by rw [hop]; simp [Op.operands, Call.operands, Array.mem_toList_iff.1 hz])
 split at hn
 ·rename_i f hce
  split at hn
  case h_2 => cases hn
  have hX : isX tt .xc o s = false := by simp [isX, hop, hce]
  unfold aop at h ⊢
  rw [isX_congr he]
  rw [hX] at h ⊢
  dsimp only at h ⊢
  unfold aop0 at h ⊢
  split at h
  case h_1 => exact h.elim
  rename_i hty
  simp only [hop, hty, hce] at h ⊢
  have hf := he 0 f (by rw [hop]; simp [Op.operands, Call.operands, hce])
  rw [hf, hargs]
  split at h
  ·exact hcd.2.2.1 _ _ _ _ h s'' hq hT
  ·exact hcd.2.2.1 _ _ _ _ h s'' hq hT
  ·exact h.elim
 ·rename_i hce
  split at hn
  case h_2 => cases hn
  rename_i cc
  have hX : isX tt (.x cc) o s = true := by simp [isX]
  unfold aop at h ⊢
  rw [isX_congr he]
  rw [hX] at h ⊢
  dsimp only at h ⊢
  split at h
  case h_2 => exact h.elim
  have hargx : c.args.toList.map (s''.evx tt 0) = c.args.toList.map (s.evx tt 0) :=
   map_congr fun z hz => evx_eq he (by rw [hop]; simp [Op.operands, Call.operands, Array.mem_toList_iff.1 hz])
  unfold xaop at h ⊢
  simp only [hop, hce] at h ⊢
  rw [hargx]
  unfold xbuiltin at h ⊢
  generalize c.args.toList.map (s.evx tt 0) = al at h ⊢
  generalize c.argTypes.toList = tl at h ⊢
  match al, tl, h with
  | [x, y], [t, t2], h =>
   dsimp only at h ⊢
   unfold xappendA at h ⊢
   split at h
   ·unfold xappend at h ⊢
    rw [hq]
    split at h
    case h_2 => exact h.elim
    rename_i e x' X he' hsrc hsl hX
    split at h
    case h_2 => exact h.elim
    obtain ⟨l, l', hv, hs, hroom, h⟩ := h
    refine ⟨l, l', hv, hs, hroom, fun X' x' hx => ?_⟩
    have hk := h X' x' hx
    refine ⟨rfl, ?_, hT, ?_⟩
    ·simp only [setX, St.setO, hq]; exact Loc.set _ _
    ·simp only [setX, St.setO, hq, hT] at hk ⊢; exact hk
   ·unfold xappendZ at h ⊢
    rw [hq]
    split at h
    case h_2 => exact h.elim
    split at h
    case h_2 => exact h.elim
    obtain ⟨h0, l, hv, hroom, h⟩ := h
    refine ⟨h0, l, hv, hroom, fun X' x' hx => ?_⟩
    have hk := h X' x' hx
    refine ⟨rfl, ?_, hT, ?_⟩
    ·simp only [setX, St.setO, hq]; exact Loc.set _ _
    ·simp only [setX, St.setO, hq, hT] at hk ⊢; exact hk
  | [], _, h => exact h.elim
  | [_], _, h => exact h.elim
  | _ :: _ :: _ :: _, _, h => exact h.elim
  | [_, _], [], h => exact h.elim
  | [_, _], [_], h => exact h.elim
  | [_, _], _ :: _ :: _ :: _, h => exact h.elim
 ·cases hn

end
end Go.Proofs.YtdcljlafookliaaDoor.AB

namespace Go.Proofs.YtdcljlafookliaaDoor.AB
open Go

def Closed (ops : Array Oper) (S : Nat → Prop) : Prop := ∀ k o, S k → ops[k]? = some o → ∀ e ∈ o.after, Region.binds .any e = true → S e.on

def RowOK (ops : Array Oper) (k row : Nat) : Prop := ∀ (S : Nat → Prop) o, Closed ops S → ops[k]? = some o → (∀ e ∈ o.after, Region.binds .any e = true → S e.on) →
 ∀ j, Nat.testBit row j = true → S j

theorem ancRow_ok {ops : Array Oper} {rows : List Nat} {S : Nat → Prop} (hS : Closed ops S) (hrows : ∀ k row, rows[k]? = some row → RowOK ops k row)
  (hsz : rows.length ≤ ops.size) : ∀ (l : List Edge), (∀ e ∈ l, Region.binds .any e = true → S e.on) →
  ∀ j, Nat.testBit (ancRow rows l) j = true → S j
 | [], _, j, h => by simp [ancRow] at h
 | e :: r, he, j, h => by
  have ih := ancRow_ok hS hrows hsz r (fun e he' => he e (List.mem_cons_of_mem _ he')) j
  unfold ancRow at h
  cases hb : Region.binds .any e with
  | false => rw [hb] at h; exact ih h
  | true =>
   rw [hb] at h
   have hse := he e (List.mem_cons_self ..) hb
   have h : Nat.testBit ((2 ^ e.on ||| rows.getD e.on 0) ||| ancRow rows r) j = true := h
   rw [Nat.testBit_or, Nat.testBit_or, Bool.or_eq_true, Bool.or_eq_true] at h
   rcases h with (h | h) | h
   ·rw [Nat.testBit_two_pow] at h
    have : e.on = j := by simpa using h
    exact this ▸ hse
   ·cases hr : rows[e.on]? with
    | none => simp [List.getD, hr] at h
    | some row =>
     have h : Nat.testBit row j = true := by simpa [List.getD, hr] using h
     have hlt : e.on < ops.size := by
      have := (List.getElem?_eq_some_iff.1 hr).1
      omega
     have ho : ops[e.on]? = some ops[e.on] := Array.getElem?_eq_getElem hlt
     exact hrows e.on row hr S _ hS ho (hS e.on _ hse ho) j h
   ·exact ih h

theorem pairsOK_get {ops : Array Oper} {row : Nat} {o : Oper} {c : Nat} : ∀ (prev : List (Oper × Nat)) (j : Nat), pairsOK ops row o c j prev = true →
  ∀ (k : Nat) p, prev[k]? = some p → Nat.testBit row (j + k) = true ∨ (p.1.apart ops o = true ∧ compat p.2 c = true)
 | [], j, h, k, p, hk => by simp at hk
 | q :: r, j, h, k, p, hk => by
  unfold pairsOK at h
  rw [Bool.and_eq_true, Bool.or_eq_true, Bool.and_eq_true] at h
  cases k with
  | zero => simp at hk; subst hk; exact h.1
  | succ k =>
   rw [List.getElem?_cons_succ] at hk
   have := pairsOK_get r (j + 1) h.2 k p hk
   rwa [Nat.add_assoc, Nat.add_comm 1 k] at this

structure DrawS (ops : Array Oper) (cl : List Nat) (rows : List Nat) (n : Nat) : Prop where
 edge : ∀ i o, i < n → ops[i]? = some o → ∀ e ∈ o.after, Region.binds .any e = true → e.on < i
 row : ∀ k row, rows[k]? = some row → RowOK ops k row
 pair : ∀ j i oj oi, j < i → i < n → ops[j]? = some oj → ops[i]? = some oi → Nat.testBit (rows.getD i 0) j = true ∨ (oj.apart ops oi = true ∧ compat (cl.getD j 0) (cl.getD i 0) = true)

theorem drawGo_spec {ops : Array Oper} : ∀ (l : List Oper) (cs : List Nat) (prev : List (Oper × Nat)) (rows : List Nat), drawGo ops prev rows l cs = true →
  prev.map (·.1) ++ l = ops.toList → rows.length = prev.length → DrawS ops (prev.map (·.2) ++ cs) rows prev.length → ∃ rows', DrawS ops (prev.map (·.2) ++ cs) rows' (prev.length + cs.length)
 | [], [], prev, rows, _, h1, h2, h => ⟨rows, h⟩
 | [], _ :: _, prev, rows, h0, _, _, _ => by simp [drawGo] at h0
 | _ :: _, [], prev, rows, h0, _, _, h => ⟨rows, h⟩
 | o :: r, c :: cs, prev, rows, h0, h1, h2, h => by
  unfold drawGo at h0
  rw [Bool.and_eq_true, Bool.and_eq_true] at h0
  obtain ⟨⟨he, hp⟩, hgo⟩ := h0
  have hsz : ops.size = prev.length + (r.length + 1) := by rw [← Array.length_toList, ← h1]; simp
  have hat : ops[prev.length]? = some o := by
   rw [← Array.getElem?_toList, ← h1, List.getElem?_append_right (by simp)]; simp
  have hprev : ∀ (j : Nat) oj, j < prev.length → ops[j]? = some oj → prev[j]? = some (oj, (prev.map (·.2) ++ c :: cs).getD j 0) := by
   intro j oj hj ho
   rw [← Array.getElem?_toList, ← h1, List.getElem?_append_left (by simpa using hj), List.getElem?_map] at ho
   have hx : prev[j]? = some prev[j] := List.getElem?_eq_getElem hj
   rw [hx] at ho
   simp only [Option.map_some, Option.some.injEq] at ho
   rw [hx]
   simp only [List.getD, List.getElem?_append_left (show j < (prev.map (·.2)).length by simpa using hj), List.getElem?_map, hx, Option.map_some, Option.getD_some, ← ho]
  have heq : (prev ++ [(o, c)]).map (·.2) ++ cs = prev.map (·.2) ++ c :: cs := by simp
  have hedge : ∀ e ∈ o.after, Region.binds .any e = true → e.on < prev.length := by
   intro e hm hb
   have := List.all_eq_true.1 he e (Array.mem_toList_iff.2 hm)
   rw [hb] at this
   simp only [Bool.not_true, Bool.false_or] at this
   rw [← h2]
   rwa [Nat.blt_eq] at this
  have := drawGo_spec r cs (prev ++ [(o, c)]) (rows ++ [ancRow rows o.after.toList]) hgo (by simpa using h1) (by simp [h2]) (by
   rw [heq]
   refine ⟨?_, ?_, ?_⟩
   ·intro i o' hi ho' e hm hb
    simp only [List.length_append, List.length_cons, List.length_nil] at hi
    rcases Nat.lt_or_ge i prev.length with hi' | hi'
    ·exact h.edge i o' hi' ho' e hm hb
    ·have : i = prev.length := by omega
     subst this
     rw [hat] at ho'; cases ho'
     exact hedge e hm hb
   ·intro k row hk
    rcases Nat.lt_or_ge k rows.length with hk' | hk'
    ·rw [List.getElem?_append_left hk'] at hk
     exact h.row k row hk
    ·rw [List.getElem?_append_right hk'] at hk
     have hk0 : k - rows.length = 0 := by
      have := (List.getElem?_eq_some_iff.1 hk).1
      simp at this; omega
     have hkk : k = prev.length := by omega
     subst hkk
     rw [hk0] at hk
     simp at hk
     subst hk
     intro S o' hS ho' hd j hj
     rw [hat] at ho'; cases ho'
     exact ancRow_ok hS h.row (by omega) o.after.toList (fun e he => hd e (Array.mem_toList_iff.1 he)) j hj
   ·intro j i oj oi hji hi hoj hoi
    simp only [List.length_append, List.length_cons, List.length_nil] at hi
    rcases Nat.lt_or_ge i prev.length with hi' | hi'
    ·have := h.pair j i oj oi hji hi' hoj hoi
     have hg : (rows ++ [ancRow rows o.after.toList]).getD i 0 = rows.getD i 0 := by
      simp only [List.getD]; rw [List.getElem?_append_left (by omega)]
     rw [hg]; exact this
    ·have hii : i = prev.length := by omega
     subst hii
     rw [hat] at hoi; cases hoi
     have hg : (rows ++ [ancRow rows o.after.toList]).getD prev.length 0 = ancRow rows o.after.toList := by
      simp only [List.getD]; rw [List.getElem?_append_right (by omega)]; simp [h2]
     have hc : (prev.map (·.2) ++ c :: cs).getD prev.length 0 = c := by
      simp only [List.getD]; rw [List.getElem?_append_right (by simp)]; simp
     rw [hg, hc]
     have := pairsOK_get prev 0 hp j _ (hprev j oj hji hoj)
     rwa [Nat.zero_add] at this)
  rw [heq] at this
  have e : (prev ++ [(o, c)]).length + cs.length = prev.length + (c :: cs).length := by simp; omega
  rw [e] at this
  exact this

theorem drawOK_spec {ops : Array Oper} {cl : List Nat} (h : drawOK ops cl = true) : ∃ rows, DrawS ops cl rows cl.length := by
 unfold drawOK at h
 rw [Bool.and_eq_true] at h
 have := drawGo_spec ops.toList cl [] [] h.1 rfl rfl ⟨fun _ _ hi => (Nat.not_lt_zero _ hi).elim, fun k row hk => by simp at hk, fun _ _ _ _ _ hi => (Nat.not_lt_zero _ hi).elim⟩
 simpa using this

theorem has7_iff : ∀ (l : List Nat), has7 l = true ↔ 7 ∈ l
 | [] => by simp [has7]
 | c :: l => by
  unfold has7
  cases h : Nat.beq c 7 with
  | true => have := Nat.eq_of_beq_eq_true h; subst this; simp
  | false =>
   have h' : (7 : Nat) ≠ c := fun e => by subst e; cases h
   simp only [has7_iff l, List.mem_cons, h', false_or]

theorem has4_iff : ∀ (l : List Nat), has4 l = true ↔ 4 ∈ l
 | [] => by simp [has4]
 | c :: l => by
  unfold has4
  cases h : Nat.beq c 4 with
  | true => have := Nat.eq_of_beq_eq_true h; subst this; simp
  | false =>
   have h' : (4 : Nat) ≠ c := fun e => by subst e; cases h
   simp only [has4_iff l, List.mem_cons, h', false_or]

theorem drawOK_no {ops : Array Oper} {cl : List Nat} (h : drawOK ops cl = true) (h7 : 7 ∈ cl) : 4 ∉ cl := by
 unfold drawOK at h
 rw [Bool.and_eq_true] at h
 intro h4
 rw [(has7_iff cl).2 h7, (has4_iff cl).2 h4] at h
 exact absurd h.2 (by decide)

theorem DrawS.less {ops : Array Oper} {cl cl' rows : List Nat} {n m : Nat} (h : DrawS ops cl rows n) (hm : m ≤ n) (hc : ∀ j, j < m → cl'.getD j 0 = cl.getD j 0) : DrawS ops cl' rows m :=
 ⟨fun i o hi => h.edge i o (by omega), h.row, fun j i oj oi hji hi hoj hoi => by rw [hc j (by omega), hc i hi]; exact h.pair j i oj oi hji (by omega) hoj hoi⟩

theorem barGo_spec {ops : Array Oper} {b : Nat} : ∀ (l : List Oper) (rows : List Nat) (pre : List Oper), barGo b rows l = true → pre ++ l = ops.toList → rows.length = pre.length →
  (∀ k row, rows[k]? = some row → RowOK ops k row) → ∀ k o, l[k]? = some o → b < rows.length + k → dm o = false →
  ∀ (S : Nat → Prop), Closed ops S → (∀ e ∈ o.after, Region.binds .any e = true → S e.on) → S b
 | [], rows, pre, _, _, _, _, k, o, hk, _, _ => by simp at hk
 | o :: r, rows, pre, h, h1, h2, hrow, k, o', hk, hb, hdm => by
  unfold barGo at h
  rw [Bool.and_eq_true] at h
  have hsz : ops.size = pre.length + (r.length + 1) := by rw [← Array.length_toList, ← h1]; simp
  have hat : ops[pre.length]? = some o := by
   rw [← Array.getElem?_toList, ← h1, List.getElem?_append_right (by simp)]; simp
  cases k with
  | zero =>
   simp only [List.getElem?_cons_zero, Option.some.injEq] at hk
   subst hk
   obtain ⟨h3, _⟩ := h
   rw [Bool.or_eq_true, Bool.or_eq_true] at h3
   rcases h3 with (h3 | h3) | h3
   ·exact absurd (Nat.le_of_ble_eq_true h3) (Nat.not_le.2 hb)
   ·rw [hdm] at h3; cases h3
   ·intro S hS hd
    exact ancRow_ok hS hrow (by omega) o.after.toList (fun e he => hd e (Array.mem_toList_iff.1 he)) b h3
  | succ k =>
   rw [List.getElem?_cons_succ] at hk
   have := barGo_spec r (rows ++ [ancRow rows o.after.toList]) (pre ++ [o]) h.2 (by simpa using h1) (by simp [h2]) (fun k row hk => by
    rcases Nat.lt_or_ge k rows.length with hk' | hk'
    ·rw [List.getElem?_append_left hk'] at hk
     exact hrow k row hk
    ·rw [List.getElem?_append_right hk'] at hk
     have hk0 : k - rows.length = 0 := by
      have := (List.getElem?_eq_some_iff.1 hk).1
      simp at this; omega
     have hkk : k = pre.length := by omega
     subst hkk
     rw [hk0] at hk
     simp at hk
     subst hk
     intro S o' hS ho' hd j hj
     rw [hat] at ho'; cases ho'
     exact ancRow_ok hS hrow (by omega) o.after.toList (fun e he => hd e (Array.mem_toList_iff.1 he)) j hj) k o' hk (by simp; omega) hdm
   exact this

theorem barGo_all {ops : Array Oper} {b : Nat} (h : barGo b [] ops.toList = true) : ∀ i o, b < i → ops[i]? = some o → dm o = false → ∀ (S : Nat → Prop), Closed ops S → (∀ e ∈ o.after, Region.binds .any e = true → S e.on) → S b := by
 intro i o hb ho hd
 exact barGo_spec ops.toList [] [] h rfl rfl (fun k row hk => by simp at hk) i o (by rw [Array.getElem?_toList]; exact ho) (by simpa using hb) hd

theorem allBits_spec {row : Nat} : ∀ (k : Nat), allBits row k = true → ∀ j, j < k → Nat.testBit row j = true
 | 0, _, j, hj => (Nat.not_lt_zero _ hj).elim
 | k + 1, h, j, hj => by
  unfold allBits at h
  rw [Bool.and_eq_true] at h
  rcases Nat.lt_or_ge j k with h' | h'
  ·exact allBits_spec k h.2 j h'
  ·have : j = k := by omega
   subst this; exact h.1

def Dm (ops : Array Oper) (k : Nat) : Prop := ∃ o, ops[k]? = some o ∧ dm o = true

theorem dmMask_spec : ∀ (l : List Oper) (i j : Nat), Nat.testBit (dmMask l i) j = true → ∃ k o, j = i + k ∧ l[k]? = some o ∧ dm o = true
 | [], i, j, h => by simp [dmMask] at h
 | o :: r, i, j, h => by
  unfold dmMask at h
  cases hd : dm o with
  | false =>
   rw [hd] at h
   obtain ⟨k, o', e, h1, h2⟩ := dmMask_spec r (i + 1) j h
   exact ⟨k + 1, o', by omega, by simpa using h1, h2⟩
  | true =>
   rw [hd] at h
   have h : Nat.testBit (2 ^ i ||| dmMask r (i + 1)) j = true := h
   rw [Nat.testBit_or, Bool.or_eq_true] at h
   rcases h with h | h
   ·rw [Nat.testBit_two_pow] at h
    have : i = j := by simpa using h
    exact ⟨0, o, by omega, rfl, hd⟩
   ·obtain ⟨k, o', e, h1, h2⟩ := dmMask_spec r (i + 1) j h
    exact ⟨k + 1, o', by omega, by simpa using h1, h2⟩

structure TailS (ops : Array Oper) (b : Nat) : Prop where
 edge : ∀ i o, b ≤ i → ops[i]? = some o → dm o = false → ∀ e ∈ o.after, Region.binds .any e = true → e.on < i
 all : ∀ i o, b ≤ i → ops[i]? = some o → dm o = false → ∀ (S : Nat → Prop), Closed ops S → (∀ k, Dm ops k → S k) → (∀ e ∈ o.after, Region.binds .any e = true → S e.on) → ∀ j, j < i → S j

theorem tailGo_spec {ops : Array Oper} {b zm : Nat} (hzm : ∀ j, Nat.testBit zm j = true → Dm ops j) : ∀ (l : List Oper) (rows : List Nat) (pre : List Oper), tailGo zm b rows l = true → pre ++ l = ops.toList → rows.length = pre.length →
  (∀ k row, rows[k]? = some row → RowOK ops k row) → ∀ k o, l[k]? = some o → b ≤ rows.length + k → dm o = false →
  (∀ e ∈ o.after, Region.binds .any e = true → e.on < rows.length + k) ∧ ∀ (S : Nat → Prop), Closed ops S → (∀ k, Dm ops k → S k) → (∀ e ∈ o.after, Region.binds .any e = true → S e.on) → ∀ j, j < rows.length + k → S j
 | [], rows, pre, _, _, _, _, k, o, hk, _, _ => by simp at hk
 | o :: r, rows, pre, h, h1, h2, hrow, k, o', hk, hb, hdm => by
  unfold tailGo at h
  rw [Bool.and_eq_true] at h
  have hsz : ops.size = pre.length + (r.length + 1) := by rw [← Array.length_toList, ← h1]; simp
  have hat : ops[pre.length]? = some o := by
   rw [← Array.getElem?_toList, ← h1, List.getElem?_append_right (by simp)]; simp
  cases k with
  | zero =>
   simp only [List.getElem?_cons_zero, Option.some.injEq] at hk
   subst hk
   obtain ⟨h3, _⟩ := h
   rw [Bool.or_eq_true, Bool.or_eq_true] at h3
   rcases h3 with (h3 | h3) | h3
   ·rw [Nat.blt_eq] at h3; omega
   ·rw [hdm] at h3; cases h3
   ·rw [Bool.and_eq_true] at h3
    refine ⟨fun e hm hbe => ?_, fun S hS hZ hd j hj => ?_⟩
    ·have := List.all_eq_true.1 h3.1 e (Array.mem_toList_iff.2 hm)
     rw [hbe] at this
     simp only [Bool.not_true, Bool.false_or] at this
     rwa [Nat.blt_eq] at this
    ·have hbit : Nat.testBit (zm ||| ancRow rows o.after.toList) j = true := allBits_spec _ h3.2 j hj
     rw [Nat.testBit_or, Bool.or_eq_true] at hbit
     rcases hbit with hbit | hbit
     ·exact hZ j (hzm j hbit)
     ·exact ancRow_ok hS hrow (by omega) o.after.toList (fun e he => hd e (Array.mem_toList_iff.1 he)) j hbit
  | succ k =>
   rw [List.getElem?_cons_succ] at hk
   have := tailGo_spec hzm r (rows ++ [ancRow rows o.after.toList]) (pre ++ [o]) h.2 (by simpa using h1) (by simp [h2]) (fun k row hk => by
    rcases Nat.lt_or_ge k rows.length with hk' | hk'
    ·rw [List.getElem?_append_left hk'] at hk
     exact hrow k row hk
    ·rw [List.getElem?_append_right hk'] at hk
     have hk0 : k - rows.length = 0 := by
      have := (List.getElem?_eq_some_iff.1 hk).1
      simp at this; omega
     have hkk : k = pre.length := by omega
     subst hkk
     rw [hk0] at hk
     simp at hk
     subst hk
     intro S o' hS ho' hd j hj
     rw [hat] at ho'; cases ho'
     exact ancRow_ok hS hrow (by omega) o.after.toList (fun e he => hd e (Array.mem_toList_iff.1 he)) j hj) k o' hk (by simp; omega) hdm
   have e : (rows ++ [ancRow rows o.after.toList]).length + k = rows.length + (k + 1) := by simp; omega
   rw [e] at this
   exact this

theorem tailOK_spec {ops : Array Oper} {b : Nat} (h : tailOK ops b = true) : TailS ops b := by
 have hz : ∀ j, Nat.testBit (dmMask ops.toList 0) j = true → Dm ops j := by
  intro j hj
  obtain ⟨k, o, e, h1, h2⟩ := dmMask_spec _ _ _ hj
  rw [Nat.zero_add] at e
  subst e
  exact ⟨o, by rw [← Array.getElem?_toList]; exact h1, h2⟩
 have key := fun i o (hb : b ≤ i) (ho : ops[i]? = some o) (hd : dm o = false) => tailGo_spec hz ops.toList [] [] h rfl rfl (fun k row hk => by simp at hk) i o (by rw [Array.getElem?_toList]; exact ho) (by simpa using hb) hd
 simp only [List.length_nil, Nat.zero_add] at key
 exact ⟨fun i o hb ho hd => (key i o hb ho hd).1, fun i o hb ho hd => (key i o hb ho hd).2⟩

theorem tailS_end (ops : Array Oper) {b : Nat} (h : ops.size ≤ b) : TailS ops b :=
 ⟨fun i o hb ho => absurd (Array.getElem?_eq_some_iff.1 ho).1 (by omega), fun i o hb ho => absurd (Array.getElem?_eq_some_iff.1 ho).1 (by omega)⟩

end Go.Proofs.YtdcljlafookliaaDoor.AB

namespace Go.Proofs.YtdcljlafookliaaDoor.AB
open Go

abbrev tu : TV := .v .undef
abbrev tg : TV := .v (.tup [])

def Req (x y : TV) : Prop := ∀ G v, TR G x v ↔ TR G y v

theorem Req.refl (x : TV) : Req x x := fun _ _ => Iff.rfl
theorem Req.symm {x y : TV} (h : Req x y) : Req y x := fun G v => (h G v).symm
theorem Req.trans {x y z : TV} (h : Req x y) (k : Req y z) : Req x z := fun G v => (h G v).trans (k G v)

theorem req_tt : Req (.v (.bool true)) (.v .tt) := fun G v => ⟨fun h => by
 cases h with
 | v _ _ h => cases h; exact .v _ _ .tt, fun h => by
 cases h with
 | v _ _ h => cases h; exact .v _ _ (.bool true)⟩

theorem req_ff : Req (.v (.bool false)) (.v .ff) := fun G v => ⟨fun h => by
 cases h with
 | v _ _ h => cases h; exact .v _ _ .ff, fun h => by
 cases h with
 | v _ _ h => cases h; exact .v _ _ (.bool false)⟩

theorem dm_op {o : Oper} (h : dm o = true) : o.dst = none ∧ (∃ x, o.op = .move x) ∧ o.guard = none ∧ o.after.toList = [] := by
 unfold dm at h
 split at h
 ·cases h
 ·rename_i hd
  split at h
  ·rename_i x hx
   split at h
   ·rename_i hg
    split at h
    ·rename_i ha
     exact ⟨hd, ⟨x, hx⟩, hg, ha⟩
    ·cases h
   ·cases h
  ·cases h

theorem clsG_dm {tt : TT} {md : Md} {o : Oper} {s : St} (h : dm o = true) : clsG tt md o s = 0 := by
 obtain ⟨_, ⟨x, hx⟩, _⟩ := dm_op h
 unfold clsG
 have hc : cls tt md o s = 0 := by simp [cls, hx]
 rw [hc]
 split <;> rfl

theorem clsH_dm {tt : TT} {md : Md} {o : Oper} {s : St} (h : dm o = true) : clsH tt md o s = 0 := by
 have h2 := clsG_dm (tt := tt) (md := md) (s := s) h
 obtain ⟨_, ⟨x, hx⟩, _⟩ := dm_op h
 have : isLoc tt o s = false := by simp [isLoc, hx]
 have h3 : isAl md o = false := by simp [isAl, hx]
 unfold clsH
 rw [this, h3]; exact h2

structure StepOK (tt : TT) (call : CallP) (md : Md) (ops : Array Oper) (o : Oper) (s p s' : St) (x : TV) (w : Bool) (c : Nat) (tk : Tok) : Prop where
 hp : p.hp = s.hp
 T : p.T = s.T
 len : p.tm.length = s.tm.length
 req : ∀ t, Req (s.tm.getD t tu) (p.tm.getD t tu)
 guard : ∀ j want, o.guard = some (j, want) → ∃ t b, (ops[j]?).bind (·.dst) = some t ∧ ((p.tm.getD t tu = .v (cond b .tt .ff) ∧ w = (b == want)) ∨ (p.tm.getD t tu = tg ∧ w = false))
 free : o.guard = none → w = true
 tm : s'.tm = match o.dst with
  | some d => p.tm.set d x
  | none => p.tm
 run : w = true → c ≠ 4 → c ≠ 7 → ∀ s'' K', EvEq tt o p s'' → ((c = 0 ∧ K' x s'') ∨ (c = 5 ∧ Grown s.hp s''.hp ∧ K' x s'') ∨ (c = 8 ∧ Loc s.hp s''.hp ∧ K' x s'') ∨ (s''.hp = s.hp ∧ K' x ⟨s''.tm, s'.hp, s''.T⟩)) → aop tt call md o s'' K'
 skip : w = false → x = tg ∧ c = 0
 calm : isEf c = false → s'.hp = s.hp
 add : c = 6 → Grown s.hp s'.hp
 calmT : c ≠ 4 → s'.T = s.T
 app : c = 4 → ∃ (z : Operand) (cd : Cd) (l0 : List cd.T) (cd' : Cd) (l : List cd'.T), z ∈ o.op.operands ∧ p.ev tt 0 z = .v (.list cd l0 tk) ∧ tk.own s.T.l ∧ x = .v (.list cd' l (.tk s.T.n)) ∧
  s'.T = ⟨s.T.n + 1, s.T.n :: tk.drop s.T.l⟩ ∧
  ∀ s'' K', EvEq tt o p s'' → tk.own s''.T.l → K' (.v (.list cd' l (.tk s''.T.n))) ⟨s''.tm, s''.hp, ⟨s''.T.n + 1, s''.T.n :: tk.drop s''.T.l⟩⟩ → aop tt call md o s'' K'
 grow : s.hp.length ≤ s'.hp.length
 few : c < 3 ∨ c = 4 ∨ c = 5 ∨ c = 6 ∨ c = 7 ∨ c = 8 ∨ c = 9
 loc7 : c = 7 ∨ c = 9 → Loc s.hp s'.hp
 dum : dm o = true → c = 0

theorem getD_set {l : List TV} {d t : Nat} {x : TV} : (l.set d x).getD t tu = if d = t ∧ d < l.length then x else l.getD t tu := by
 simp only [List.getD, List.getElem?_set]
 split
 ·rename_i e
  subst e
  split
  ·rename_i hl; simp [hl]
  ·rename_i hl
   simp only [hl, and_false, if_false]
   rw [List.getElem?_eq_none (by omega)]
 ·rename_i e
  simp [e]

section
variable {tt : TT} {call : CallP} {mds : Mds} {rid : Nat} {ops : Array Oper} {K : St → Prop}

theorem guard_trace {o : Oper} {s : St} {run skip : St → Prop} (h : guardK ops s o.guard run skip) :
  ∃ p w, p.hp = s.hp ∧ p.T = s.T ∧ p.tm.length = s.tm.length ∧ (∀ t, Req (s.tm.getD t tu) (p.tm.getD t tu)) ∧
   (∀ j want, o.guard = some (j, want) → ∃ t b, (ops[j]?).bind (·.dst) = some t ∧ ((p.tm.getD t tu = .v (cond b .tt .ff) ∧ w = (b == want)) ∨ (p.tm.getD t tu = tg ∧ w = false))) ∧ (o.guard = none → w = true) ∧
   (w = true → run p) ∧ (w = false → skip p) := by
 unfold guardK at h
 split at h
 ·rename_i hg
  exact ⟨s, true, rfl, rfl, rfl, fun _ => .refl _, fun j want e => (by rw [hg] at e; cases e), fun _ => rfl, fun _ => h, fun e => (by cases e)⟩
 ·rename_i j want hg
  split at h
  case h_2 => exact h.elim
  rename_i t ht
  split at h
  ·rename_i htt
   refine ⟨s, true == want, rfl, rfl, rfl, fun _ => .refl _, fun j' want' e => ?_, fun e => (by rw [hg] at e; cases e), ?_, ?_⟩
   ·rw [hg] at e; cases e; exact ⟨t, true, ht, .inl ⟨htt, rfl⟩⟩
   ·cases want <;> intro e <;> first
     | exact h
     | cases e
   ·cases want <;> intro e <;> first
     | exact h
     | cases e
  ·rename_i htt
   refine ⟨s, false == want, rfl, rfl, rfl, fun _ => .refl _, fun j' want' e => ?_, fun e => (by rw [hg] at e; cases e), ?_, ?_⟩
   ·rw [hg] at e; cases e; exact ⟨t, false, ht, .inl ⟨htt, rfl⟩⟩
   ·cases want <;> intro e <;> first
     | exact h
     | cases e
   ·cases want <;> intro e <;> first
     | exact h
     | cases e
  ·rename_i b htt
   have htl : t < s.tm.length := by
    rcases Nat.lt_or_ge t s.tm.length with h' | h'
    ·exact h'
    ·simp [List.getD, List.getElem?_eq_none h'] at htt
   have hreq : ∀ {y : TV}, Req (.v (.bool b)) y → ∀ t', Req (s.tm.getD t' tu) ((s.tm.set t y).getD t' tu) := by
    intro y hy t'
    rw [getD_set]
    split
    ·rename_i e
     obtain ⟨rfl, _⟩ := e
     rw [show s.tm.getD t tu = .v (.bool b) from htt]; exact hy
    ·exact .refl _
   cases b
   ·have h := h.2 rfl
    refine ⟨s.put (some t) (.v .ff), false == want, rfl, rfl, by simp [St.put], hreq req_ff, fun j' want' e => ?_, fun e => (by rw [hg] at e; cases e), ?_, ?_⟩
    ·rw [hg] at e; cases e
     refine ⟨t, false, ht, .inl ⟨?_, rfl⟩⟩
     simp only [St.put]; rw [getD_set, if_pos ⟨rfl, htl⟩]; rfl
    ·cases want <;> intro e <;> first
      | exact h
      | cases e
    ·cases want <;> intro e <;> first
      | exact h
      | cases e
   ·have h := h.1 rfl
    refine ⟨s.put (some t) (.v .tt), true == want, rfl, rfl, by simp [St.put], hreq req_tt, fun j' want' e => ?_, fun e => (by rw [hg] at e; cases e), ?_, ?_⟩
    ·rw [hg] at e; cases e
     refine ⟨t, true, ht, .inl ⟨?_, rfl⟩⟩
     simp only [St.put]; rw [getD_set, if_pos ⟨rfl, htl⟩]; rfl
    ·cases want <;> intro e <;> first
      | exact h
      | cases e
    ·cases want <;> intro e <;> first
      | exact h
      | cases e
  ·rename_i htt
   refine ⟨s, false, rfl, rfl, rfl, fun _ => .refl _, fun j' want' e => ?_, fun e => (by rw [hg] at e; cases e), fun e => (by cases e), fun _ => h⟩
   rw [hg] at e; cases e; exact ⟨t, false, ht, .inr ⟨htt, rfl⟩⟩
  ·exact h.elim

def Stop (mds : Mds) (rid i : Nat) : List Oper → Prop
 | [] => True
 | o :: _ => isBar (mds.at rid i) o = true

theorem trace (hcd : CallDet call) : ∀ (l : List Oper) (i : Nat) (fl : List Nat) (s : St), awpD tt call mds rid ops i l fl K s →
  ∃ (st pr : Nat → St) (x : Nat → TV) (w : Nat → Bool) (cl : List Nat) (tk : Nat → Tok), st 0 = s ∧ cl.length ≤ l.length ∧
   (∀ k o, k < cl.length → l[k]? = some o → StepOK tt call (mds.at rid (i + k)) ops o (st k) (pr k) (st (k + 1)) (x k) (w k) (cl.getD k 0) (tk k)) ∧ (∀ k, k < cl.length → cl.getD k 0 ≠ 7) ∧
   Stop mds rid (i + cl.length) (l.drop cl.length) ∧ awpD tt call mds rid ops (i + cl.length) (l.drop cl.length) (cl.reverse ++ fl) K (st cl.length)
 | [], i, fl, s, h =>
  ⟨fun _ => s, fun _ => s, fun _ => tu, fun _ => true, [], fun _ => .no, rfl, Nat.le_refl _, fun k o hk => (Nat.not_lt_zero _ hk).elim, fun k hk => (Nat.not_lt_zero _ hk).elim, trivial, h⟩
 | o :: r, i, fl, s, h => by
  cases hbar : isBar (mds.at rid i) o with
  | true => exact ⟨fun _ => s, fun _ => s, fun _ => tu, fun _ => true, [], fun _ => .no, rfl, Nat.zero_le _, fun k o hk => (Nat.not_lt_zero _ hk).elim, fun k hk => (Nat.not_lt_zero _ hk).elim, hbar, h⟩
  | false =>
  unfold awpD at h
  rw [hbar] at h
  dsimp only at h
  obtain ⟨p, w, hp, hT, hlen, hreq, hg, hfree, hrun, hskip⟩ := guard_trace h
  have key : ∃ s' x c tk, StepOK tt call (mds.at rid i) ops o s p s' x w c tk ∧ c ≠ 7 ∧ awpD tt call mds rid ops (i + 1) r (c :: fl) K s' := by
   cases w with
   | true =>
    have h := hrun rfl
    split at h
    case h_2 => exact h.elim
    rename_i hne3
    have h3 : clsH tt (mds.at rid i) o p ≠ 3 := by
     intro e; rw [e] at hne3; cases hne3
    have hfew := clsH_few tt (mds.at rid i) o p h3
    by_cases h4 : clsH tt (mds.at rid i) o p = 4
    ·obtain ⟨z, cd, l0, cd', l, tk, e1, e2, e3, e4, e5⟩ := aop_runHA h4 h
     refine ⟨(⟨p.tm, p.hp, ⟨p.T.n + 1, p.T.n :: tk.drop p.T.l⟩⟩ : St).put o.dst (.v (.list cd' l (.tk p.T.n))), .v (.list cd' l (.tk p.T.n)), clsH tt (mds.at rid i) o p, tk,
      { hp := hp, T := hT, len := hlen, req := hreq, guard := hg, free := hfree, tm := ?_, run := fun _ hc => absurd h4 hc, skip := fun e => (by cases e), calm := ?_, add := fun e => (by rw [h4] at e; cases e), calmT := fun hc => absurd h4 hc, app := fun _ => ⟨z, cd, l0, cd', l, e1, e2, by rw [← hT]; exact e3, by rw [hT], ?_, e5⟩, grow := ?_, few := ?_, loc7 := fun e => (by omega), dum := fun hd => (by rw [clsH_dm hd]) }, by omega, e4⟩
     ·cases o.dst <;> rfl
     ·intro _
      cases o.dst <;> exact hp
     ·rw [← hT]
      cases o.dst <;> rfl
     ·have : s.hp.length ≤ p.hp.length := by rw [hp]; exact Nat.le_refl _
      cases o.dst <;> exact this
     ·exact .inr (.inl h4)
    ·obtain ⟨x, hp', h1, h2, h3', h6, h9, h5⟩ := aop_runH hcd h3 h4 h
     refine ⟨(⟨p.tm, hp', p.T⟩ : St).put o.dst x, x, clsH tt (mds.at rid i) o p, .no, { hp := hp, T := hT, len := hlen, req := hreq, guard := hg, free := hfree, tm := ?_, run := ?_, skip := fun e => (by cases e), calm := ?_, add := ?_, calmT := ?_, app := fun hc => absurd hc h4, grow := ?_, few := ?_, loc7 := ?_, dum := fun hd => (by rw [clsH_dm hd]) }, by omega, h1⟩
     ·cases o.dst <;> rfl
     ·intro _ _ _ s'' K' he h'
      refine h5 s'' K' he ?_
      rw [hp]
      cases hd : o.dst <;> rw [hd] at h' <;> exact h'
     ·intro hc
      have := h2 (by intro e; rw [e] at hc; cases hc) (by intro e; rw [e] at hc; cases hc) (by intro e; rw [e] at hc; cases hc)
      rw [hp] at this
      cases o.dst <;> exact this
     ·intro hc
      have := h6 hc
      rw [hp] at this
      cases o.dst <;> exact this
     ·intro _
      cases o.dst <;> exact hT
     ·rw [hp] at h3'
      cases o.dst <;> exact h3'
     ·omega
     ·intro e
      have e9 : clsH tt (mds.at rid i) o p = 9 := by omega
      have := h9 e9
      rw [hp] at this
      cases o.dst <;> exact this
   | false =>
    have h := hskip rfl
    refine ⟨p.put o.dst tg, tg, 0, .no, { hp := hp, T := hT, len := hlen, req := hreq, guard := hg, free := hfree, tm := ?_, run := fun e => (by cases e), skip := fun _ => ⟨rfl, rfl⟩, calm := fun _ => ?_, add := fun e => (by cases e), calmT := fun _ => ?_, app := fun e => (by cases e), grow := ?_, few := ?_, loc7 := fun e => (by omega), dum := fun _ => rfl }, by decide, h⟩
    ·cases o.dst <;> rfl
    ·cases o.dst <;> exact hp
    ·cases o.dst <;> exact hT
    ·have : s.hp.length ≤ p.hp.length := by rw [hp]; exact Nat.le_refl _
     cases o.dst <;> exact this
    ·exact .inl (by decide)
  obtain ⟨s', x, c, tk, hstep, hc7, hrest⟩ := key
  obtain ⟨st, pr, xs, ws, cl, tks, h0, hl, hst, hn7, hstop, hK⟩ := trace hcd r (i + 1) (c :: fl) s' hrest
  have e1 : i + (c :: cl).length = i + 1 + cl.length := by simp; omega
  refine ⟨fun k => match k with | 0 => s | k + 1 => st k, fun k => match k with | 0 => p | k + 1 => pr k, fun k => match k with | 0 => x | k + 1 => xs k,
   fun k => match k with | 0 => w | k + 1 => ws k, c :: cl, fun k => match k with | 0 => tk | k + 1 => tks k, rfl, by simpa using hl, fun k o' hkl hk => ?_, fun k hk => ?_, by rw [e1]; exact hstop, ?_⟩
  ·cases k with
   | zero =>
    simp at hk
    subst hk
    rw [h0.symm] at hstep
    exact hstep
   | succ k =>
    rw [List.getElem?_cons_succ] at hk
    have := hst k o' (by simpa using hkl) hk
    rw [Nat.add_assoc, Nat.add_comm 1 k] at this
    exact this
  ·cases k with
   | zero => exact hc7
   | succ k => exact hn7 k (by simpa using hk)
  ·rw [e1]
   have e2 : (c :: cl).reverse ++ fl = cl.reverse ++ c :: fl := by simp
   rw [e2]
   exact hK

end
end Go.Proofs.YtdcljlafookliaaDoor.AB

namespace Go.Proofs.YtdcljlafookliaaDoor.AB
open Go

def nFalse : List Bool → Nat
 | [] => 0
 | true :: l => nFalse l
 | false :: l => nFalse l + 1

theorem nFalse_set : ∀ (l : List Bool) (i : Nat), l[i]? = some false → nFalse l = nFalse (l.set i true) + 1
 | [], i, h => by simp at h
 | true :: l, 0, h => by simp at h
 | false :: l, 0, h => rfl
 | true :: l, i + 1, h => nFalse_set l i (by simpa using h)
 | false :: l, i + 1, h => congrArg (· + 1) (nFalse_set l i (by simpa using h))

theorem nFalse_zero : ∀ (l : List Bool), nFalse l = 0 → ∀ i : Nat, l[i]? ≠ some false
 | [], h, i, hi => by simp at hi
 | true :: l, h, 0, hi => by simp at hi
 | true :: l, h, i + 1, hi => nFalse_zero l h i (by simpa using hi)
 | false :: l, h, i, hi => by simp [nFalse] at h

theorem nFalse_replicate : ∀ n, nFalse (List.replicate n false) = n
 | 0 => rfl
 | n + 1 => congrArg (· + 1) (nFalse_replicate n)

def dstAt (ops : Array Oper) (j : Nat) : Option Nat := (ops[j]?).bind (·.dst)

def Cut (n : Nat) (S p : Nat → Prop) (m : Nat) : Prop := m ≤ n ∧ (∀ j, j < m → p j → S j) ∧ (∀ j, m ≤ j → p j → ¬ S j)

def Lst (listed : Array Bool) (j : Nat) : Prop := listed.getD j false = true

theorem lst_set {listed : Array Bool} {i j : Nat} (hi : i < listed.size) : Lst (listed.setIfInBounds i true) j ↔ j = i ∨ Lst listed j := by
 unfold Lst
 by_cases h : i = j
 ·subst h
  simp [Array.getD_eq_getD_getElem?, Array.getElem?_setIfInBounds, hi]
 ·rw [getD_set_ne false h]
  constructor
  ·exact .inr
  ·rintro (e | e)
   ·exact absurd e.symm h
   ·exact e

section
variable {P : Program} {tt : TT} {Mine : Mn} {G : Gh} {s : St} {a : Act} {w : World} {call : CallP} {mds : Mds} {rid h0 : Nat} {ops : Array Oper} {K : St → Prop}
 {st pr : Nat → St} {x : Nat → TV} {ws : Nat → Bool} {cl rows : List Nat} {tk : Nat → Tok}

abbrev Steps (tt : TT) (call : CallP) (mds : Mds) (rid : Nat) (ops : Array Oper) (st pr : Nat → St) (x : Nat → TV) (ws : Nat → Bool) (cl : List Nat) (tk : Nat → Tok) : Prop :=
 ∀ i o, i < cl.length → ops[i]? = some o → StepOK tt call (mds.at rid i) ops o (st i) (pr i) (st (i + 1)) (x i) (ws i) (cl.getD i 0) (tk i)

theorem steps_len (hsz : cl.length ≤ ops.size) (hst : Steps tt call mds rid ops st pr x ws cl tk) : ∀ m, m ≤ cl.length → (st m).tm.length = (st 0).tm.length
 | 0, _ => rfl
 | m + 1, hm => by
  have ho : ops[m]? = some ops[m] := Array.getElem?_eq_getElem (by omega)
  have h := hst m _ (by omega) ho
  rw [h.tm, ← steps_len hsz hst m (by omega), ← h.len]
  split <;> simp

theorem steps_slot (hsz : cl.length ≤ ops.size) (hst : Steps tt call mds rid ops st pr x ws cl tk) {t m : Nat} : ∀ k, m + k ≤ cl.length → (∀ j, m ≤ j → j < m + k → dstAt ops j ≠ some t) →
  Req ((st m).tm.getD t tu) ((st (m + k)).tm.getD t tu)
 | 0, _, _ => .refl _
 | k + 1, hk, hn => by
  have ho : ops[m + k]? = some ops[m + k] := Array.getElem?_eq_getElem (by omega)
  have h := hst (m + k) _ (by omega) ho
  refine (steps_slot hsz hst k (by omega) fun j h1 h2 => hn j h1 (by omega)).trans ((h.req t).trans ?_)
  rw [← Nat.add_assoc, h.tm]
  have hd := hn (m + k) (by omega) (by omega)
  unfold dstAt at hd
  rw [ho] at hd
  split
  ·rename_i d e
   rw [getD_set, if_neg ?_]
   ·exact .refl _
   ·rintro ⟨rfl, _⟩
    exact hd e
  ·exact .refl _

theorem steps_heap (hsz : cl.length ≤ ops.size) (hst : Steps tt call mds rid ops st pr x ws cl tk) {m : Nat} : ∀ k, m + k ≤ cl.length → (∀ j, m ≤ j → j < m + k → isEf (cl.getD j 0) = false) →
  (st (m + k)).hp = (st m).hp
 | 0, _, _ => rfl
 | k + 1, hk, hn => by
  have ho : ops[m + k]? = some ops[m + k] := Array.getElem?_eq_getElem (by omega)
  have h := (hst (m + k) _ (by omega) ho).calm (hn (m + k) (by omega) (by omega))
  have ih := steps_heap hsz hst k (by omega) fun j h1 h2 => hn j h1 (by omega)
  rw [← Nat.add_assoc, h]
  exact ih

theorem steps_grown (hsz : cl.length ≤ ops.size) (hst : Steps tt call mds rid ops st pr x ws cl tk) {m : Nat} : ∀ k, m + k ≤ cl.length → (∀ j, m ≤ j → j < m + k → isEf (cl.getD j 0) = true → cl.getD j 0 = 6) →
  Grown (st m).hp (st (m + k)).hp
 | 0, _, _ => .refl _
 | k + 1, hk, hn => by
  have ho : ops[m + k]? = some ops[m + k] := Array.getElem?_eq_getElem (by omega)
  have ih := steps_grown hsz hst k (by omega) fun j h1 h2 => hn j h1 (by omega)
  have h := hst (m + k) _ (by omega) ho
  rw [← Nat.add_assoc]
  cases he : isEf (cl.getD (m + k) 0) with
  | false => rw [h.calm he]; exact ih
  | true => exact ih.trans (h.add (hn (m + k) (by omega) (by omega) he))

theorem steps_loc (hsz : cl.length ≤ ops.size) (hst : Steps tt call mds rid ops st pr x ws cl tk) {m : Nat} : ∀ k, m + k ≤ cl.length → (∀ j, m ≤ j → j < m + k → isEf (cl.getD j 0) = true → cl.getD j 0 = 7 ∨ cl.getD j 0 = 9) →
  Loc (st m).hp (st (m + k)).hp
 | 0, _, _ => .refl _
 | k + 1, hk, hn => by
  have ho : ops[m + k]? = some ops[m + k] := Array.getElem?_eq_getElem (by omega)
  have ih := steps_loc hsz hst k (by omega) fun j h1 h2 => hn j h1 (by omega)
  have h := hst (m + k) _ (by omega) ho
  rw [← Nat.add_assoc]
  cases he : isEf (cl.getD (m + k) 0) with
  | false => rw [h.calm he]; exact ih
  | true => exact ih.trans (h.loc7 (hn (m + k) (by omega) (by omega) he))

theorem isEf_iff {c : Nat} : isEf c = true ↔ c = 2 ∨ c = 6 ∨ c = 7 ∨ c = 9 := by
 unfold isEf
 rw [Bool.or_eq_true, Bool.or_eq_true, Bool.or_eq_true]
 constructor
 ·rintro (((h | h) | h) | h)
  ·exact .inl (Nat.eq_of_beq_eq_true h)
  ·exact .inr (.inl (Nat.eq_of_beq_eq_true h))
  ·exact .inr (.inr (.inl (Nat.eq_of_beq_eq_true h)))
  ·exact .inr (.inr (.inr (Nat.eq_of_beq_eq_true h)))
 ·rintro (h | h | h | h) <;> subst h <;> decide

theorem isRd_iff {c : Nat} : isRd c = true ↔ c = 1 ∨ c = 5 ∨ c = 8 := by
 unfold isRd
 rw [Bool.or_eq_true, Bool.or_eq_true]
 constructor
 ·rintro ((h | h) | h)
  ·exact .inl (Nat.eq_of_beq_eq_true h)
  ·exact .inr (.inl (Nat.eq_of_beq_eq_true h))
  ·exact .inr (.inr (Nat.eq_of_beq_eq_true h))
 ·rintro (h | h | h) <;> subst h <;> decide

theorem compat_ef {c c' : Nat} (h : isEf c = true) (h' : isEf c' = true ∨ isRd c' = true) : compat c c' = false := by
 rw [isEf_iff, isRd_iff] at h'
 rw [isEf_iff] at h
 rcases h with h | h | h | h <;> rcases h' with (h' | h' | h' | h') | (h' | h' | h') <;> subst h <;> subst h' <;> decide

theorem compat_ef2 {c c' : Nat} (h : isEf c' = true) (h' : isEf c = true ∨ c = 1) : compat c c' = false := by
 rw [isEf_iff] at h' h
 rcases h with h | h | h | h <;> rcases h' with (h' | h' | h' | h') | h' <;> subst h <;> subst h' <;> decide

theorem compat5 {c : Nat} (h : isEf c = true) (h' : compat 5 c = true) : c = 6 := by
 rw [isEf_iff] at h
 rcases h with h | h | h | h <;> subst h <;> first
  | rfl
  | exact absurd h' (by decide)

theorem compat8 {c : Nat} (h : isEf c = true) (h' : compat 8 c = true) : c = 7 ∨ c = 9 := by
 rw [isEf_iff] at h
 rcases h with h | h | h | h <;> subst h <;> first
  | exact .inl rfl
  | exact .inr rfl
  | exact absurd h' (by decide)

theorem steps_tn (hsz : cl.length ≤ ops.size) (hst : Steps tt call mds rid ops st pr x ws cl tk) {m : Nat} : ∀ k, m + k ≤ cl.length → (st m).T.n ≤ (st (m + k)).T.n
 | 0, _ => Nat.le_refl _
 | k + 1, hk => by
  have ho : ops[m + k]? = some ops[m + k] := Array.getElem?_eq_getElem (by omega)
  have h := hst (m + k) _ (by omega) ho
  have ih := steps_tn hsz hst (m := m) k (by omega)
  rw [← Nat.add_assoc]
  by_cases h4 : cl.getD (m + k) 0 = 4
  ·obtain ⟨_, _, _, _, _, _, _, _, _, e, _⟩ := h.app h4
   rw [e]
   exact Nat.le_succ_of_le ih
  ·rw [h.calmT h4]; exact ih

theorem steps_tn_lt (hsz : cl.length ≤ ops.size) (hst : Steps tt call mds rid ops st pr x ws cl tk) {m m' : Nat} (h : m < m') (hm : m' ≤ cl.length) (h4 : cl.getD m 0 = 4) : (st m).T.n < (st m').T.n := by
 have ho : ops[m]? = some ops[m] := Array.getElem?_eq_getElem (by omega)
 obtain ⟨_, _, _, _, _, _, _, _, _, e, _⟩ := (hst m _ (by omega) ho).app h4
 have := steps_tn hsz hst (m := m + 1) (m' - (m + 1)) (by omega)
 rw [show m + 1 + (m' - (m + 1)) = m' by omega] at this
 rw [e] at this
 exact this

theorem mem_drop {t : Nat} {k : Tok} {l : List Nat} : t ∈ k.drop l ↔ t ∈ l ∧ k ≠ .tk t := by
 cases k with
 | no => simp [Tok.drop]
 | exact => simp [Tok.drop]
 | tk n =>
  simp only [Tok.drop, List.mem_filter, ne_eq, decide_eq_true_eq, Tok.tk.injEq]
  exact and_congr_right fun _ => ⟨fun h e => h e.symm, fun h e => h e.symm⟩

def Mem (st : Nat → St) (tk : Nat → Tok) (cl : List Nat) (n : Nat) (S : Nat → Prop) (t : Nat) : Prop :=
 (t ∈ (st 0).T.l ∨ ∃ j, j < n ∧ cl.getD j 0 = 4 ∧ S j ∧ t = (st j).T.n) ∧ ∀ j, j < n → cl.getD j 0 = 4 → S j → tk j ≠ .tk t

theorem steps_tl (hsz : cl.length ≤ ops.size) (hst : Steps tt call mds rid ops st pr x ws cl tk) (h0 : ∀ t ∈ (st 0).T.l, t < (st 0).T.n) : ∀ m, m ≤ cl.length →
  (∀ t ∈ (st m).T.l, t < (st m).T.n) ∧ ∀ t, t ∈ (st m).T.l → Mem st tk cl cl.length (fun j => j < m) t
 | 0, _ => ⟨h0, fun t ht => ⟨.inl ht, fun j _ _ h => absurd h (Nat.not_lt_zero _)⟩⟩
 | m + 1, hm => by
  obtain ⟨ih1, ih2⟩ := steps_tl hsz hst h0 m (by omega)
  have ho : ops[m]? = some ops[m] := Array.getElem?_eq_getElem (by omega)
  have h := hst m _ (by omega) ho
  have grow : ∀ t, Mem st tk cl cl.length (fun j => j < m) t → (cl.getD m 0 = 4 → tk m ≠ .tk t) → Mem st tk cl cl.length (fun j => j < m + 1) t := by
   rintro t ⟨h1, h2⟩ h3
   refine ⟨h1.imp id fun ⟨j, a, b, c, d⟩ => ⟨j, a, b, Nat.lt_succ_of_lt c, d⟩, fun j a b c => ?_⟩
   rcases Nat.lt_or_ge j m with h' | h'
   ·exact h2 j a b h'
   ·have : j = m := by omega
    subst this; exact h3 b
  by_cases h4 : cl.getD m 0 = 4
  ·obtain ⟨_, _, _, _, _, _, _, hown, _, e, _⟩ := h.app h4
   rw [e]
   have hlt : ∀ j, j ≤ m → cl.getD j 0 = 4 → tk j ≠ .tk (st m).T.n := by
    intro j hj hj4 he
    have hoj : ops[j]? = some ops[j] := Array.getElem?_eq_getElem (by omega)
    obtain ⟨_, _, _, _, _, _, _, hownj, _, _, _⟩ := (hst j _ (by omega) hoj).app hj4
    rw [he] at hownj
    have h1 := (steps_tl hsz hst h0 j (by omega)).1 _ hownj
    have h2 := steps_tn hsz hst (m := j) (m - j) (by omega)
    rw [show j + (m - j) = m by omega] at h2
    omega
   refine ⟨fun t ht => ?_, fun t ht => ?_⟩
   ·rcases List.mem_cons.1 ht with rfl | ht
    ·exact Nat.lt_succ_self _
    ·exact Nat.lt_succ_of_lt (ih1 t (mem_drop.1 ht).1)
   ·rcases List.mem_cons.1 ht with rfl | ht
    ·exact ⟨.inr ⟨m, hm, h4, Nat.lt_succ_self m, rfl⟩, fun j _ b c => hlt j (by omega) b⟩
    ·exact grow t (ih2 t (mem_drop.1 ht).1) fun _ => (mem_drop.1 ht).2
  ·rw [h.calmT h4]
   exact ⟨ih1, fun t ht => grow t (ih2 t ht) fun e => absurd e h4⟩
 termination_by m => m

theorem steps_T (hsz : cl.length ≤ ops.size) (hst : Steps tt call mds rid ops st pr x ws cl tk) (h4 : ∀ j, j < cl.length → cl.getD j 0 ≠ 4) : ∀ m, m ≤ cl.length → (st m).T = (st 0).T
 | 0, _ => rfl
 | m + 1, hm => by
  have ho : ops[m]? = some ops[m] := Array.getElem?_eq_getElem (by omega)
  rw [(hst m _ (by omega) ho).calmT (h4 m (by omega))]
  exact steps_T hsz hst h4 m (by omega)

theorem slot_between (hsz : cl.length ≤ ops.size) (hst : Steps tt call mds rid ops st pr x ws cl tk) {t m m' : Nat} (hm : m ≤ cl.length) (hm' : m' ≤ cl.length)
  (h1 : ∀ j, m ≤ j → j < m' → dstAt ops j ≠ some t) (h2 : ∀ j, m' ≤ j → j < m → dstAt ops j ≠ some t) : Req ((st m).tm.getD t tu) ((st m').tm.getD t tu) := by
 rcases Nat.le_total m m' with h | h
 ·obtain ⟨k, rfl⟩ := Nat.le.dest h
  exact steps_slot hsz hst k hm' h1
 ·obtain ⟨k, rfl⟩ := Nat.le.dest h
  exact (steps_slot hsz hst k hm h2).symm

theorem heap_between (hsz : cl.length ≤ ops.size) (hst : Steps tt call mds rid ops st pr x ws cl tk) {m m' : Nat} (hm : m ≤ cl.length) (hm' : m' ≤ cl.length)
  (h1 : ∀ j, m ≤ j → j < m' → isEf (cl.getD j 0) = false) (h2 : ∀ j, m' ≤ j → j < m → isEf (cl.getD j 0) = false) : (st m).hp = (st m').hp := by
 rcases Nat.le_total m m' with h | h
 ·obtain ⟨k, rfl⟩ := Nat.le.dest h
  exact (steps_heap hsz hst k hm' h1).symm
 ·obtain ⟨k, rfl⟩ := Nat.le.dest h
  exact steps_heap hsz hst k hm h2

def TokI (st : Nat → St) (tk : Nat → Tok) (cl : List Nat) (n : Nat) (S : Nat → Prop) (T' : Toks) (G' : Gh) : Prop :=
 ((∀ j, j < n → cl.getD j 0 ≠ 4) ∧ T' = (st 0).T) ∨
 ((st n).T.n < T'.n ∧ (∀ t, Mem st tk cl n S t → t ∈ T'.l) ∧ (∃ y, G'.tok (st n).T.n = some y) ∧ (∀ j, j < n → cl.getD j 0 = 4 → ¬ S j → G'.tok (st j).T.n = none) ∧ ¬ ∀ j, j < n → cl.getD j 0 ≠ 4)

def DI (Mine : Mn) (G : Gh) (h0 : Nat) (w0 : World) (ops : Array Oper) (st : Nat → St) (cl : List Nat) (tk : Nat → Tok) (S : Nat → Prop) (a : Act) (w : World) : Prop :=
 ∃ c m G' T', Rel Mine G' ⟨c, (st m).hp, T'⟩ a w ∧ Cut cl.length S (fun j => isEf (cl.getD j 0) = true) m ∧ c.length = (st 0).tm.length ∧
  (∀ t, ∃ m, Cut cl.length S (fun j => dstAt ops j = some t) m ∧ Req (c.getD t tu) ((st m).tm.getD t tu)) ∧ Fz G G' ∧ Lc h0 G G' ∧ h0 ≤ (st m).hp.length ∧ Stp Mine w0 w ∧ TokI st tk cl cl.length S T' G'

theorem Inv.toks' {hp : Hp} {T : Toks} (h : Inv Mine G hp T w) {m : Nat} {l : List Nat} (hm : T.n ≤ m) (hl : ∀ t ∈ l, t ∈ T.l) : Inv Mine G hp ⟨m, l⟩ w :=
 ⟨h.cells, h.mps, h.objs, h.inj, fun t ht => h.toks t (hl t ht), fun t ht => h.tobj t (hl t ht), fun t ht t' ht' => h.tinj t (hl t ht) t' (hl t' ht'), h.lb, h.gens,
  fun n hn => h.tfin n (Nat.le_trans hm hn), h.mine, h.old⟩

def Gh.copyTok (G : Gh) (k n : Nat) : Gh := { G with tok := fun t => if t = n then G.tok k else G.tok t }

theorem copy_f0 {k n : Nat} (hn : G.tok n = none) : Fz0 G (G.copyTok k n) := by
 refine ⟨fun _ _ _ h => h, fun _ _ h => h, fun t y h => ?_⟩
 simp only [Gh.copyTok]
 rw [if_neg (fun e => by subst e; rw [hn] at h; cases h)]; exact h

theorem Inv.copyTok {hp : Hp} {m k n : Nat} {l : List Nat} (h : Inv Mine G hp ⟨m, k :: l⟩ w) (hn : G.tok n = none) (hnm : n < m) (hk : k ∉ l) : Inv Mine (G.copyTok k n) hp ⟨m, n :: l⟩ w := by
 have hf := copy_f0 (k := k) hn
 have hne : ∀ t ∈ k :: l, t ≠ n := by
  intro t ht e
  subst e
  obtain ⟨_, _, _, h1, _⟩ := h.toks t ht
  rw [hn] at h1; cases h1
 have hold : ∀ t ∈ k :: l, (G.copyTok k n).tok t = G.tok t := fun t ht => by simp only [Gh.copyTok]; rw [if_neg (hne t ht)]
 have hnew : (G.copyTok k n).tok n = G.tok k := by simp [Gh.copyTok]
 refine ⟨h.cells, h.mps, fun i o hi => (h.objs i o hi).keep h.lb hf (.refl _ _) (fun b _ => ⟨rfl, id⟩), h.inj, ?_, ?_, ?_, h.lb, h.gens, fun t ht => ?_, h.mine, h.old⟩
 ·intro t ht
  rcases List.mem_cons.1 ht with rfl | ht
  ·rw [hnew]; exact h.toks k (List.mem_cons_self ..)
  ·rw [hold t (List.mem_cons_of_mem _ ht)]; exact h.toks t (List.mem_cons_of_mem _ ht)
 ·intro t ht i o b e c h1 h2 h3
  rcases List.mem_cons.1 ht with rfl | ht
  ·rw [hnew] at h1; exact h.tobj k (List.mem_cons_self ..) i o b e c h1 h2 h3
  ·rw [hold t (List.mem_cons_of_mem _ ht)] at h1; exact h.tobj t (List.mem_cons_of_mem _ ht) i o b e c h1 h2 h3
 ·intro t ht t' ht' hne' b e c e' c' h1 h2
  rcases List.mem_cons.1 ht with p | p
  ·rcases List.mem_cons.1 ht' with q | q
   ·exact hne' (p.trans q.symm)
   ·rw [p, hnew] at h1; rw [hold t' (List.mem_cons_of_mem _ q)] at h2
    exact h.tinj k (List.mem_cons_self ..) t' (List.mem_cons_of_mem _ q) (fun e => hk (e ▸ q)) b e c e' c' h1 h2
  ·rcases List.mem_cons.1 ht' with q | q
   ·rw [q, hnew] at h2; rw [hold t (List.mem_cons_of_mem _ p)] at h1
    exact h.tinj t (List.mem_cons_of_mem _ p) k (List.mem_cons_self ..) (fun e => hk (e ▸ p)) b e c e' c' h1 h2
   ·rw [hold t (List.mem_cons_of_mem _ p)] at h1; rw [hold t' (List.mem_cons_of_mem _ q)] at h2
    exact h.tinj t (List.mem_cons_of_mem _ p) t' (List.mem_cons_of_mem _ q) hne' b e c e' c' h1 h2
 ·simp only [Gh.copyTok]
  rw [if_neg (by have : m ≤ t := ht; omega)]; exact h.tfin t ht

theorem rel_getD {c : List TV} {hp : Hp} {T : Toks} (hr : Rel Mine G ⟨c, hp, T⟩ a w) (t : Nat) : TR G (c.getD t tu) (a.tmps.getD t Go.undef) := by
 simp only [List.getD]
 cases h : c[t]? with
 | none => exact TR.undef _
 | some y => exact hr.tm t y h

def seen (l : List Nat) (c p : List TV) : List TV := (List.range c.length).map fun t => if l.contains t then p.getD t tu else c.getD t tu

theorem seen_length (l : List Nat) (c p : List TV) : (seen l c p).length = c.length := by simp [seen]

theorem seen_getD {l : List Nat} {c p : List TV} (hl : p.length = c.length) (t : Nat) : (seen l c p).getD t tu = if l.contains t then p.getD t tu else c.getD t tu := by
 rcases Nat.lt_or_ge t c.length with h | h
 ·simp [seen, List.getD, List.getElem?_map, List.getElem?_range h]
 ·have h1 : (seen l c p).getD t tu = tu := by
   simp only [List.getD]; rw [List.getElem?_eq_none (by rw [seen_length]; exact h)]; rfl
  have h2 : p.getD t tu = tu := by simp only [List.getD]; rw [List.getElem?_eq_none (by omega)]; rfl
  have h3 : c.getD t tu = tu := by simp only [List.getD]; rw [List.getElem?_eq_none h]; rfl
  rw [h1, h2, h3]; split <;> rfl

theorem seen_rel {l : List Nat} {c p : List TV} {hp : Hp} {T : Toks} (hl : p.length = c.length) (hr : Rel Mine G ⟨c, hp, T⟩ a w)
  (hq : ∀ t, l.contains t = true → Req (c.getD t tu) (p.getD t tu)) : Rel Mine G ⟨seen l c p, hp, T⟩ a w := by
 refine ⟨by rw [← hr.len]; exact seen_length _ _ _, fun t x hx => ?_, hr.defers, hr.inv⟩
 have hx' : (seen l c p).getD t tu = x := by simp only [List.getD]; rw [hx]; rfl
 rw [seen_getD hl] at hx'
 have h := rel_getD hr t
 split at hx'
 ·rename_i hc
  rw [← hx']; exact (hq t hc _ _).1 h
 ·rw [← hx']; exact h

theorem drawn_step (htt : TTOK P tt) (hcs : CallS P call) (hsz : cl.length ≤ ops.size) (hst : Steps tt call mds rid ops st pr x ws cl tk) (hD : DrawS ops cl rows cl.length) {w0 : World} {i : Nat} {o : Oper}
  {S : Nat → Prop} {Q : Exit → Act → World → Prop} {next : Act → World → Prop} (hin : i < cl.length) (h7 : ∀ j, j < cl.length → cl.getD j 0 = 7 → S j) (hSn : ∀ j, S j → j < cl.length) (ho : ops[i]? = some o) (hS : Closed ops S) (hi : ¬ S i)
  (hpre : ∀ e ∈ o.after, Region.binds .any e = true → S e.on) (hbase : ∀ t, (st 0).T.n ≤ t → G.tok t = none) (htl0 : ∀ t ∈ (st 0).T.l, t < (st 0).T.n) (h : DI Mine G h0 w0 ops st cl tk S a w)
  (hn : ∀ a w, DI Mine G h0 w0 ops st cl tk (fun j => j = i ∨ S j) a w → next a w) : wpOp P ops Q i next a w := by
 have hstep := hst i o hin ho
 have hc7 : cl.getD i 0 ≠ 7 := fun e => hi (h7 i hin e)
 -- nothing that is not bound to this one stands between
 have before : ∀ j oj, j < i → ops[j]? = some oj → ¬ S j → oj.apart ops o = true ∧ compat (cl.getD j 0) (cl.getD i 0) = true := by
  intro j oj hj hoj hnS
  rcases hD.pair j i oj o hj hin hoj ho with hb | hb
  ·refine absurd ?_ hnS
   cases hrow : rows[i]? with
   | none => simp [List.getD, hrow] at hb
   | some row =>
    have hb : Nat.testBit row j = true := by simpa [List.getD, hrow] using hb
    exact hD.row i row hrow S o hS ho hpre j hb
  ·exact hb
 have after : ∀ j oj, i < j → ops[j]? = some oj → S j → o.apart ops oj = true ∧ compat (cl.getD i 0) (cl.getD j 0) = true := by
  intro j oj hj hoj hSj
  have hjn : j < cl.length := hSn j hSj
  rcases hD.pair i j o oj hj hjn ho hoj with hb | hb
  ·refine absurd ?_ hi
   cases hrow : rows[j]? with
   | none => simp [List.getD, hrow] at hb
   | some row =>
    have hb : Nat.testBit row i = true := by simpa [List.getD, hrow] using hb
    exact hD.row j row hrow S oj hS hoj (fun e he hbi => hS j oj hSj hoj e he hbi) i hb
  ·exact hb
 have dst_of : ∀ {j t : Nat}, dstAt ops j = some t → ∃ oj, ops[j]? = some oj ∧ oj.dst = some t := by
  intro j t hd
  unfold dstAt at hd
  cases hj : ops[j]? with
  | none => rw [hj] at hd; cases hd
  | some oj => rw [hj] at hd; exact ⟨oj, rfl, hd⟩
 obtain ⟨c, m, G', T', hr, hcut, hclen, hslots, hfz, hlc, hh, hstp, hti⟩ := h
 have hprlen : (pr i).tm.length = c.length := by rw [hstep.len, steps_len hsz hst i (by omega), hclen]
 have hlook : ∀ t, t ∈ o.looksAt ops → Req (c.getD t tu) ((pr i).tm.getD t tu) := by
  intro t ht
  obtain ⟨mt, ⟨hmt, hc1, hc2⟩, hreq⟩ := hslots t
  refine hreq.trans ((slot_between hsz hst hmt (by omega) ?_ ?_).trans (hstep.req t))
  ·intro j h1 h2 hd
   obtain ⟨oj, hoj, hdj⟩ := dst_of hd
   have := (before j oj h2 hoj (hc2 j h1 hd)).1
   exact (Oper.apart_spec this).1 t hdj ht
  ·intro j h1 h2 hd
   obtain ⟨oj, hoj, hdj⟩ := dst_of hd
   have hSj := hc1 j h2 hd
   rcases Nat.lt_or_ge i j with hlt | hge
   ·have := (after j oj hlt hoj hSj).1
    exact (Oper.apart_spec this).2.2 t hdj ht
   ·have : j = i := by omega
    subst this; exact hi hSj
 have hr1 := seen_rel (l := o.looksAt ops) (p := (pr i).tm) hprlen hr (fun t ht => hlook t (by simpa using ht))
 have hseq : ∀ t, Req ((seen (o.looksAt ops) c (pr i).tm).getD t tu) (c.getD t tu) := by
  intro t
  rw [seen_getD hprlen]
  split
  ·rename_i hc
   exact (hlook t (by simpa using hc)).symm
  ·exact .refl _
 have hev : EvEq tt o (pr i) ⟨seen (o.looksAt ops) c (pr i).tm, (st m).hp, T'⟩ := by
  intro ty z hz
  cases z with
  | tmp t =>
   have : t ∈ o.looksAt ops := List.mem_append_left _ (List.mem_filterMap.2 ⟨.tmp t, by simpa using hz, rfl⟩)
   show (seen (o.looksAt ops) c (pr i).tm).getD t tu = (pr i).tm.getD t tu
   rw [seen_getD hprlen, if_pos (by simpa using this)]
  | _ => rfl
 have hwant : Region.wanted o (yielded ops a.tmps) = ws i := by
  unfold Region.wanted
  cases hg : o.guard with
  | none => exact (hstep.free hg).symm
  | some jw =>
   obtain ⟨j, want⟩ := jw
   obtain ⟨t, b, h1, h2⟩ := hstep.guard j want hg
   have ht : t ∈ o.looksAt ops := List.mem_append_right _ (by simp [hg, h1])
   have h4 := (hlook t ht _ _).1 (rel_getD hr t)
   rcases h2 with ⟨h2, h3⟩ | ⟨h2, h3⟩
   ·rw [h2] at h4
    have h5 : a.tmps.getD t Go.undef = .bool b := by
     generalize a.tmps.getD t Go.undef = u at h4
     cases b <;> cases h4 with
     | v _ _ h4 => cases h4; rfl
    dsimp only
    rw [yielded_of h1 h5, h3]
    cases b <;> cases want <;> rfl
   ·rw [h2] at h4
    have h5 : a.tmps.getD t Go.undef = Go.undef := by
     generalize a.tmps.getD t Go.undef = u at h4
     cases h4 with
     | v _ _ h4 =>
      cases h4 with
      | tup _ vs hl h => cases vs with
       | nil => rfl
       | cons _ _ => simp at hl
    dsimp only
    rw [yielded_gone h1 h5, h3]
    cases want <;> rfl
 -- the slots behind it
 have slots : ∀ (c' : List TV), (∀ t, c'.getD t tu = match o.dst with
   | some d => if d = t ∧ d < c.length then x i else (seen (o.looksAt ops) c (pr i).tm).getD t tu
   | none => (seen (o.looksAt ops) c (pr i).tm).getD t tu) →
   ∀ t, ∃ m, Cut cl.length (fun j => j = i ∨ S j) (fun j => dstAt ops j = some t) m ∧ Req (c'.getD t tu) ((st m).tm.getD t tu) := by
  intro c' hc' t
  by_cases hd : o.dst = some t
  ·refine ⟨i + 1, ⟨hin, fun j hj hdj => ?_, fun j hj hdj => ?_⟩, ?_⟩
   ·by_cases hji : j = i
    ·exact .inl hji
    ·refine .inr (Classical.byContradiction fun hnS => ?_)
     obtain ⟨oj, hoj, hdj⟩ := dst_of hdj
     exact (Oper.apart_spec (before j oj (by omega) hoj hnS).1).2.1 t hdj hd
   ·rintro (e | hSj)
    ·omega
    ·obtain ⟨oj, hoj, hdj⟩ := dst_of hdj
     exact (Oper.apart_spec (after j oj (by omega) hoj hSj).1).2.1 t hd hdj
   ·rw [hc', hd, hstep.tm, hd]
    dsimp only
    rw [getD_set, hprlen]
    split
    ·exact .refl _
    ·rename_i hnl
     have hge : c.length ≤ t := by
      rcases Nat.lt_or_ge t c.length with h | h
      ·exact absurd ⟨rfl, h⟩ hnl
      ·exact h
     have h1 : (seen (o.looksAt ops) c (pr i).tm).getD t tu = tu := by
      simp only [List.getD]; rw [List.getElem?_eq_none (by rw [seen_length]; exact hge)]; rfl
     have h2 : (pr i).tm.getD t tu = tu := by simp only [List.getD]; rw [List.getElem?_eq_none (by omega)]; rfl
     rw [h1, h2]; exact .refl _
  ·obtain ⟨mt, ⟨hmt, hc1, hc2⟩, hreq⟩ := hslots t
   refine ⟨mt, ⟨hmt, fun j hj hdj => .inr (hc1 j hj hdj), fun j hj hdj => ?_⟩, ?_⟩
   ·rintro (e | hSj)
    ·subst e
     obtain ⟨oj, hoj, hdj⟩ := dst_of hdj
     rw [ho] at hoj; cases hoj
     exact hd hdj
    ·exact hc2 j hj hdj hSj
   ·have : c'.getD t tu = (seen (o.looksAt ops) c (pr i).tm).getD t tu := by
     rw [hc']
     split
     ·rename_i d e
      rw [if_neg]
      rintro ⟨rfl, _⟩
      exact hd e
     ·rfl
    rw [this]
    exact (hseq t).trans hreq
 -- the tokens behind an operation that appends nothing
 have tiSame : cl.getD i 0 ≠ 4 → ∀ {G1 : Gh}, Fz G' G1 → TokI st tk cl cl.length (fun j => j = i ∨ S j) T' G1 := by
  intro hne G1 hf
  rcases hti with hA | ⟨b1, b2, ⟨y, b3⟩, b4, b5⟩
  ·exact .inl hA
  ·refine .inr ⟨b1, fun t ⟨h1, h2⟩ => b2 t ⟨h1.imp id fun ⟨j, p, q, r, e⟩ => ⟨j, p, q, ?_, e⟩, fun j p q r => h2 j p q (.inr r)⟩, ⟨y, hf.tok _ _ b3⟩, fun j p q r => ?_, b5⟩
   ·rcases r with rfl | r
    ·exact absurd q hne
    ·exact r
   ·exact hf.hole _ _ y (steps_tn_lt hsz hst p (Nat.le_refl _) q) b3 (b4 j p q fun h => r (.inr h))
 have cutSame : isEf (cl.getD i 0) = false → Cut cl.length (fun j => j = i ∨ S j) (fun j => isEf (cl.getD j 0) = true) m := by
  intro hne
  refine ⟨hcut.1, fun j h1 h2 => .inr (hcut.2.1 j h1 h2), fun j h1 h2 => ?_⟩
  rintro (e | hSj)
  ·subst e; exact absurd h2 (by simp only [hne]; decide)
  ·exact hcut.2.2 j h1 h2 hSj
 have putget : ∀ (v : TV) (t : Nat), ((match o.dst with
   | some d => (seen (o.looksAt ops) c (pr i).tm).set d v
   | none => seen (o.looksAt ops) c (pr i).tm) : List TV).getD t tu = match o.dst with
   | some d => if d = t ∧ d < c.length then v else (seen (o.looksAt ops) c (pr i).tm).getD t tu
   | none => (seen (o.looksAt ops) c (pr i).tm).getD t tu := by
  intro v t
  split
  ·rw [getD_set, seen_length]
  ·rfl
 unfold wpOp
 rw [ho]
 dsimp only
 rw [hwant]
 cases hw : ws i with
 | false =>
  rw [if_neg Bool.false_ne_true]
  obtain ⟨hx, hc0⟩ := hstep.skip hw
  have hrel := hr1.put (d := o.dst) (x := tg) (y := Go.undef) (s' := ⟨seen (o.looksAt ops) c (pr i).tm, (st m).hp, T'⟩) TR.gone rfl hr1.inv (.refl _) (.refl _ _)
  refine hn _ _ ⟨(match o.dst with
   | some d => (seen (o.looksAt ops) c (pr i).tm).set d tg
   | none => seen (o.looksAt ops) c (pr i).tm), m, G', T', ?_, cutSame (by rw [hc0]; rfl), ?_, slots _ (by rw [hx]; exact putget tg), hfz, hlc, hh, hstp, tiSame (by rw [hc0]; decide) (.refl _)⟩
  ·cases hd : o.dst <;> rw [hd] at hrel <;> exact hrel
  ·split <;> simp [seen_length, hclen]
 | true =>
  rw [if_pos rfl]
  refine .inl ?_
  have heapAt : (cl.getD i 0 = 1 ∨ isEf (cl.getD i 0) = true) → (st m).hp = (st i).hp := by
   intro hne
   have no1 : ∀ c, isEf c = true → compat c (cl.getD i 0) = false := by
    intro c hc
    rcases hne with e | e
    ·exact compat_ef hc (.inr (by rw [e]; decide))
    ·exact compat_ef hc (.inl e)
   have no2 : ∀ c, isEf c = true → compat (cl.getD i 0) c = false := by
    intro c hc
    rcases hne with e | e
    ·exact compat_ef2 hc (.inr e)
    ·exact compat_ef2 hc (.inl e)
   refine heap_between hsz hst hcut.1 (by omega) (fun j h1 h2 => ?_) (fun j h1 h2 => ?_)
   ·cases h3 : isEf (cl.getD j 0) with
    | false => rfl
    | true =>
     have hjn : j < cl.length := by omega
     have := (before j _ h2 (Array.getElem?_eq_getElem (show j < ops.size by omega)) (hcut.2.2 j h1 h3)).2
     rw [no1 _ h3] at this
     cases this
   ·cases h3 : isEf (cl.getD j 0) with
    | false => rfl
    | true =>
     have hSj := hcut.2.1 j h2 h3
     have hji : j ≠ i := fun e => hi (e ▸ hSj)
     have hjn : j < cl.length := by have := hcut.1; omega
     have := (after j _ (by omega) (Array.getElem?_eq_getElem (show j < ops.size by omega)) hSj).2
     rw [no2 _ h3] at this
     cases this
  have heapGrown : cl.getD i 0 = 5 → Grown (st i).hp (st m).hp := by
   intro h5
   have hni : isEf (cl.getD i 0) = false := by rw [h5]; rfl
   rcases Nat.le_total m i with h | h
   ·have : (st m).hp = (st i).hp := by
     refine heap_between hsz hst hcut.1 (by omega) (fun j h1 h2 => ?_) (fun j h1 h2 => by omega)
     cases h3 : isEf (cl.getD j 0) with
     | false => rfl
     | true =>
      have hjn : j < cl.length := by omega
      have := (before j _ h2 (Array.getElem?_eq_getElem (show j < ops.size by omega)) (hcut.2.2 j h1 h3)).2
      rw [h5, compat_ef h3 (.inr (by decide))] at this
      cases this
    rw [this]; exact .refl _
   ·obtain ⟨k, rfl⟩ := Nat.le.dest h
    refine steps_grown hsz hst k hcut.1 fun j h1 h2 h3 => ?_
    have hSj := hcut.2.1 j h2 h3
    have hji : j ≠ i := fun e => hi (e ▸ hSj)
    have hjn : j < cl.length := by have := hcut.1; omega
    have := (after j _ (by omega) (Array.getElem?_eq_getElem (show j < ops.size by omega)) hSj).2
    rw [h5] at this
    exact compat5 h3 this
  have heapLoc : cl.getD i 0 = 8 → Loc (st i).hp (st m).hp := by
   intro h8
   have hni : isEf (cl.getD i 0) = false := by rw [h8]; rfl
   rcases Nat.le_total m i with h | h
   ·have : (st m).hp = (st i).hp := by
     refine heap_between hsz hst hcut.1 (by omega) (fun j h1 h2 => ?_) (fun j h1 h2 => by omega)
     cases h3 : isEf (cl.getD j 0) with
     | false => rfl
     | true =>
      have hjn : j < cl.length := by omega
      have := (before j _ h2 (Array.getElem?_eq_getElem (show j < ops.size by omega)) (hcut.2.2 j h1 h3)).2
      rw [h8, compat_ef h3 (.inr (by decide))] at this
      cases this
    rw [this]; exact .refl _
   ·obtain ⟨k, rfl⟩ := Nat.le.dest h
    refine steps_loc hsz hst k hcut.1 fun j h1 h2 h3 => ?_
    have hSj := hcut.2.1 j h2 h3
    have hji : j ≠ i := fun e => hi (e ▸ hSj)
    have hjn : j < cl.length := by have := hcut.1; omega
    have := (after j _ (by omega) (Array.getElem?_eq_getElem (show j < ops.size by omega)) hSj).2
    rw [h8] at this
    exact compat8 h3 this
  have hlen' : ∀ (v : TV), ((match o.dst with
   | some d => (seen (o.looksAt ops) c (pr i).tm).set d v
   | none => seen (o.looksAt ops) c (pr i).tm) : List TV).length = (st 0).tm.length := by
   intro v
   split <;> simp [seen_length, hclen]
  by_cases hc4 : cl.getD i 0 = 4
  ·obtain ⟨z, cd, l0, cd', l, hz, hzv, hown, hx, hT1, hrun4⟩ := hstep.app hc4
   rcases hti with ⟨hA, _⟩ | ⟨b1, b2, ⟨y, b3⟩, b4, b5⟩
   ·exact absurd hc4 (hA i hin)
   have htl := steps_tl hsz hst htl0
   -- the list is ours
   have hown' : (tk i).own T'.l := by
    cases hk : tk i with
    | no => rw [hk] at hown; exact hown
    | exact => trivial
    | tk k =>
     rw [hk] at hown hzv
     obtain ⟨m1, m2⟩ := (htl i (by omega)).2 k hown
     have htr := hr1.ev (tt := tt) 0 z
     rw [hev 0 z hz, hzv] at htr
     have hsome : ∃ q, G'.tok k = some q := by
      generalize a.eval z = u at htr
      cases htr with
      | v _ _ htr => cases htr with
       | list _ _ _ _ _ _ _ _ _ _ _ _ _ ht => obtain ⟨bo, e, _⟩ := ht; exact ⟨_, e⟩
     obtain ⟨q, hq⟩ := hsome
     have k1 : k ∈ (st 0).T.l ∨ ∃ j, j < cl.length ∧ cl.getD j 0 = 4 ∧ S j ∧ k = (st j).T.n := by
      rcases m1 with m1 | ⟨j, p1, p2, p3, p4⟩
      ·exact .inl m1
      ·refine .inr ⟨j, p1, p2, Classical.byContradiction fun hnS => ?_, p4⟩
       rw [p4, b4 j p1 p2 hnS] at hq; cases hq
     have k2 : ∀ j, j < cl.length → cl.getD j 0 = 4 → S j → tk j ≠ .tk k := by
      intro j p1 p2 p3
      rcases Nat.lt_trichotomy j i with h' | h' | h'
      ·exact m2 j p1 p2 h'
      ·subst h'; exact absurd p3 hi
      ·intro e
       have hoj : ops[j]? = some ops[j] := Array.getElem?_eq_getElem (by omega)
       obtain ⟨_, _, _, _, _, _, _, hownj, _, _, _⟩ := (hst j _ (by omega) hoj).app p2
       rw [e] at hownj
       exact ((htl j (by omega)).2 k hownj).2 i hin hc4 h' hk
     exact b2 k ⟨k1, k2⟩
   have hop := hrun4 ⟨seen (o.looksAt ops) c (pr i).tm, (st m).hp, T'⟩
    (fun y s' => y = .v (.list cd' l (.tk T'.n)) ∧ s' = ⟨seen (o.looksAt ops) c (pr i).tm, (st m).hp, ⟨T'.n + 1, T'.n :: (tk i).drop T'.l⟩⟩) hev hown' ⟨rfl, rfl⟩
   refine aop_sound htt hcs hop hr1 ?_
   rintro y' s' G1 a' w' ⟨rfl, rfl⟩ _ hrel hf hl hlen hs
   have hni : (st i).T.n < (st cl.length).T.n := steps_tn_lt hsz hst hin (Nat.le_refl _) hc4
   have hnone : G1.tok (st i).T.n = none := hf.hole _ _ y hni b3 (b4 i hin hc4 hi)
   have hinv1 : Inv Mine G1 (st m).hp ⟨T'.n + 1, T'.n :: (tk i).drop T'.l⟩ w' := by
    have := hrel.inv
    cases hd : o.dst <;> rw [hd] at this <;> exact this
   have hfresh : T'.n ∉ (tk i).drop T'.l := by
    intro hm
    obtain ⟨_, _, _, e, _⟩ := hr.inv.toks T'.n (mem_drop.1 hm).1
    rw [hr.inv.tfin T'.n (Nat.le_refl _)] at e; cases e
   have hf2 := copy_f0 (k := T'.n) hnone
   refine hn _ _ ⟨(match o.dst with
    | some d => (seen (o.looksAt ops) c (pr i).tm).set d (x i)
    | none => seen (o.looksAt ops) c (pr i).tm), m, G1.copyTok T'.n (st i).T.n, ⟨T'.n + 1, (st i).T.n :: (tk i).drop T'.l⟩, ?_, cutSame (by rw [hc4]; rfl), hlen' _, slots _ (putget _), ?_, ?_, hh, hstp.trans hs, ?_⟩
   ·refine ⟨?_, fun t y hy => ?_, ?_, hinv1.copyTok hnone (by omega) hfresh⟩
    ·have := hrel.len
     cases hd : o.dst <;> rw [hd] at this <;> simpa [St.put] using this
    ·-- the slots
     have hlb : Lb (st m).hp.length G1 := hinv1.lb
     cases hd : o.dst with
     | none =>
      rw [hd] at hy hrel
      exact (hrel.tm t y hy).mono hlb hf2 (.refl _ _)
     | some d =>
      rw [hd] at hy hrel
      by_cases hdt : d = t
      ·subst hdt
       have hdl : d < (seen (o.looksAt ops) c (pr i).tm).length := by
        have := (List.getElem?_eq_some_iff.1 hy).1; simpa using this
       have hy1 : y = x i := by
        rw [List.getElem?_set_self hdl] at hy; cases hy; rfl
       have h1 := hrel.tm d (.v (.list cd' l (.tk T'.n))) (by
        show ((seen (o.looksAt ops) c (pr i).tm).set d _)[d]? = _
        rw [List.getElem?_set_self hdl])
       rw [hy1, hx]
       generalize a'.tmps.getD d Go.undef = u at h1
       cases h1 with
       | v _ _ h1 => cases h1 with
        | list _ _ _ aa cap b oo vals ha hcap hcc ho' hv ht =>
         obtain ⟨bo, e1, e2⟩ := ht
         exact .v _ _ (.list cd' l _ aa cap b oo vals ha hcap hcc ho' (fun j q hq => (hv j q hq).mono hf2) ⟨bo, by simp [Gh.copyTok, e1], e2⟩)
      ·refine (hrel.tm t y ?_).mono hlb hf2 (.refl _ _)
       show ((seen (o.looksAt ops) c (pr i).tm).set d _)[t]? = _
       rw [List.getElem?_set_ne hdt] at hy ⊢
       exact hy
    ·have := hrel.defers
     exact this
   ·have hfz1 := hfz.trans hf
    refine ⟨hfz1.cell, hfz1.mp, fun t q hq => hf2.tok _ _ (hfz1.tok _ _ hq), fun t t' q hlt hq hno => ?_⟩
    have ht' : t' < (st 0).T.n := by
     rcases Nat.lt_or_ge t' (st 0).T.n with h' | h'
     ·exact h'
     ·rw [hbase t' h'] at hq; cases hq
    have h0i := steps_tn hsz hst (m := 0) i (by omega)
    rw [Nat.zero_add] at h0i
    simp only [Gh.copyTok]
    rw [if_neg (by omega)]
    exact hfz1.hole t t' q hlt hq hno
   ·have := hlc.trans (hl.mono hh)
    exact this
   ·refine .inr ⟨Nat.lt_succ_of_lt b1, fun t ⟨h1, h2⟩ => ?_, ⟨y, ?_⟩, fun j p q r => ?_, b5⟩
    ·by_cases hti : t = (st i).T.n
     ·subst hti; exact List.mem_cons_self ..
     ·refine List.mem_cons_of_mem _ (mem_drop.2 ⟨b2 t ⟨h1.imp id fun ⟨j, p1, p2, p3, p4⟩ => ⟨j, p1, p2, ?_, p4⟩, fun j p1 p2 p3 => h2 j p1 p2 (.inr p3)⟩, h2 i hin hc4 (.inl rfl)⟩)
      rcases p3 with rfl | p3
      ·exact absurd p4 hti
      ·exact p3
    ·simp only [Gh.copyTok]
     rw [if_neg (by omega)]; exact hf.tok _ _ b3
    ·have hji : j ≠ i := fun e => r (.inl e)
     have hne : (st j).T.n ≠ (st i).T.n := by
      rcases Nat.lt_or_gt_of_ne hji with h' | h'
      ·have := steps_tn_lt hsz hst h' (by omega) q; omega
      ·have := steps_tn_lt hsz hst h' (by omega) hc4; omega
     simp only [Gh.copyTok]
     rw [if_neg hne]
     exact hf.hole _ _ y (steps_tn_lt hsz hst p (Nat.le_refl _) q) b3 (b4 j p q fun h => r (.inr h))
  cases hc2 : isEf (cl.getD i 0) with
  | true =>
   have e1 := heapAt (.inr hc2)
   have noE : ∀ c c', isEf c = true → isEf c' = true → compat c c' = false := fun c c' h h' => compat_ef h (.inl h')
   have hop := hstep.run hw hc4 hc7 ⟨seen (o.looksAt ops) c (pr i).tm, (st m).hp, T'⟩
    (fun y s' => y = x i ∧ s' = ⟨seen (o.looksAt ops) c (pr i).tm, (st (i + 1)).hp, T'⟩) hev (.inr (.inr (.inr ⟨e1, rfl, rfl⟩)))
   refine aop_sound htt hcs hop hr1 ?_
   rintro y s' G1 a' w' ⟨rfl, rfl⟩ _ hrel hf hl hlen hs
   refine hn _ _ ⟨(match o.dst with
    | some d => (seen (o.looksAt ops) c (pr i).tm).set d (x i)
    | none => seen (o.looksAt ops) c (pr i).tm), i + 1, G1, T', ?_, ⟨hin, fun j h1 h2 => ?_, fun j h1 h2 => ?_⟩, hlen' _, slots _ (putget _), hfz.trans hf, hlc.trans (hl.mono hh), Nat.le_trans hh hlen, hstp.trans hs, tiSame hc4 hf⟩
   ·cases hd : o.dst <;> rw [hd] at hrel <;> exact hrel
   ·by_cases hji : j = i
    ·exact .inl hji
    ·refine .inr (Classical.byContradiction fun hnS => ?_)
     have := (before j _ (by omega) (Array.getElem?_eq_getElem (by omega)) hnS).2
     rw [noE _ _ h2 hc2] at this
     cases this
   ·rintro (e | hSj)
    ·omega
    ·have hjn : j < cl.length := by
      rcases Nat.lt_or_ge j cl.length with h | h
      ·exact h
      ·have := hcut.2.2 j (by have := hcut.1; omega) h2 hSj
       exact this.elim
     have := (after j _ (by omega) (Array.getElem?_eq_getElem (show j < ops.size by omega)) hSj).2
     rw [noE _ _ hc2 h2] at this
     cases this
  | false =>
   have hop : aop tt call (mds.at rid i) o ⟨seen (o.looksAt ops) c (pr i).tm, (st m).hp, T'⟩
    (fun y s' => y = x i ∧ s' = ⟨seen (o.looksAt ops) c (pr i).tm, (st m).hp, T'⟩) := by
    by_cases hc0 : cl.getD i 0 = 0
    ·exact hstep.run hw hc4 hc7 _ _ hev (.inl ⟨hc0, rfl, rfl⟩)
    ·by_cases hc1 : cl.getD i 0 = 1
     ·have e1 := heapAt (.inl hc1)
      have e3 := hstep.calm hc2
      exact hstep.run hw hc4 hc7 _ _ hev (.inr (.inr (.inr ⟨e1, rfl, by rw [e3, e1]⟩)))
     ·by_cases hc5 : cl.getD i 0 = 5
      ·exact hstep.run hw hc4 hc7 _ _ hev (.inr (.inl ⟨hc5, heapGrown hc5, rfl, rfl⟩))
      ·by_cases hc8 : cl.getD i 0 = 8
       ·exact hstep.run hw hc4 hc7 _ _ hev (.inr (.inr (.inl ⟨hc8, heapLoc hc8, rfl, rfl⟩)))
       ·have hne : ¬ isEf (cl.getD i 0) = true := by rw [hc2]; decide
        rw [isEf_iff] at hne
        rcases hstep.few with e | e | e | e | e | e | e <;> omega
   refine aop_sound htt hcs hop hr1 ?_
   rintro y s' G1 a' w' ⟨rfl, rfl⟩ _ hrel hf hl hlen hs
   refine hn _ _ ⟨(match o.dst with
    | some d => (seen (o.looksAt ops) c (pr i).tm).set d (x i)
    | none => seen (o.looksAt ops) c (pr i).tm), m, G1, T', ?_, cutSame hc2, hlen' _, slots _ (putget _), hfz.trans hf, hlc.trans (hl.mono hh), hh, hstp.trans hs, tiSame hc4 hf⟩
   cases hd : o.dst <;> rw [hd] at hrel <;> exact hrel

end
end Go.Proofs.YtdcljlafookliaaDoor.AB

namespace Go.Proofs.YtdcljlafookliaaDoor.AB
open Go

theorem Inv.world {Mine : Mn} {G : Gh} {hp : Hp} {T : Toks} {w w' : World} (h : w'.heap = w.heap) (hi : Inv Mine G hp T w) : Inv Mine G hp T w' := hi.heap h

theorem has4_false : ∀ (l : List Nat), has4 l = false ↔ ∀ c ∈ l, c ≠ 4
 | [] => by simp [has4]
 | c :: l => by
  unfold has4
  cases h : Nat.beq c 4 with
  | true =>
   have := Nat.eq_of_beq_eq_true h
   subst this
   simp
  | false =>
   have h' : c ≠ 4 := fun e => by subst e; cases h
   simp only [has4_false l, List.mem_cons, forall_eq_or_imp]
   exact ⟨fun k => ⟨h', k⟩, fun k => k.2⟩

theorem nFalse_count : ∀ (l : List Bool) (n : Nat), n ≤ l.length → (∀ k, k < n → l[k]? = some true) → (∀ k, n ≤ k → k < l.length → l[k]? = some false) → n + nFalse l = l.length
 | [], n, h, _, _ => by simp at h; subst h; rfl
 | b :: l, 0, _, _, h2 => by
  have := h2 0 (Nat.le_refl _) (by simp)
  simp at this
  subst this
  have := nFalse_count l 0 (Nat.zero_le _) (fun k hk => (Nat.not_lt_zero _ hk).elim) (fun k _ hk => by have := h2 (k + 1) (by omega) (by simpa using hk); simpa using this)
  simp only [nFalse, List.length_cons]
  omega
 | b :: l, n + 1, h, h1, h2 => by
  have := h1 0 (by omega)
  simp at this
  subst this
  have := nFalse_count l n (by simpa using h) (fun k hk => by have := h1 (k + 1) (by omega); simpa using this) (fun k hk hk2 => by have := h2 (k + 1) (by omega) (by simpa using hk2); simpa using this)
  simp only [nFalse, List.length_cons]
  omega

section
variable {P : Program} {tt : TT} {Mine : Mn} {G : Gh} {s : St} {a : Act} {w : World} {call : CallP} {mds : Mds} {rid h0 : Nat} {ops : Array Oper} {K : St → Prop}
 {st pr : Nat → St} {x : Nat → TV} {ws : Nat → Bool} {cl rows : List Nat} {tk : Nat → Tok}

theorem list_mono {ops : Array Oper} {Q Q' : Exit → Act → World → Prop} (h : ∀ e a w, Q e a w → Q' e a w) : ∀ (l : List Oper) (a : Act) (w : World), wpList P ops Q l a w → wpList P ops Q' l a w
 | [], a, w, hw => h _ _ _ hw
 | o :: l, a, w, hw => by
  unfold wpList at hw ⊢
  split
  ·rename_i hwt
   rw [if_pos hwt] at hw
   rcases hw with hw | ⟨h1, a0, w0, h2⟩
   ·exact .inl (oper_monoQ (fun a w hh => list_mono h l a w hh) h hw)
   ·exact .inr ⟨h1, a0, w0, h _ _ _ h2⟩
  ·rename_i hwt
   rw [if_neg hwt] at hw
   exact list_mono h l _ _ hw

theorem dm_wp {o : Oper} (hd : dm o = true) {Q : Exit → Act → World → Prop} (hL : ¬ LetsOut Q) {r : List Oper} (h : wpList P ops Q (o :: r) a w) : wpList P ops Q r a w := by
 obtain ⟨h1, ⟨y, hy⟩, h3, _⟩ := dm_op hd
 unfold wpList at h
 have hw : Region.wanted o (yielded ops a.tmps) = true := by unfold Region.wanted; rw [h3]
 rw [if_pos hw] at h
 rcases h with h | ⟨_, h⟩
 ·unfold Oper.wp at h
  have he : execOp a.eval o = pure (.value (a.eval y)) := by simp [execOp, hy]
  rw [he] at h
  have h : wpList P ops Q r (a.put o.dst (a.eval y)) w := h
  rw [h1] at h
  exact h
 ·exact absurd h hL

theorem tail_any {b : Nat} {Q : Exit → Act → World → Prop} (hT : TailS ops b) (hL : ¬ LetsOut Q) : ∀ (n j fuel : Nat) (listed : Array Bool) (a : Act) (w : World), b ≤ j → j + n = ops.size → nFalse listed.toList = fuel → listed.size = ops.size →
  (∀ k, Lst listed k ↔ k < j ∨ Dm ops k) → Closed ops (Lst listed) → wpList P ops Q (ops.toList.drop j) a w → wpAny P .any ops Q fuel listed a w := by
 intro n
 induction n with
 | zero =>
  intro j fuel listed a w hb hj hf hsz hl hS hw
  have hd : ops.toList.drop j = [] := by rw [List.drop_eq_nil_iff]; simp; omega
  rw [hd] at hw
  have hnil : Region.ready .any ops listed = [] := by
   cases hr : Region.ready .any ops listed with
   | nil => rfl
   | cons i r =>
    have hm : i ∈ Region.ready .any ops listed := by rw [hr]; exact List.mem_cons_self ..
    rw [mem_ready] at hm
    obtain ⟨h1, o, ho, _⟩ := hm
    have hi := (Array.getElem?_eq_some_iff.1 ho).1
    have := (hl i).2 (.inl (by omega))
    unfold Lst at this
    have hi' : i < listed.size := by omega
    simp [Array.getD_eq_getD_getElem?, hi'] at this h1
    rw [this] at h1; cases h1
  cases fuel with
  | zero => exact ⟨hnil, hw⟩
  | succ fuel => exact ⟨fun _ => hw, fun i hm => by rw [hnil] at hm; cases hm⟩
 | succ n ih =>
  intro j fuel listed a w hb hj hf hsz hl hS hw
  have hjs : j < ops.size := by omega
  have hoj : ops[j]? = some ops[j] := Array.getElem?_eq_getElem hjs
  have hdrop : ops.toList.drop j = ops[j] :: ops.toList.drop (j + 1) := by
   rw [List.drop_eq_getElem_cons (by simpa using hjs)]; simp
  rw [hdrop] at hw
  cases hdm : dm ops[j] with
  | true =>
   refine ih (j + 1) fuel listed a w (by omega) (by omega) hf hsz (fun k => (hl k).trans ?_) hS (dm_wp hdm hL hw)
   constructor
   ·rintro (h | h)
    ·exact .inl (by omega)
    ·exact .inr h
   ·rintro (h | h)
    ·rcases Nat.lt_or_ge k j with h' | h'
     ·exact .inl h'
     ·have : k = j := by omega
      subst this
      exact .inr ⟨_, hoj, hdm⟩
    ·exact .inr h
  | false =>
  have hnd : ¬ Dm ops j := by
   rintro ⟨o, ho, hd⟩
   rw [hoj] at ho; cases ho
   rw [hdm] at hd; cases hd
  have hnl : ¬ Lst listed j := fun h => ((hl j).1 h).elim (fun h => absurd h (Nat.lt_irrefl _)) hnd
  have hj' : j < listed.size := by omega
  have hjf : listed.toList[j]? = some false := by
   unfold Lst at hnl
   have hj'' : j < listed.toList.length := by simpa using hj'
   simp [Array.getD_eq_getD_getElem?, hj'] at hnl
   rw [List.getElem?_eq_getElem hj'']
   simpa using hnl
  have hset := nFalse_set _ _ hjf
  obtain ⟨fuel', rfl⟩ : ∃ f, fuel = f + 1 := ⟨nFalse (listed.toList.set j true), by omega⟩
  refine ⟨fun hnil => ?_, fun i hm => ?_⟩
  ·exfalso
   have : j ∈ Region.ready .any ops listed := by
    rw [mem_ready]
    refine ⟨?_, _, hoj, fun e he hbe => ?_⟩
    ·unfold Lst at hnl
     simp [Array.getD_eq_getD_getElem?, hj'] at hnl ⊢
     exact hnl
    ·exact (hl e.on).2 (.inl (hT.edge j _ hb hoj hdm e he hbe))
   rw [hnil] at this
   cases this
  ·rw [mem_ready] at hm
   obtain ⟨h1, o, ho, hpre⟩ := hm
   have hi := (Array.getElem?_eq_some_iff.1 ho).1
   have hi' : i < listed.size := by omega
   have hnS : ¬ Lst listed i := by
    unfold Lst
    simp [Array.getD_eq_getD_getElem?, hi'] at h1 ⊢
    exact h1
   have hdi : dm o = false := by
    cases hd : dm o with
    | false => rfl
    | true => exact absurd ((hl i).2 (.inr ⟨o, ho, hd⟩)) hnS
   have hij : i = j := by
    have hge : j ≤ i := Nat.le_of_not_lt fun h => hnS ((hl i).2 (.inl h))
    rcases Nat.lt_or_ge j i with hlt | hle
    ·have := hT.all i o (by omega) ho hdi _ hS (fun k hk => (hl k).2 (.inr hk)) hpre j hlt
     exact absurd this hnl
    ·omega
   subst hij
   rw [hoj] at ho; cases ho
   have next : ∀ a w, wpList P ops Q (ops.toList.drop (i + 1)) a w → wpAny P .any ops Q fuel' (listed.setIfInBounds i true) a w := by
    intro a w hw
    refine ih (i + 1) _ _ a w (by omega) (by omega) ?_ (by simpa using hsz) (fun k => ?_) ?_ hw
    ·rw [Array.toList_setIfInBounds]; omega
    ·rw [lst_set hi', hl k]
     constructor
     ·rintro (h | h | h)
      ·exact .inl (by omega)
      ·exact .inl (by omega)
      ·exact .inr h
     ·rintro (h | h)
      ·rcases Nat.lt_or_ge k i with h' | h'
       ·exact .inr (.inl h')
       ·exact .inl (by omega)
      ·exact .inr (.inr h)
    ·intro k o' hk ho' e he hbe
     have hk := (lst_set hi').1 hk
     refine (lst_set hi').2 ?_
     rcases hk with rfl | hk
     ·rw [hoj] at ho'; cases ho'
      exact .inr (hpre e he hbe)
     ·exact .inr (hS k o' hk ho' e he hbe)
   unfold wpList at hw
   unfold wpOp
   rw [hoj]
   dsimp only
   split
   ·rename_i hwt
    rw [if_pos hwt] at hw
    rcases hw with hw | hw
    ·exact .inl (oper_monoQ next (fun _ _ _ h => h) hw)
    ·exact .inr hw
   ·rename_i hwt
    rw [if_neg hwt] at hw
    exact next _ _ hw

theorem lift_lets {w0 : World} : ¬ LetsOut (Lift Mine G h0 w0 (seqK K (fun _ _ => False))) := by
 rintro ⟨a, w, s', G', h, _⟩
 exact h

abbrev LstD (listed : Array Bool) (n : Nat) (j : Nat) : Prop := Lst listed j ∧ j < n

theorem DI.ext {w0 : World} {st' : Nat → St} {cl' : List Nat} {tk' : Nat → Tok} {S : Nat → Prop} (h : DI Mine G h0 w0 ops st cl tk S a w) (hn : cl.length ≤ cl'.length) (hst : ∀ k, k ≤ cl.length → st' k = st k)
  (hcl : ∀ j, j < cl.length → cl'.getD j 0 = cl.getD j 0) (hS : ∀ j, S j → j < cl.length) (h4 : ∀ j, j < cl'.length → cl'.getD j 0 ≠ 4) : DI Mine G h0 w0 ops st' cl' tk' S a w := by
 obtain ⟨c, m, G', T', hr, hcut, hclen, hslots, hfz, hlc, hh, hstp, hti⟩ := h
 have h4c : ∀ j, j < cl.length → cl.getD j 0 ≠ 4 := fun j hj => by rw [← hcl j hj]; exact h4 j (by omega)
 have hT : T' = (st 0).T := by
  rcases hti with ⟨_, e⟩ | ⟨_, _, _, _, b5⟩
  ·exact e
  ·exact absurd h4c b5
 refine ⟨c, m, G', T', by rw [hst m hcut.1]; exact hr, ⟨by have := hcut.1; omega, fun j hj hp => ?_, fun j hj hp hSj => ?_⟩, by rw [hst 0 (Nat.zero_le _)]; exact hclen, fun t => ?_, hfz, hlc, by rw [hst m hcut.1]; exact hh, hstp, .inl ⟨h4, by rw [hst 0 (Nat.zero_le _)]; exact hT⟩⟩
 ·have hjc : j < cl.length := by have := hcut.1; omega
  refine hcut.2.1 j hj ?_
  have hp : isEf (cl'.getD j 0) = true := hp
  rw [hcl j hjc] at hp; exact hp
 ·have hjc := hS j hSj
  refine hcut.2.2 j hj ?_ hSj
  have hp : isEf (cl'.getD j 0) = true := hp
  rw [hcl j hjc] at hp; exact hp
 ·obtain ⟨mt, hct, hreq⟩ := hslots t
  exact ⟨mt, ⟨by have := hct.1; omega, hct.2.1, hct.2.2⟩, by rw [hst mt hct.1]; exact hreq⟩

theorem nd_step (htt : TTOK P tt) (hcs : CallS P call) (hcd : CallDet call) (hsz : cl.length < ops.size) (hst : Steps tt call mds rid ops st pr x ws cl tk) (hD : DrawS ops (cl ++ [7]) rows (cl.length + 1)) {w0 : World} {o : Oper}
  {S : Nat → Prop} {Q : Exit → Act → World → Prop} {next : Act → World → Prop} (ho : ops[cl.length]? = some o) (hnd : isNd (mds.at rid cl.length) o = true) (hS : Closed ops S) (hSn : ∀ j, S j → j < cl.length)
  (hpre : ∀ e ∈ o.after, Region.binds .any e = true → S e.on) (h : DI Mine G h0 w0 ops st cl tk S a w) (h4 : ∀ j, j < cl.length → cl.getD j 0 ≠ 4)
  {K1 : TV → St → Prop} (hK : aop tt call (mds.at rid cl.length) o (st cl.length) K1)
  (hn : ∀ a' w' xx s1, K1 xx s1 → s1.tm = (st cl.length).tm → Loc (st cl.length).hp s1.hp → s1.T = (st cl.length).T →
   DI Mine G h0 w0 ops (fun k => if k ≤ cl.length then st k else s1.put o.dst xx) (cl ++ [7]) tk (fun j => j = cl.length ∨ S j) a' w' → next a' w') : wpOp P ops Q cl.length next a w := by
 obtain ⟨c, m, G', T', hr, hcut, hclen, hslots, hfz, hlc, hh, hstp, hti⟩ := h
 have hT : T' = (st cl.length).T := by
  rcases hti with ⟨_, e⟩ | ⟨_, _, _, _, b5⟩
  ·rw [e, steps_T (Nat.le_of_lt hsz) hst h4 cl.length (Nat.le_refl _)]
  ·exact absurd h4 b5
 have g7 : (cl ++ [7]).getD cl.length 0 = 7 := by simp [List.getD]
 have gj : ∀ j, j < cl.length → (cl ++ [7]).getD j 0 = cl.getD j 0 := fun j hj => by simp only [List.getD]; rw [List.getElem?_append_left hj]
 have before : ∀ j oj, j < cl.length → ops[j]? = some oj → ¬ S j → oj.apart ops o = true ∧ compat (cl.getD j 0) 7 = true := by
  intro j oj hj hoj hnS
  have := hD.pair j cl.length oj o hj (Nat.lt_succ_self _) hoj ho
  rw [g7, gj j hj] at this
  rcases this with hb | hb
  ·refine absurd ?_ hnS
   cases hrow : rows[cl.length]? with
   | none => simp [List.getD, hrow] at hb
   | some row =>
    have hb : Nat.testBit row j = true := by simpa [List.getD, hrow] using hb
    exact hD.row cl.length row hrow S o hS ho hpre j hb
  ·exact hb
 have dst_of : ∀ {j t : Nat}, dstAt ops j = some t → ∃ oj, ops[j]? = some oj ∧ oj.dst = some t := by
  intro j t hd
  unfold dstAt at hd
  cases hj : ops[j]? with
  | none => rw [hj] at hd; cases hd
  | some oj => rw [hj] at hd; exact ⟨oj, rfl, hd⟩
 have hstlen : (st cl.length).tm.length = c.length := by rw [steps_len (Nat.le_of_lt hsz) hst _ (Nat.le_refl _), hclen]
 have hheap : (st m).hp = (st cl.length).hp := by
  refine heap_between (Nat.le_of_lt hsz) hst hcut.1 (Nat.le_refl _) (fun j h1 h2 => ?_) (fun j h1 h2 => by have := hcut.1; omega)
  cases h3 : isEf (cl.getD j 0) with
  | false => rfl
  | true =>
   have := (before j _ h2 (Array.getElem?_eq_getElem (show j < ops.size by omega)) (hcut.2.2 j h1 h3)).2
   rw [compat_ef h3 (.inl (by decide))] at this
   cases this
 have hlook : ∀ t, t ∈ o.looksAt ops → Req (c.getD t tu) ((st cl.length).tm.getD t tu) := by
  intro t ht
  obtain ⟨mt, ⟨hmt, hc1, hc2⟩, hreq⟩ := hslots t
  refine hreq.trans (slot_between (Nat.le_of_lt hsz) hst hmt (Nat.le_refl _) ?_ (fun j h1 h2 => by omega))
  intro j h1 h2 hd
  obtain ⟨oj, hoj, hdj⟩ := dst_of hd
  exact (Oper.apart_spec (before j oj h2 hoj (hc2 j h1 hd)).1).1 t hdj ht
 have hr1 := seen_rel (l := o.looksAt ops) (p := (st cl.length).tm) hstlen hr (fun t ht => hlook t (by simpa using ht))
 have hseq : ∀ t, Req ((seen (o.looksAt ops) c (st cl.length).tm).getD t tu) (c.getD t tu) := by
  intro t
  rw [seen_getD hstlen]
  split
  ·rename_i hc
   exact (hlook t (by simpa using hc)).symm
  ·exact .refl _
 have hev : EvEq tt o (st cl.length) ⟨seen (o.looksAt ops) c (st cl.length).tm, (st m).hp, T'⟩ := by
  intro ty z hz
  cases z with
  | tmp t =>
   have : t ∈ o.looksAt ops := List.mem_append_left _ (List.mem_filterMap.2 ⟨.tmp t, by simpa using hz, rfl⟩)
   show (seen (o.looksAt ops) c (st cl.length).tm).getD t tu = (st cl.length).tm.getD t tu
   rw [seen_getD hstlen, if_pos (by simpa using this)]
  | _ => rfl
 have hop := aop_nd hcd hnd hK hev hheap hT
 have hgd : o.guard = none := by
  unfold isNd at hnd
  split at hnd
  ·cases hnd
  ·assumption
 unfold wpOp
 rw [ho]
 dsimp only
 rw [if_pos (by unfold Region.wanted; rw [hgd])]
 refine .inl ?_
 refine aop_sound htt hcs hop hr1 ?_
 rintro y s1 G1 a' w' ⟨q1, q2, q3, q4⟩ _ hrel hf hl hlen hs
 have q1 : s1.tm = seen (o.looksAt ops) c (st cl.length).tm := q1
 refine hn a' w' y ⟨(st cl.length).tm, s1.hp, s1.T⟩ q4 rfl q2 q3 ⟨(match o.dst with
   | some d => (seen (o.looksAt ops) c (st cl.length).tm).set d y
   | none => seen (o.looksAt ops) c (st cl.length).tm), cl.length + 1, G1, s1.T, ?_, ⟨by simp, fun j hj hp => ?_, fun j hj hp hSj => ?_⟩, ?_, fun t => ?_, hfz.trans hf, hlc.trans (hl.mono hh), ?_, hstp.trans hs, .inl ⟨fun j hj => ?_, ?_⟩⟩
 ·dsimp only
  rw [if_neg (by omega)]
  cases hd : o.dst <;> rw [hd] at hrel
  ·have : (s1.put none y) = ⟨seen (o.looksAt ops) c (st cl.length).tm, s1.hp, s1.T⟩ := by rw [← q1]; rfl
   rw [this] at hrel; exact hrel
  ·rename_i d
   have : (s1.put (some d) y) = ⟨(seen (o.looksAt ops) c (st cl.length).tm).set d y, s1.hp, s1.T⟩ := by rw [← q1]; rfl
   rw [this] at hrel; exact hrel
 ·by_cases hjp : j = cl.length
  ·exact .inl hjp
  ·refine .inr (Classical.byContradiction fun hnS => ?_)
   have hjc : j < cl.length := by omega
   have hp : isEf ((cl ++ [7]).getD j 0) = true := hp
   rw [gj j hjc] at hp
   have := (before j _ hjc (Array.getElem?_eq_getElem (show j < ops.size by omega)) hnS).2
   rw [compat_ef hp (.inl (by decide))] at this
   cases this
 ·rcases hSj with e | hSj
  ·omega
  ·have := hSn j hSj; omega
 ·dsimp only
  rw [if_pos (Nat.zero_le _)]
  split <;> simp [seen_length, hclen]
 ·by_cases hd : o.dst = some t
  ·refine ⟨cl.length + 1, ⟨by simp, fun j hj hdj => ?_, fun j hj hdj hSj => ?_⟩, ?_⟩
   ·by_cases hjp : j = cl.length
    ·exact .inl hjp
    ·refine .inr (Classical.byContradiction fun hnS => ?_)
     obtain ⟨oj, hoj, hdj⟩ := dst_of hdj
     exact (Oper.apart_spec (before j oj (by omega) hoj hnS).1).2.1 t hdj hd
   ·rcases hSj with e | hSj
    ·omega
    ·have := hSn j hSj; omega
   ·dsimp only
    rw [if_neg (by omega), hd]
    show Req (((seen (o.looksAt ops) c (st cl.length).tm).set t y).getD t tu) ((((st cl.length).tm).set t y).getD t tu)
    rw [getD_set, getD_set, seen_length, hstlen]
    split
    ·exact .refl _
    ·rename_i hnl
     have hge : c.length ≤ t := by
      rcases Nat.lt_or_ge t c.length with h | h
      ·exact absurd ⟨rfl, h⟩ hnl
      ·exact h
     have h1 : (seen (o.looksAt ops) c (st cl.length).tm).getD t tu = tu := by
      simp only [List.getD]; rw [List.getElem?_eq_none (by rw [seen_length]; exact hge)]; rfl
     have h2 : (st cl.length).tm.getD t tu = tu := by simp only [List.getD]; rw [List.getElem?_eq_none (by omega)]; rfl
     rw [h1, h2]; exact .refl _
  ·obtain ⟨mt, ⟨hmt, hc1, hc2⟩, hreq⟩ := hslots t
   refine ⟨mt, ⟨by simp; omega, fun j hj hdj => .inr (hc1 j hj hdj), fun j hj hdj hSj => ?_⟩, ?_⟩
   ·rcases hSj with e | hSj
    ·subst e
     obtain ⟨oj, hoj, hdj⟩ := dst_of hdj
     rw [ho] at hoj; cases hoj
     exact hd hdj
    ·exact hc2 j hj hdj hSj
   ·dsimp only
    rw [if_pos hmt]
    have : (match o.dst with
     | some d => (seen (o.looksAt ops) c (st cl.length).tm).set d y
     | none => seen (o.looksAt ops) c (st cl.length).tm : List TV).getD t tu = (seen (o.looksAt ops) c (st cl.length).tm).getD t tu := by
     split
     ·rename_i d e
      rw [getD_set, if_neg]
      rintro ⟨rfl, _⟩
      exact hd e
     ·rfl
    rw [this]
    exact (hseq t).trans hreq
 ·dsimp only
  rw [if_neg (by omega)]
  have : h0 ≤ s1.hp.length := Nat.le_trans hh hlen
  cases o.dst <;> exact this
 ·simp only [List.length_append, List.length_cons, List.length_nil] at hj
  rcases Nat.lt_or_ge j cl.length with h' | h'
  ·rw [gj j h']; exact h4 j h'
  ·have : j = cl.length := by omega
   subst this
   rw [g7]; decide
 ·dsimp only
  rw [if_pos (Nat.zero_le _)]
  have q3 : s1.T = (st cl.length).T := q3
  rw [q3, steps_T (Nat.le_of_lt hsz) hst h4 cl.length (Nat.le_refl _)]

theorem stop_cases {l : List Oper} {i : Nat} {fl : List Nat} {s1 : St} (hstop : Stop mds rid i l) (h : awpD tt call mds rid ops i l fl K s1) :
  (drawOK ops fl.reverse = true ∧ (l ≠ [] → tailOK ops i = true) ∧ (has4 fl = false → awpL tt call mds rid ops i l K s1) ∧ (has4 fl = true → ∀ m, s1.T.n ≤ m → awpL tt call mds rid ops i l K { s1 with T := ⟨m, s1.T.l⟩ })) ∨
  (∃ o r, l = o :: r ∧ isNd (mds.at rid i) o = true ∧ barGo i [] ops.toList = true ∧ drawOK ops (fl.reverse ++ [7]) = true ∧
   aop tt call (mds.at rid i) o s1 fun x s' => awpD tt call mds rid ops (i + 1) r (7 :: fl) K (s'.put o.dst x)) := by
 cases l with
 | nil =>
  unfold awpD at h
  split at h
  case h_2 => exact h.elim
  rename_i hd
  refine .inl ⟨hd, fun e => absurd rfl e, fun e => ?_, fun e => ?_⟩
  ·rw [e] at h; exact h
  ·rw [e] at h; exact h
 | cons o r =>
  have hb : isBar (mds.at rid i) o = true := hstop
  unfold awpD at h
  rw [hb] at h
  dsimp only at h
  split at h
  ·rename_i hd
   rw [Bool.and_eq_true] at hd
   refine .inl ⟨hd.2, fun _ => hd.1, fun e => ?_, fun e => ?_⟩
   ·rw [e] at h; exact h
   ·rw [e] at h; exact h
  ·split at h
   case h_2 => exact h.elim
   rename_i hd
   rw [Bool.and_eq_true, Bool.and_eq_true] at hd
   exact .inr ⟨o, r, rfl, hd.1.1, hd.1.2, by rw [List.reverse_cons] at hd; exact hd.2, h⟩

theorem DI.more {w0 : World} {S S' : Nat → Prop} (h : DI Mine G h0 w0 ops st cl tk S a w) (hSS : ∀ j, S j → S' j) (hno : ∀ j, S' j → ¬ S j → isEf (cl.getD j 0) = false ∧ ∀ t, dstAt ops j ≠ some t) (h4 : ∀ j, j < cl.length → cl.getD j 0 ≠ 4) :
  DI Mine G h0 w0 ops st cl tk S' a w := by
 obtain ⟨c, m, G', T', hr, hcut, hclen, hslots, hfz, hlc, hh, hstp, hti⟩ := h
 have hT : T' = (st 0).T := by
  rcases hti with ⟨_, e⟩ | ⟨_, _, _, _, b5⟩
  ·exact e
  ·exact absurd h4 b5
 refine ⟨c, m, G', T', hr, ⟨hcut.1, fun j hj hp => hSS j (hcut.2.1 j hj hp), fun j hj hp hSj => ?_⟩, hclen, fun t => ?_, hfz, hlc, hh, hstp, .inl ⟨h4, hT⟩⟩
 ·by_cases hs : S j
  ·exact hcut.2.2 j hj hp hs
  ·have hp : isEf (cl.getD j 0) = true := hp
   rw [(hno j hSj hs).1] at hp; cases hp
 ·obtain ⟨mt, hct, hreq⟩ := hslots t
  refine ⟨mt, ⟨hct.1, fun j hj hp => hSS j (hct.2.1 j hj hp), fun j hj hp hSj => ?_⟩, hreq⟩
  by_cases hs : S j
  ·exact hct.2.2 j hj hp hs
  ·exact (hno j hSj hs).2 t hp

theorem drawn_done (htt : TTOK P tt) (hcs : CallS P call) (hsz0 : cl.length ≤ ops.size) (hst : Steps tt call mds rid ops st pr x ws cl tk) {w0 : World}
  (hcase : drawOK ops cl.reverse.reverse = true ∧ (ops.toList.drop cl.length ≠ [] → tailOK ops cl.length = true) ∧ (has4 cl.reverse = false → awpL tt call mds rid ops cl.length (ops.toList.drop cl.length) K (st cl.length)) ∧
   (has4 cl.reverse = true → ∀ m, (st cl.length).T.n ≤ m → awpL tt call mds rid ops cl.length (ops.toList.drop cl.length) K { (st cl.length) with T := ⟨m, (st cl.length).T.l⟩ }))
  (htl0 : ∀ t ∈ (st 0).T.l, t < (st 0).T.n) {fuel : Nat} {listed : Array Bool} (hsz : listed.size = ops.size) (hSn : ∀ j, Lst listed j → j < cl.length ∨ Dm ops j) (hZ : ∀ j, Dm ops j → Lst listed j)
  (hS : Closed ops (Lst listed)) (hall : ∀ i, i < cl.length → Lst listed i) (hn : nFalse listed.toList = fuel) (hdi : DI Mine G h0 w0 ops st cl tk (LstD listed cl.length) a w) :
  wpAny P .any ops (Lift Mine G h0 w0 (seqK K (fun _ _ => False))) fuel listed a w := by
 obtain ⟨c, m, G', T', hr, hcut, hclen, hslots, hfz, hlc, hh, hstp, hti⟩ := hdi
 have hT : TailS ops cl.length := by
  rcases Nat.lt_or_ge cl.length ops.size with h | h
  ·refine tailOK_spec (hcase.2.1 fun e => ?_)
   rw [List.drop_eq_nil_iff] at e
   simp at e; omega
  ·exact tailS_end ops h
 have hb := heap_between hsz0 hst hcut.1 (Nat.le_refl _) (fun j h1 h2 => Bool.eq_false_iff.2 fun h3 => hcut.2.2 j h1 h3 ⟨hall j h2, h2⟩) (fun j h1 h2 => by have := hcut.1; omega)
 have hlen : (st cl.length).tm.length = a.tmps.size := by rw [← hr.len, steps_len hsz0 hst _ (Nat.le_refl _), ← hclen]
 have htm : ∀ t y, (st cl.length).tm[t]? = some y → TR G' y (a.tmps.getD t Go.undef) := fun t y hy => by
  obtain ⟨mt, hct, hreq⟩ := hslots t
  have hbt := slot_between hsz0 hst (t := t) hct.1 (Nat.le_refl _) (fun j h1 h2 h3 => hct.2.2 j h1 h3 ⟨hall j h2, h2⟩) (fun j h1 h2 => by have := hct.1; omega)
  have hy' : (st cl.length).tm.getD t tu = y := by simp only [List.getD]; rw [hy]; rfl
  rw [← hy']
  exact (hbt _ _).1 ((hreq _ _).1 (rel_getD hr t))
 have go : ∀ s1 : St, awpL tt call mds rid ops cl.length (ops.toList.drop cl.length) K s1 → Rel Mine G' s1 a w → h0 ≤ s1.hp.length →
   wpAny P .any ops (Lift Mine G h0 w0 (seqK K (fun _ _ => False))) fuel listed a w := by
  intro s1 hk hrel hh1
  refine tail_any hT lift_lets (ops.size - cl.length) cl.length fuel listed a w (Nat.le_refl _) (by omega) hn hsz (fun k => ⟨hSn k, fun h => h.elim (hall k) (hZ k)⟩) hS ?_
  exact list_mono (fun e a w h => Lift.of hfz hlc hstp h) _ _ _ (awpL_sound htt hcs _ _ _ _ _ _ hk hrel hh1)
 rcases hti with ⟨hA, hTe⟩ | ⟨b1, b2, _, _, b5⟩
 ·have h4 : has4 cl.reverse = false := by
   rw [has4_false]
   intro c hc e
   obtain ⟨j, hj, e'⟩ := List.mem_iff_getElem.1 (List.mem_reverse.1 hc)
   exact hA j hj (by simp [List.getD, hj, e', e])
  refine go _ (hcase.2.2.1 h4) ⟨hlen, htm, hr.defers, ?_⟩ (by rw [← hb]; exact hh)
  have := hr.inv
  rw [hb, hTe, ← steps_T hsz0 hst hA cl.length (Nat.le_refl _)] at this
  exact this
 ·have h4 : has4 cl.reverse = true := by
   cases h : has4 cl.reverse with
   | true => rfl
   | false =>
    rw [has4_false] at h
    refine absurd (fun j hj e => h 4 (List.mem_reverse.2 ?_) rfl) b5
    rw [← e]; simp [List.getD, hj]
  refine go _ (hcase.2.2.2 h4 T'.n (by omega)) ⟨hlen, htm, hr.defers, ?_⟩ (by show h0 ≤ (st cl.length).hp.length; rw [← hb]; exact hh)
  have := hr.inv
  rw [hb] at this
  refine this.toks' (Nat.le_refl _) fun t ht => b2 t ?_
  obtain ⟨h1, h2⟩ := (steps_tl hsz0 hst htl0 _ (Nat.le_refl _)).2 t ht
  exact ⟨h1.imp id fun ⟨j, p, q, r, e⟩ => ⟨j, p, q, ⟨hall j r, r⟩, e⟩, fun j p q r => h2 j p q p⟩

theorem drawn_go (htt : TTOK P tt) (hcs : CallS P call) (hcd : CallDet call) {w0 : World} :
  ∀ (fuel : Nat) (listed : Array Bool) (a : Act) (w : World) (st pr : Nat → St) (x : Nat → TV) (ws : Nat → Bool) (cl : List Nat) (tk : Nat → Tok), nFalse listed.toList = fuel → listed.size = ops.size →
   cl.length ≤ ops.size → Steps tt call mds rid ops st pr x ws cl tk → Stop mds rid cl.length (ops.toList.drop cl.length) → awpD tt call mds rid ops cl.length (ops.toList.drop cl.length) cl.reverse K (st cl.length) →
   (∀ t, (st 0).T.n ≤ t → G.tok t = none) → (∀ t ∈ (st 0).T.l, t < (st 0).T.n) → (∀ j, j < cl.length → cl.getD j 0 = 7 → Lst listed j) →
   (∀ j, Lst listed j → j < cl.length ∨ Dm ops j) → (∀ j, Dm ops j → Lst listed j) → Closed ops (Lst listed) → DI Mine G h0 w0 ops st cl tk (LstD listed cl.length) a w →
   wpAny P .any ops (Lift Mine G h0 w0 (seqK K (fun _ _ => False))) fuel listed a w := by
 intro fuel
 induction fuel with
 | zero =>
  intro listed a w st pr x ws cl tk hn hsz hcl hst hstop hK hbase htl0 h7 hSn hZ hS hdi
  have hall : ∀ i, i < ops.size → Lst listed i := by
   intro i hi
   have := nFalse_zero _ hn i
   have hi' : i < listed.size := by omega
   unfold Lst
   simp [Array.getD_eq_getD_getElem?, hi'] at this ⊢
   exact this
  have hnil : Region.ready .any ops listed = [] := by
   cases hr : Region.ready .any ops listed with
   | nil => rfl
   | cons i r =>
    have hm : i ∈ Region.ready .any ops listed := by rw [hr]; exact List.mem_cons_self ..
    rw [mem_ready] at hm
    obtain ⟨h1, o, ho, _⟩ := hm
    have hi := (Array.getElem?_eq_some_iff.1 ho).1
    have := hall i hi
    unfold Lst at this
    have hi' : i < listed.size := by omega
    simp [Array.getD_eq_getD_getElem?, hi'] at this h1
    rw [this] at h1; cases h1
  rcases stop_cases hstop hK with hcase | ⟨o, r, hl, hnd, _⟩
  ·exact drawn_done htt hcs hcl hst hcase htl0 hsz hSn hZ hS (fun i hi => hall i (by omega)) hn hdi
  ·exfalso
   have hlt : cl.length < ops.size := by
    rcases Nat.lt_or_ge cl.length ops.size with h | h
    ·exact h
    ·rw [List.drop_of_length_le (by simpa using h)] at hl; cases hl
   have ho : ops[cl.length]? = some o := by
    have : (ops.toList.drop cl.length)[0]? = some o := by rw [hl]; rfl
    rw [List.getElem?_drop, Nat.add_zero, Array.getElem?_toList] at this; exact this
   rcases hSn cl.length (hall _ hlt) with h | ⟨o', ho', hd⟩
   ·omega
   ·rw [ho] at ho'; cases ho'
    obtain ⟨_, ⟨y, hy⟩, _⟩ := dm_op hd
    unfold isNd at hnd
    split at hnd
    ·cases hnd
    ·rw [hy] at hnd; cases hnd
 | succ fuel ih =>
  intro listed a w st pr x ws cl tk hn hsz hcl hst hstop hK hbase htl0 h7 hSn hZ hS hdi
  -- the drawn part
  have step : ∀ {rows : List Nat}, DrawS ops cl rows cl.length → ∀ i o, ops[i]? = some o → i < cl.length → ¬ Lst listed i → (∀ e ∈ o.after, Region.binds .any e = true → Lst listed e.on) →
    wpOp P ops (Lift Mine G h0 w0 (seqK K (fun _ _ => False))) i (wpAny P .any ops (Lift Mine G h0 w0 (seqK K (fun _ _ => False))) fuel (listed.setIfInBounds i true)) a w := by
   intro rows hD i o ho hin hnS hpre
   have hi := (Array.getElem?_eq_some_iff.1 ho).1
   have hi' : i < listed.size := by omega
   have hset : LstD (listed.setIfInBounds i true) cl.length = fun j => j = i ∨ LstD listed cl.length j := by
    funext j
    refine propext ?_
    unfold LstD
    rw [lst_set hi']
    constructor
    ·rintro ⟨h | h, h'⟩
     ·exact .inl h
     ·exact .inr ⟨h, h'⟩
    ·rintro (h | ⟨h, h'⟩)
     ·exact ⟨.inl h, by omega⟩
     ·exact ⟨.inr h, h'⟩
   have hSD : Closed ops (LstD listed cl.length) := fun k o' hk ho' e he hbe => ⟨hS k o' hk.1 ho' e he hbe, by
    have := hD.edge k o' hk.2 ho' e he hbe
    have := hk.2
    omega⟩
   refine drawn_step htt hcs hcl hst hD hin (fun j hj h => ⟨h7 j hj h, hj⟩) (fun j hj => hj.2) ho hSD (fun h => hnS h.1) (fun e he hbe => ⟨hpre e he hbe, by
    have := hD.edge i o hin ho e he hbe
    omega⟩) hbase htl0 hdi fun a' w' hdi' => ih _ a' w' st pr x ws cl tk ?_ (by simpa using hsz) hcl hst hstop hK hbase htl0 ?_ ?_ ?_ ?_ ?_
   ·have h2 : listed.toList[i]? = some false := by
     have hi'' : i < listed.toList.length := by simpa using hi'
     unfold Lst at hnS
     simp [Array.getD_eq_getD_getElem?, hi'] at hnS
     rw [List.getElem?_eq_getElem hi'']
     simpa using hnS
    have := nFalse_set _ _ h2
    rw [Array.toList_setIfInBounds]
    omega
   ·intro j hj h
    exact (lst_set hi').2 (.inr (h7 j hj h))
   ·intro j hj
    rcases (lst_set hi').1 hj with rfl | hj
    ·exact .inl hin
    ·exact hSn j hj
   ·intro j hj
    exact (lst_set hi').2 (.inr (hZ j hj))
   ·intro k o' hk ho' e he hb
    have hk := (lst_set hi').1 hk
    refine (lst_set hi').2 ?_
    rcases hk with rfl | hk
    ·rw [ho] at ho'; cases ho'
     exact .inr (hpre e he hb)
    ·exact .inr (hS k o' hk ho' e he hb)
   ·rw [hset]; exact hdi'
  -- the first that is not listed may come
  have first : ∀ {rows : List Nat}, DrawS ops cl rows cl.length → Region.ready .any ops listed = [] → ∀ i, i < cl.length → Lst listed i := by
   intro rows hD hnil i
   induction i using Nat.strongRecOn with
   | ind i ih =>
    intro hi
    by_cases hl : listed.getD i true = false
    ·have : i ∈ Region.ready .any ops listed := by
      rw [mem_ready]
      refine ⟨hl, ops[i]'(by omega), Array.getElem?_eq_getElem (by omega), fun e he hb => ?_⟩
      have := hD.edge i _ hi (Array.getElem?_eq_getElem (by omega)) e he hb
      exact ih e.on this (by omega)
     rw [hnil] at this
     cases this
    ·unfold Lst
     have hi' : i < listed.size := by omega
     simp [Array.getD_eq_getD_getElem?, hi'] at hl ⊢
     exact hl
  have ready : ∀ i, i ∈ Region.ready .any ops listed → ∃ o, ops[i]? = some o ∧ ¬ Lst listed i ∧ dm o = false ∧ ∀ e ∈ o.after, Region.binds .any e = true → Lst listed e.on := by
   intro i hm
   rw [mem_ready] at hm
   obtain ⟨h1, o, ho, hpre⟩ := hm
   have hi := (Array.getElem?_eq_some_iff.1 ho).1
   have hi' : i < listed.size := by omega
   have hnS : ¬ Lst listed i := by
    unfold Lst
    simp [Array.getD_eq_getD_getElem?, hi'] at h1 ⊢
    exact h1
   refine ⟨o, ho, hnS, ?_, hpre⟩
   cases hd : dm o with
   | false => rfl
   | true => exact absurd (hZ i ⟨o, ho, hd⟩) hnS
  rcases stop_cases hstop hK with hcase | ⟨o, r, hl, hnd, hbar, hdo, hop⟩
  ·by_cases hall : ∀ i, i < cl.length → Lst listed i
   ·exact drawn_done htt hcs hcl hst hcase htl0 hsz hSn hZ hS hall hn hdi
   obtain ⟨rows, hD⟩ := drawOK_spec (ops := ops) (cl := cl) (by simpa using hcase.1)
   have hT : TailS ops cl.length := by
    rcases Nat.lt_or_ge cl.length ops.size with h | h
    ·refine tailOK_spec (hcase.2.1 fun e => ?_)
     rw [List.drop_eq_nil_iff] at e
     simp at e; omega
    ·exact tailS_end ops h
   refine ⟨fun hnil => (hall (first hD hnil)).elim, fun i hm => ?_⟩
   obtain ⟨o, ho, hnS, hdm, hpre⟩ := ready i hm
   refine step hD i o ho ?_ hnS hpre
   rcases Nat.lt_or_ge i cl.length with h | h
   ·exact h
   ·exact (hall fun j hj => hT.all i o h ho hdm _ hS hZ hpre j (by omega)).elim
  ·have hlt : cl.length < ops.size := by
    rcases Nat.lt_or_ge cl.length ops.size with h | h
    ·exact h
    ·rw [List.drop_of_length_le (by simpa using h)] at hl; cases hl
   have ho : ops[cl.length]? = some o := by
    have : (ops.toList.drop cl.length)[0]? = some o := by rw [hl]; rfl
    rw [List.getElem?_drop, Nat.add_zero, Array.getElem?_toList] at this; exact this
   have hr : ops.toList.drop (cl.length + 1) = r := by rw [← List.tail_drop, hl]; rfl
   have hndm : ¬ Dm ops cl.length := by
    rintro ⟨o', ho', hd⟩
    rw [ho] at ho'; cases ho'
    obtain ⟨_, ⟨y, hy⟩, _⟩ := dm_op hd
    unfold isNd at hnd
    split at hnd
    ·cases hnd
    ·rw [hy] at hnd; cases hnd
   have hpl : ¬ Lst listed cl.length := fun h => (hSn _ h).elim (fun h => absurd h (Nat.lt_irrefl _)) hndm
   obtain ⟨rows, hD7⟩ := drawOK_spec (ops := ops) (cl := cl ++ [7]) (by simpa using hdo)
   have hD7 : DrawS ops (cl ++ [7]) rows (cl.length + 1) := by simpa using hD7
   have gj : ∀ j, j < cl.length → (cl ++ [7]).getD j 0 = cl.getD j 0 := fun j hj => by simp only [List.getD]; rw [List.getElem?_append_left hj]
   have hD : DrawS ops cl rows cl.length := hD7.less (Nat.le_succ _) fun j hj => (gj j hj).symm
   have h4 : ∀ j, j < cl.length → cl.getD j 0 ≠ 4 := by
    intro j hj e
    refine drawOK_no hdo (by simp) ?_
    have : cl.getD j 0 ∈ cl := by simp only [List.getD, List.getElem?_eq_getElem hj]; exact List.getElem_mem hj
    rw [e] at this
    simp [this]
   refine ⟨fun hnil => ?_, fun i hm => ?_⟩
   ·exfalso
    have hall := first hD hnil
    have : cl.length ∈ Region.ready .any ops listed := by
     rw [mem_ready]
     refine ⟨?_, o, ho, fun e he hb => hall _ (hD7.edge cl.length o (Nat.lt_succ_self _) ho e he hb)⟩
     have hp' : cl.length < listed.size := by omega
     unfold Lst at hpl
     simp [Array.getD_eq_getD_getElem?, hp'] at hpl ⊢
     exact hpl
    rw [hnil] at this; cases this
   obtain ⟨oi, hoi, hnS, hdm, hpre⟩ := ready i hm
   rcases Nat.lt_trichotomy i cl.length with hlt' | heq | hgt
   ·exact step hD i oi hoi hlt' hnS hpre
   ·subst heq
    rw [ho] at hoi; cases hoi
    have hSD : Closed ops (LstD listed cl.length) := fun k o' hk ho' e he hbe => ⟨hS k o' hk.1 ho' e he hbe, by
     have := hD.edge k o' hk.2 ho' e he hbe
     have := hk.2
     omega⟩
    have hp' : cl.length < listed.size := by omega
    refine nd_step htt hcs hcd hlt hst hD7 ho hnd hSD (fun j hj => hj.2) (fun e he hbe => ⟨hpre e he hbe, hD7.edge cl.length o (Nat.lt_succ_self _) ho e he hbe⟩) hdi h4 hop ?_
    intro a' w' xx s1 hk q1 q2 q3 hdi'
    obtain ⟨st2, pr2, x2, w2, cl2, tk2, e0, hl2, hst2, hn72, hstop2, hK2⟩ := trace hcd r (cl.length + 1) (7 :: cl.reverse) _ hk
    have hrl : r.length = ops.size - (cl.length + 1) := by rw [← hr]; simp
    have hlen' : (cl ++ 7 :: cl2).length = cl.length + 1 + cl2.length := by simp; omega
    have hdrop : ops.toList.drop (cl ++ 7 :: cl2).length = r.drop cl2.length := by rw [hlen', ← hr, List.drop_drop]
    have hrev : (cl ++ 7 :: cl2).reverse = cl2.reverse ++ 7 :: cl.reverse := by simp
    -- the longer trace
    have g0 : ∀ j, j < cl.length → (cl ++ 7 :: cl2).getD j 0 = cl.getD j 0 := fun j hj => by simp only [List.getD]; rw [List.getElem?_append_left hj]
    have g1 : (cl ++ 7 :: cl2).getD cl.length 0 = 7 := by simp [List.getD]
    have g2 : ∀ q, (cl ++ 7 :: cl2).getD (cl.length + 1 + q) 0 = cl2.getD q 0 := fun q => by
     simp only [List.getD]
     rw [List.getElem?_append_right (by omega), show cl.length + 1 + q - cl.length = q + 1 by omega, List.getElem?_cons_succ]
    have hst' : Steps tt call mds rid ops (fun k => if k ≤ cl.length then st k else st2 (k - (cl.length + 1))) (fun k => if k < cl.length then pr k else if k = cl.length then st k else pr2 (k - (cl.length + 1)))
      (fun k => if k < cl.length then x k else if k = cl.length then xx else x2 (k - (cl.length + 1))) (fun k => if k < cl.length then ws k else if k = cl.length then true else w2 (k - (cl.length + 1)))
      (cl ++ 7 :: cl2) (fun k => if k < cl.length then tk k else tk2 (k - (cl.length + 1))) := by
     intro k ok hkl hok
     dsimp only
     rcases Nat.lt_trichotomy k cl.length with h | h | h
     ·rw [if_pos (Nat.le_of_lt h), if_pos h, if_pos (show k + 1 ≤ cl.length by omega), if_pos h, if_pos h, if_pos h, g0 k h]
      exact hst k ok h hok
     ·subst h
      rw [ho] at hok; cases hok
      rw [if_pos (Nat.le_refl _), if_neg (Nat.lt_irrefl _), if_pos rfl, if_neg (show ¬ cl.length + 1 ≤ cl.length by omega), Nat.sub_self, if_neg (Nat.lt_irrefl _), if_pos rfl, if_neg (Nat.lt_irrefl _), if_pos rfl, if_neg (Nat.lt_irrefl _), g1, e0]
      have hgd : o.guard = none := by
       unfold isNd at hnd
       split at hnd
       ·cases hnd
       ·assumption
      refine { hp := rfl, T := rfl, len := rfl, req := fun _ => .refl _, guard := fun j want e => (by rw [hgd] at e; cases e), free := fun _ => rfl, tm := ?_, run := fun _ _ h => absurd rfl h, skip := fun e => (by cases e), calm := fun e => (by cases e), add := fun e => (by cases e), calmT := fun _ => ?_, app := fun e => (by cases e), grow := ?_, few := by decide, loc7 := fun _ => ?_, dum := fun hd => (by rw [hdm] at hd; cases hd) }
      ·cases o.dst
       ·exact q1
       ·show s1.tm.set _ _ = _
        rw [q1]
      ·cases o.dst <;> exact q3
      ·have : (st cl.length).hp.length ≤ s1.hp.length := q2.1
       cases o.dst <;> exact this
      ·cases o.dst <;> exact q2
     ·obtain ⟨q, rfl⟩ : ∃ q, k = cl.length + 1 + q := ⟨k - (cl.length + 1), by omega⟩
      have hq : q < cl2.length := by rw [hlen'] at hkl; omega
      rw [if_neg (by omega), if_neg (by omega), if_neg (by omega), if_neg (by omega), if_neg (by omega), if_neg (by omega), if_neg (by omega), if_neg (by omega), if_neg (by omega), g2 q,
       show cl.length + 1 + q - (cl.length + 1) = q by omega, show cl.length + 1 + q + 1 - (cl.length + 1) = q + 1 by omega]
      refine hst2 q ok hq ?_
      rw [← hr, List.getElem?_drop, Array.getElem?_toList]; exact hok
    have hno4 : ∀ j, j < (cl ++ 7 :: cl2).length → (cl ++ 7 :: cl2).getD j 0 ≠ 4 := by
     intro j hj e
     have hmem : 4 ∈ cl ++ 7 :: cl2 := by
      rw [← e]
      simp only [List.getD, List.getElem?_eq_getElem hj]; exact List.getElem_mem hj
     have hall : ∀ tl : List Nat, drawOK ops (cl ++ 7 :: cl2 ++ tl) = true → False := fun tl h => drawOK_no h (by simp) (List.mem_append_left _ hmem)
     rcases stop_cases hstop2 hK2 with h | ⟨_, _, _, _, _, h, _⟩
     ·refine hall [] ?_
      have := h.1
      rw [← hrev, List.reverse_reverse] at this
      rw [List.append_nil]; exact this
     ·rw [← hrev, List.reverse_reverse] at h
      exact hall [7] h
    have hsub : ∀ j, LstD (listed.setIfInBounds cl.length true) (cl ++ 7 :: cl2).length j → ¬ (j = cl.length ∨ LstD listed cl.length j) → Dm ops j ∧ j < (cl ++ 7 :: cl2).length := by
     rintro j ⟨h, h'⟩ hno
     rcases (lst_set hp').1 h with h | h
     ·exact absurd (.inl h) hno
     ·rcases hSn j h with h2 | h2
      ·exact absurd (.inr ⟨h, h2⟩) hno
      ·exact ⟨h2, h'⟩
    refine ih (listed.setIfInBounds cl.length true) a' w' _ _ _ _ (cl ++ 7 :: cl2) _ ?_ (by simpa using hsz) (by rw [hlen']; omega) hst' (by rw [hdrop, hlen']; exact hstop2) ?_ ?_ ?_ ?_ ?_ ?_ ?_ ?_
    ·have h2 : listed.toList[cl.length]? = some false := by
      have hi'' : cl.length < listed.toList.length := by simpa using hp'
      unfold Lst at hpl
      simp [Array.getD_eq_getD_getElem?, hp'] at hpl
      rw [List.getElem?_eq_getElem hi'']
      simpa using hpl
     have := nFalse_set _ _ h2
     rw [Array.toList_setIfInBounds]
     omega
    ·rw [hdrop, hrev]

     rw [if_neg (by rw [hlen']; omega), hlen', show cl.length + 1 + cl2.length - (cl.length + 1) = cl2.length by omega]
     exact hK2
    ·rw [if_pos (Nat.zero_le _)]; exact hbase
    ·rw [if_pos (Nat.zero_le _)]; exact htl0
    ·intro j hj h
     rcases Nat.lt_trichotomy j cl.length with h' | h' | h'
     ·rw [g0 j h'] at h
      exact (lst_set hp').2 (.inr (h7 j h' h))
     ·exact (lst_set hp').2 (.inl h')
     ·obtain ⟨q, rfl⟩ : ∃ q, j = cl.length + 1 + q := ⟨j - (cl.length + 1), by omega⟩
      rw [g2 q] at h
      exact absurd h (hn72 q (by rw [hlen'] at hj; omega))
    ·intro j hj
     rcases (lst_set hp').1 hj with rfl | hj
     ·exact .inl (by rw [hlen']; omega)
     ·exact (hSn j hj).imp (fun h => by rw [hlen']; omega) id
    ·intro j hj
     exact (lst_set hp').2 (.inr (hZ j hj))
    ·intro k o' hk ho' e he hb
     have hk := (lst_set hp').1 hk
     refine (lst_set hp').2 ?_
     rcases hk with rfl | hk
     ·rw [ho] at ho'; cases ho'
      exact .inr (hpre e he hb)
     ·exact .inr (hS k o' hk ho' e he hb)
    ·have h1 := hdi'.ext (st' := fun k => if k ≤ cl.length then st k else st2 (k - (cl.length + 1))) (cl' := cl ++ 7 :: cl2) (tk' := fun k => if k < cl.length then tk k else tk2 (k - (cl.length + 1))) (by simp) (fun k hk => by
      simp only [List.length_append, List.length_cons, List.length_nil] at hk

      by_cases h : k ≤ cl.length
      ·rw [if_pos h, if_pos h]
      ·rw [if_neg h, if_neg h, show k - (cl.length + 1) = 0 by omega, e0]) (fun j hj => by
      simp only [List.length_append, List.length_cons, List.length_nil] at hj
      rcases Nat.lt_or_ge j cl.length with h | h
      ·rw [g0 j h, gj j h]
      ·have : j = cl.length := by omega
       subst this
       rw [g1]; simp [List.getD]) (fun j hj => by
      rcases hj with rfl | hj
      ·simp
      ·have := hj.2; simp; omega) hno4
     refine h1.more (fun j hj => ?_) (fun j hj hno => ?_) hno4
     ·rcases hj with rfl | ⟨h, h'⟩
      ·exact ⟨(lst_set hp').2 (.inl rfl), by rw [hlen']; omega⟩
      ·exact ⟨(lst_set hp').2 (.inr h), by rw [hlen']; omega⟩
     ·obtain ⟨⟨o', ho', hd⟩, hj'⟩ := hsub j hj hno
      have hc0 := (hst' j o' hj' ho').dum hd
      refine ⟨by rw [hc0]; rfl, fun t e => ?_⟩
      have := (dm_op hd).1
      unfold dstAt at e
      rw [ho'] at e
      have e : o'.dst = some t := e
      rw [this] at e; cases e
   ·exact absurd (barGo_all hbar i oi hgt hoi hdm _ hS hpre) hpl

theorem noDm_spec (h : noDm ops.toList = true) : ∀ j, ¬ Dm ops j := by
 rintro j ⟨o, ho, hd⟩
 have := List.all_eq_true.1 h o (List.mem_of_getElem? (by rw [Array.getElem?_toList]; exact ho))
 rw [hd] at this; cases this

theorem drawn_from (htt : TTOK P tt) (hcs : CallS P call) (hcd : CallDet call)
  (h : awpD tt call mds rid ops 0 ops.toList [] K s) (hr : Rel Mine G s a w) (hh : h0 ≤ s.hp.length) {w0 : World} (hw0 : Stp Mine w0 w)
  (listed : Array Bool) (hsz : listed.size = ops.size) (hl : ∀ j, Lst listed j ↔ Dm ops j) :
  wpAny P .any ops (Lift Mine G h0 w0 (seqK K (fun _ _ => False))) (nFalse listed.toList) listed a w := by
 obtain ⟨st, pr, x, ws, cl, tk, hs0, hcl, hst, hn7, hstop, hK⟩ := trace hcd ops.toList 0 [] s h
 have hcl : cl.length ≤ ops.size := by simpa using hcl
 have hsteps : Steps tt call mds rid ops st pr x ws cl tk := by
  intro i o hi ho
  have := hst i o hi (by rw [Array.getElem?_toList]; exact ho)
  rwa [Nat.zero_add] at this
 rw [Nat.zero_add, List.append_nil] at hK
 rw [Nat.zero_add] at hstop
 have h0c : ∀ j, LstD listed cl.length j → cl.getD j 0 = 0 := by
  rintro j ⟨hj, hjc⟩
  obtain ⟨o, ho, hd⟩ := (hl j).1 hj
  exact (hsteps j o hjc ho).dum hd
 have hdst : ∀ j t, LstD listed cl.length j → dstAt ops j ≠ some t := by
  rintro j t ⟨hj, hjc⟩ e
  obtain ⟨o, ho, hd⟩ := (hl j).1 hj
  have := (dm_op hd).1
  unfold dstAt at e
  rw [ho] at e
  have e : o.dst = some t := e
  rw [this] at e; cases e
 have hbase : ∀ t, (st 0).T.n ≤ t → G.tok t = none := by rw [hs0]; exact hr.inv.tfin
 have htl0 : ∀ t ∈ (st 0).T.l, t < (st 0).T.n := by
  rw [hs0]
  intro t ht
  obtain ⟨_, _, _, e, _⟩ := hr.inv.toks t ht
  rcases Nat.lt_or_ge t s.T.n with h | h
  ·exact h
  ·rw [hr.inv.tfin t h] at e; cases e
 have hinv : Inv Mine G s.hp s.T w := hr.inv
 refine drawn_go htt hcs hcd _ listed a _ st pr x ws cl tk rfl hsz hcl hsteps hstop hK hbase htl0 (fun j hj h => absurd h (hn7 j hj)) (fun j h => .inr ((hl j).1 h)) (fun j h => (hl j).2 h) ?_ ?_
 ·intro k o hk ho e he hbe
  obtain ⟨o', ho', hd⟩ := (hl k).1 hk
  rw [ho] at ho'; cases ho'
  have := (dm_op hd).2.2.2
  have he := Array.mem_toList_iff.2 he
  rw [this] at he; cases he
 ·have hslots : ∀ t, ∃ m, Cut cl.length (LstD listed cl.length) (fun j => dstAt ops j = some t) m ∧ Req (s.tm.getD t tu) ((st m).tm.getD t tu) :=
   fun t => ⟨0, ⟨Nat.zero_le _, fun j hj => (Nat.not_lt_zero _ hj).elim, fun j _ hp hS => hdst j t hS hp⟩, by rw [hs0]; exact .refl _⟩
  have hcut : Cut cl.length (LstD listed cl.length) (fun j => isEf (cl.getD j 0) = true) 0 :=
   ⟨Nat.zero_le _, fun j hj => (Nat.not_lt_zero _ hj).elim, fun j _ hp hS => by
    have hp : isEf (cl.getD j 0) = true := hp
    rw [h0c j hS] at hp; cases hp⟩
  by_cases h4 : ∀ j, j < cl.length → cl.getD j 0 ≠ 4
  ·refine ⟨s.tm, 0, G, s.T, ?_, hcut, by rw [hs0], hslots, .refl _, .refl _ _, by rw [hs0]; exact hh, hw0, .inl ⟨h4, by rw [hs0]⟩⟩
   rw [hs0]
   exact ⟨hr.len, hr.tm, hr.defers, hinv⟩
  ·-- a number ahead of all that will be given
   have hN : s.T.n ≤ (st cl.length).T.n := by
    have := steps_tn hcl hsteps (m := 0) cl.length (by omega)
    rw [Nat.zero_add, hs0] at this; exact this
   have hi0 := hinv.toks' hN (l := s.T.l) (fun _ h => h)
   obtain ⟨hi1, hf1, hl1⟩ := hi0.addTok (n := (st cl.length).T.n) (bo := none) (e := 0) (c := 0) rfl (fun b hb => by cases hb)
   have hi2 := hi1.toks' (m := (st cl.length).T.n + 1) (l := s.T.l) (Nat.le_refl _) (fun t h => List.mem_cons_of_mem _ h)
   refine ⟨s.tm, 0, _, ⟨(st cl.length).T.n + 1, s.T.l⟩, ⟨hr.len, fun t y hy => (hr.tm t y hy).mono hr.inv.lb hf1.f0 hl1, hr.defers, by rw [hs0]; exact hi2⟩, hcut, by rw [hs0], hslots, hf1, (fun i hi => hl1 i (Nat.lt_of_lt_of_le hi hh)), by rw [hs0]; exact hh, hw0,
    .inr ⟨Nat.lt_succ_self _, fun t ⟨h1, _⟩ => ?_, ⟨_, by simp [Gh.setTok]; rfl⟩, fun j p q _ => ?_, h4⟩⟩
   ·rcases h1 with h1 | ⟨j, _, hj4, h1, _⟩
    ·rw [hs0] at h1; exact h1
    ·rw [h0c j h1] at hj4; cases hj4
   ·have h1 := steps_tn_lt hcl hsteps p (Nat.le_refl _) q
    simp only [Gh.setTok]
    rw [if_neg (by omega)]
    refine hbase _ ?_
    have := steps_tn hcl hsteps (m := 0) j (by omega)
    rwa [Nat.zero_add] at this

theorem lst_none (n j : Nat) : ¬ Lst (Array.replicate n false) j := by
 intro hj
 unfold Lst at hj
 simp [Array.getD_eq_getD_getElem?, Array.getElem?_replicate] at hj
 split at hj <;> simp at hj

theorem Rel.drew (hr : Rel Mine G s a w) : Rel Mine G s a { w with drawn := w.drawn + 1 } := ⟨hr.len, hr.tm, hr.defers, Inv.world (w := w) rfl hr.inv⟩

theorem stp_drew (w : World) : Stp Mine w { w with drawn := w.drawn + 1 } := ⟨rfl, rfl, rfl, Nat.le_refl _, fun _ _ => rfl⟩

theorem drawn_sound (htt : TTOK P tt) (hcs : CallS P call) (hcd : CallDet call) (hmix : P.follows .mixedOrders = true) (hno : noDm ops.toList = true)
  (h : awpD tt call mds rid ops 0 ops.toList [] K s) (hr : Rel Mine G s a w) (hh : h0 ≤ s.hp.length) :
  (Code.region rid ops true).wp P (Lift Mine G h0 w (seqK K (fun _ _ => False))) a w := by
 refine wp_region_any hmix ?_
 have := drawn_from htt hcs hcd h hr.drew hh (stp_drew w) (Array.replicate ops.size false) (by simp) (fun j => ⟨fun h => (lst_none _ _ h).elim, fun h => (noDm_spec hno j h).elim⟩)
 rwa [Array.toList_replicate, nFalse_replicate] at this

theorem posOf_get : ∀ (q : List Nat) (i : Nat), posOf q i < q.length → q[posOf q i]? = some i
 | [], i, h => by simp at h
 | a :: l, i, h => by
  unfold posOf at h ⊢
  cases e : Nat.beq a i with
  | true => have := Nat.eq_of_beq_eq_true e; subst this; rfl
  | false =>
   rw [e] at h
   have h : posOf l i + 1 < l.length + 1 := h
   show (a :: l)[posOf l i + 1]? = some i
   rw [List.getElem?_cons_succ]
   exact posOf_get l i (by omega)

theorem permOK_spec {q : List Nat} {n : Nat} (h : permOK q n = true) : q.length = n ∧ ∀ i, i < n → posOf q i < n ∧ q.getD i 0 < n ∧ posOf q (q.getD i 0) = i := by
 unfold permOK at h
 rw [Bool.and_eq_true] at h
 refine ⟨Nat.eq_of_beq_eq_true h.1, fun i hi => ?_⟩
 have := List.all_eq_true.1 h.2 i (List.mem_range.2 hi)
 rw [Bool.and_eq_true, Bool.and_eq_true, Nat.blt_eq, Nat.blt_eq] at this
 exact ⟨this.1.1, this.1.2, Nat.eq_of_beq_eq_true this.2⟩

theorem perm_any {q : List Nat} (hq : permOK q ops.size = true) {Q : Exit → Act → World → Prop} : ∀ (fuel : Nat) (listed listed' : Array Bool) (a : Act) (w : World), listed.size = ops.size → listed'.size = ops.size →
  (∀ k, k < ops.size → (Lst listed' k ↔ Lst listed (q.getD k 0))) → wpAny P .any (permOps q ops) Q fuel listed' a w → wpAny P .any ops Q fuel listed a w := by
 obtain ⟨hlen, hinv⟩ := permOK_spec hq
 have hget : ∀ i, i < ops.size → q.getD (posOf q i) 0 = i := fun i hi => by
  have := posOf_get q i (by rw [hlen]; exact (hinv i hi).1)
  simp only [List.getD, this, Option.getD_some]
 have hsz' : (permOps q ops).size = ops.size := by unfold permOps; simp [hlen]
 have hat : ∀ k, k < ops.size → ∃ o, ops[q.getD k 0]? = some o ∧ (permOps q ops)[k]? = some (renum q o) := by
  intro k hk
  have hi := (hinv k hk).2.1
  refine ⟨ops[q.getD k 0], Array.getElem?_eq_getElem hi, ?_⟩
  unfold permOps
  have hqk : q[k]? = some (q.getD k 0) := by
   have hk' : k < q.length := by omega
   simp only [List.getD, List.getElem?_eq_getElem hk', Option.getD_some]
  rw [List.getElem?_toArray, List.getElem?_map, hqk]
  simp only [Option.map_some, Array.getElem?_eq_getElem hi, Option.getD_some]
 have lstF : ∀ (ls : Array Bool) (j : Nat), j < ls.size → (ls.getD j true = false ↔ ¬ Lst ls j) := by
  intro ls j hj
  unfold Lst
  simp [Array.getD_eq_getD_getElem?, hj]
 have lstLt : ∀ (ls : Array Bool) (j : Nat), Lst ls j → j < ls.size := by
  intro ls j h
  rcases Nat.lt_or_ge j ls.size with h' | h'
  ·exact h'
  ·unfold Lst at h
   simp [Array.getD_eq_getD_getElem?, Array.getElem?_eq_none h'] at h
 have binds : ∀ e : Edge, Region.binds .any (renumE q e) = Region.binds .any e := fun e => rfl
 have ready : ∀ (listed listed' : Array Bool), listed.size = ops.size → listed'.size = ops.size → (∀ k, k < ops.size → (Lst listed' k ↔ Lst listed (q.getD k 0))) → ∀ k, k < ops.size →
   (k ∈ Region.ready .any (permOps q ops) listed' ↔ q.getD k 0 ∈ Region.ready .any ops listed) := by
  intro listed listed' h1 h2 hl k hk
  obtain ⟨o, ho, ho'⟩ := hat k hk
  have hi := (hinv k hk).2.1
  rw [mem_ready, mem_ready]
  have hfirst : (listed'.getD k true = false ↔ listed.getD (q.getD k 0) true = false) := by
   rw [lstF listed' k (by omega), lstF listed _ (by omega), hl k hk]
  refine and_congr hfirst ⟨?_, ?_⟩
  ·rintro ⟨o2, ho2, hall⟩
   rw [ho'] at ho2; cases ho2
   refine ⟨o, ho, fun e he hb => ?_⟩
   have hm : renumE q e ∈ (renum q o).after := by
    show renumE q e ∈ (o.after.toList.map (renumE q)).toArray
    rw [List.mem_toArray]
    exact List.mem_map.2 ⟨e, Array.mem_toList_iff.2 he, rfl⟩
   have h3 : Lst listed' (posOf q e.on) := hall _ hm (by rw [binds]; exact hb)
   have hlt := lstLt _ _ h3
   have := (hl _ (by omega)).1 h3
   have hg := posOf_get q e.on (by omega)
   simp only [List.getD, hg, Option.getD_some] at this
   exact this
  ·rintro ⟨o2, ho2, hall⟩
   rw [ho] at ho2; cases ho2
   refine ⟨_, ho', fun e he hb => ?_⟩
   have hm : e ∈ (o.after.toList.map (renumE q)).toArray := he
   rw [List.mem_toArray] at hm
   obtain ⟨e0, he0, rfl⟩ := List.mem_map.1 hm
   have h3 : Lst listed e0.on := hall e0 (Array.mem_toList_iff.1 he0) (by rw [binds] at hb; exact hb)
   have hlt := lstLt _ _ h3
   refine (hl (posOf q e0.on) (hinv _ (by omega)).1).2 ?_
   rw [hget _ (by omega)]; exact h3
 have op : ∀ (k : Nat) (K : Act → World → Prop) (a : Act) (w : World), k < ops.size → wpOp P (permOps q ops) Q k K a w → wpOp P ops Q (q.getD k 0) K a w := by
  intro k K a w hk h
  obtain ⟨o, ho, ho'⟩ := hat k hk
  have hw : Region.wanted (renum q o) (yielded (permOps q ops) a.tmps) = Region.wanted o (yielded ops a.tmps) := by
   unfold Region.wanted
   cases hg : o.guard with
   | none => simp [renum, hg]
   | some g =>
    obtain ⟨g, b⟩ := g
    simp only [renum, hg, Option.map_some]
    have : yielded (permOps q ops) a.tmps (posOf q g) = yielded ops a.tmps g := by
     unfold yielded
     have hd : ((permOps q ops)[posOf q g]?).bind (·.dst) = (ops[g]?).bind (·.dst) := by
      rcases Nat.lt_or_ge g ops.size with h1 | h1
      ·obtain ⟨o2, e1, e2⟩ := hat (posOf q g) (hinv g h1).1
       rw [hget g h1] at e1
       rw [e1, e2]; rfl
      ·have : ¬ posOf q g < q.length := by
        intro h2
        have h3 := posOf_get q g h2
        have h4 := hinv (posOf q g) (by omega)
        have : q.getD (posOf q g) 0 = g := by simp only [List.getD, h3, Option.getD_some]
        rw [this] at h4
        omega
       rw [Array.getElem?_eq_none h1, Array.getElem?_eq_none (by omega)]
     rw [hd]
    rw [this]
  unfold wpOp at h ⊢
  rw [ho'] at h
  rw [ho]
  dsimp only at h ⊢
  rw [hw] at h
  exact h
 intro fuel
 induction fuel with
 | zero =>
  intro listed listed' a w h1 h2 hl h
  refine ⟨?_, h.2⟩
  cases hr : Region.ready .any ops listed with
  | nil => rfl
  | cons i r =>
   have hm : i ∈ Region.ready .any ops listed := by rw [hr]; exact List.mem_cons_self ..
   have hi : i < ops.size := by
    have hm := hm
    rw [mem_ready] at hm
    obtain ⟨_, o, ho, _⟩ := hm
    exact (Array.getElem?_eq_some_iff.1 ho).1
   have := (ready listed listed' h1 h2 hl (posOf q i) (hinv i hi).1).2 (by rw [hget i hi]; exact hm)
   rw [h.1] at this; cases this
 | succ fuel ih =>
  intro listed listed' a w h1 h2 hl h
  refine ⟨fun hnil => h.1 ?_, fun i hm => ?_⟩
  ·cases hr : Region.ready .any (permOps q ops) listed' with
   | nil => rfl
   | cons k r =>
    have hm : k ∈ Region.ready .any (permOps q ops) listed' := by rw [hr]; exact List.mem_cons_self ..
    have hk : k < ops.size := by
     have hm := hm
     rw [mem_ready] at hm
     obtain ⟨_, o, ho, _⟩ := hm
     have := (Array.getElem?_eq_some_iff.1 ho).1
     omega
    have := (ready listed listed' h1 h2 hl k hk).1 hm
    rw [hnil] at this; cases this
  ·have hi : i < ops.size := by
    have hm := hm
    rw [mem_ready] at hm
    obtain ⟨_, o, ho, _⟩ := hm
    exact (Array.getElem?_eq_some_iff.1 ho).1
   have hk := (hinv i hi).1
   have hm' := (ready listed listed' h1 h2 hl (posOf q i) hk).2 (by rw [hget i hi]; exact hm)
   have hop := op (posOf q i) _ a w hk (h.2 _ hm')
   rw [hget i hi] at hop
   refine wpOp_mono (fun a' w' h' => ih _ _ a' w' (by simpa using h1) (by simpa using h2) (fun k hk2 => ?_) h') hop
   rw [lst_set (by omega), lst_set (by omega), hl k hk2]
   refine or_congr_left ?_
   constructor
   ·rintro rfl; exact hget i hi
   ·intro e; rw [← e]; exact ((hinv k hk2).2.2).symm

theorem perm_sound (htt : TTOK P tt) (hcs : CallS P call) (hcd : CallDet call) (hmix : P.follows .mixedOrders = true) {q : List Nat} (hq : permOK q ops.size = true) (hno : noDm (permOps q ops).toList = true)
  (h : awpD tt call mds rid (permOps q ops) 0 (permOps q ops).toList [] K s) (hr : Rel Mine G s a w) (hh : h0 ≤ s.hp.length) {rid' : Nat} :
  (Code.region rid' ops true).wp P (Lift Mine G h0 w (seqK K (fun _ _ => False))) a w := by
 refine wp_region_any hmix ?_
 have hsz' : (permOps q ops).size = ops.size := by unfold permOps; simp [(permOK_spec hq).1]
 have := drawn_from (ops := permOps q ops) htt hcs hcd h hr.drew hh (stp_drew w) (Array.replicate ops.size false) (by simp [hsz']) (fun j => ⟨fun h => (lst_none _ _ h).elim, fun h => (noDm_spec hno j h).elim⟩)
 rw [Array.toList_replicate, nFalse_replicate] at this
 exact perm_any hq _ _ _ _ _ (by simp) (by simp) (fun k hk => ⟨fun h => (lst_none _ _ h).elim, fun h => (lst_none _ _ h).elim⟩) this

theorem blankL_get {md : Mds} {rid : Nat} : ∀ (l : List Oper) (i k : Nat), (blankL md rid i l)[k]? = (l[k]?).map fun o => cond (md.z rid (i + k)) noop o
 | [], i, k => by simp [blankL]
 | o :: r, i, 0 => by simp [blankL]
 | o :: r, i, k + 1 => by
  simp only [blankL, List.getElem?_cons_succ]
  rw [blankL_get r (i + 1) k, show i + 1 + k = i + (k + 1) by omega]

theorem blank_get {md : Mds} (j : Nat) : (blank md rid ops)[j]? = (ops[j]?).map fun o => cond (md.z rid j) noop o := by
 unfold blank
 rw [List.getElem?_toArray, blankL_get, Nat.zero_add, Array.getElem?_toList]

theorem blankL_len {md : Mds} : ∀ (l : List Oper) (i : Nat), (blankL md rid i l).length = l.length
 | [], i => rfl
 | o :: r, i => congrArg (· + 1) (blankL_len r (i + 1))

theorem blank_size {md : Mds} : (blank md rid ops).size = ops.size := by
 unfold blank
 rw [List.size_toArray, blankL_len, Array.length_toList]

theorem blank_any {md : Mds} {Q : Exit → Act → World → Prop} (hg : ∀ j o, ops[j]? = some o → md.z rid j = false → gOK md rid o = true) : ∀ (fuel : Nat) (listed : Array Bool) (a : Act) (w : World), listed.size = ops.size →
  (∀ j, j < ops.size → md.z rid j = true → Lst listed j) → wpAny P .any (blank md rid ops) Q fuel listed a w → wpAny P .any ops Q fuel listed a w := by
 intro fuel
 have ready : ∀ (listed : Array Bool), listed.size = ops.size → (∀ j, j < ops.size → md.z rid j = true → Lst listed j) → ∀ i, i ∈ Region.ready .any ops listed → i ∈ Region.ready .any (blank md rid ops) listed ∧ md.z rid i = false := by
  intro listed hsz hz i hm
  rw [mem_ready] at hm
  obtain ⟨h1, o, ho, h2⟩ := hm
  have hi := (Array.getElem?_eq_some_iff.1 ho).1
  have hzi : md.z rid i = false := by
   cases h : md.z rid i with
   | false => rfl
   | true =>
    have := hz i hi h
    unfold Lst at this
    have hi' : i < listed.size := by omega
    simp [Array.getD_eq_getD_getElem?, hi'] at this h1
    rw [this] at h1; cases h1
  refine ⟨?_, hzi⟩
  rw [mem_ready]
  refine ⟨h1, o, ?_, h2⟩
  rw [blank_get, ho, hzi]; rfl
 have op : ∀ (i : Nat) (K : Act → World → Prop) (a : Act) (w : World), i < ops.size → md.z rid i = false → wpOp P (blank md rid ops) Q i K a w → wpOp P ops Q i K a w := by
  intro i K a w hi hzi h
  have ho : ops[i]? = some ops[i] := Array.getElem?_eq_getElem hi
  have ho' : (blank md rid ops)[i]? = some ops[i] := by rw [blank_get, ho, hzi]; rfl
  have hw : Region.wanted ops[i] (yielded (blank md rid ops) a.tmps) = Region.wanted ops[i] (yielded ops a.tmps) := by
   have hg' := hg i _ ho hzi
   unfold gOK at hg'
   unfold Region.wanted
   cases hgd : ops[i].guard with
   | none => rfl
   | some jw =>
    obtain ⟨j, want⟩ := jw
    rw [hgd] at hg'
    have hzj : md.z rid j = false := by simpa using hg'
    dsimp only
    unfold yielded
    have : (blank md rid ops)[j]? = ops[j]? := by
     rw [blank_get, hzj]
     cases ops[j]? <;> rfl
    rw [this]
  unfold wpOp at h ⊢
  rw [ho'] at h
  rw [ho]
  dsimp only at h ⊢
  rw [hw] at h
  exact h
 induction fuel with
 | zero =>
  intro listed a w hsz hz h
  refine ⟨?_, h.2⟩
  cases hr : Region.ready .any ops listed with
  | nil => rfl
  | cons i r =>
   have := (ready listed hsz hz i (by rw [hr]; exact List.mem_cons_self ..)).1
   rw [h.1] at this; cases this
 | succ fuel ih =>
  intro listed a w hsz hz h
  refine ⟨fun hnil => h.1 ?_, fun i hm => ?_⟩
  ·cases hr : Region.ready .any (blank md rid ops) listed with
   | nil => rfl
   | cons i r =>
    have hm : i ∈ Region.ready .any (blank md rid ops) listed := by rw [hr]; exact List.mem_cons_self ..
    rw [mem_ready] at hm
    obtain ⟨h1, o, ho, h2⟩ := hm
    have hi : i < ops.size := by have := (Array.getElem?_eq_some_iff.1 ho).1; rwa [blank_size] at this
    have hzi : md.z rid i = false := by
     cases hq : md.z rid i with
     | false => rfl
     | true =>
      have := hz i hi hq
      unfold Lst at this
      have hi' : i < listed.size := by omega
      simp [Array.getD_eq_getD_getElem?, hi'] at this h1
      rw [this] at h1; cases h1
    have : i ∈ Region.ready .any ops listed := by
     rw [mem_ready]
     have ho2 : ops[i]? = some ops[i] := Array.getElem?_eq_getElem hi
     rw [blank_get, ho2, hzi] at ho
     cases ho
     exact ⟨h1, _, ho2, h2⟩
    rw [hnil] at this; cases this
  ·obtain ⟨hm', hzi⟩ := ready listed hsz hz i hm
   have hi : i < ops.size := by
    rw [mem_ready] at hm
    obtain ⟨_, o, ho, _⟩ := hm
    exact (Array.getElem?_eq_some_iff.1 ho).1
   refine wpOp_mono (fun a' w' h' => ih _ a' w' (by simpa using hsz) (fun j hj hzj => ?_) h') (op i _ a w hi hzi (h.2 i hm'))
   exact (lst_set (by omega)).2 (.inr (hz j hj hzj))

theorem aop_move {o : Oper} {y : Operand} {K : TV → St → Prop} (ho : o.op = .move y) (h : aop tt call .dflt o s K) : K (s.ev tt o.type y) s := by
 unfold aop at h
 have hx : isX tt .dflt o s = false := by simp [isX, ho]
 rw [hx] at h
 have h : aop0 tt call .dflt o s K := h
 unfold aop0 at h
 split at h
 ·exact h.elim
 ·simp only [ho] at h
  exact h

theorem zpre_any {Q : Exit → Act → World → Prop} (hQ : ∀ c a a' w, Q (.panic c) a w → Q (.panic c) a' w) (hsel : Region.noSelect ops = true) {K' : St → Prop} (hh : h0 ≤ s.hp.length)
  (cont : ∀ s' a' ls', K' s' → Rel Mine G s' a' w → s'.hp = s.hp → ls'.size = ops.size → (∀ j, Lst ls' j ↔ j < ops.size ∧ mds.z rid j = true) → (∀ j o, ops[j]? = some o → mds.z rid j = false → gOK mds rid o = true) → wpAny P .any ops Q (nFalse ls'.toList) ls' a' w) :
  ∀ (l : List Oper) (i : Nat) (ls : Array Bool) (s1 : St) (a : Act), ops.toList.drop i = l → i + l.length = ops.size → zChk mds rid ops i l ls = true → ls.size = ops.size → (∀ j, Lst ls j ↔ j < i ∧ j < ops.size ∧ mds.z rid j = true) →
   (∀ j o, j < i → ops[j]? = some o → mds.z rid j = false → gOK mds rid o = true) → zPre tt call mds rid i l K' s1 → Rel Mine G s1 a w → s1.hp = s.hp → wpAny P .any ops Q (nFalse ls.toList) ls a w
 | [], i, ls, s1, a, hd, hil, hz, hsz, hl, hg, h, hr, hp => by
  simp only [List.length_nil] at hil
  exact cont s1 a ls h hr hp hsz (fun j => (hl j).trans ⟨fun h => h.2, fun h => ⟨by omega, h⟩⟩) (fun j o ho hzj => hg j o (by have := (Array.getElem?_eq_some_iff.1 ho).1; omega) ho hzj)
 | o :: r, i, ls, s1, a, hd, hil, hz, hsz, hl, hg, h, hr, hp => by
  simp only [List.length_cons] at hil
  have hi : i < ops.size := by omega
  have ho : ops[i]? = some o := by
   rw [← Array.getElem?_toList]
   have : (ops.toList.drop i)[0]? = some o := by rw [hd]; rfl
   rw [List.getElem?_drop] at this
   simpa using this
  have hd' : ops.toList.drop (i + 1) = r := by
   rw [← List.tail_drop, hd]; rfl
  unfold zChk at hz
  unfold zPre at h
  cases hzi : mds.z rid i with
  | false =>
   rw [hzi] at hz h
   dsimp only at hz h
   rw [Bool.and_eq_true] at hz
   refine zpre_any hQ hsel hh cont r (i + 1) ls s1 a hd' (by omega) hz.2 hsz (fun j => (hl j).trans ?_) (fun j o' hj ho' hzj => ?_) h hr hp
   ·constructor
    ·rintro ⟨h1, h2, h3⟩; exact ⟨by omega, h2, h3⟩
    ·rintro ⟨h1, h2, h3⟩
     refine ⟨?_, h2, h3⟩
     rcases Nat.lt_or_ge j i with h' | h'
     ·exact h'
     ·have : j = i := by omega
      subst this; rw [hzi] at h3; cases h3
   ·rcases Nat.lt_or_ge j i with h' | h'
    ·exact hg j o' h' ho' hzj
    ·have : j = i := by omega
     subst this
     rw [ho] at ho'; cases ho'; exact hz.1
  | true =>
   rw [hzi] at hz h
   dsimp only at hz h
   rw [Bool.and_eq_true, Bool.and_eq_true, Bool.and_eq_true] at hz
   obtain ⟨⟨⟨hk, hf⟩, hrd⟩, hz⟩ := hz
   obtain ⟨hgd, y, hy⟩ : o.guard = none ∧ ∃ y, o.op = .move y := by
    unfold zKind at hk
    split at hk
    ·cases hk
    ·rename_i hgd
     split at hk
     ·rename_i y hy; exact ⟨hgd, y, hy⟩
     ·cases hk
   have h := aop_move hy h
   have hni : ¬ Lst ls i := fun h => absurd ((hl i).1 h).1 (Nat.lt_irrefl _)
   have hif : ls.toList[i]? = some false := by
    unfold Lst at hni
    have hj' : i < ls.size := by omega
    have hj'' : i < ls.toList.length := by simpa using hj'
    simp [Array.getD_eq_getD_getElem?, hj'] at hni
    rw [List.getElem?_eq_getElem hj'']
    simpa using hni
   rw [nFalse_set _ _ hif]
   refine wpAny_take (v := a.eval y) ho hsel hf hrd (fun c a' w' h => hQ c _ _ _ h) (.inl ⟨by unfold Region.wanted; rw [hgd], fun w => by simp [execOp, hy]⟩) ?_
   rw [← Array.toList_setIfInBounds]
   have hrel := hr.put (d := o.dst) (x := s1.ev tt o.type y) (y := a.eval y) (s' := s1) (hr.ev o.type y) rfl hr.inv (.refl _) (.refl _ _)
   refine zpre_any hQ hsel hh cont r (i + 1) _ _ _ hd' (by omega) hz (by simpa using hsz) (fun j => ?_) (fun j o' hj ho' hzj => ?_) h hrel ?_
   ·rw [lst_set (by omega), hl j]
    constructor
    ·rintro (rfl | ⟨h1, h2, h3⟩)
     ·exact ⟨by omega, hi, hzi⟩
     ·exact ⟨by omega, h2, h3⟩
    ·rintro ⟨h1, h2, h3⟩
     rcases Nat.lt_or_ge j i with h' | h'
     ·exact .inr ⟨h', h2, h3⟩
     ·exact .inl (by omega)
   ·rcases Nat.lt_or_ge j i with h' | h'
    ·exact hg j o' h' ho' hzj
    ·have : j = i := by omega
     subst this
     rw [hzi] at hzj; cases hzj
   ·cases o.dst <;> exact hp

theorem drawnz_sound (htt : TTOK P tt) (hcs : CallS P call) (hcd : CallDet call) (hmix : P.follows .mixedOrders = true) (hz : zOK mds rid ops = true)
  (h : zPre tt call mds rid 0 ops.toList (awpD tt call mds rid (blank mds rid ops) 0 (blank mds rid ops).toList [] K) s) (hr : Rel Mine G s a w) (hh : h0 ≤ s.hp.length) :
  (Code.region rid ops true).wp P (Lift Mine G h0 w (seqK K (fun _ _ => False))) a w := by
 refine wp_region_any hmix ?_
 unfold zOK at hz
 rw [Bool.and_eq_true, Bool.and_eq_true] at hz
 obtain ⟨⟨hno, hsel⟩, hz⟩ := hz
 have hno := noDm_spec hno
 have key := zpre_any (P := P) (G := G) (Mine := Mine) (w := { w with drawn := w.drawn + 1 }) (Q := Lift Mine G h0 w (seqK K (fun _ _ => False)))
  (fun c a a' w h => by obtain ⟨s', G', h, _⟩ := h; exact h.elim) hsel hh (fun s' a' ls' hk hrel hp hsz hl hg => ?_) ops.toList 0 (Array.replicate ops.size false) s a rfl (by simp) hz (by simp)
  (fun j => ⟨fun h => (lst_none _ _ h).elim, fun h => (Nat.not_lt_zero _ h.1).elim⟩) (fun j o hj => (Nat.not_lt_zero _ hj).elim) h hr.drew rfl
 ·rwa [Array.toList_replicate, nFalse_replicate] at key
 ·refine blank_any hg _ ls' a' _ hsz (fun j hj hzj => (hl j).2 ⟨hj, hzj⟩) ?_
  refine drawn_from htt hcs hcd hk hrel (by rw [hp]; exact hh) (stp_drew w) ls' (by rw [blank_size]; exact hsz) (fun j => (hl j).trans ?_)
  constructor
  ·rintro ⟨hj, hzj⟩
   exact ⟨noop, by rw [blank_get, Array.getElem?_eq_getElem hj, hzj]; rfl, rfl⟩
  ·rintro ⟨o, ho, hd⟩
   rw [blank_get] at ho
   cases hoj : ops[j]? with
   | none => rw [hoj] at ho; cases ho
   | some o' =>
    refine ⟨(Array.getElem?_eq_some_iff.1 hoj).1, ?_⟩
    cases hzj : mds.z rid j with
    | true => rfl
    | false =>
     rw [hoj, hzj] at ho
     cases ho
     exact absurd ⟨o', hoj, hd⟩ (hno j)

end
end Go.Proofs.YtdcljlafookliaaDoor.AB

namespace Go.Proofs.YtdcljlafookliaaDoor.AB
open Go


section
variable {P : Program} {ops : Array Oper} {Q : Exit → Act → World → Prop}

theorem addEL_get (a b : Nat) : ∀ (l : List Oper) (i k : Nat), (addEL a b i l)[k]? = (l[k]?).map fun o => cond (Nat.beq (i + k) a) { o with after := (⟨b, .data⟩ :: o.after.toList).toArray } o
 | [], i, k => by simp [addEL]
 | o :: r, i, 0 => by simp [addEL]
 | o :: r, i, k + 1 => by
  simp only [addEL, List.getElem?_cons_succ]
  rw [addEL_get a b r (i + 1) k, show i + 1 + k = i + (k + 1) by omega]

theorem addE_get (a b k : Nat) : (addE ops a b)[k]? = (ops[k]?).map fun o => cond (Nat.beq k a) { o with after := (⟨b, .data⟩ :: o.after.toList).toArray } o := by
 unfold addE
 rw [List.getElem?_toArray, addEL_get, Nat.zero_add, Array.getElem?_toList]

theorem addEL_len (a b : Nat) : ∀ (l : List Oper) (i : Nat), (addEL a b i l).length = l.length
 | [], _ => rfl
 | o :: r, i => congrArg (· + 1) (addEL_len a b r (i + 1))

theorem addE_size (a b : Nat) : (addE ops a b).size = ops.size := by
 unfold addE; rw [List.size_toArray, addEL_len, Array.length_toList]

theorem wpOp_addE {a b i : Nat} {K : Act → World → Prop} {a' : Act} {w : World} : wpOp P (addE ops a b) Q i K a' w ↔ wpOp P ops Q i K a' w := by
 have hy : ∀ (tm : Array Value), yielded (addE ops a b) tm = yielded ops tm := by
  intro tm
  funext j
  unfold yielded
  rw [addE_get]
  cases ops[j]? with
  | none => rfl
  | some o => cases Nat.beq j a <;> rfl
 unfold wpOp
 rw [addE_get]
 cases ops[i]? with
 | none => exact Iff.rfl
 | some o =>
  simp only [Option.map_some, hy]
  cases Nat.beq i a <;> exact Iff.rfl

theorem ready_addE {a b : Nat} {listed : Array Bool} {i : Nat} : i ∈ Region.ready .any (addE ops a b) listed ↔ i ∈ Region.ready .any ops listed ∧ (i = a → Lst listed b) := by
 rw [mem_ready, mem_ready, addE_get]
 constructor
 ·rintro ⟨h1, o, ho, h2⟩
  cases hi : ops[i]? with
  | none => rw [hi] at ho; cases ho
  | some o0 =>
   rw [hi] at ho
   cases hb : Nat.beq i a with
   | false =>
    rw [hb] at ho; cases ho
    exact ⟨⟨h1, _, rfl, h2⟩, fun e => by subst e; simp at hb⟩
   | true =>
    rw [hb] at ho; cases ho
    refine ⟨⟨h1, _, rfl, fun e he hbe => h2 e ?_ hbe⟩, fun _ => h2 ⟨b, .data⟩ ?_ rfl⟩
    ·exact List.mem_toArray.2 (List.mem_cons_of_mem _ (Array.mem_toList_iff.2 he))
    ·exact List.mem_toArray.2 (List.mem_cons_self ..)
 ·rintro ⟨⟨h1, o, ho, h2⟩, h3⟩
  rw [ho]
  refine ⟨h1, _, rfl, fun e he hbe => ?_⟩
  cases hb : Nat.beq i a with
  | false => rw [hb] at he; exact h2 e he hbe
  | true =>
   rw [hb] at he
   have he : e ∈ (⟨b, .data⟩ :: o.after.toList).toArray := he
   rcases List.mem_cons.1 (List.mem_toArray.1 he) with rfl | he
   ·exact h3 (Nat.eq_of_beq_eq_true hb)
   ·exact h2 e (Array.mem_toList_iff.1 he) hbe

def Runs (ops : Array Oper) : Nat → Array Bool → List Nat → Prop
 | 0, _, L => L = []
 | fuel + 1, listed, L => (L = [] ∧ Region.ready .any ops listed = []) ∨ ∃ i r, L = i :: r ∧ i ∈ Region.ready .any ops listed ∧ Runs ops fuel (listed.setIfInBounds i true) r

theorem runs_go : ∀ (fuel t : Nat) (listed : Array Bool), Runs ops fuel listed (Region.linearise.go .any ops fuel t listed [])
 | 0, t, listed => by simp [Region.linearise.go, Runs]
 | fuel + 1, t, listed => by
  simp only [Region.linearise.go]
  change Runs ops (fuel + 1) listed (match (Region.ready .any ops listed)[t % (Region.ready .any ops listed).length]? with
   | some i => Region.linearise.go .any ops fuel (t / (Region.ready .any ops listed).length) (listed.setIfInBounds i true) [i]
   | none => [].reverse)
  cases hi : (Region.ready .any ops listed)[t % (Region.ready .any ops listed).length]? with
  | none =>
   have hnil : Region.ready .any ops listed = [] := by
    cases hr : Region.ready .any ops listed with
    | nil => rfl
    | cons x xs =>
     rw [hr] at hi
     have hlt : t % (x :: xs).length < (x :: xs).length := Nat.mod_lt _ (by simp)
     simp at hi
     simp at hlt
     omega
   exact .inl ⟨rfl, hnil⟩
  | some i =>
   simp only []
   rw [linearise_go_acc, List.reverse_singleton, List.singleton_append]
   exact .inr ⟨i, _, rfl, List.mem_of_getElem? hi, runs_go fuel _ _⟩

theorem any_runs : ∀ (fuel : Nat) (listed : Array Bool) (L : List Nat) (x : Act) (w : World), Runs ops fuel listed L → wpAny P .any ops Q fuel listed x w → wpOps P ops Q L x w
 | 0, listed, L, x, w, hr, h => by
  have hr : L = [] := hr
  subst hr
  simpa [wpOps] using h.2
 | fuel + 1, listed, L, x, w, hr, h => by
  rcases hr with ⟨rfl, hn⟩ | ⟨i, r, rfl, hi, hr⟩
  ·simpa [wpOps] using h.1 hn
  ·rw [wpOps_cons]
   exact wpOp_mono (fun a w h => any_runs fuel _ r a w hr h) (h.2 i hi)

theorem ops_addE {a b : Nat} : ∀ (L : List Nat) (x : Act) (w : World), wpOps P (addE ops a b) Q L x w → wpOps P ops Q L x w
 | [], x, w, h => by simpa [wpOps] using h
 | i :: r, x, w, h => by
  rw [wpOps_cons] at h ⊢
  exact wpOp_mono (fun a w h => ops_addE r a w h) (wpOp_addE.1 h)

theorem ready_nil {a b : Nat} {listed : Array Bool} (h : Region.ready .any ops listed = []) : Region.ready .any (addE ops a b) listed = [] := by
 cases hr : Region.ready .any (addE ops a b) listed with
 | nil => rfl
 | cons i r =>
  have : i ∈ Region.ready .any (addE ops a b) listed := by rw [hr]; exact List.mem_cons_self ..
  have := (ready_addE.1 this).1
  rw [h] at this; cases this

theorem ready_lt {listed : Array Bool} {i : Nat} (hsz : listed.size = ops.size) (hm : i ∈ Region.ready .any ops listed) : i < listed.size := by
 rw [mem_ready] at hm
 obtain ⟨_, o, ho, _⟩ := hm
 have := (Array.getElem?_eq_some_iff.1 ho).1
 omega

theorem met_runs {a b : Nat} : ∀ (fuel : Nat) (listed : Array Bool) (L : List Nat), listed.size = ops.size → Lst listed b → Runs ops fuel listed L → Runs (addE ops a b) fuel listed L
 | 0, _, _, _, _, h => h
 | fuel + 1, listed, L, hsz, hb, h => by
  rcases h with ⟨rfl, hn⟩ | ⟨i, r, rfl, hi, hr⟩
  ·exact .inl ⟨rfl, ready_nil hn⟩
  ·exact .inr ⟨i, r, rfl, ready_addE.2 ⟨hi, fun _ => hb⟩, met_runs fuel _ r (by simpa using hsz) ((lst_set (ready_lt hsz hi)).2 (.inr hb)) hr⟩

theorem split_runs {p q : Nat} (hne : p ≠ q) : ∀ (fuel : Nat) (listed : Array Bool) (L : List Nat), listed.size = ops.size → ¬ Lst listed p → ¬ Lst listed q → Runs ops fuel listed L → Runs (addE ops p q) fuel listed L ∨ Runs (addE ops q p) fuel listed L
 | 0, _, _, _, _, _, h => .inl h
 | fuel + 1, listed, L, hsz, h1, h2, h => by
  rcases h with ⟨rfl, hn⟩ | ⟨i, r, rfl, hi, hr⟩
  ·exact .inl (.inl ⟨rfl, ready_nil hn⟩)
  ·have hlt := ready_lt hsz hi
   by_cases hip : i = p
   ·subst hip
    exact .inr (.inr ⟨i, r, rfl, ready_addE.2 ⟨hi, fun e => absurd e hne⟩, met_runs _ _ r (by simpa using hsz) ((lst_set hlt).2 (.inl rfl)) hr⟩)
   ·by_cases hiq : i = q
    ·subst hiq
     exact .inl (.inr ⟨i, r, rfl, ready_addE.2 ⟨hi, fun e => absurd e hip⟩, met_runs _ _ r (by simpa using hsz) ((lst_set hlt).2 (.inl rfl)) hr⟩)
    ·have k1 : ¬ Lst (listed.setIfInBounds i true) p := fun h => ((lst_set hlt).1 h).elim (fun e => hip e.symm) h1
     have k2 : ¬ Lst (listed.setIfInBounds i true) q := fun h => ((lst_set hlt).1 h).elim (fun e => hiq e.symm) h2
     exact (split_runs hne fuel _ r (by simpa using hsz) k1 k2 hr).imp (fun k => .inr ⟨i, r, rfl, ready_addE.2 ⟨hi, fun e => absurd e hip⟩, k⟩) (fun k => .inr ⟨i, r, rfl, ready_addE.2 ⟨hi, fun e => absurd e hiq⟩, k⟩)

theorem split_all {F : Nat → Array Oper → Prop} {fuel : Nat} {x : Act} {w : World} {n : Nat} (hF : ∀ k ops, ops.size = n → F k ops → wpAny P .any ops Q fuel (Array.replicate n false) x w) : ∀ (l : List Nat) (k : Nat) (st : List (Array Oper)),
  (∀ ops ∈ st, ops.size = n) → (l.all fun i => Nat.beq i 0 || (Nat.blt (i / 1000) n && Nat.blt (i % 1000) n && !Nat.beq (i / 1000) (i % 1000))) = true → splitF F l k st → ∀ ops ∈ st, ∀ L, Runs ops fuel (Array.replicate n false) L → wpOps P ops Q L x w
 | [], k, [], _, _, _ => fun ops ho => by cases ho
 | [], k, _ :: _, _, _, h => h.elim
 | _ :: _, k, [], _, _, _ => fun ops ho => by cases ho
 | i :: r, k, ops :: st, hst, hok, h => by
  rw [List.all_cons, Bool.and_eq_true] at hok
  obtain ⟨hi, hr⟩ := hok
  have h0 := hst ops (List.mem_cons_self ..)
  have hst' : ∀ o ∈ st, o.size = n := fun o ho => hst o (List.mem_cons_of_mem _ ho)
  unfold splitF at h
  cases hb : Nat.beq i 0 with
  | true =>
   rw [hb] at h
   intro o ho L hL
   rcases List.mem_cons.1 ho with rfl | ho
   ·exact any_runs _ _ L x w hL (hF k _ h0 h.1)
   ·exact split_all hF r (k + 1) st hst' hr h.2 o ho L hL
  | false =>
   rw [hb] at h
   rw [hb, Bool.false_or, Bool.and_eq_true, Bool.and_eq_true, Nat.blt_eq, Nat.blt_eq] at hi
   obtain ⟨⟨hp, hq⟩, hne⟩ := hi
   have hne : i / 1000 ≠ i % 1000 := fun e => by rw [e] at hne; simp at hne
   have key := split_all hF r k _ (by
    intro o ho
    rcases List.mem_cons.1 ho with rfl | ho
    ·rw [addE_size]; exact h0
    ·rcases List.mem_cons.1 ho with rfl | ho
     ·rw [addE_size]; exact h0
     ·exact hst' o ho) hr h
   intro o ho L hL
   rcases List.mem_cons.1 ho with rfl | ho
   ·rcases split_runs hne fuel _ L (by simp [h0]) (lst_none _ _) (lst_none _ _) hL with k1 | k1
    ·exact ops_addE L x w (key _ (List.mem_cons_self ..) L k1)
    ·exact ops_addE L x w (key _ (List.mem_cons_of_mem _ (List.mem_cons_self ..)) L k1)
   ·exact key o (List.mem_cons_of_mem _ (List.mem_cons_of_mem _ ho)) L hL

end

theorem splits_sound {P : Program} {tt : TT} {Mine : Mn} {G : Gh} {s : St} {a : Act} {w : World} {call : CallP} {rid h0 : Nat} {ops : Array Oper} {K : St → Prop} (htt : TTOK P tt) (hcs : CallS P call) (hcd : CallDet call) (hmix : P.follows .mixedOrders = true) {l : List Nat}
  (hok : splitOK l ops = true) {qs : Nat → List Nat} {mds : Nat → Mds}
  (h : splitF (fun k ops => match permOK (qs k) ops.size && noDm (permOps (qs k) ops).toList with
   | true => awpD tt call (mds k) rid (permOps (qs k) ops) 0 (permOps (qs k) ops).toList [] K s
   | false => False) l 0 [ops]) (hr : Rel Mine G s a w) (hh : h0 ≤ s.hp.length) {rid' : Nat} :
  (Code.region rid' ops true).wp P (Lift Mine G h0 w (seqK K (fun _ _ => False))) a w := by
 refine wp_region_draw fun t => ?_
 simp only [Region.schedule, hmix, Bool.true_or, if_true]
 unfold splitOK at hok
 refine split_all (P := P) (fuel := ops.size) (n := ops.size) (fun k ops' hn hF => ?_) l 0 [ops] (fun o ho => by rw [List.mem_singleton] at ho; subst ho; rfl) hok h ops (List.mem_singleton.2 rfl) _ (runs_go _ _ _)
 split at hF
 case h_2 => exact hF.elim
 rename_i hq
 rw [Bool.and_eq_true] at hq
 have hsz' : (permOps (qs k) ops').size = ops.size := by unfold permOps; simp [(permOK_spec hq.1).1, hn]
 have := drawn_from (ops := permOps (qs k) ops') htt hcs hcd hF hr.drew hh (stp_drew w) (Array.replicate ops.size false) (by simp [hsz']) (fun j => ⟨fun h => (lst_none _ _ h).elim, fun h => (noDm_spec hq.2 j h).elim⟩)
 rw [Array.toList_replicate, nFalse_replicate] at this
 exact perm_any hq.1 _ _ _ _ _ (by simp [hn]) (by simp [hn]) (fun k hk => ⟨fun h => (lst_none _ _ h).elim, fun h => (lst_none _ _ h).elim⟩) this

end Go.Proofs.YtdcljlafookliaaDoor.AB

