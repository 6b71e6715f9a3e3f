/- Parts of the proof: an evaluator of code on plain values, and that it is right of the model. -/
import Derived.Test.YtdcljlafookliaaDoorABx3
import Derived.ChangeArms
import Derived.Below
set_option linter.unusedVariables false
set_option linter.unusedSimpArgs false
namespace Go.Proofs.YtdcljlafookliaaDoor.AB
open Go

section
variable {P : Program} {tt : TT} {Mine : Mn} {G : Gh} {s : St} {a : Act} {w : World}

theorem VR.nb0 {x : V} {y : Value} (h : VR G x y) : VR G x.nb0 y := by
 cases x <;> first
  | exact h
  | (cases h; exact .bool _)

theorem VR.nb {x : V} {y : Value} (h : VR G x y) : VR G x.nb y := by
 cases x with
 | agg l =>
  cases h with
  | agg _ vs hl ho h => exact .agg _ vs (by simpa using hl) ho (VR.mapP V.nb0 (fun _ _ h => h.nb0) h)
 | _ => exact h.nb0

theorem TR.nb {x : TV} {y : Value} (h : TR G x y) : TR G x.nb y := by
 cases x with
 | v x =>
  cases h with
  | v _ _ h => exact .v _ _ h.nb
 | _ => exact h

theorem nb_cells (x : V) : x.nb.cells = x.cells.map V.nb0 := by
 cases x <;> rfl

theorem tnb_cells (x : TV) (j : Nat) (q : TV) (h : x.nb.cells[j]? = some q) : ∃ q0, x.cells[j]? = some q0 ∧ ∀ u, TR G q0 u → TR G q u := by
 cases x with
 | v x =>
  simp only [TV.nb, TV.cells, nb_cells, List.getElem?_map] at h ⊢
  cases hx : x.cells[j]? with
  | none => rw [hx] at h; cases h
  | some z =>
   rw [hx] at h; cases h
   exact ⟨_, rfl, fun u hu => by
    cases hu with
    | v _ _ hu => exact .v _ _ hu.nb0⟩
 | _ => exact ⟨q, h, fun _ h => h⟩

theorem tnb_length (x : TV) : x.nb.cells.length = x.cells.length := by
 cases x <;> simp [TV.nb, TV.cells, nb_cells]

theorem maskL_get : ∀ (m : List Bool) (l : List TV) (t : Nat) (x : TV), (maskL m l)[t]? = some x → x = .v .undef ∨ ∃ y, l[t]? = some y ∧ x = y.nb
 | [], l, t, x, h => by
  simp only [maskL, List.getElem?_map] at h
  cases hl : l[t]? with
  | none => rw [hl] at h; cases h
  | some y => rw [hl] at h; cases h; exact .inl rfl
 | true :: m, [], t, x, h => by simp [maskL] at h
 | false :: m, [], t, x, h => by simp [maskL] at h
 | true :: m, y :: l, 0, x, h => by simp [maskL] at h; exact .inr ⟨y, rfl, h.symm⟩
 | true :: m, y :: l, t + 1, x, h => by simp only [maskL, List.getElem?_cons_succ] at h ⊢; exact maskL_get m l t x h
 | false :: m, y :: l, 0, x, h => by simp [maskL] at h; exact .inl h.symm
 | false :: m, y :: l, t + 1, x, h => by simp only [maskL, List.getElem?_cons_succ] at h ⊢; exact maskL_get m l t x h

theorem maskL_length : ∀ (m : List Bool) (l : List TV), (maskL m l).length = l.length
 | [], l => by simp [maskL]
 | true :: m, [] => rfl
 | false :: m, [] => rfl
 | true :: m, y :: l => by simp [maskL, maskL_length m l]
 | false :: m, y :: l => by simp [maskL, maskL_length m l]

def Gh.cut (G : Gh) (n : Nat) : Gh := { G with loc := fun i g => if i < n then G.loc i g else none }

theorem Gh.cut_fz (G : Gh) (n : Nat) : Fz G (G.cut n) ∧ Fz (G.cut n) G := ⟨⟨fun _ _ _ x => x, fun _ _ x => x, fun _ _ x => x, fun _ _ _ _ _ x => x⟩, ⟨fun _ _ _ x => x, fun _ _ x => x, fun _ _ x => x, fun _ _ _ _ _ x => x⟩⟩

theorem cut_loc {n i g : Nat} {x} (hi : i < n) (h : G.loc i g = some x) : (G.cut n).loc i g = some x := by
 simp only [Gh.cut]; rw [if_pos hi]; exact h

theorem clo0_TR {n : Nat} {x : TV} {y : Value} (hc : x.clo0 n = true) (h : TR G x y) : TR (G.cut n) x y := by
 cases h with
 | v x y h => exact .v x y (h.mono (G.cut_fz n).1)
 | ptr i g e f b sz ct h => exact .ptr i g e f b sz ct (cut_loc (by simpa [TV.clo0] using hc) h)
 | arr i g off len b sz ct cap o h h1 h2 h3 => exact .arr i g off len b sz ct cap o (cut_loc (by simpa [TV.clo0] using hc) h) h1 h2 h3
 | arrNil i g sz ct h => exact .arrNil i g sz ct (cut_loc (by simpa [TV.clo0] using hc) h)
 | mapr i b sz ct h => exact .mapr i b sz ct (cut_loc (by simpa [TV.clo0] using hc) h)
 | iter i b sz ct h => exact .iter i b sz ct (cut_loc (by simpa [TV.clo0] using hc) h)
 | bsl i n b sz ct h => exact .bsl i n b sz ct (cut_loc (by simpa [TV.clo0] using hc) h)
 | ref0 c e p => exact .ref0 c e p
 | ref h c e p b ct hl hp => exact .ref h c e p b ct (cut_loc (by simpa [TV.clo0] using hc) hl) hp
 | sl0 c a => exact .sl0 c a
 | sl s c b ct o hl h1 h2 h3 => exact .sl s c b ct o (cut_loc (by simpa [TV.clo0] using hc) hl) h1 h2 h3
 | mp0 kc vc => exact .mp0 kc vc
 | mp h kc vc b sz ct hl => exact .mp h kc vc b sz ct (cut_loc (by simpa [TV.clo0] using hc) hl)
 | ifc0 => exact .ifc0
 | ifc t x y h => exact .ifc t x y (h.mono (G.cut_fz n).1)
 | clo f l vs hl h => cases hc
 | agg l vs hl ho h => cases hc
 | tup l vs hl h => cases hc

theorem clo1_TR {n : Nat} {x : TV} {y : Value} (hc : x.clo1 n = true) (h : TR G x y) : TR (G.cut n) x y := by
 have list : ∀ {l : List TV} {vs : List Value}, l.all (TV.clo0 n) = true → (∀ (i : Nat) x y, l[i]? = some x → vs[i]? = some y → TR G x y) →
   ∀ (i : Nat) x y, l[i]? = some x → vs[i]? = some y → TR (G.cut n) x y := by
  intro l vs ha hp i x y hx hy
  exact clo0_TR (List.all_eq_true.1 ha x (List.mem_of_getElem? hx)) (hp i x y hx hy)
 cases h with
 | clo f l vs hl h => exact .clo f l vs hl (list hc h)
 | agg l vs hl ho h => exact .agg l vs hl ho (list hc h)
 | tup l vs hl h => exact .tup l vs hl (list hc h)
 | v x y h => exact clo0_TR hc (.v x y h)
 | ptr i g e f b sz ct h => exact clo0_TR hc (.ptr i g e f b sz ct h)
 | arr i g off len b sz ct cap o h h1 h2 h3 => exact clo0_TR hc (.arr i g off len b sz ct cap o h h1 h2 h3)
 | arrNil i g sz ct h => exact clo0_TR hc (.arrNil i g sz ct h)
 | mapr i b sz ct h => exact clo0_TR hc (.mapr i b sz ct h)
 | iter i b sz ct h => exact clo0_TR hc (.iter i b sz ct h)
 | bsl i n b sz ct h => exact clo0_TR hc (.bsl i n b sz ct h)
 | ref0 c e p => exact clo0_TR hc (.ref0 c e p)
 | ref h c e p b ct hl hp => exact clo0_TR hc (.ref h c e p b ct hl hp)
 | sl0 c a => exact clo0_TR hc (.sl0 c a)
 | sl s c b ct o hl h1 h2 h3 => exact clo0_TR hc (.sl s c b ct o hl h1 h2 h3)
 | mp0 kc vc => exact clo0_TR hc (.mp0 kc vc)
 | mp h kc vc b sz ct hl => exact clo0_TR hc (.mp h kc vc b sz ct hl)
 | ifc0 => exact .ifc0
 | ifc t x y h => exact .ifc t x y (h.mono (G.cut_fz n).1)

theorem TV.clo1_cells {n : Nat} {x : TV} (h : x.clo1 n = true) : ∀ y ∈ x.cells, y.clo1 n = true := by
 intro y hy
 cases x with
 | v x =>
  simp only [TV.cells, List.mem_map] at hy
  obtain ⟨q, _, rfl⟩ := hy
  rfl
 | agg l =>
  simp only [TV.cells] at hy
  have := List.all_eq_true.1 h y hy
  cases y <;> first | exact this | cases this
 | _ => simp only [TV.cells, List.mem_singleton] at hy; subst hy; exact h

theorem Xd.cells_clo {n : Nat} (hn : 0 < n) : ∀ (c : Xd) (x : c.T), ∀ y ∈ c.cells x, y.clo1 n = true
 | .pure c, x, y, h => by
  simp only [Xd.cells, List.mem_map] at h
  obtain ⟨z, _, rfl⟩ := h
  rfl
 | .ref _, _, y, h => by simp [Xd.cells] at h; subst h; simpa [TV.clo1, TV.clo0] using hn
 | .sl _, _, y, h => by simp [Xd.cells] at h; subst h; simpa [TV.clo1, TV.clo0] using hn
 | .mp _ _, _, y, h => by simp [Xd.cells] at h; subst h; simpa [TV.clo1, TV.clo0] using hn
 | .pair a b, p, y, h => by
  simp only [Xd.cells, List.mem_append] at h
  rcases h with h | h
  ·exact Xd.cells_clo hn a _ y h
  ·exact Xd.cells_clo hn b _ y h
 | .vec n a, f, y, h => by
  simp only [Xd.cells, List.mem_flatMap] at h
  obtain ⟨i, _, h⟩ := h
  exact Xd.cells_clo hn a _ y h
 | .ifc, _, y, h => by simp [Xd.cells] at h; subst h; rfl

theorem Xd.cells_clo0 {n : Nat} (hn : 0 < n) : ∀ (c : Xd) (x : c.T), ∀ y ∈ c.cells x, y.clo0 n = true
 | .pure c, x, y, h => by
  simp only [Xd.cells, List.mem_map] at h
  obtain ⟨z, _, rfl⟩ := h
  rfl
 | .ref _, _, y, h => by simp [Xd.cells] at h; subst h; simpa [TV.clo0] using hn
 | .sl _, _, y, h => by simp [Xd.cells] at h; subst h; simpa [TV.clo0] using hn
 | .mp _ _, _, y, h => by simp [Xd.cells] at h; subst h; simpa [TV.clo0] using hn
 | .pair a b, p, y, h => by
  simp only [Xd.cells, List.mem_append] at h
  rcases h with h | h
  ·exact Xd.cells_clo0 hn a _ y h
  ·exact Xd.cells_clo0 hn b _ y h
 | .vec n a, f, y, h => by
  simp only [Xd.cells, List.mem_flatMap] at h
  obtain ⟨i, _, h⟩ := h
  exact Xd.cells_clo0 hn a _ y h
 | .ifc, _, y, h => by simp [Xd.cells] at h; subst h; rfl

theorem Xd.enc_clo {n : Nat} (hn : 0 < n) (c : Xd) (x : c.T) : (c.enc x).clo1 n = true := by
 have agg : ∀ l : List TV, (∀ y ∈ l, y.clo0 n = true) → (TV.mkAgg l).clo1 n = true := by
  intro l hl
  unfold TV.mkAgg
  split
  ·rfl
  ·exact List.all_eq_true.2 hl
 cases c with
 | pure c => rfl
 | ref c => simpa [Xd.enc, TV.clo1, TV.clo0] using hn
 | sl c => simpa [Xd.enc, TV.clo1, TV.clo0] using hn
 | mp kc vc => simpa [Xd.enc, TV.clo1, TV.clo0] using hn
 | pair a b => exact agg _ (Xd.cells_clo0 hn (.pair a b) x)
 | vec k a => exact agg _ (Xd.cells_clo0 hn (.vec k a) x)
 | ifc => rfl

theorem Rel.mask {m : List Bool × Nat} {h0 : Nat} (hr : Rel Mine G s a w) (hc : (s.mask m).clo m.2 = true) (hm : h0 ≤ m.2) (hh : h0 ≤ s.hp.length) :
  ∃ G', Rel Mine G' (s.mask m) a w ∧ Fz G G' ∧ Lc h0 G G' ∧ h0 ≤ (s.mask m).hp.length := by
 simp only [St.clo, Bool.and_eq_true] at hc
 obtain ⟨hc1, hc2⟩ := hc
 have hget : ∀ (i : Nat) o, ((s.hp.take m.2).map O.nb)[i]? = some (some o) → i < m.2 ∧ ∃ o0, s.hp[i]? = some (some o0) ∧ O.nb (some o0) = some o ∧ o0.gen = o.gen ∧ ∀ g, o.has g → o0.has g := by
  intro i o hi
  rw [List.getElem?_map, List.getElem?_take] at hi
  split at hi
  ·refine ⟨by assumption, ?_⟩
   cases ho : s.hp[i]? with
   | none => rw [ho] at hi; cases hi
   | some q =>
    rw [ho] at hi
    cases q with
    | none => cases hi
    | some o0 =>
     refine ⟨o0, rfl, by simpa using hi, ?_⟩
     cases o0 <;> cases hi <;> exact ⟨rfl, fun _ h => h⟩
  ·cases hi
 have hfz := G.cut_fz m.2
 have hloc : ∀ i g, i < m.2 → (G.cut m.2).loc i g = G.loc i g := by
  intro i g hi; simp only [Gh.cut]; rw [if_pos hi]
 refine ⟨G.cut m.2, ⟨by simp [St.mask, maskL_length, hr.len], fun t x hx => ?_, hr.defers, ?_⟩, hfz.1, fun i hi g x hx => cut_loc (by omega) hx, by simp [St.mask]; omega⟩
 ·simp only [St.mask] at hx
  have hcl := List.all_eq_true.1 hc1 x (List.mem_of_getElem? hx)
  rcases maskL_get _ _ _ _ hx with rfl | ⟨y, h, rfl⟩
  ·exact TR.undef _
  ·exact clo1_TR hcl (hr.tm t y h).nb
 ·have hi := hr.inv
  refine ⟨hi.cells, hi.mps, ?_, ?_, hi.toks, ?_, hi.tinj, ?_, ?_, hi.tfin, hi.mine, hi.old⟩
  ·intro i o hio
   have hco := List.all_eq_true.1 hc2 _ (List.mem_of_getElem? hio)
   obtain ⟨hil, o0, hio', hnb, hgen, _⟩ := hget i o hio
   have hor := hi.objs i o0 hio'
   cases o0 with
   | heap X =>
    cases hnb
    have := hor.1
    subst this
    have e1 : ∀ g, (G.cut m.2).loc 0 g = G.loc 0 g := fun g => hloc 0 g hil
    have mono : ∀ {y : TV} {u : Value}, TR G y u → TR (G.cut m.2) y u → TR (G.cut m.2) y u := fun _ h => h
    obtain ⟨-, h1, h2, h3⟩ := hor
    refine ⟨rfl, fun h hh => ⟨(h1 h hh).1, by rw [e1]; exact (h1 h hh).2⟩, fun h o ho => ?_, fun h h' b sz ct sz' ct' hne n1 n2 l1 l2 => h3 h h' b sz ct sz' ct' hne n1 n2 (by rw [← e1]; exact l1) (by rw [← e1]; exact l2)⟩
    have cut : ∀ (c : Xd) (x : c.T) (j : Nat) y, (c.cells x)[j]? = some y → ∀ u, TR G y u → TR (G.cut m.2) y u := by
     intro c x j y hy u hu
     exact clo1_TR (Xd.cells_clo hil c x y (List.mem_of_getElem? hy)) hu
    have cutE : ∀ (c : Xd) (x : c.T) u, TR G (c.enc x) u → TR (G.cut m.2) (c.enc x) u := by
     intro c x u hu
     exact clo1_TR (Xd.enc_clo hil c x) hu
    cases o with
    | arr c l =>
     obtain ⟨b, k1, k2, k3, cur, el, k4, k5, k6⟩ := h2 h _ ho
     refine ⟨b, by rw [e1]; exact k1, k2, ⟨k3.1, k3.2⟩, cur, el, k4, k5, fun e x hx j y hy => ?_⟩
     obtain ⟨u, q1, q2, q3⟩ := k6 e x hx j y hy
     exact ⟨u, q1, cut c x j y hy u q2, q3⟩
    | map kc vc es =>
     obtain ⟨b, sz, ct, k1, k2, k3, ents, ck, k4, k5, k6, k7⟩ := h2 h _ ho
     exact ⟨b, sz, ct, by rw [e1]; exact k1, k2, ⟨k3.1, k3.2⟩, ents, ck, k4, k5, fun j e m he hm => ⟨(k6 j e m he hm).1.mono hfz.1, cutE vc e.2 _ (k6 j e m he hm).2⟩, k7⟩
   | box x =>
    cases hnb
    obtain ⟨b, sz, ct, h1, h2, h3, cur, el, h4, h5, h6⟩ := hor
    refine ⟨b, sz, ct, cut_loc hil h1, h2, ⟨h3.1, h3.2⟩, cur, el, h4, by rw [tnb_length]; exact h5, fun j y u hy hu => ?_⟩
    obtain ⟨y0, hy0, hyr⟩ := tnb_cells (G := G) x j y hy
    exact ⟨clo1_TR (TV.clo1_cells hco y (List.mem_of_getElem? hy)) (hyr u (h6 j y0 u hy0 hu).1), (h6 j y0 u hy0 hu).2⟩
   | arr g c l ts =>
    cases hnb
    obtain ⟨bo, ct, h1, hle, h2⟩ := hor
    refine ⟨bo, ct, cut_loc hil h1, hle, ?_⟩
    cases bo with
    | none => exact h2
    | some b =>
     obtain ⟨h2, h3, cur, el, h4, h5, h6⟩ := h2
     refine ⟨h2, ⟨h3.1, h3.2⟩, cur, el, h4, h5, fun e x hx j y hy => ?_⟩
     obtain ⟨u, q1, q2, q3⟩ := h6 e x hx j y hy
     exact ⟨u, q1, q2.mono hfz.1, q3⟩
   | map kc vc es =>
    cases hnb
    obtain ⟨b, sz, ct, h1, h2, h3, ents, ck, h4, h5, h6⟩ := hor
    exact ⟨b, sz, ct, cut_loc hil h1, h2, ⟨h3.1, h3.2⟩, ents, ck, h4, h5, fun j e m he hm => ⟨(h6 j e m he hm).1.mono hfz.1, (h6 j e m he hm).2.mono hfz.1⟩⟩
   | siter _ _ => exact hor.elim
  ·intro i j o o' b hij h1 h2 l1 l2
   obtain ⟨hil, o1, h1, _, g1, q1⟩ := hget i o h1
   obtain ⟨hjl, o2, h2, _, g2, q2⟩ := hget j o' h2
   obtain ⟨g, s1, c1, a1, a2⟩ := l1
   obtain ⟨g', s2, c2, b1, b2⟩ := l2
   rw [hloc _ _ hil] at a2
   rw [hloc _ _ hjl] at b2
   exact hi.inj i j o1 o2 b hij h1 h2 ⟨g, s1, c1, q1 g a1, a2⟩ ⟨g', s2, c2, q2 g' b1, b2⟩
  ·intro t ht i o b e c h1 h2 l1
   obtain ⟨hil, o1, h2, _, g1, q1⟩ := hget i o h2
   obtain ⟨g, s1, c1, a1, a2⟩ := l1
   rw [hloc _ _ hil] at a2
   exact hi.tobj t ht i o1 b e c h1 h2 ⟨g, s1, c1, q1 g a1, a2⟩
  ·intro i g hig
   simp only [St.mask, List.length_map, List.length_take] at hig
   simp only [Gh.cut]
   split
   ·rename_i hlt
    exact hi.lb i g (by omega)
   ·rfl
  ·intro i o g h1 hg
   obtain ⟨hil, o1, h1, _, g1, _⟩ := hget i o h1
   rw [hloc _ _ hil]
   exact hi.gens i o1 g h1 (by rw [g1]; exact hg)

theorem frzSl_sound {i g : Nat} {c : Cd} {l : List c.T} : ∀ (tm : List TV) (K : List TV → Prop), frzSl i g c l tm K →
  ∃ tm', K tm' ∧ tm'.length = tm.length ∧ ∀ (t : Nat) y, tm'[t]? = some y → tm[t]? = some y ∨ ∃ off len, tm[t]? = some (.arr i g off len) ∧ off + len ≤ l.length ∧ y = .v (.list c ((l.drop off).take len) .no)
 | [], K, h => ⟨[], h, rfl, fun t y h => by simp at h⟩
 | x :: r, K, h => by
  have keep : ∀ z, (frzSl i g c l r fun r' => K (z :: r')) → (x = z ∨ ∃ off len, x = .arr i g off len ∧ off + len ≤ l.length ∧ z = .v (.list c ((l.drop off).take len) .no)) →
    ∃ tm', K tm' ∧ tm'.length = (x :: r).length ∧ ∀ (t : Nat) y, tm'[t]? = some y → (x :: r)[t]? = some y ∨ ∃ off len, (x :: r)[t]? = some (.arr i g off len) ∧ off + len ≤ l.length ∧ y = .v (.list c ((l.drop off).take len) .no) := by
   intro z hz hx
   obtain ⟨tm', h1, h2, h3⟩ := frzSl_sound r _ hz
   refine ⟨z :: tm', h1, by simp [h2], fun t y hy => ?_⟩
   cases t with
   | zero =>
    simp only [List.getElem?_cons_zero, Option.some.injEq] at hy ⊢
    subst hy
    exact hx
   | succ t => simpa using h3 t y (by simpa using hy)
  unfold frzSl at h
  split at h
  ·rename_i j g' off len
   split at h
   ·rename_i hb
    have := Nat.eq_of_beq_eq_true hb
    subst this
    obtain ⟨rfl, h1, h2⟩ := h
    exact keep _ h2 (.inr ⟨off, len, rfl, h1, rfl⟩)
   ·exact keep _ h (.inl rfl)
  ·exact keep _ h (.inl rfl)

theorem Rel.freeze {i : Nat} {K : St → Prop} (h : freezeF i s K) (hr : Rel Mine G s a w) : ∃ s' G', K s' ∧ Rel Mine G' s' a w ∧ Fz G G' ∧ (∀ n, Lc n G G') ∧ s'.hp.length = s.hp.length := by
 unfold freezeF at h
 split at h
 case h_2 => exact h.elim
 rename_i g c l ts hh
 obtain ⟨tm', hk, hlen, htm⟩ := frzSl_sound _ _ h
 have hi := hp_get hh
 have hinv := hr.inv
 have hother : ∀ j o, (s.hp.set i none)[j]? = some (some o) → j ≠ i ∧ s.hp[j]? = some (some o) := by
  intro j o hj
  rw [List.getElem?_set] at hj
  split at hj
  ·split at hj <;> cases hj
  ·rename_i e; exact ⟨fun e' => e e'.symm, hj⟩
 obtain ⟨bo, ct, hloc, hlct, hor⟩ := hinv.objs i _ hi
 cases bo with
 | none =>
  have hl0 : l = [] := hor
  subst hl0
  refine ⟨_, G, hk, ⟨hlen.trans hr.len, fun t y hy => ?_, hr.defers, ⟨hinv.cells, hinv.mps, fun j o hj => hinv.objs j o (hother j o hj).2, fun j k o o' b hjk hj hk' => hinv.inj j k o o' b hjk (hother j o hj).2 (hother k o' hk').2,
   hinv.toks, fun t ht j o b e c h1 hj => hinv.tobj t ht j o b e c h1 (hother j o hj).2, hinv.tinj, by simpa using hinv.lb, fun j o g hj => hinv.gens j o g (hother j o hj).2, hinv.tfin, hinv.mine, hinv.old⟩⟩, .refl _, fun n => .refl _ _, by simp⟩
  rcases htm t y hy with h1 | ⟨off, len, h1, h2, rfl⟩
  ·exact hr.tm t y h1
  ·have := hr.tm t _ h1
   generalize a.tmps.getD t Go.undef = u at this
   cases this with
   | arr _ _ _ _ b sz ct' cap o hl' _ _ _ => rw [hloc] at hl'; cases hl'
   | arrNil _ _ sz ct' hl' =>
    refine .v _ _ ?_
    exact VR.list c [] .no none 0 0 0 (fun _ => Go.undef) (fun h => absurd rfl h) (Nat.le_refl _) (fun i x hx => by simp at hx) (fun i x hx => by simp at hx) (fun i x hx => by simp at hx) trivial
 | some b =>
  obtain ⟨hm, hpriv, cur, el, hb, hsz, hcells⟩ := hor
  obtain ⟨G', hG'⟩ : ∃ G', G' = G.addCells b fun o => cur[o]? := ⟨_, rfl⟩
  have hc' : ∀ o, G'.cell b o = cur[o]? := by
   intro o
   rw [hG']
   simp only [Gh.addCells, if_true, hpriv.1 o, Option.none_or]
  have hcn : ∀ b' o, b' ≠ b → G'.cell b' o = G.cell b' o := by
   intro b' o hne
   rw [hG']
   simp only [Gh.addCells, if_neg hne]
  have hf : Fz G G' := by
   rw [hG']
   refine ⟨fun b' o v x => ?_, fun _ _ x => x, fun _ _ x => x, fun _ _ _ _ _ x => x⟩
   simp only [Gh.addCells]
   split
   ·rename_i e; subst e; rw [hpriv.1 o] at x; cases x
   ·exact x
  have hl : ∀ n, Lc n G G' := fun n i hi g x hx => by rw [hG']; exact hx
  have hloc' : ∀ j g, G'.loc j g = G.loc j g := fun j g => by rw [hG']; rfl
  have hmp' : ∀ r, G'.mp r = G.mp r := fun r => by rw [hG']; rfl
  have htk' : ∀ t, G'.tok t = G.tok t := fun t => by rw [hG']; rfl
  have hown : Owns G i (.arr g c l ts) b := ⟨g, c.sz, ct, rfl, hloc⟩
  have hpr' : ∀ b', b' ≠ b → G.priv b' → G'.priv b' := fun b' hne hp => ⟨fun o => by rw [hcn b' o hne]; exact hp.1 o, by rw [hmp']; exact hp.2⟩
  have hO : ∀ j o b', Owns G' j o b' → Owns G j o b' := fun j o b' ⟨g, sz, ct, h1, h2⟩ => ⟨g, sz, ct, h1, by rw [← hloc']; exact h2⟩
  have hcell : ∀ o v, cur[o]? = some v → w.cell? ⟨b, o, none⟩ = some v := by
   intro o v hv
   unfold World.cell?
   simp only [hb]
   simpa using hv
  refine ⟨_, G', hk, ⟨hlen.trans hr.len, fun t y hy => ?_, hr.defers, ⟨fun b' o v hc => ?_, fun r es hr' => hinv.mps r es (by rw [← hmp']; exact hr'), fun j o hj => ?_,
   fun j k o o' b' hjk hj hk' l1 l2 => hinv.inj j k o o' b' hjk (hother j o hj).2 (hother k o' hk').2 (hO _ _ _ l1) (hO _ _ _ l2), fun t ht => ?_,
   fun t ht j o b' e c h1 hj l1 => hinv.tobj t ht j o b' e c (by rw [← htk']; exact h1) (hother j o hj).2 (hO _ _ _ l1), fun t ht t' ht' hne b' e c e' c' h1 h2 => hinv.tinj t ht t' ht' hne b' e c e' c' (by rw [← htk']; exact h1) (by rw [← htk']; exact h2),
   fun j g hj => by rw [hloc']; exact hinv.lb j g (by simpa using hj), fun j o g hj hg => by rw [hloc']; exact hinv.gens j o g (hother j o hj).2 hg, fun n hn => by rw [htk']; exact hinv.tfin n hn, hinv.mine, fun b' o v hc => ?_, fun r e hr' => hinv.old.2 r e (by rw [← hmp']; exact hr')⟩⟩, hf, hl, by simp⟩
  ·rcases htm t y hy with h1 | ⟨off, len, h1, h2, rfl⟩
   ·exact (hr.tm t y h1).mono (n := s.hp.length) hinv.lb hf.f0 (hl _)
   ·have := hr.tm t _ h1
    generalize a.tmps.getD t Go.undef = u at this
    have hlen' : ((l.drop off).take len).length = len := by simp; omega
    cases this with
    | arrNil _ _ sz ct' hl' => rw [hloc] at hl'; cases hl'
    | arr _ _ _ _ b2 sz ct' cap o hl' k1 k2 k3 =>
     rw [hloc] at hl'; cases hl'
     have hat := arr_cells hcells
     have hfl : ∀ (j : Nat) q, (((l.drop off).take len).flatMap c.cells)[j]? = some q → (l.flatMap c.cells)[off * c.sz + j]? = some q := by
      intro j q hq
      have := flat_take c (l.drop off) len j q hq
      rwa [flat_drop] at this
     have ho' : ∀ (j : Nat) q, (((l.drop off).take len).flatMap c.cells)[j]? = some q → o = off * c.sz := by
      intro j q hq
      refine k3 ?_
      have hj := (List.getElem?_eq_some_iff.1 hq).1
      rw [length_flat, hlen'] at hj
      rcases Nat.eq_zero_or_pos len with h0 | h0
      ·rw [h0] at hj; omega
      ·omega
     have hvr := VR.list (G := G') c ((l.drop off).take len) .no (some ⟨b, o, none⟩) cap b o (fun j => cur.getD (o + j) Go.undef) (fun _ => rfl) (by rw [hlen']; exact k1)
      (fun j q hq => by
       obtain ⟨u, q1, q2, q3⟩ := hat _ q (hfl j q hq)
       have := ho' j q hq
       subst this
       rw [hc', q1]
       simp [Array.getD_eq_getD_getElem?, q1])
      (fun j q hq => by
       obtain ⟨u, q1, q2, q3⟩ := hat _ q (hfl j q hq)
       have := ho' j q hq
       subst this
       simpa [Array.getD_eq_getD_getElem?, q1] using q3)
      (fun j q hq => by
       obtain ⟨u, q1, q2, q3⟩ := hat _ q (hfl j q hq)
       have := ho' j q hq
       subst this
       have e : cur.getD (off * c.sz + j) Go.undef = u := by simp [Array.getD_eq_getD_getElem?, q1]
       rw [e]; exact q2.mono hf.f0) trivial
     rw [hlen'] at hvr
     exact .v _ _ hvr
  ·by_cases e : b' = b
   ·subst e; rw [hc'] at hc; exact hcell o v hc
   ·rw [hcn _ _ e] at hc; exact hinv.cells b' o v hc
  ·obtain ⟨hne, hj'⟩ := hother j o hj
   refine (hinv.objs j o hj').keep hinv.lb hf.f0 (hl _) (fun b' hb' => ⟨rfl, hpr' b' ?_⟩) (fun _ _ g _ => hloc' j g)
   rintro rfl
   exact hinv.inj j i o _ b' hne hj' hi hb' hown
  ·obtain ⟨bo, e, c', h1, h2⟩ := hinv.toks t ht
   refine ⟨bo, e, c', by rw [htk']; exact h1, fun b' hb' => ?_⟩
   obtain ⟨m1, m2, m3, m4⟩ := h2 b' hb'
   have hne : b' ≠ b := by
    rintro rfl
    subst hb'
    exact hinv.tobj t ht i _ b' e c' h1 hi hown
   exact ⟨m1, m2, fun o ho => by rw [hcn _ _ hne]; exact m3 o ho, by rw [hmp']; exact m4⟩
  ·by_cases e : b' = b
   ·subst e; exact .inl hm
   ·rw [hcn _ _ e] at hc; exact hinv.old.1 b' o v hc

theorem awp_sound (htt : TTOK P tt) {call : CallP} (hcs : CallS P call) (hcd : CallDet call) (hmix : P.follows .mixedOrders = true) {md : Mds} {h0 : Nat} {msk : Nat → List Bool × Nat} :
  ∀ (c : Code) (b : Nat) (Q : Exit → St → Prop) (s : St) (G : Gh) (a : Act) (w : World), awp tt call md h0 msk b c Q s → Rel Mine G s a w → h0 ≤ s.hp.length →
   c.wp P (Lift Mine G h0 w Q) a w := by
 intro c
 induction c with
 | skip => intro b Q s G a w h hr hh; exact wp_skip ⟨s, G, h, hr, .refl _, .refl _ _, hh, .refl _ _⟩
 | label l => intro b Q s G a w h hr hh; exact wp_label ⟨s, G, h, hr, .refl _, .refl _ _, hh, .refl _ _⟩
 | exit id => intro b Q s G a w h hr hh; exact wp_exit ⟨s, G, h, hr, .refl _, .refl _ _, hh, .refl _ _⟩
 | ret => intro b Q s G a w h hr hh; exact wp_ret ⟨s, G, h, hr, .refl _, .refl _ _, hh, .refl _ _⟩
 | region id ops d =>
  intro b Q s G a w h hr hh
  have conv : ∀ {e : Exit} {a' : Act} {w' : World}, Lift Mine G h0 w (seqK (Q .normal) (fun _ _ => False)) e a' w' → Lift Mine G h0 w Q e a' w' := by
   rintro e a' w' ⟨s', G', h1, h2⟩
   cases e <;> first | exact ⟨s', G', h1, h2⟩ | exact h1.elim
  cases d with
  | false =>
   have h : (match md.frz id with
    | none => awpL tt call md id ops 0 ops.toList (Q .normal) s
    | some i => freezeF i s fun s => awpL tt call md id ops 0 ops.toList (Q .normal) s) := h
   split at h
   ·refine wp_region_list (list_mono (fun e a w h => conv h) _ _ _ (awpL_sound htt hcs _ _ s G a w h hr hh))
   ·obtain ⟨s1, G1, h1, hr1, hf1, hl1, hh1⟩ := hr.freeze h
    refine wp_region_list (list_mono (fun e a w h => conv (Lift.of hf1 (hl1 _) (.refl _ _) h)) _ _ _ (awpL_sound htt hcs _ _ s1 G1 a w h1 hr1 (by rw [hh1]; exact hh)))
  | true =>
   have h : (match md.anyZ id with
    | false => match md.splits id with
     | [] => match md.perm id with
      | [] => match noDm ops.toList with
       | true => awpD tt call md id ops 0 ops.toList [] (Q .normal) s
       | false => False
      | q => match permOK q ops.size && noDm (permOps q ops).toList with
       | true => awpD tt call (Mds.ren q id md) id (permOps q ops) 0 (permOps q ops).toList [] (Q .normal) s
       | false => False
     | l => match splitOK l ops with
      | true => splitF (fun k ops => match permOK (md.perm (id + 10000000 * (k + 1))) ops.size && noDm (permOps (md.perm (id + 10000000 * (k + 1))) ops).toList with
       | true => awpD tt call (Mds.ren (md.perm (id + 10000000 * (k + 1))) id md) id (permOps (md.perm (id + 10000000 * (k + 1))) ops) 0 (permOps (md.perm (id + 10000000 * (k + 1))) ops).toList [] (Q .normal) s
       | false => False) l 0 [ops]
      | false => False
    | true => match zOK md id ops with
     | true => zPre tt call md id 0 ops.toList (awpD tt call md id (blank md id ops) 0 (blank md id ops).toList [] (Q .normal)) s
     | false => False) := h
   split at h
   ·split at h
    ·split at h
     ·split at h
      ·rename_i hno
       exact Code.wp_mono (fun e a w h => conv h) (drawn_sound htt hcs hcd hmix hno h hr hh)
      ·exact h.elim
     ·split at h
      ·rename_i hq
       rw [Bool.and_eq_true] at hq
       exact Code.wp_mono (fun e a w h => conv h) (perm_sound htt hcs hcd hmix hq.1 hq.2 h hr hh)
      ·exact h.elim
    ·split at h
     ·rename_i hok
      exact Code.wp_mono (fun e a w h => conv h) (splits_sound htt hcs hcd hmix hok (qs := fun k => md.perm (id + 10000000 * (k + 1))) (mds := fun k => Mds.ren (md.perm (id + 10000000 * (k + 1))) id md) h hr hh)
     ·exact h.elim
   ·split at h
    ·rename_i hz
     exact Code.wp_mono (fun e a w h => conv h) (drawnz_sound htt hcs hcd hmix hz h hr hh)
    ·exact h.elim
 | seq x y ihx ihy =>
  intro b Q s G a w h hr hh
  refine wp_seq (Code.wp_mono ?_ (ihx b _ s G a w h hr hh))
  rintro e a' w' ⟨s', G', h1, h2, h3, h4, h5, h6⟩
  cases e <;> first
   | exact Code.wp_mono (fun e a w h => Lift.of h3 h4 h6 h) (ihy b Q s' G' a' w' h1 h2 h5)
   | exact ⟨s', G', h1, h2, h3, h4, h5, h6⟩
 | cond c x y ihx ihy =>
  intro b Q s G a w h hr hh
  have hv := hr.ev (tt := tt) 0 c
  unfold awp at h
  split at h
  ·rename_i hc
   rw [hc] at hv
   have : a.eval c = .bool true := by
    generalize a.eval c = u at hv
    cases hv with | v _ _ hv => cases hv; rfl
   exact wp_cond_true this (ihx b Q s G a w h hr hh)
  ·rename_i hc
   rw [hc] at hv
   have : a.eval c = .bool false := by
    generalize a.eval c = u at hv
    cases hv with | v _ _ hv => cases hv; rfl
   exact wp_cond_false this (ihy b Q s G a w h hr hh)
  ·rename_i t hc
   rw [hc] at hv
   have : a.eval c = .bool t := by
    generalize a.eval c = u at hv
    cases hv with | v _ _ hv => cases hv; rfl
   exact wp_cond_split this (fun ht => ihx b Q s G a w (h.1 ht) hr hh) (fun ht => ihy b Q s G a w (h.2 ht) hr hh)
  ·exact h.elim
 | block id c ih =>
  intro b Q s G a w h hr hh
  refine wp_block (Code.wp_mono ?_ (ih id _ s G a w h hr hh))
  rintro e a' w' ⟨s', G', h1, h2, h3, h4, h5, h6⟩
  cases e with
  | exit id' =>
   simp only [Exit.inBlock]
   simp only [blockK] at h1
   split
   ·rename_i e
    subst e
    rw [Nat.beq_refl] at h1
    exact ⟨s', G', h1, h2, h3, h4, h5, h6⟩
   ·rename_i e
    have : Nat.beq id' id = false := by
     cases hb : Nat.beq id' id with
     | false => rfl
     | true => exact absurd (Nat.eq_of_beq_eq_true hb) e
    rw [this] at h1
    exact ⟨s', G', h1, h2, h3, h4, h5, h6⟩
  | _ => exact ⟨s', G', h1, h2, h3, h4, h5, h6⟩
 | loop c ih =>
  intro b Q s G a w h hr hh
  unfold awp at h
  split at h
  ·-- so many rounds
   generalize (msk b).2 - 1000000 = N at h
   refine wp_loop_ghost (fun n a' w' => ∃ s' G', Unroll (awp tt call md h0 msk b c) Q n s' ∧ Rel Mine G' s' a' w' ∧ Fz G G' ∧ Lc h0 G G' ∧ h0 ≤ s'.hp.length ∧ Stp Mine w w') N
    ⟨_, G, h, hr, .refl _, .refl _ _, hh, .refl _ _⟩ ?_
   rintro n a1 w1 ⟨s1, G2, hI1, hr2, hf2, hl2, hh2, hs2⟩
   cases n with
   | zero => exact hI1.elim
   | succ n =>
    refine Code.wp_mono ?_ (ih b _ s1 G2 a1 w1 hI1 hr2 hh2)
    rintro e a' w' ⟨s', G', h1, h2, h3, h4, h5, h6⟩
    cases e with
    | normal => exact ⟨n, Nat.lt_succ_self n, s', G', h1, h2, hf2.trans h3, hl2.trans h4, h5, hs2.trans h6⟩
    | _ => exact ⟨s', G', h1, h2, hf2.trans h3, hl2.trans h4, h5, hs2.trans h6⟩
  split at h
  case h_2 => exact h.elim
  rename_i hc
  obtain ⟨I, ⟨n0, hI⟩, hround⟩ := h
  obtain ⟨G1, hr1, hf1, hl1, hh1⟩ := hr.mask hc (Nat.le_add_right _ _) hh
  refine wp_loop_ghost (fun n a' w' => ∃ s' G', I n s' ∧ Rel Mine G' s' a' w' ∧ Fz G G' ∧ Lc h0 G G' ∧ h0 ≤ s'.hp.length ∧ Stp Mine w w') n0
   ⟨_, G1, hI, hr1, hf1, hl1, hh1, .refl _ _⟩ ?_
  rintro n a1 w1 ⟨s1, G2, hI1, hr2, hf2, hl2, hh2, hs2⟩
  refine Code.wp_mono ?_ (ih b _ s1 G2 a1 w1 (hround n s1 hI1) hr2 hh2)
  rintro e a' w' ⟨s', G', h1, h2, h3, h4, h5, h6⟩
  cases e with
  | normal =>
   simp only [loopQ] at h1
   split at h1
   case h_2 => exact h1.elim
   rename_i hc'
   obtain ⟨n', hlt, hI'⟩ := h1
   obtain ⟨G3, hr3, hf3, hl3, hh3⟩ := h2.mask hc' (Nat.le_add_right _ _) h5
   exact ⟨n', hlt, _, G3, hI', hr3, hf2.trans (h3.trans hf3), hl2.trans (h4.trans hl3), hh3, hs2.trans h6⟩
  | _ => exact ⟨s', G', h1, h2, hf2.trans h3, hl2.trans h4, h5, hs2.trans h6⟩
 | _ => intro b Q s G a w h hr hh; exact h.elim

end
end Go.Proofs.YtdcljlafookliaaDoor.AB

namespace Go.Proofs.YtdcljlafookliaaDoor.AB
open Go

mutual
def V.nt : V → Bool
 | .list _ _ (.tk _) => false
 | .agg l => V.ntL l
 | .tup l => V.ntL l
 | .fptr x _ => x.nt
 | .iface _ x => x.nt
 | _ => true
def V.ntL : List V → Bool
 | [] => true
 | x :: l => x.nt && V.ntL l
end

theorem ntL_mem : ∀ {l : List V}, V.ntL l = true → ∀ x ∈ l, x.nt = true
 | [], _, x, hx => by cases hx
 | y :: l, h, x, hx => by
  unfold V.ntL at h
  rw [Bool.and_eq_true] at h
  rcases List.mem_cons.1 hx with rfl | hx
  ·exact h.1
  ·exact ntL_mem h.2 x hx

theorem ntL_of : ∀ {l : List V}, (∀ x ∈ l, x.nt = true) → V.ntL l = true
 | [], _ => rfl
 | y :: l, h => by
  unfold V.ntL
  rw [h y (List.mem_cons_self ..), ntL_of fun x hx => h x (List.mem_cons_of_mem _ hx)]; rfl

theorem Cd.cells_nt : ∀ (c : Cd) (x : c.T), ∀ y ∈ c.cells x, y.nt = true
 | .unit, _, y, h => by simp [Cd.cells] at h
 | .int k, n, y, h => by simp [Cd.cells] at h; subst h; rfl
 | .bool, b, y, h => by simp [Cd.cells] at h; subst h; rfl
 | .str, s, y, h => by simp [Cd.cells] at h; subst h; rfl
 | .slice c, l, y, h => by simp [Cd.cells] at h; subst h; rfl
 | .pair a b, p, y, h => by
  simp only [Cd.cells, List.mem_append] at h
  rcases h with h | h
  ·exact Cd.cells_nt a p.1 y h
  ·exact Cd.cells_nt b p.2 y h

theorem Cd.enc_nt (c : Cd) (x : c.T) : (c.enc x).nt = true := by
 cases c <;> first
  | rfl
  | exact ntL_of (Cd.cells_nt (.pair _ _) x)

theorem nt_cells {x : V} (h : x.nt = true) : ∀ y ∈ x.cells, y.nt = true := by
 intro y hy
 cases x with
 | agg l => exact ntL_mem (by unfold V.nt at h; exact h) y hy
 | _ => simp only [V.cells, List.mem_singleton] at hy; subst hy; exact h

def Gh.bare (G : Gh) : Gh := ⟨G.cell, G.mp, fun _ => none, fun _ _ => none, G.tab⟩

theorem VR.bare {G : Gh} {x : V} {y : Value} (h : VR G x y) : x.nt = true → VR G.bare x y := by
 induction h with
 | undef y => exact fun _ => .undef y
 | tt => exact fun _ => .tt
 | ff => exact fun _ => .ff
 | int k n => exact fun _ => .int k n
 | bool b => exact fun _ => .bool b
 | str l => exact fun _ => .str l
 | agg l vs hl ho h ih =>
  intro hn
  exact .agg l vs hl ho fun i x y hx hy => ih i x y hx hy (ntL_mem (by unfold V.nt at hn; exact hn) x (List.mem_of_getElem? hx))
 | tup l vs hl h ih =>
  intro hn
  exact .tup l vs hl fun i x y hx hy => ih i x y hx hy (ntL_mem (by unfold V.nt at hn; exact hn) x (List.mem_of_getElem? hx))
 | list c l t a cap b o vals ha hcap hc ho hv ht ih =>
  intro hn
  refine .list c l t a cap b o vals ha hcap hc ho (fun i x hx => ih i x hx ?_) ?_
  ·obtain ⟨z, _, hz⟩ := List.mem_flatMap.1 (List.mem_of_getElem? hx)
   exact Cd.cells_nt c z x hz
  ·cases t with
   | no => trivial
   | exact => exact ht
   | tk n => simp [V.nt] at hn
 | fptr x f b o vals hc ho hv ih =>
  intro hn
  exact .fptr x f b o vals hc ho fun i y hy => ih i y hy (nt_cells (by unfold V.nt at hn; exact hn) y (List.mem_of_getElem? hy))
 | fmap kc vc es r ents hm hl hk hv ihk ihv =>
  intro _
  exact .fmap kc vc es r ents hm hl (fun i e e' h1 h2 => ihk i e e' h1 h2 (Cd.enc_nt _ _)) (fun i e e' h1 h2 => ihv i e e' h1 h2 (Cd.enc_nt _ _))
 | fn f => exact fun _ => .fn f
 | iface t x y h ih => exact fun hn => .iface t x y (ih (by unfold V.nt at hn; exact hn))
 | nils => exact fun _ => .nils
 | nilp => exact fun _ => .nilp
 | nilm => exact fun _ => .nilm
 | nilf => exact fun _ => .nilf
 | nili => exact fun _ => .nili

structure FzOK (G : Gh) (w : World) : Prop where
 cells : ∀ b o v, G.cell b o = some v → w.cell? ⟨b, o, none⟩ = some v
 mps : ∀ r es, G.mp r = some es → ∃ (ents : Array MapEntry) (ck : Nat), w.heap[r]? = some (.map ents ck) ∧ ents.toList.map (fun m => (m.key, m.val)) = es

open Classical in
noncomputable def Gh.fzAll (G : Gh) (Mine : Mn) (w : World) : Gh :=
 { G with
  cell := fun b o => (G.cell b o).or (if Mine b then w.cell? ⟨b, o, none⟩ else none)
  mp := fun r => (G.mp r).or (if Mine r then (match w.heap[r]? with
   | some (.map ents _) => some (ents.toList.map fun m => (m.key, m.val))
   | _ => none) else none)
  tab := fun b o v h => by rw [G.tab b o v h]; rfl }

def frz0 (hp : Hp) (x : TV) (K : V → Prop) : Prop :=
 match x with
 | .v x => K x.norm
 | .arr i g off len => match hp.getD i none with
  | some (.arr g' c l _) => g = g' ∧ off + len ≤ l.length ∧ K (.list c ((l.drop off).take len) .no)
  | _ => False
 | .mapr i => match hp.getD i none with
  | some (.map kc vc es) => K (.fmap kc vc (es.map fun e => (e.1, e.2.1)))
  | _ => False
 | .ptr i g e f => match g, e, hp.getD i none with
  | 0, 0, some (.box (.v y)) => K (.fptr y.norm1 f)
  | _, _, _ => False
 | _ => False

def frzL (F : TV → (V → Prop) → Prop) : List TV → (List V → Prop) → Prop
 | [], K => K []
 | x :: l, K => F x fun v => frzL F l fun vs => K (v :: vs)

def frz1 (hp : Hp) (x : TV) (K : V → Prop) : Prop :=
 match x with
 | .agg l => frzL (frz0 hp) l fun vs => K (.agg (vs.map V.norm0))
 | x => frz0 hp x K

def frz (hp : Hp) (x : TV) (K : V → Prop) : Prop :=
 match x with
 | .tup l => frzL (frz1 hp) l fun vs => K (.tup vs)
 | x => frz1 hp x K

section
variable {P : Program} {tt : TT} {Mine : Mn} {G : Gh} {s : St} {a : Act} {w : World} {hp : Hp} {T : Toks}

theorem fzAll_fz : Fz G (G.fzAll Mine w) := by
 refine ⟨fun b o v h => ?_, fun r e h => ?_, fun _ _ h => h, fun _ _ _ _ _ h => h⟩
 ·simp [Gh.fzAll, h]
 ·simp [Gh.fzAll, h]

theorem fzAll_ok (hi : Inv Mine G hp T w) : FzOK (G.fzAll Mine w) w := by
 refine ⟨fun b o v h => ?_, fun r e h => ?_⟩
 ·simp only [Gh.fzAll] at h
  cases hc : G.cell b o with
  | some v' => rw [hc] at h; cases h; exact hi.cells b o v hc
  | none =>
   rw [hc, Option.none_or] at h
   split at h
   ·exact h
   ·cases h
 ·simp only [Gh.fzAll] at h
  cases hc : G.mp r with
  | some v' => rw [hc] at h; cases h; exact hi.mps r e hc
  | none =>
   rw [hc, Option.none_or] at h
   split at h
   ·split at h
    ·rename_i ents ck he
     cases h
     exact ⟨ents, ck, he, rfl⟩
    ·cases h
   ·cases h

theorem fzAll_old (hi : Inv Mine G hp T w) : (∀ b o v, (G.fzAll Mine w).cell b o = some v → Mine b ∨ Mine.cell b o = some v) ∧
  ∀ r e, (G.fzAll Mine w).mp r = some e → Mine r ∨ Mine.mp r = some e := by
 refine ⟨fun b o v h => ?_, fun r e h => ?_⟩
 ·simp only [Gh.fzAll] at h
  cases hc : G.cell b o with
  | some v' => rw [hc] at h; cases h; exact hi.old.1 b o v hc
  | none =>
   rw [hc, Option.none_or] at h
   split at h
   ·exact .inl (by assumption)
   ·cases h
 ·simp only [Gh.fzAll] at h
  cases hc : G.mp r with
  | some v' => rw [hc] at h; cases h; exact hi.old.2 r e hc
  | none =>
   rw [hc, Option.none_or] at h
   split at h
   ·exact .inl (by assumption)
   ·cases h

theorem fzAll_cell (hi : Inv Mine G hp T w) {b o : Nat} (hm : Mine b) {cur : Array Value} {el : TypeId} (hb : w.heap[b]? = some (.cells cur el (0, 0))) {u : Value} (hu : cur[o]? = some u) :
  (G.fzAll Mine w).cell b o = some u := by
 have hw : w.cell? ⟨b, o, none⟩ = some u := by unfold World.cell?; simp only [hb]; simpa using hu
 simp only [Gh.fzAll]
 cases hc : G.cell b o with
 | some v' =>
  have := hi.cells b o v' hc
  rw [hw] at this; cases this; rfl
 | none => rw [Option.none_or, if_pos hm]; exact hw

theorem frz0_sound {x : TV} {y : Value} {K : V → Prop} (h : frz0 hp x K) (hi : Inv Mine G hp T w) (hx : TR G x y) : ∃ r, K r ∧ VR (G.fzAll Mine w) r y := by
 unfold frz0 at h
 have objAt : ∀ {i : Nat} {o : O}, hp.getD i none = some o → hp[i]? = some (some o) := by
  intro i o ho
  simp only [List.getD] at ho
  cases hh : hp[i]? with
  | none => rw [hh] at ho; cases ho
  | some q => rw [hh] at ho; exact congrArg some ho
 split at h
 ·cases hx with
  | v _ _ hx => exact ⟨_, h, (hx.mono fzAll_fz.f0).norm⟩
 ·rename_i i g off len
  split at h
  case h_2 => exact h.elim
  rename_i g' c l ts ho
  obtain ⟨rfl, hlen, hk⟩ := h
  obtain ⟨bo, ct, hloc, hlct, hor⟩ := hi.objs i _ (objAt ho)
  refine ⟨_, hk, ?_⟩
  have hlen' : ((l.drop off).take len).length = len := by simp; omega
  cases hx with
  | arr _ _ _ _ b sz ct' cap o hl' h1 h2 h3 =>
   rw [hloc] at hl'; cases hl'
   obtain ⟨hm, hpriv, cur, el, hb, hsz, hcells⟩ := hor
   have hat := arr_cells hcells
   have hfl : ∀ (j : Nat) q, (((l.drop off).take len).flatMap c.cells)[j]? = some q → (l.flatMap c.cells)[off * c.sz + j]? = some q := by
    intro j q hq
    have := flat_take c (l.drop off) len j q hq
    rwa [flat_drop] at this
   have ho' : ∀ (j : Nat) q, (((l.drop off).take len).flatMap c.cells)[j]? = some q → o = off * c.sz := by
    intro j q hq
    refine h3 ?_
    have hj := (List.getElem?_eq_some_iff.1 hq).1
    rw [length_flat, hlen'] at hj
    rcases Nat.eq_zero_or_pos len with h0 | h0
    ·rw [h0] at hj; omega
    ·omega
   have hvr := VR.list (G := G.fzAll Mine w) c ((l.drop off).take len) .no (some ⟨b, o, none⟩) cap b o (fun j => cur.getD (o + j) Go.undef) (fun _ => rfl) (by rw [hlen']; exact h1)
    (fun j q hq => by
     obtain ⟨u, q1, q2, q3⟩ := hat _ q (hfl j q hq)
     have := ho' j q hq
     subst this
     rw [fzAll_cell hi hm hb q1]
     simp [Array.getD_eq_getD_getElem?, q1])
    (fun j q hq => by
     obtain ⟨u, q1, q2, q3⟩ := hat _ q (hfl j q hq)
     have := ho' j q hq
     subst this
     simpa [Array.getD_eq_getD_getElem?, q1] using q3)
    (fun j q hq => by
     obtain ⟨u, q1, q2, q3⟩ := hat _ q (hfl j q hq)
     have := ho' j q hq
     subst this
     simpa [Array.getD_eq_getD_getElem?, q1] using q2.mono fzAll_fz.f0) trivial
   rw [hlen'] at hvr
   exact hvr
  | arrNil _ _ sz ct' hl' =>
   have := VR.list (G := G.fzAll Mine w) c [] .no none 0 0 0 (fun _ => Go.undef) (fun h => absurd rfl h) (Nat.le_refl _) (fun i x hx => by simp at hx) (fun i x hx => by simp at hx) (fun i x hx => by simp at hx) trivial
   simpa using this
 ·rename_i i
  split at h
  case h_2 => exact h.elim
  rename_i kc vc es ho
  obtain ⟨b, sz, ct, hloc, hm, hpriv, ents, ck, hb, hlen, hent⟩ := hi.objs i _ (objAt ho)
  refine ⟨_, h, ?_⟩
  cases hx with
  | mapr _ b' sz' ct' hl' =>
   rw [hloc] at hl'; cases hl'
   refine .fmap kc vc _ b (ents.toList.map fun m => (m.key, m.val)) ?_ (by simp [hlen]) (fun j e e' h1 h2 => ?_) (fun j e e' h1 h2 => ?_)
   ·simp only [Gh.fzAll]
    rw [hpriv.2, Option.none_or, if_pos hm, hb]
   ·simp only [List.getElem?_map] at h1 h2
    cases he : es[j]? with
    | none => rw [he] at h1; cases h1
    | some q =>
     cases hm : ents.toList[j]? with
     | none => rw [hm] at h2; cases h2
     | some m =>
      rw [he] at h1; rw [hm] at h2; cases h1; cases h2
      exact ((hent j q m he (by rw [← Array.getElem?_toList]; exact hm)).1).mono fzAll_fz.f0
   ·simp only [List.getElem?_map] at h1 h2
    cases he : es[j]? with
    | none => rw [he] at h1; cases h1
    | some q =>
     cases hm : ents.toList[j]? with
     | none => rw [hm] at h2; cases h2
     | some m =>
      rw [he] at h1; rw [hm] at h2; cases h1; cases h2
      have := ((hent j q m he (by rw [← Array.getElem?_toList]; exact hm)).2).mono (G' := G.fzAll Mine w) fzAll_fz.f0
      show VR _ (vc.enc q.2.1) m.val
      generalize q.2.2 = tk at this
      revert this
      generalize q.2.1 = z
      cases vc <;> intro this <;> first
       | exact this
       | exact this.norm0
 ·rename_i i g e f
  split at h
  case h_2 => exact h.elim
  rename_i y' ho
  obtain ⟨b, sz, ct, hloc, hm, hpriv, cur, el, hb, hlen, hcells⟩ := hi.objs i _ (objAt ho)
  refine ⟨_, h, ?_⟩
  cases hx with
  | ptr _ _ _ _ b' sz' ct' hl' =>
   rw [hloc] at hl'; cases hl'
   have hcl : ∀ (j : Nat) q, y'.norm1.cells[j]? = some q → ∃ u, cur[j]? = some u ∧ VR G q u ∧ u.oneCell' = true := by
    intro j q hq
    have hlen2 : y'.norm1.cells.length = y'.cells.length := by cases y' <;> simp [V.norm1, V.norm0, V.cells]
    have hj : j < cur.size := by
     have := (List.getElem?_eq_some_iff.1 hq).1
     rw [← hlen]; simp only [TV.cells, List.length_map]; omega
    have hcur : cur[j]? = some cur[j] := Array.getElem?_eq_getElem hj
    have hj2 : j < y'.cells.length := by rw [← hlen2]; exact (List.getElem?_eq_some_iff.1 hq).1
    have := hcells j (.v y'.cells[j]) cur[j] (by simp only [TV.cells, List.getElem?_map, List.getElem?_eq_getElem hj2, Option.map_some]) hcur
    refine ⟨_, hcur, ?_, this.2⟩
    cases this.1 with
    | v _ _ hv =>
     have hq2 : q = (y'.cells[j]).norm0 := by
      cases y' with
      | agg l =>
       simp only [V.norm1, V.cells, List.getElem?_map] at hq
       have : l[j]? = some l[j] := List.getElem?_eq_getElem hj2
       rw [this] at hq; cases hq; rfl
      | _ =>
       have hj0 : j = 0 := by simp [V.cells] at hj2; exact hj2
       subst hj0
       simp [V.norm1, V.norm0, V.cells] at hq
       subst hq; rfl
     rw [hq2]; exact hv.norm0
   have := VR.fptr (G := G.fzAll Mine w) y'.norm1 f b 0 (fun j => cur.getD j Go.undef)
    (fun j q hq => by
     obtain ⟨u, q1, q2, q3⟩ := hcl j q hq
     rw [Nat.zero_add, fzAll_cell hi hm hb q1]
     simp [Array.getD_eq_getD_getElem?, q1])
    (fun j q hq => by
     obtain ⟨u, q1, q2, q3⟩ := hcl j q hq
     simpa [Array.getD_eq_getD_getElem?, q1] using q3)
    (fun j q hq => by
     obtain ⟨u, q1, q2, q3⟩ := hcl j q hq
     simpa [Array.getD_eq_getD_getElem?, q1] using q2.mono fzAll_fz.f0)
   simpa using this
 ·exact h.elim

theorem frzL_sound {F : TV → (V → Prop) → Prop} {G' : Gh} (hF : ∀ x y K, F x K → TR G x y → ∃ r, K r ∧ VR G' r y) : ∀ (l : List TV) (vs : List Value) (K : List V → Prop), frzL F l K → l.length = vs.length →
  (∀ (i : Nat) x y, l[i]? = some x → vs[i]? = some y → TR G x y) → ∃ rs, K rs ∧ rs.length = vs.length ∧ ∀ (i : Nat) x y, rs[i]? = some x → vs[i]? = some y → VR G' x y
 | [], [], K, h, _, _ => ⟨[], h, rfl, fun i x y hx => by simp at hx⟩
 | [], _ :: _, K, h, hl, _ => by simp at hl
 | _ :: _, [], K, h, hl, _ => by simp at hl
 | x :: l, v :: vs, K, h, hl, hr => by
  obtain ⟨r, h, hrr⟩ := hF x v _ h (hr 0 x v rfl rfl)
  obtain ⟨rs, h1, h2, h3⟩ := frzL_sound hF l vs _ h (by simpa using hl) (fun i x y hx hy => hr (i + 1) x y (by simpa using hx) (by simpa using hy))
  refine ⟨r :: rs, h1, by simp [h2], fun i x y hx hy => ?_⟩
  cases i with
  | zero => simp at hx hy; subst hx hy; exact hrr
  | succ i => exact h3 i x y (by simpa using hx) (by simpa using hy)

theorem frz1_sound {x : TV} {y : Value} {K : V → Prop} (h : frz1 hp x K) (hi : Inv Mine G hp T w) (hx : TR G x y) : ∃ r, K r ∧ VR (G.fzAll Mine w) r y := by
 unfold frz1 at h
 split at h
 ·rename_i l
  cases hx with
  | agg _ vs hl ho hx =>
   obtain ⟨rs, h1, h2, h3⟩ := frzL_sound (fun x y K h hx => frz0_sound h hi hx) l vs _ h hl hx
   exact ⟨_, h1, .agg _ vs (by simpa using h2) ho (VR.mapP V.norm0 (fun _ _ h => h.norm0) h3)⟩
 ·exact frz0_sound h hi hx

theorem frz_sound {x : TV} {y : Value} {K : V → Prop} (h : frz hp x K) (hi : Inv Mine G hp T w) (hx : TR G x y) : ∃ r, K r ∧ VR (G.fzAll Mine w) r y := by
 unfold frz at h
 split at h
 ·rename_i l
  cases hx with
  | tup _ vs hl hx =>
   obtain ⟨rs, h1, h2, h3⟩ := frzL_sound (fun x y K h hx => frz1_sound h hi hx) l vs _ h hl hx
   exact ⟨_, h1, .tup _ vs h2 h3⟩
 ·exact frz1_sound h hi hx

end
end Go.Proofs.YtdcljlafookliaaDoor.AB

namespace Go.Proofs.YtdcljlafookliaaDoor.AB
open Go

def XH.none : XH := ⟨0, fun _ => Option.none⟩

def xresT : List Xd → Type
 | [] => Unit
 | [c] => c.T
 | c :: d :: r => c.T × xresT (d :: r)

def xresVs : (l : List Xd) → xresT l → List TV
 | [], _ => []
 | [c], x => [c.enc x]
 | c :: d :: r, p => c.enc p.1 :: xresVs (d :: r) p.2

def xresV : (l : List Xd) → xresT l → TV
 | [], _ => .v (.tup [])
 | [c], x => c.enc x
 | c :: d :: r, p => TV.mkTup (c.enc p.1 :: xresVs (d :: r) p.2)

def XC (P : Program) (f : FuncId) (cs : List Xd) (args : List TV) (X : XH) (Q : xresT cs → XH → Prop) : Prop :=
 ∀ (Mine : Mn) (G : Gh) (w : World) (vs : Array Value), Inv Mine G [some (.heap X)] ⟨0, []⟩ w → args.length = vs.size → (∀ (i : Nat) x y, args[i]? = some x → vs[i]? = some y → TR G x y) →
  Comes P f vs w fun e w' => ∃ v p X' G', e = .returned v ∧ Q p X' ∧ TR G' (xresV cs p) v ∧ Inv Mine G' [some (.heap X')] ⟨0, []⟩ w' ∧ Fz G G' ∧ Lc 1 G G' ∧ Stp Mine w w'

theorem XC.mono {P : Program} {f : FuncId} {cs : List Xd} {args : List TV} {X : XH} {Q Q' : xresT cs → XH → Prop} (h : XC P f cs args X Q) (hq : ∀ p X', Q p X' → Q' p X') : XC P f cs args X Q' := by
 intro Mine G w vs hi hl hr
 refine (h Mine G w vs hi hl hr).mono ?_
 rintro e w' ⟨v, p, X', G', e1, e2, e3⟩
 exact ⟨v, p, X', G', e1, hq p X' e2, e3⟩

def RC (P : Program) (f : FuncId) (cs : List Xd) (args : List TV) (X : XH) (p : xresT cs) : Prop := XC P f cs args X fun p' X' => p' = p ∧ X' = X

def xout0 (hp : Hp) (x : TV) (K : TV → Prop) : Prop :=
 match x with
 | .ref x c e p => K (.ref x c e p)
 | .sl c x => K (.sl c x)
 | .mp kc vc x => K (.mp kc vc x)
 | .ifc e => K (.ifc e)
 | x => frz0 hp x fun v => K (.v v)

def xoutL (F : TV → (TV → Prop) → Prop) : List TV → (List TV → Prop) → Prop
 | [], K => K []
 | x :: l, K => F x fun v => xoutL F l fun vs => K (v :: vs)

def xout1 (hp : Hp) (x : TV) (K : TV → Prop) : Prop :=
 match x with
 | .agg l => xoutL (xout0 hp) l fun vs => K (.agg vs)
 | x => xout0 hp x K

def Xd.decW (c : Xd) (x : TV) : Option c.T :=
 match x.isAg == c.isAgg with
 | true => c.dec x
 | false => none

def xdec1 (c : Xd) : List TV → Option c.T
 | [x] => c.decW x
 | _ => none

def xdecL : (cs : List Xd) → List TV → Option (xresT cs)
 | [], [] => some ()
 | [], _ :: _ => none
 | [c], l => xdec1 c l
 | _ :: _ :: _, [] => none
 | c :: d :: r, x :: l => match c.decW x, xdecL (d :: r) l with
  | some a, some p => some (a, p)
  | _, _ => none

def xretL (cs : List Xd) (x : TV) : List TV :=
 match cs with
 | [_] => [x]
 | _ => match x with
  | .tup l => l
  | x => [x]

def xfin (cs : List Xd) (Q : xresT cs → XH → Prop) (x : TV) (s : St) : Prop :=
 xoutL (xout1 s.hp) (xretL cs x) fun rs => match hpX s.hp, xdecL cs rs with
  | some X, some p => Q p X
  | _, _ => False

def TV.xn0 : TV → Option TV
 | .v x => match x.norm0.nt with
  | true => some (.v x.norm0)
  | false => none
 | .ref x c e p => some (.ref x c e p)
 | .sl c x => some (.sl c x)
 | .mp kc vc x => some (.mp kc vc x)
 | .ifc e => some (.ifc e)
 | _ => none

def xnL : List TV → Option (List TV)
 | [] => some []
 | x :: l => match x.xn0, xnL l with
  | some y, some r => some (y :: r)
  | _, _ => none

def TV.xn : TV → Option TV
 | .v x => match x.norm1.nt with
  | true => some (.v x.norm1)
  | false => none
 | .agg l => match xnL l with
  | some l => some (.agg l)
  | none => none
 | .clo f l => match xnL l with
  | some l => some (.clo f l)
  | none => none
 | x => x.xn0

def xnArgs : List TV → Option (List TV)
 | [] => some []
 | x :: l => match x.xn, xnArgs l with
  | some y, some r => some (y :: r)
  | _, _ => none

section
variable {P : Program} {tt : TT} {Mine : Mn} {G : Gh} {s : St} {a : Act} {w : World} {hp : Hp} {T : Toks}

def Gh.bareX (G : Gh) : Gh := ⟨G.cell, G.mp, fun _ => none, fun i g => if i = 0 then G.loc 0 g else none, G.tab⟩

inductive OkX : TV → Prop where
 | v (x : V) (h : x.nt = true) : OkX (.v x)
 | ref (x c e p) : OkX (.ref x c e p)
 | sl (c x) : OkX (.sl c x)
 | mp (kc vc x) : OkX (.mp kc vc x)
 | ifc (e) : OkX (.ifc e)
 | agg (l : List TV) (h : ∀ x ∈ l, OkX x) : OkX (.agg l)
 | tup (l : List TV) (h : ∀ x ∈ l, OkX x) : OkX (.tup l)
 | clo (f : FuncId) (l : List TV) (h : ∀ x ∈ l, OkX x) : OkX (.clo f l)

theorem bare_fz0 : Fz0 G.bare G.bareX := ⟨fun _ _ _ h => h, fun _ _ h => h, fun _ _ h => by cases h⟩

theorem TR.bareX {x : TV} {y : Value} (h : TR G x y) : OkX x → TR G.bareX x y := by
 have L : ∀ {g : Nat} {x}, G.loc 0 g = some x → G.bareX.loc 0 g = some x := fun h => by simpa [Gh.bareX] using h
 induction h with
 | v x y h => intro ho; cases ho with | v _ hn => exact .v _ _ ((h.bare hn).mono bare_fz0)
 | ref0 c e p => intro _; exact .ref0 c e p
 | ref h c e p b ct hl hp => intro _; exact .ref h c e p b ct (L hl) hp
 | sl0 c a => intro _; exact .sl0 c a
 | sl s c b ct o hl h1 h2 ho => intro _; exact .sl s c b ct o (L hl) h1 h2 ho
 | mp0 kc vc => intro _; exact .mp0 kc vc
 | mp h kc vc b sz ct hl => intro _; exact .mp h kc vc b sz ct (L hl)
 | ifc0 => intro _; exact .ifc0
 | ifc t x y h => intro _; exact .ifc t x y ((h.bare (Cd.enc_nt _ _)).mono bare_fz0)
 | agg l vs hl ho h ih => intro hk; cases hk with | agg _ hk => exact .agg l vs hl ho fun i x y hx hy => ih i x y hx hy (hk x (List.mem_of_getElem? hx))
 | tup l vs hl h ih => intro hk; cases hk with | tup _ hk => exact .tup l vs hl fun i x y hx hy => ih i x y hx hy (hk x (List.mem_of_getElem? hx))
 | clo f l vs hl h ih => intro hk; cases hk with | clo _ _ hk => exact .clo f l vs hl fun i x y hx hy => ih i x y hx hy (hk x (List.mem_of_getElem? hx))
 | _ => intro ho; cases ho

theorem Xd.cells_ok : ∀ (c : Xd) (x : c.T), ∀ y ∈ c.cells x, OkX y
 | .pure c, x, y, h => by
  simp only [Xd.cells, List.mem_map] at h
  obtain ⟨z, hz, rfl⟩ := h
  exact .v _ (Cd.cells_nt c x z hz)
 | .ref _, _, y, h => by simp [Xd.cells] at h; subst h; exact .ref ..
 | .sl _, _, y, h => by simp [Xd.cells] at h; subst h; exact .sl ..
 | .mp _ _, _, y, h => by simp [Xd.cells] at h; subst h; exact .mp ..
 | .pair a b, p, y, h => by
  simp only [Xd.cells, List.mem_append] at h
  rcases h with h | h
  ·exact Xd.cells_ok a _ y h
  ·exact Xd.cells_ok b _ y h
 | .vec n a, f, y, h => by
  simp only [Xd.cells, List.mem_flatMap] at h
  obtain ⟨i, _, h⟩ := h
  exact Xd.cells_ok a _ y h
 | .ifc, _, y, h => by simp [Xd.cells] at h; subst h; exact .ifc ..

theorem okX_v {x : V} (h : OkX (.v x)) : x.nt = true := by cases h; assumption

theorem mkAgg_ok {l : List TV} (h : ∀ x ∈ l, OkX x) : OkX (TV.mkAgg l) := by
 unfold TV.mkAgg
 split
 ·rename_i vs hv
  have := allV_some hv
  subst this
  refine .v _ ?_
  unfold V.nt
  exact ntL_of fun x hx => okX_v (h (.v x) (List.mem_map_of_mem hx))
 ·exact .agg l h

theorem mkTup_ok {l : List TV} (h : ∀ x ∈ l, OkX x) : OkX (TV.mkTup l) := by
 unfold TV.mkTup
 split
 ·rename_i vs hv
  have := allV_some hv
  subst this
  refine .v _ ?_
  unfold V.nt
  exact ntL_of fun x hx => okX_v (h (.v x) (List.mem_map_of_mem hx))
 ·exact .tup l h

theorem Xd.enc_ok (c : Xd) (x : c.T) : OkX (c.enc x) := by
 cases c with
 | pure c => exact .v _ (Cd.enc_nt c x)
 | ref c => exact .ref ..
 | sl c => exact .sl ..
 | mp kc vc => exact .mp ..
 | pair a b => exact mkAgg_ok (Xd.cells_ok (.pair a b) x)
 | vec n a => exact mkAgg_ok (Xd.cells_ok (.vec n a) x)
 | ifc => exact .ifc ..

theorem xresVs_ok : ∀ (cs : List Xd) (p : xresT cs), ∀ x ∈ xresVs cs p, OkX x
 | [], _, x, h => by simp [xresVs] at h
 | [c], p, x, h => by simp only [xresVs, List.mem_singleton] at h; subst h; exact c.enc_ok p
 | c :: d :: r, p, x, h => by
  simp only [xresVs, List.mem_cons] at h
  rcases h with rfl | h
  ·exact c.enc_ok p.1
  ·exact xresVs_ok (d :: r) p.2 x h

theorem xresV_ok (cs : List Xd) (p : xresT cs) : OkX (xresV cs p) := by
 match cs, p with
 | [], _ => exact .v _ rfl
 | [c], p => exact c.enc_ok p
 | c :: d :: r, p => exact mkTup_ok (xresVs_ok (c :: d :: r) p)

theorem xn0_R {x z : TV} {y : Value} (h : x.xn0 = some z) (hx : TR G x y) : TR G z y ∧ OkX z := by
 unfold TV.xn0 at h
 split at h
 ·split at h
  ·rename_i hn
   cases h
   cases hx with | v _ _ hx => exact ⟨.v _ _ hx.norm0, .v _ hn⟩
  ·cases h
 ·cases h; exact ⟨hx, .ref ..⟩
 ·cases h; exact ⟨hx, .sl ..⟩
 ·cases h; exact ⟨hx, .mp ..⟩
 ·cases h; exact ⟨hx, .ifc ..⟩
 ·cases h

theorem xnL_R : ∀ {l r : List TV} {vs : List Value}, xnL l = some r → l.length = vs.length → (∀ (i : Nat) x y, l[i]? = some x → vs[i]? = some y → TR G x y) →
  r.length = vs.length ∧ (∀ (i : Nat) x y, r[i]? = some x → vs[i]? = some y → TR G x y) ∧ ∀ x ∈ r, OkX x
 | [], r, [], h, _, _ => by simp only [xnL, Option.some.injEq] at h; subst h; exact ⟨rfl, fun i x y hx => by simp at hx, by simp⟩
 | [], _, _ :: _, _, hl, _ => by simp at hl
 | _ :: _, _, [], _, hl, _ => by simp at hl
 | x :: l, r, v :: vs, h, hl, hr => by
  simp only [xnL] at h
  split at h
  ·rename_i y r' h1 h2
   cases h
   obtain ⟨q1, q2⟩ := xn0_R h1 (hr 0 x v rfl rfl)
   obtain ⟨k1, k2, k3⟩ := xnL_R h2 (by simpa using hl) (fun i x y hx hy => hr (i + 1) x y (by simpa using hx) (by simpa using hy))
   refine ⟨by simp [k1], fun i x' y' hx hy => ?_, fun x hx => ?_⟩
   ·cases i with
    | zero => simp at hx hy; subst hx hy; exact q1
    | succ i => exact k2 i x' y' (by simpa using hx) (by simpa using hy)
   ·rcases List.mem_cons.1 hx with rfl | hx
    ·exact q2
    ·exact k3 x hx
  ·cases h

theorem xn_R {x z : TV} {y : Value} (h : x.xn = some z) (hx : TR G x y) : TR G z y ∧ OkX z := by
 unfold TV.xn at h
 split at h
 ·split at h
  ·rename_i hn
   cases h
   cases hx with | v _ _ hx => exact ⟨.v _ _ hx.norm1, .v _ hn⟩
  ·cases h
 ·split at h
  ·rename_i l r hl
   cases h
   cases hx with | agg _ vs hlen ho hp =>
   obtain ⟨k1, k2, k3⟩ := xnL_R hl hlen hp
   exact ⟨.agg r vs k1 ho k2, .agg r k3⟩
  ·cases h
 ·split at h
  ·rename_i f l r hl
   cases h
   cases hx with | clo _ _ vs hlen hp =>
   obtain ⟨k1, k2, k3⟩ := xnL_R hl hlen hp
   exact ⟨.clo _ r vs k1 k2, .clo _ r k3⟩
  ·cases h
 ·exact xn0_R h hx

theorem xnArgs_R : ∀ {l r : List TV} {vs : List Value}, xnArgs l = some r → l.length = vs.length → (∀ (i : Nat) x y, l[i]? = some x → vs[i]? = some y → TR G x y) →
  r.length = vs.length ∧ (∀ (i : Nat) x y, r[i]? = some x → vs[i]? = some y → TR G x y) ∧ ∀ x ∈ r, OkX x
 | [], r, [], h, _, _ => by simp only [xnArgs, Option.some.injEq] at h; subst h; exact ⟨rfl, fun i x y hx => by simp at hx, by simp⟩
 | [], _, _ :: _, _, hl, _ => by simp at hl
 | _ :: _, _, [], _, hl, _ => by simp at hl
 | x :: l, r, v :: vs, h, hl, hr => by
  simp only [xnArgs] at h
  split at h
  ·rename_i y r' h1 h2
   cases h
   obtain ⟨q1, q2⟩ := xn_R h1 (hr 0 x v rfl rfl)
   obtain ⟨k1, k2, k3⟩ := xnArgs_R h2 (by simpa using hl) (fun i x y hx hy => hr (i + 1) x y (by simpa using hx) (by simpa using hy))
   refine ⟨by simp [k1], fun i x' y' hx hy => ?_, fun x hx => ?_⟩
   ·cases i with
    | zero => simp at hx hy; subst hx hy; exact q1
    | succ i => exact k2 i x' y' (by simpa using hx) (by simpa using hy)
   ·rcases List.mem_cons.1 hx with rfl | hx
    ·exact q2
    ·exact k3 x hx
  ·cases h

end
end Go.Proofs.YtdcljlafookliaaDoor.AB

namespace Go.Proofs.YtdcljlafookliaaDoor.AB
open Go

section
variable {P : Program} {tt : TT} {Mine : Mn} {G : Gh} {s : St} {a : Act} {w w' : World} {hp : Hp} {T : Toks} {X X' : XH}

def mnX (G : Gh) (X : XH) (w : World) : Mn := ⟨fun b => w.heap.size ≤ b ∨ Owns G 0 (.heap X) b, G.cell, G.mp, []⟩

theorem Inv.small (hi : Inv Mine G hp T w) (h0 : hp[0]? = some (some (.heap X))) : Inv (mnX G X w) G.bareX [some (.heap X)] ⟨0, []⟩ w := by
 obtain ⟨-, h1, h2, h3⟩ := hi.xor h0
 have e1 : ∀ g, G.bareX.loc 0 g = G.loc 0 g := fun g => by simp [Gh.bareX]
 have hget : ∀ i o, ([some (.heap X)] : Hp)[i]? = some (some o) → i = 0 ∧ o = .heap X := by
  intro i o h
  match i with
  | 0 => simp at h; exact ⟨rfl, h.symm⟩
  | i + 1 => simp at h
 refine ⟨hi.cells, hi.mps, fun i o h => ?_, fun i j o o' b hij h h' => ?_, fun t ht => by simp at ht, fun t ht => by simp at ht, fun t ht => by simp at ht, fun i g hig => ?_, fun i o g h hg => ?_, fun n _ => rfl,
  fun b hb => .inl hb, fun b o v hc => .inr hc, fun r e hm => .inr hm⟩
 ·obtain ⟨rfl, rfl⟩ := hget i o h
  refine ⟨rfl, fun h hh => ⟨(h1 h hh).1, by rw [e1]; exact (h1 h hh).2⟩, fun k o ho => ?_, fun k k' b sz ct sz' ct' hne n1 n2 l1 l2 => h3 k k' b sz ct sz' ct' hne n1 n2 (by rw [← e1]; exact l1) (by rw [← e1]; exact l2)⟩
  have hk : X.f k ≠ none := by rw [ho]; simp
  cases o with
  | arr c l =>
   obtain ⟨b, q1, q2, q3, cur, el, q4, q5, q6⟩ := h2 k _ ho
   refine ⟨b, by rw [e1]; exact q1, .inr ⟨k, _, _, hk, q1⟩, q3, cur, el, q4, q5, fun e x hx j y hy => ?_⟩
   obtain ⟨u, r1, r2, r3⟩ := q6 e x hx j y hy
   exact ⟨u, r1, r2.bareX (Xd.cells_ok c x y (List.mem_of_getElem? hy)), r3⟩
  | map kc vc es =>
   obtain ⟨b, sz, ct, q1, q2, q3, ents, ck, q4, q5, q6, q7⟩ := h2 k _ ho
   refine ⟨b, sz, ct, by rw [e1]; exact q1, .inr ⟨k, _, _, hk, q1⟩, q3, ents, ck, q4, q5, fun j e m he hm => ⟨?_, (q6 j e m he hm).2.bareX (vc.enc_ok e.2)⟩, q7⟩
   exact ((q6 j e m he hm).1.bare (Cd.enc_nt kc e.1)).mono bare_fz0
 ·obtain ⟨rfl, _⟩ := hget i o h
  obtain ⟨rfl, _⟩ := hget j o' h'
  exact absurd rfl hij
 ·have hig : 1 ≤ i := hig
  simp only [Gh.bareX]
  rw [if_neg (by omega)]
 ·obtain ⟨rfl, rfl⟩ := hget i o h
  rw [e1]
  simp only [O.gen] at hg
  exact (h1 g (by omega)).2

theorem Inv.xcall {G' : Gh} (hi : Inv Mine G hp T w) (h0 : hp[0]? = some (some (.heap X))) (hi' : Inv (mnX G X w) G' [some (.heap X')] ⟨0, []⟩ w') (hf : Fz G.bareX G') (hl : Lc 1 G.bareX G')
  (hs : Stp (mnX G X w) w w') : ∃ G2, Inv Mine G2 (hp.set 0 (some (.heap X'))) T w' ∧ Fz G G2 ∧ Lc hp.length G G2 ∧ Stp Mine w w' ∧ ∀ x y, OkX x → TR G' x y → TR G2 x y := by
 have h0l : 0 < hp.length := (List.getElem?_eq_some_iff.1 h0).1
 have h0' : ([some (.heap X')] : Hp)[0]? = some (some (.heap X')) := rfl
 have hor := hi.xor h0
 obtain ⟨-, h1, h2, h3⟩ := hi'.xor h0'
 obtain ⟨G2, hG2⟩ : ∃ G2 : Gh, G2 = ⟨G'.cell, G'.mp, G.tok, fun i g => if i = 0 then G'.loc 0 g else G.loc i g, G'.tab⟩ := ⟨_, rfl⟩
 have e0 : ∀ g, G2.loc 0 g = G'.loc 0 g := fun g => by subst hG2; simp
 have eo : ∀ i g, i ≠ 0 → G2.loc i g = G.loc i g := fun i g h => by subst hG2; simp [h]
 have et : G2.tok = G.tok := by subst hG2; rfl
 have ec : G2.cell = G'.cell := by subst hG2; rfl
 have em : G2.mp = G'.mp := by subst hG2; rfl
 have hmine : ∀ b, (mnX G X w) b → Mine b := by
  rintro b (h | h)
  ·exact hi.mine b h
  ·exact (hor.blk h).1
 have hnot : ∀ b, b < w.heap.size → ¬ Owns G 0 (.heap X) b → ¬ (mnX G X w) b := by
  rintro b h1 h2 (h | h)
  ·omega
  ·exact h2 h
 have hnew : (∀ b o v, G'.cell b o = some v → (mnX G X w) b ∨ G.cell b o = some v) ∧ ∀ r e, G'.mp r = some e → (mnX G X w) r ∨ G.mp r = some e := hi'.old
 have hfz : Fz G G2 := ⟨fun b o v h => by rw [ec]; exact hf.cell b o v h, fun r e h => by rw [em]; exact hf.mp r e h, fun n x h => by rw [et]; exact h, fun t t' x hlt h hn => by rw [et]; exact hn⟩
 have hlc : Lc hp.length G G2 := by
  intro i hil g x hx
  by_cases e : i = 0
  ·subst e
   rw [e0]
   exact hl 0 (by omega) g x (by simpa [Gh.bareX] using hx)
  ·rw [eo i g e]; exact hx
 have hpriv : ∀ b, ¬ (mnX G X w) b → G.priv b → G2.priv b := by
  intro b hb hp'
  refine ⟨fun o => ?_, ?_⟩
  ·cases hc : G2.cell b o with
   | none => rfl
   | some v =>
    rw [ec] at hc
    rcases hnew.1 b o v hc with h | h
    ·exact absurd h hb
    ·rw [hp'.1 o] at h; cases h
  ·cases hc : G2.mp b with
   | none => rfl
   | some e =>
    rw [em] at hc
    rcases hnew.2 b e hc with h | h
    ·exact absurd h hb
    ·rw [hp'.2] at h; cases h
 have tr : ∀ x y, OkX x → TR G' x y → TR G2 x y := by
  intro x y ho h
  have := h.bareX ho
  refine TR.mono (n := 1) (fun i g hig => by simp only [Gh.bareX]; rw [if_neg (by omega)]) ⟨fun b o v h => by rw [ec]; exact h, fun r e h => by rw [em]; exact h, fun n x h => by cases h⟩ (fun i hi g x hx => ?_) this
  have : i = 0 := by omega
  subst this
  rw [e0]; simpa [Gh.bareX] using hx
 have hset : ∀ j p, (hp.set 0 (some (.heap X')))[j]? = some (some p) → (j ≠ 0 ∧ hp[j]? = some (some p)) ∨ (j = 0 ∧ p = .heap X') := by
  intro j p hj
  rw [List.getElem?_set] at hj
  split at hj
  ·rename_i e
   first
    | (rw [if_pos (by omega)] at hj; cases hj; exact .inr ⟨e.symm, rfl⟩)
    | (cases hj; exact .inr ⟨e.symm, rfl⟩)
  ·rename_i e
   exact .inl ⟨fun e' => e e'.symm, hj⟩
 have ownO : ∀ j p b, j ≠ 0 → Owns G2 j p b → Owns G j p b := by
  rintro j p b hj ⟨g, s, c, k1, k2⟩
  exact ⟨g, s, c, k1, by rw [eo j g hj] at k2; exact k2⟩
 have own0 : ∀ b, Owns G2 0 (.heap X') b → (mnX G X w) b := by
  rintro b ⟨g, s, c, k1, k2⟩
  rw [e0] at k2
  exact ((hi'.xor h0').blk ⟨g, s, c, k1, k2⟩).1
 have other : ∀ j p b, j ≠ 0 → hp[j]? = some (some p) → Owns G j p b → b < w.heap.size ∧ ¬ (mnX G X w) b := by
  intro j p b hj hjp ho
  have hlt := ((hi.objs j p hjp).blk ho).2.2
  exact ⟨hlt, hnot b hlt fun h => hi.inj j 0 p _ b hj hjp h0 ho h⟩
 have tokb : ∀ t ∈ T.l, ∀ b e c, G.tok t = some (some b, e, c) → b < w.heap.size ∧ ¬ (mnX G X w) b := by
  intro t ht b e c hb
  obtain ⟨bo, e', c', k1, k2⟩ := hi.toks t ht
  rw [hb] at k1; cases k1
  obtain ⟨_, ⟨cur, el, q3, _⟩, _⟩ := k2 b rfl
  have hlt := heap_lt q3
  exact ⟨hlt, hnot b hlt fun h => hi.tobj t ht 0 _ b e c hb h0 h⟩
 refine ⟨G2, ⟨fun b o v h => hi'.cells b o v (by rw [← ec]; exact h), fun r e h => hi'.mps r e (by rw [← em]; exact h), fun j p hj => ?_, fun i j oi oj b hij hio hjo li lj => ?_, fun t ht => ?_, fun t ht i p b e c h hio hl' => ?_, ?_, ?_, ?_, ?_, ?_, ?_⟩,
  hfz, hlc, ⟨hs.os, hs.tape, hs.output, hs.size, fun k hk => hs.block k fun h => hk (hmine k h)⟩, tr⟩
 ·rcases hset j p hj with ⟨k1, k2⟩ | ⟨rfl, rfl⟩
  ·refine (hi.objs j p k2).keep hi.lb hfz hlc (fun b hb => ?_) (fun _ _ g _ => eo j g k1)
   obtain ⟨_, q2⟩ := other j p b k1 k2 hb
   exact ⟨hs.block b q2, hpriv b q2⟩
  ·refine ⟨rfl, fun h hh => ⟨(h1 h hh).1, by rw [e0]; exact (h1 h hh).2⟩, fun k o ho => ?_, fun k k' b sz ct sz' ct' hne n1 n2 l1 l2 => h3 k k' b sz ct sz' ct' hne n1 n2 (by rw [← e0]; exact l1) (by rw [← e0]; exact l2)⟩
   have pr : ∀ b, G'.priv b → G2.priv b := fun b h => ⟨fun o => by rw [ec]; exact h.1 o, by rw [em]; exact h.2⟩
   cases o with
   | arr c l =>
    obtain ⟨b, q1, q2, q3, cur, el, q4, q5, q6⟩ := h2 k _ ho
    refine ⟨b, by rw [e0]; exact q1, hmine b q2, pr b q3, cur, el, q4, q5, fun e x hx j y hy => ?_⟩
    obtain ⟨u, r1, r2, r3⟩ := q6 e x hx j y hy
    exact ⟨u, r1, tr _ _ (Xd.cells_ok c x y (List.mem_of_getElem? hy)) r2, r3⟩
   | map kc vc es =>
    obtain ⟨b, sz, ct, q1, q2, q3, ents, ck, q4, q5, q6, q7⟩ := h2 k _ ho
    refine ⟨b, sz, ct, by rw [e0]; exact q1, hmine b q2, pr b q3, ents, ck, q4, q5, fun j e m he hm => ⟨?_, tr _ _ (vc.enc_ok e.2) (q6 j e m he hm).2⟩, q7⟩
    exact ((q6 j e m he hm).1.bare (Cd.enc_nt kc e.1)).mono ⟨fun b o v h => by rw [ec]; exact h, fun r e h => by rw [em]; exact h, fun _ _ h => by cases h⟩
 ·have main : ∀ j p, j ≠ 0 → hp[j]? = some (some p) → ∀ b, Owns G j p b → Owns G2 0 (.heap X') b → False := by
   intro j p hj hjp b l1 l2
   exact (other j p b hj hjp l1).2 (own0 b l2)
  rcases hset i oi hio with ⟨k1, k2⟩ | ⟨e1, e2⟩
  ·rcases hset j oj hjo with ⟨q1, q2⟩ | ⟨e3, e4⟩
   ·exact hi.inj i j oi oj b hij k2 q2 (ownO _ _ _ k1 li) (ownO _ _ _ q1 lj)
   ·subst e3 e4; exact main i oi k1 k2 b (ownO _ _ _ k1 li) lj
  ·subst e1 e2
   rcases hset j oj hjo with ⟨q1, q2⟩ | ⟨e3, e4⟩
   ·exact main j oj q1 q2 b (ownO _ _ _ q1 lj) li
   ·exact hij e3.symm
 ·obtain ⟨bo, e, c, k1, k2⟩ := hi.toks t ht
  refine ⟨bo, e, c, by rw [et]; exact k1, fun b hb => ?_⟩
  obtain ⟨q1, ⟨cur, el, q2, q3⟩, q4, q5⟩ := k2 b hb
  subst hb
  obtain ⟨r1, r2⟩ := tokb t ht b e c k1
  refine ⟨q1, ⟨cur, el, by rw [hs.block b r2]; exact q2, q3⟩, fun o ho => ?_, ?_⟩
  ·cases hc : G2.cell b o with
   | none => rfl
   | some v =>
    rw [ec] at hc
    rcases hnew.1 b o v hc with h | h
    ·exact absurd h r2
    ·rw [q4 o ho] at h; cases h
  ·cases hc : G2.mp b with
   | none => rfl
   | some e =>
    rw [em] at hc
    rcases hnew.2 b e hc with h | h
    ·exact absurd h r2
    ·rw [q5] at h; cases h
 ·rw [et] at h
  rcases hset i p hio with ⟨q1, q2⟩ | ⟨e1, e2⟩
  ·exact hi.tobj t ht i p b e c h q2 (ownO _ _ _ q1 hl')
  ·subst e1 e2
   exact (tokb t ht b e c h).2 (own0 b hl')
 ·rw [et]; exact hi.tinj
 ·intro i g hig
  simp only [List.length_set] at hig
  rw [eo i g (by omega)]; exact hi.lb i g hig
 ·intro i p g hio hg
  rcases hset i p hio with ⟨q1, q2⟩ | ⟨e1, e2⟩
  ·rw [eo i g q1]; exact hi.gens i p g q2 hg
  ·subst e1 e2
   rw [e0]
   simp only [O.gen] at hg
   exact (h1 g (by omega)).2
 ·intro n hn; rw [et]; exact hi.tfin n hn
 ·intro b hb; exact hi.mine b (Nat.le_trans hs.size hb)
 ·refine ⟨fun b o v h => ?_, fun r e h => ?_⟩
  ·rw [ec] at h
   rcases hnew.1 b o v h with q | q
   ·exact .inl (hmine b q)
   ·exact hi.old.1 b o v q
  ·rw [em] at h
   rcases hnew.2 r e h with q | q
   ·exact .inl (hmine r q)
   ·exact hi.old.2 r e q

theorem Inv.behind {hp : Hp} (hi : Inv Mine G (some (.heap X) :: hp) T w) : Inv ⟨fun b => Mine b ∧ ¬ Owns G 0 (.heap X) b, G.cell, G.mp, []⟩ G (none :: hp) T w := by
 have h0 : (some (.heap X) :: hp)[0]? = some (some (.heap X)) := rfl
 have hget : ∀ i o, (none :: hp : Hp)[i]? = some (some o) → i ≠ 0 ∧ (some (.heap X) :: hp : Hp)[i]? = some (some o) := by
  intro i o h
  cases i with
  | zero => simp at h
  | succ i => exact ⟨by omega, by simpa using h⟩
 have own : ∀ i o b, (none :: hp : Hp)[i]? = some (some o) → Owns G i o b → Mine b ∧ ¬ Owns G 0 (.heap X) b := by
  intro i o b h ho
  obtain ⟨h1, h2⟩ := hget i o h
  exact ⟨((hi.objs i o h2).blk ho).1, fun q => hi.inj i 0 o _ b h1 h2 h0 ho q⟩
 refine ⟨hi.cells, hi.mps, fun i o h => ?_, fun i j o o' b hij h h' l l' => hi.inj i j o o' b hij (hget i o h).2 (hget j o' h').2 l l', fun t ht => ?_,
  fun t ht i o b e c h1 h l => hi.tobj t ht i o b e c h1 (hget i o h).2 l, hi.tinj, ?_, fun i o g h hg => hi.gens i o g (hget i o h).2 hg, hi.tfin, fun b hb => ⟨hi.mine b hb, fun h => ?_⟩, fun b o v h => .inr h, fun r e h => .inr h⟩
 ·have hb := fun b ho => own i o b h ho
  have := hi.objs i o (hget i o h).2
  cases o with
  | heap X2 => exact absurd this.1 (hget i _ h).1
  | box x =>
   obtain ⟨b, sz, ct, h1, h2, h3⟩ := this
   exact ⟨b, sz, ct, h1, hb b ⟨0, sz, ct, rfl, h1⟩, h3⟩
  | arr g c l ts =>
   obtain ⟨bo, ct, h1, hle, h2⟩ := this
   refine ⟨bo, ct, h1, hle, ?_⟩
   cases bo with
   | none => exact h2
   | some b => exact ⟨hb b ⟨g, _, ct, rfl, h1⟩, h2.2⟩
  | map kc vc es =>
   obtain ⟨b, sz, ct, h1, h2, h3⟩ := this
   exact ⟨b, sz, ct, h1, hb b ⟨0, sz, ct, rfl, h1⟩, h3⟩
  | siter s p => exact this.elim
 ·obtain ⟨bo, e, c, k1, k2⟩ := hi.toks t ht
  refine ⟨bo, e, c, k1, fun b hb => ?_⟩
  obtain ⟨q1, q2⟩ := k2 b hb
  subst hb
  exact ⟨⟨q1, fun h => hi.tobj t ht 0 _ b e c k1 h0 h⟩, q2⟩
 ·have := hi.lb
  simpa using this
 ·have := ((hi.xor h0).blk h).2.2; omega

theorem xout0_sound {hp : Hp} {x : TV} {K : TV → Prop} (h : xout0 (some (.heap X) :: hp) x K) {G' : Gh} (hi : Inv Mine G (some (.heap X) :: hp) T w)
  (hG : G' = G.fzAll ⟨fun b => Mine b ∧ ¬ Owns G 0 (.heap X) b, G.cell, G.mp, []⟩ w) {y : Value} (hx : TR G x y) : ∃ r, K r ∧ TR G' r y := by
 have fz : ∀ {x : TV}, frz0 (some (.heap X) :: hp) x (fun v => K (.v v)) → TR G x y → ∃ r, K r ∧ TR G' r y := by
  intro x h hx
  have h' : frz0 (none :: hp) x (fun v => K (.v v)) := by
   unfold frz0 at h ⊢
   cases x with
   | v x => exact h
   | arr i g off len => cases i with
    | zero => exact h
    | succ i => exact h
   | mapr i => cases i with
    | zero => exact h
    | succ i => exact h
   | ptr i g e f => cases i with
    | zero =>
     cases g <;> first | exact h | skip
     cases e <;> exact h
    | succ i => exact h
   | _ => exact h
  obtain ⟨r, k1, k2⟩ := frz0_sound h' hi.behind hx
  exact ⟨.v r, k1, .v _ _ (by rw [hG]; exact k2)⟩
 have keep : ∀ {x : TV}, TR G x y → TR G' x y := fun h => by
  subst hG
  exact h.mono hi.lb fzAll_fz.f0 (fun i _ g x h => h)
 unfold xout0 at h
 split at h
 ·exact ⟨_, h, keep hx⟩
 ·exact ⟨_, h, keep hx⟩
 ·exact ⟨_, h, keep hx⟩
 ·exact ⟨_, h, keep hx⟩
 ·exact fz h hx

theorem xoutL_sound {F : TV → (TV → Prop) → Prop} {G' : Gh} (hF : ∀ x y K, F x K → TR G x y → ∃ r, K r ∧ TR G' r y) : ∀ (l : List TV) (vs : List Value) (K : List TV → Prop), xoutL F l K → l.length = vs.length →
  (∀ (i : Nat) x y, l[i]? = some x → vs[i]? = some y → TR G x y) → ∃ rs, K rs ∧ rs.length = vs.length ∧ ∀ (i : Nat) x y, rs[i]? = some x → vs[i]? = some y → TR G' x y
 | [], [], K, h, _, _ => ⟨[], h, rfl, fun i x y hx => by simp at hx⟩
 | [], _ :: _, K, h, hl, _ => by simp at hl
 | _ :: _, [], K, h, hl, _ => by simp at hl
 | x :: l, v :: vs, K, h, hl, hr => by
  obtain ⟨r, h, hrr⟩ := hF x v _ h (hr 0 x v rfl rfl)
  obtain ⟨rs, h1, h2, h3⟩ := xoutL_sound hF l vs _ h (by simpa using hl) (fun i x y hx hy => hr (i + 1) x y (by simpa using hx) (by simpa using hy))
  refine ⟨r :: rs, h1, by simp [h2], fun i x y hx hy => ?_⟩
  cases i with
  | zero => simp at hx hy; subst hx hy; exact hrr
  | succ i => exact h3 i x y (by simpa using hx) (by simpa using hy)

theorem xout1_sound {hp : Hp} {x : TV} {K : TV → Prop} (h : xout1 (some (.heap X) :: hp) x K) {G' : Gh} (hi : Inv Mine G (some (.heap X) :: hp) T w)
  (hG : G' = G.fzAll ⟨fun b => Mine b ∧ ¬ Owns G 0 (.heap X) b, G.cell, G.mp, []⟩ w) {y : Value} (hx : TR G x y) : ∃ r, K r ∧ TR G' r y := by
 unfold xout1 at h
 split at h
 ·cases hx with | agg l vs hl ho hp =>
  obtain ⟨rs, h1, h2, h3⟩ := xoutL_sound (fun x y K h hx => xout0_sound h hi hG hx) _ vs _ h hl hp
  exact ⟨_, h1, .agg rs vs h2 ho h3⟩
 ·exact xout0_sound h hi hG hx

theorem xoutL_ex {F : TV → (TV → Prop) → Prop} (hF : ∀ x K, F x K → ∃ y, K y) : ∀ (l : List TV) (K : List TV → Prop), xoutL F l K → ∃ rs, rs.length = l.length ∧ K rs
 | [], K, h => ⟨[], rfl, h⟩
 | x :: l, K, h => by
  obtain ⟨y, hy⟩ := hF _ _ h
  obtain ⟨rs, h1, h2⟩ := xoutL_ex hF l _ hy
  exact ⟨y :: rs, by simp [h1], h2⟩

theorem xout0_ex {hp : Hp} (x : TV) (K : TV → Prop) (h : xout0 hp x K) : ∃ y, K y := by
 unfold xout0 at h
 split at h <;> first | exact ⟨_, h⟩ | skip
 unfold frz0 at h
 split at h
 ·exact ⟨_, h⟩
 ·split at h
  ·exact ⟨_, h.2.2⟩
  ·exact h.elim
 ·split at h
  ·exact ⟨_, h⟩
  ·exact h.elim
 ·split at h
  ·exact ⟨_, h⟩
  ·exact h.elim
 ·exact h.elim

theorem xout1_ex {hp : Hp} (x : TV) (K : TV → Prop) (h : xout1 hp x K) : ∃ y, K y := by
 unfold xout1 at h
 split at h
 ·obtain ⟨rs, _, h⟩ := xoutL_ex xout0_ex _ _ h
  exact ⟨_, h⟩
 ·exact xout0_ex _ _ h

theorem decW_R {c : Xd} {x : TV} {a : c.T} (h : c.decW x = some a) {y : Value} (hx : TR G x y) : TR G (c.enc a) y := by
 unfold Xd.decW at h
 split at h
 ·rename_i hb
  exact dec_whole h (by simpa using hb) hx
 ·cases h

theorem xdecL_R : ∀ (cs : List Xd) (rs : List TV) (vs : List Value) (p : xresT cs), xdecL cs rs = some p → rs.length = vs.length → (∀ (i : Nat) x y, rs[i]? = some x → vs[i]? = some y → TR G x y) →
  cs.length = vs.length ∧ (xresVs cs p).length = vs.length ∧ ∀ (i : Nat) x y, (xresVs cs p)[i]? = some x → vs[i]? = some y → TR G x y
 | [], [], vs, p, h, hl, _ => by
  have : vs = [] := List.eq_nil_of_length_eq_zero (by simpa using hl.symm)
  subst this
  exact ⟨rfl, rfl, fun i x y hx => by simp [xresVs] at hx⟩
 | [], _ :: _, vs, p, h, hl, _ => by cases h
 | [c], rs, vs, p, h, hl, hr => by
  have h : xdec1 c rs = some p := h
  unfold xdec1 at h
  split at h
  ·rename_i x
   cases vs with
   | nil => simp at hl
   | cons v vs =>
    have : vs = [] := List.eq_nil_of_length_eq_zero (by simpa using hl.symm)
    subst this
    refine ⟨rfl, rfl, fun i x' y hx hy => ?_⟩
    match i with
    | 0 =>
     have hx : some (c.enc p) = some x' := hx
     cases hx
     simp at hy; subst hy
     exact decW_R h (hr 0 _ v rfl rfl)
    | i + 1 => simp at hy
  ·cases h
 | _ :: _ :: _, [], vs, p, h, hl, _ => by cases h
 | c :: d :: r, x :: l, [], p, h, hl, hr => by simp at hl
 | c :: d :: r, x :: l, v :: vs, p, h, hl, hr => by
  have h : (match c.decW x, xdecL (d :: r) l with
   | some a, some p => some (a, p)
   | _, _ => none) = some p := h
  cases h1 : c.decW x with
  | none => rw [h1] at h; cases h
  | some a =>
   cases h2 : xdecL (d :: r) l with
   | none => rw [h1, h2] at h; cases h
   | some q =>
    rw [h1, h2] at h
    have hp : p = (a, q) := by cases h; rfl
    subst hp
    obtain ⟨k0, k1, k2⟩ := xdecL_R (d :: r) l vs q h2 (by simpa using hl) (fun i x y hx hy => hr (i + 1) x y (by simpa using hx) (by simpa using hy))
    have e : xresVs (c :: d :: r) (a, q) = c.enc a :: xresVs (d :: r) q := rfl
    rw [e]
    refine ⟨by simp only [List.length_cons] at k0 ⊢; omega, by simp [k1], fun i x' y' hx hy => ?_⟩
    cases i with
    | zero => simp at hx hy; subst hx hy; exact decW_R h1 (hr 0 x v rfl rfl)
    | succ i => exact k2 i x' y' (by simpa using hx) (by simpa using hy)

end
end Go.Proofs.YtdcljlafookliaaDoor.AB

namespace Go.Proofs.YtdcljlafookliaaDoor.AB
open Go

def mnOf (G : Gh) (w : World) : Mn := ⟨fun b => w.heap.size ≤ b, G.cell, G.mp, []⟩

def PCPost (G : Gh) (w : World) (r : V) (e : Ending) (w' : World) : Prop :=
  ∃ v G', e = .returned v ∧ VR G'.bare r v ∧ FzOK G' w' ∧ Fz G.bare G'.bare ∧
    ((∀ b o v, G'.cell b o = some v → w.heap.size ≤ b ∨ G.cell b o = some v) ∧ ∀ r e, G'.mp r = some e → w.heap.size ≤ r ∨ G.mp r = some e) ∧ Stp (mnOf G w) w w'

def PC (P : Program) (f : FuncId) (args : List V) (r : V) : Prop :=
  ∀ (G : Gh) (w : World) (vs : Array Value), FzOK G w → args.length = vs.size → (∀ (i : Nat) x y, args[i]? = some x → vs[i]? = some y → VR G.bare x y) →
    Entered P f ∧ Calls P f vs w (PCPost G w r)

def FCPost (G : Gh) (w : World) (c : Cd) (l : List c.T) (e : Ending) (w' : World) : Prop :=
  ∃ v G', e = .returned v ∧ FzOK G' w' ∧ Fz G.bare G'.bare ∧
    ((∀ b o v, G'.cell b o = some v → w.heap.size ≤ b ∨ G.cell b o = some v) ∧ ∀ r e, G'.mp r = some e → w.heap.size ≤ r ∨ G.mp r = some e) ∧ Stp (mnOf G w) w w' ∧
    ((v = .slice none 0 0 ∧ l = []) ∨ ∃ b ct cur el, v = .slice (some ⟨b, 0, none⟩) l.length ct ∧ l.length ≤ ct ∧ w.heap.size ≤ b ∧ G'.priv b ∧ w'.heap[b]? = some (.cells cur el (0, 0)) ∧ cur.size = ct * c.sz ∧
      ∀ (e : Nat) x, l[e]? = some x → ∀ (j : Nat) y, (c.cells x)[j]? = some y → ∃ u, cur[e * c.sz + j]? = some u ∧ VR G'.bare y u ∧ u.oneCell' = true)

def FC (P : Program) (f : FuncId) (args : List V) (c : Cd) (l : List c.T) : Prop :=
  ∀ (G : Gh) (w : World) (vs : Array Value), FzOK G w → args.length = vs.size → (∀ (i : Nat) x y, args[i]? = some x → vs[i]? = some y → VR G.bare x y) →
    Entered P f ∧ Calls P f vs w (FCPost G w c l)

def resCell (tt : TT) (a t : Nat) (s : St) : Option TV :=
  match (tt.at t).ok, s.tm.getD a tu with
  | true, .ptr i g e f => match g, e, f, s.hp.getD i none with
    | 0, 0, 0, some (.box x) => subTV (tt.at t).k.isAgg (tt.at t).size 0 x
    | _, _, _, _ => none
  | _, _ => none

def resTV (tt : TT) : List ResultVar → St → Option (List TV)
  | [], _ => some []
  | .tmp t :: r, s => match resTV tt r s with
    | some l => some (s.tm.getD t tu :: l)
    | none => none
  | .cell a t :: r, s => match resCell tt a t s, resTV tt r s with
    | some x, some l => some (x :: l)
    | _, _ => none

def res1 : List TV → TV
  | [x] => x
  | l => .tup l

def retK (tt : TT) (rs : List ResultVar) (K : TV → St → Prop) : Exit → St → Prop
  | .normal, s => match resTV tt rs s with
    | some l => K (res1 l) s
    | none => False
  | .ret, s => match resTV tt rs s with
    | some l => K (res1 l) s
    | none => False
  | _, _ => False

def fnK (tt : TT) (call : CallP) (md : Mds) (msk : Nat → List Bool × Nat) (fn : Func) (args : List TV) (s : St) (K : TV → St → Prop) : Prop :=
  match fn.body with
  | some c => awp tt call md s.hp.length msk 0 c (retK tt fn.results.toList fun x s' => K x ⟨s.tm, s'.hp, s'.T⟩)
      ⟨args ++ List.replicate (fn.ntmps - args.length) tu, s.hp, s.T⟩
  | none => False

inductive Rc where
  | cd (c : Cd)
  | mp (kc vc : Cd)

@[reducible] def Rc.T : Rc → Type
  | .cd c => c.T
  | .mp kc vc => List (kc.T × vc.T)

def Rc.V (r : Rc) (x : r.T) : V :=
  match r, x with
  | .cd c, x => c.enc x
  | .mp kc vc, es => .fmap kc vc es

def resT : List Rc → Type
  | [] => Unit
  | [c] => c.T
  | c :: d :: r => c.T × resT (d :: r)

def resVs : (l : List Rc) → resT l → List V
  | [], _ => []
  | [c], x => [c.V x]
  | c :: d :: r, p => c.V p.1 :: resVs (d :: r) p.2

def resV : (l : List Rc) → resT l → V
  | [], _ => .tup []
  | [c], x => c.V x
  | c :: d :: r, p => .tup (c.V p.1 :: resVs (d :: r) p.2)

def Cd.flat : Cd → Bool
  | .slice _ => false
  | .pair a b => a.flat && b.flat
  | _ => true

def Rc.flat : Rc → Bool
  | .cd c => c.flat
  | .mp _ _ => false

structure Cx where
  tt : TT
  sig : List (Nat × List Rc)
  xsig : List (Nat × List Xd)
  mds : List (Nat × Mds)
  msk : List (Nat × List (Nat × List Bool × Nat))
  fns : List (Nat × Func)

def assoc {α : Type} (n : Nat) : List (Nat × α) → Option α
  | [] => none
  | (k, x) :: l => match Nat.beq k n with
    | true => some x
    | false => assoc n l

def Cx.md (E : Cx) (f : Nat) : Mds := (assoc f E.mds).getD []
def Cx.mk1 (E : Cx) (f : Nat) (b : Nat) : List Bool × Nat := match assoc f E.msk with
  | some l => (assoc b l).getD ([], 0)
  | none => ([], 0)

def pureC (P : Program) (E : Cx) (f : FuncId) (args : List TV) (s : St) (K : TV → St → Prop) : Prop :=
  match assoc f E.sig, TV.allV args with
  | some cs, some avs => match V.ntL (avs.map V.norm1) with
    | true => ∃ p : resT cs, PC P f (avs.map V.norm1) (resV cs p) ∧ K (.v (resV cs p)) s
    | false => False
  | _, _ => False

def lendC (P : Program) (E : Cx) (f : FuncId) (args : List TV) (s : St) (K : TV → St → Prop) : Prop :=
  match assoc f E.sig with
  | some cs => match cs.all Rc.flat with
    | true => frzL (frz1 s.hp) args fun avs => match V.ntL (avs.map V.norm1) with
      | true => ∃ p : resT cs, PC P f (avs.map V.norm1) (resV cs p) ∧ K (.v (resV cs p)) s
      | false => False
    | false => False
  | none => False

def freshC (P : Program) (E : Cx) (f : FuncId) (args : List TV) (s : St) (K : TV → St → Prop) : Prop :=
  match assoc f E.sig, TV.allV args with
  | some [.cd (.slice c)], some avs => match V.ntL (avs.map V.norm1) with
    | true => ∃ l : List c.T, FC P f (avs.map V.norm1) c l ∧ K (.arr s.hp.length 0 0 l.length) ⟨s.tm, s.hp ++ [some (.arr 0 c l fun _ => .no)], s.T⟩
    | false => False
  | _, _ => False

def readC (P : Program) (E : Cx) (f : FuncId) (args : List TV) (s : St) (K : TV → St → Prop) : Prop :=
  match assoc f E.xsig, xnArgs args, hpX s.hp with
  | some cs, some as, some X => ∃ p : xresT cs, RC P f cs as X p ∧ K (xresV cs p) s
  | _, _, _ => False

def turnC (P : Program) (E : Cx) (f : FuncId) (args : List TV) (s : St) (K : TV → St → Prop) : Prop :=
  match assoc f E.xsig, xnArgs args, hpX s.hp with
  | some cs, some as, some X => XC P f cs as X fun p X' => K (xresV cs p) (setX s X')
  | _, _, _ => False

def MC (P : Program) (m : String) (e : Option (Nat × CV)) (r : V) : Prop :=
  ∀ (G : Gh) (w : World) (u : Value), FzOK G w → TR G.bare (.ifc e) u → ComesM P m #[u] w (PCPost G w r)

def methC (P : Program) (m : String) (c : Cd) (args : List TV) (s : St) (K : TV → St → Prop) : Prop :=
  match args with
  | [.ifc e] => ∃ p : c.T, MC P m e (c.enc p) ∧ K (.v (c.enc p)) s
  | _ => False

def callN (P : Program) (E : Cx) : Nat → CallP
  | _, .meth m c, _, args, s, K => methC P m c args s K
  | _, .dflt, f, args, s, K => pureC P E f args s K
  | _, .lend, f, args, s, K => lendC P E f args s K
  | _, .rd, f, args, s, K => readC P E f args s K
  | _, .xc, f, args, s, K => turnC P E f args s K
  | _, .mut, f, args, s, K => freshC P E f args s K
  | n + 1, .inl, f, args, s, K => match assoc f E.fns with
    | some fn => fnK E.tt (callN P E n) (E.md f) (E.mk1 f) fn args s K
    | none => False
  | _, _, _, _, _, _ => False

section
variable {P : Program} {tt : TT} {Mine : Mn} {G : Gh} {s : St} {a : Act} {w : World} {call : CallP}

theorem FzOK.inv (h : FzOK G w) : Inv (mnOf G w) G.bare [] ⟨0, []⟩ w :=
  ⟨h.cells, h.mps, fun i o hi => by simp at hi, fun i j o o' b _ hi => by simp at hi, fun t ht => by simp at ht, fun t ht => by simp at ht, fun t ht => by simp at ht,
    fun i g _ => rfl, fun i o g hi => by simp at hi, fun n _ => rfl, fun b hb => hb, fun b o v hc => .inr hc, fun r e hm => .inr hm⟩

theorem FzOK.invX (h : FzOK G w) : Inv (mnOf G w) G.bare [some (.heap XH.none)] ⟨0, []⟩ w := by
  have hget : ∀ i o, ([some (.heap XH.none)] : Hp)[i]? = some (some o) → i = 0 ∧ o = .heap XH.none := by
    intro i o h
    match i with
    | 0 => simp at h; exact ⟨rfl, h.symm⟩
    | i + 1 => simp at h
  refine ⟨h.cells, h.mps, fun i o hi => ?_, fun i j o o' b hij hi hj => ?_, fun t ht => by simp at ht, fun t ht => by simp at ht, fun t ht => by simp at ht,
    fun i g _ => rfl, fun i o g hi _ => rfl, fun n _ => rfl, fun b hb => hb, fun b o v hc => .inr hc, fun r e hm => .inr hm⟩
  · obtain ⟨rfl, rfl⟩ := hget i o hi
    exact ⟨rfl, fun h _ => ⟨rfl, rfl⟩, fun h o ho => by simp [XH.none] at ho, fun k k' b sz ct sz' ct' _ n1 => by simp [XH.none] at n1⟩
  · obtain ⟨rfl, _⟩ := hget i o hi
    obtain ⟨rfl, _⟩ := hget j o' hj
    exact absurd rfl hij

theorem resCell_sound (htt : TTOK P tt) {b t : Nat} {x : TV} (h : resCell tt b t s = some x) (hi : Inv Mine G s.hp s.T w) (hr : ∀ t, TR G (s.tm.getD t tu) (a.tmps.getD t Go.undef)) :
    ∃ v, ((do loadVar t (← asAddr (a.tmps.getD b Go.undef)) : Sem Value)).run P w = .ok v w ∧ TR G x v := by
  unfold resCell at h
  split at h
  case h_2 => cases h
  rename_i i g e f hok hp
  split at h
  case h_2 => cases h
  rename_i y ho
  have hp' := hr b
  rw [hp] at hp'
  have ho' : s.hp[i]? = some (some (.box y)) := by
    simp only [List.getD] at ho
    cases hh : s.hp[i]? with
    | none => rw [hh] at ho; cases ho
    | some q => rw [hh] at ho; simp only [Option.getD_some] at ho; rw [ho]
  obtain ⟨b', sz', ct', h1, h2, h3, cur, el, h4, h5, h6⟩ := hi.objs i _ ho'
  generalize hq : a.tmps.getD b Go.undef = q at hp'
  cases hp' with
  | ptr _ _ _ _ b2 sz ct hloc =>
    rw [hloc] at h1; cases h1
    obtain ⟨v, k1, k2⟩ := sub_TV (w := w) (G := G) (b := b') (o := 0) htt hok (fun j => cur.getD j Go.undef) h (fun j z hz => by
      have hj : j < cur.size := by rw [← h5]; exact (List.getElem?_eq_some_iff.1 hz).1
      have hu : cur[j]? = some (cur.getD j Go.undef) := by simp [Array.getD, hj]
      obtain ⟨q1, q2⟩ := h6 j z _ hz hu
      exact ⟨by rw [cell_of_block h4, Nat.zero_add]; exact hu, q2, q1⟩)
    refine ⟨v, ?_, k2⟩
    rw [Nat.zero_mul]
    simpa only [Instr.loadAt, Instr.sureAddr, asAddr, Sem.run_bind, Sem.run_pure, Result.andThen_ok] using k1

theorem resTV_sound (htt : TTOK P tt) (hi : Inv Mine G s.hp s.T w) : ∀ (rs : List ResultVar) (l : List TV), resTV tt rs s = some l → (∀ t, TR G (s.tm.getD t tu) (a.tmps.getD t Go.undef)) →
    ∃ vs : List Value, (rs.mapM fun
      | .tmp t => pure (a.tmps.getD t Go.undef)
      | .cell b t => do loadVar t (← asAddr (a.tmps.getD b Go.undef)) : Sem (List Value)).run P w = .ok vs w ∧ l.length = vs.length ∧
      ∀ (i : Nat) x y, l[i]? = some x → vs[i]? = some y → TR G x y
  | [], l, h, _ => by
    cases h
    exact ⟨[], by simp [Sem.run_pure], rfl, fun i x y hx => by simp at hx⟩
  | .tmp t :: r, l, h, hr => by
    unfold resTV at h
    split at h
    · rename_i l' hl'
      cases h
      obtain ⟨vs, h1, h2, h3⟩ := resTV_sound htt hi r l' hl' hr
      refine ⟨a.tmps.getD t Go.undef :: vs, ?_, by simp [h2], fun i x y hx hy => ?_⟩
      · rw [List.mapM_cons, Sem.run_bind, Sem.run_pure, Result.andThen_ok, Sem.run_bind, h1, Result.andThen_ok, Sem.run_pure]
      · cases i with
        | zero =>
          have e1 : s.tm.getD t tu = x := by simpa using hx
          have e2 : a.tmps.getD t Go.undef = y := by simpa using hy
          rw [← e1, ← e2]; exact hr t
        | succ i => exact h3 i x y (by simpa using hx) (by simpa using hy)
    · cases h
  | .cell b t :: r, l, h, hr => by
    unfold resTV at h
    split at h
    · rename_i x' l' hx' hl'
      cases h
      obtain ⟨v, k1, k2⟩ := resCell_sound htt hx' hi hr
      obtain ⟨vs, h1, h2, h3⟩ := resTV_sound htt hi r l' hl' hr
      refine ⟨v :: vs, ?_, by simp [h2], fun i x y hx hy => ?_⟩
      · rw [List.mapM_cons, Sem.run_bind]
        refine (congrArg (fun r => Result.andThen r _) k1).trans ?_
        rw [Result.andThen_ok, Sem.run_bind, h1, Result.andThen_ok, Sem.run_pure]
      · cases i with
        | zero =>
          have e1 : x' = x := by simpa using hx
          have e2 : v = y := by simpa using hy
          rw [← e1, ← e2]; exact k2
        | succ i => exact h3 i x y (by simpa using hx) (by simpa using hy)
    · cases h

theorem results_sound (htt : TTOK P tt) (hi : Inv Mine G s.hp s.T w) {fn : Func} {l : List TV} (h : resTV tt fn.results.toList s = some l) (hr : ∀ t, TR G (s.tm.getD t tu) (a.tmps.getD t Go.undef)) :
    ∃ v, (results fn a.tmps).run P w = .ok v w ∧ TR G (res1 l) v := by
  obtain ⟨vs, h1, h2, h3⟩ := resTV_sound (P := P) (w := w) htt hi fn.results.toList l h hr
  have hm : (fn.results.mapM fun
      | .tmp t => pure (a.tmps.getD t Go.undef)
      | .cell b t => do loadVar t (← asAddr (a.tmps.getD b Go.undef)) : Sem (Array Value)).run P w = .ok vs.toArray w := by
    rw [Array.mapM_eq_mapM_toList, Sem.run_map, h1]; rfl
  unfold results
  rw [Sem.run_bind]
  refine ⟨_, (congrArg (fun r => Result.andThen r _) hm).trans (by rw [Result.andThen_ok, Sem.run_pure]), ?_⟩
  match l, vs, h2, h3 with
  | [x], [v], _, h3 => exact h3 0 x v rfl rfl
  | [], [], _, h3 => exact .tup _ [] rfl h3
  | x :: y :: l, v :: u :: vs, h2, h3 =>
    have hne : ¬ (v :: u :: vs).toArray.size = 1 := by simp
    rw [dif_neg hne]
    exact .tup _ _ h2 h3
  | [], _ :: _, h2, _ => simp at h2
  | _ :: _, [], h2, _ => simp at h2
  | [_], _ :: _ :: _, h2, _ => simp at h2
  | _ :: _ :: _, [_], h2, _ => simp at h2

def Mn.with (M : Mn) (l : List Deferred) : Mn := ⟨M.p, M.cell, M.mp, l⟩

theorem XR.with {M : Mn} {l : List Deferred} {G : Gh} {w : World} {h : Nat} : ∀ {o : XO}, XR M G w h o ↔ XR (M.with l) G w h o
  | .arr _ _ => Iff.rfl
  | .map _ _ _ => Iff.rfl

theorem OR.with {M : Mn} {l : List Deferred} {G : Gh} {w : World} {i : Nat} : ∀ {o : O}, OR M G w i o ↔ OR (M.with l) G w i o
  | .heap X => ⟨fun ⟨h1, h2, h3, h4⟩ => ⟨h1, h2, fun h o ho => XR.with.1 (h3 h o ho), h4⟩, fun ⟨h1, h2, h3, h4⟩ => ⟨h1, h2, fun h o ho => XR.with.2 (h3 h o ho), h4⟩⟩
  | .box _ => Iff.rfl
  | .arr _ _ _ _ => Iff.rfl
  | .map _ _ _ => Iff.rfl
  | .siter _ _ => Iff.rfl

theorem Inv.with {M : Mn} {l : List Deferred} {G : Gh} {hp : Hp} {T : Toks} {w : World} (h : Inv M G hp T w) : Inv (M.with l) G hp T w :=
  ⟨h.cells, h.mps, fun i o ho => OR.with.1 (h.objs i o ho), h.inj, h.toks, h.tobj, h.tinj, h.lb, h.gens, h.tfin, h.mine, h.old⟩

theorem Inv.without {M : Mn} {l : List Deferred} {G : Gh} {hp : Hp} {T : Toks} {w : World} (h : Inv (M.with l) G hp T w) : Inv M G hp T w :=
  ⟨h.cells, h.mps, fun i o ho => OR.with.2 (h.objs i o ho), h.inj, h.toks, h.tobj, h.tinj, h.lb, h.gens, h.tfin, h.mine, h.old⟩

theorem fnK_sound (htt : TTOK P tt) (hcs : CallS P call) (hcd : CallDet call) (hmix : P.follows .mixedOrders = true) {f : FuncId} {fn : Func} (hf : P.funcs[f]? = some fn)
    {md : Mds} {msk : Nat → List Bool × Nat} {args : List TV} {K : TV → St → Prop} (h : fnK tt call md msk fn args s K) {vs : Array Value} (hi : Inv Mine G s.hp s.T w)
    (hl : args.length = vs.size) (hr : ∀ (i : Nat) x y, args[i]? = some x → vs[i]? = some y → TR G x y) : Calls P f vs w (CallPost Mine G s w K) := by
  unfold fnK at h
  split at h
  case h_2 => exact h.elim
  rename_i c hb
  have hrel0 : Rel (Mine.with []) G ⟨args ++ List.replicate (fn.ntmps - args.length) tu, s.hp, s.T⟩ { tmps := vs ++ Array.replicate (fn.ntmps - vs.size) Go.undef, defers := [] } w := by
    refine ⟨by simp [hl], fun t x hx => ?_, rfl, hi.with⟩
    rcases Nat.lt_or_ge t args.length with ht | ht
    · rw [List.getElem?_append_left ht] at hx
      have hv : vs[t]? = some vs[t] := Array.getElem?_eq_getElem (by omega)
      have : (vs ++ Array.replicate (fn.ntmps - vs.size) Go.undef).getD t Go.undef = vs[t] := by
        rw [Array.getD_eq_getD_getElem?, Array.getElem?_append_left (by omega), hv]; rfl
      rw [this]
      exact hr t x _ hx hv
    · rw [List.getElem?_append_right ht, List.getElem?_replicate] at hx
      split at hx
      · cases hx; exact TR.undef _
      · cases hx
  refine calls_of_wp hf hb (Code.wp_mono ?_ (awp_sound htt hcs hcd hmix c 0 _ _ G _ w h hrel0 (Nat.le_refl _)))
  · rintro e a' w' ⟨s', G', hq, hrel, hfz, hlc, hh, hst⟩
    have fin : ∀ l, resTV tt fn.results.toList s' = some l → K (res1 l) ⟨s.tm, s'.hp, s'.T⟩ → a'.defers = [] ∧ ∃ v, (results fn a'.tmps).run P w' = .ok v w' ∧ CallPost Mine G s w K (.returned v) w' := by
      intro l hl hk
      obtain ⟨v, h1, h2⟩ := results_sound (P := P) (w := w') (G := G') (a := a') htt hrel.inv hl (fun t => by
        simp only [List.getD]
        cases ht : s'.tm[t]? with
        | none => exact TR.undef _
        | some y => exact hrel.tm t y ht)
      exact ⟨hrel.defers, v, h1, v, _, _, G', rfl, hk, h2, rfl, hrel.inv.without, hfz, hlc, hh, ⟨hst.os, hst.tape, hst.output, hst.size, hst.block⟩⟩
    cases e <;> first
      | (simp only [retK] at hq
         split at hq
         · rename_i l hl
           exact fin l hl hq
         · exact hq.elim)
      | exact hq.elim

theorem PCPost.caller' {Mine : Mn} {G : Gh} {hp : Hp} {T : Toks} {G' : Gh} {w w' : World} (hi : Inv Mine G hp T w) (hok : FzOK G' w') (hf : Fz G.bare G'.bare)
    (hnew : (∀ b o v, G'.cell b o = some v → w.heap.size ≤ b ∨ G.cell b o = some v) ∧ ∀ r e, G'.mp r = some e → w.heap.size ≤ r ∨ G.mp r = some e) {M : Mn} (hM : ∀ b, M b ↔ w.heap.size ≤ b)
    (hs : Stp M w w') : ∃ G2, Inv Mine G2 hp T w' ∧ Fz G G2 ∧ Lc hp.length G G2 ∧ Stp Mine w w' ∧ (∀ r v, VR G'.bare r v → VR G2 r v) ∧ (G2.cell = G'.cell ∧ G2.mp = G'.mp) ∧ (G2.loc = G.loc ∧ G2.tok = G.tok) := by
  have hblk : ∀ b, b < w.heap.size → w'.heap[b]? = w.heap[b]? := fun b hb => hs.block b fun hm => by have := (hM b).1 hm; omega
  have hpriv : ∀ b, b < w.heap.size → G.priv b → Gh.priv { G with cell := G'.cell, mp := G'.mp, tab := G'.tab } b := by
    intro b hb hp
    refine ⟨fun o => ?_, ?_⟩
    · cases hc : G'.cell b o with
      | none => rfl
      | some v =>
        rcases hnew.1 b o v hc with h | h
        · omega
        · rw [hp.1 o] at h; cases h
    · cases hc : G'.mp b with
      | none => rfl
      | some e =>
        rcases hnew.2 b e hc with h | h
        · omega
        · rw [hp.2] at h; cases h
  have hfz : Fz G { G with cell := G'.cell, mp := G'.mp, tab := G'.tab } := ⟨fun b o v h => hf.cell b o v h, fun r e h => hf.mp r e h, fun _ _ h => h, fun _ _ _ _ _ h => h⟩
  have hfz2 : Fz G'.bare { G with cell := G'.cell, mp := G'.mp, tab := G'.tab } := ⟨fun _ _ _ h => h, fun _ _ h => h, fun n x h => (nomatch h), fun t t' x _ h => (nomatch h)⟩
  refine ⟨{ G with cell := G'.cell, mp := G'.mp, tab := G'.tab }, ⟨hok.cells, hok.mps, fun i o ho => ?_, hi.inj, fun t ht => ?_, hi.tobj, hi.tinj, hi.lb, hi.gens, hi.tfin, fun b hb => hi.mine b (Nat.le_trans hs.size hb), ?_, ?_⟩,
    hfz, fun i _ g x h => h, ⟨hs.os, hs.tape, hs.output, hs.size, fun k hk => hblk k ?_⟩, fun r v h => h.mono hfz2, ⟨rfl, rfl⟩, ⟨rfl, rfl⟩⟩
  · exact (hi.objs i o ho).keep hi.lb hfz (fun i _ g x h => h) fun b hb =>
      have hlt := ((hi.objs i o ho).blk hb).2.2
      ⟨hblk b hlt, hpriv b hlt⟩
  · obtain ⟨bo, e, c, h1, h2⟩ := hi.toks t ht
    refine ⟨bo, e, c, h1, fun b hb => ?_⟩
    obtain ⟨k1, ⟨cur, el, k2, k3⟩, k4, k5⟩ := h2 b hb
    have hlt := heap_lt k2
    refine ⟨k1, ⟨cur, el, by rw [hblk b hlt]; exact k2, k3⟩, fun o ho => ?_, ?_⟩
    · cases hc : G'.cell b o with
      | none => rfl
      | some v =>
        rcases hnew.1 b o v hc with h | h
        · omega
        · rw [k4 o ho] at h; cases h
    · cases hc : G'.mp b with
      | none => rfl
      | some e =>
        rcases hnew.2 b e hc with h | h
        · omega
        · rw [k5] at h; cases h
  · intro b o v hc
    rcases hnew.1 b o v hc with h | h
    · exact .inl (hi.mine b h)
    · exact hi.old.1 b o v h
  · intro r e hc
    rcases hnew.2 r e hc with h | h
    · exact .inl (hi.mine r h)
    · exact hi.old.2 r e h
  · rcases Nat.lt_or_ge k w.heap.size with h | h
    · exact h
    · exact absurd (hi.mine k h) hk

theorem PCPost.caller {Mine : Mn} {G : Gh} {hp : Hp} {T : Toks} {G' : Gh} {w w' : World} (hi : Inv Mine G hp T w) (hok : FzOK G' w') (hf : Fz G.bare G'.bare)
    (hnew : (∀ b o v, G'.cell b o = some v → w.heap.size ≤ b ∨ G.cell b o = some v) ∧ ∀ r e, G'.mp r = some e → w.heap.size ≤ r ∨ G.mp r = some e) {M : Mn} (hM : ∀ b, M b ↔ w.heap.size ≤ b)
    (hs : Stp M w w') : ∃ G2, Inv Mine G2 hp T w' ∧ Fz G G2 ∧ Lc hp.length G G2 ∧ Stp Mine w w' ∧ ∀ r v, VR G'.bare r v → VR G2 r v := by
  obtain ⟨G2, h1, h2, h3, h4, h5, _⟩ := PCPost.caller' hi hok hf hnew hM hs
  exact ⟨G2, h1, h2, h3, h4, h5⟩

theorem allV_get : ∀ {l : List TV} {vs : List V}, TV.allV l = some vs → l = vs.map .v
  | [], vs, h => by cases h; rfl
  | .v x :: l, vs, h => by
    unfold TV.allV at h
    split at h
    · rename_i l' hl
      cases h
      rw [allV_get hl]; rfl
    · cases h
  | .ptr _ _ _ _ :: _, _, h => by cases h
  | .arr _ _ _ _ :: _, _, h => by cases h
  | .ifc _ :: _, _, h => by cases h
  | .mapr _ :: _, _, h => by cases h
  | .clo _ _ :: _, _, h => by cases h
  | .iter _ :: _, _, h => by cases h
  | .agg _ :: _, _, h => by cases h
  | .tup _ :: _, _, h => by cases h
  | .ref _ _ _ _ :: _, _, h => by cases h
  | .sl _ _ :: _, _, h => by cases h
  | .mp _ _ _ :: _, _, h => by cases h

theorem norm_args {G : Gh} {avs : List V} {vs : Array Value} (hn : V.ntL (avs.map V.norm1) = true) (hr : ∀ (i : Nat) x y, avs[i]? = some x → vs[i]? = some y → VR G x y) :
    ∀ (i : Nat) x y, (avs.map V.norm1)[i]? = some x → vs[i]? = some y → VR G.bare x y := by
  intro i x y hx hy
  have hnt := ntL_mem hn x (List.mem_of_getElem? hx)
  rw [List.getElem?_map] at hx
  cases ha : avs[i]? with
  | none => rw [ha] at hx; cases hx
  | some q => rw [ha] at hx; cases hx; exact (hr i q y ha hy).norm1.bare hnt

theorem pureC_sound {E : Cx} {f : FuncId} {args : List TV} {K : TV → St → Prop} (h : pureC P E f args s K) {vs : Array Value} (hi : Inv Mine G s.hp s.T w)
    (hl : args.length = vs.size) (hr : ∀ (i : Nat) x y, args[i]? = some x → vs[i]? = some y → TR G x y) : Entered P f ∧ Calls P f vs w (CallPost Mine G s w K) := by
  unfold pureC at h
  split at h
  case h_2 => exact h.elim
  rename_i cs avs hsig hav
  split at h
  case h_2 => exact h.elim
  rename_i hnt
  obtain ⟨p, hpc, hk⟩ := h
  have hargs := allV_get hav
  subst hargs
  obtain ⟨h1, h2⟩ := hpc G w vs ⟨hi.cells, hi.mps⟩ (by simpa using hl) (norm_args hnt fun i x y hx hy => by
    have := hr i (.v x) y (by rw [List.getElem?_map, hx]; rfl) hy
    cases this with
    | v _ _ h => exact h)
  refine ⟨h1, h2.mono ?_⟩
  rintro e w' ⟨v, G', rfl, hv, hok, hf, hnew, hs⟩
  obtain ⟨G2, q1, q2, q3, q4, q5⟩ := PCPost.caller hi hok hf hnew (fun b => Iff.rfl) hs
  exact ⟨v, _, s, G2, rfl, hk, .v _ _ (q5 _ _ hv), rfl, q1, q2, q3, Nat.le_refl _, q4⟩

theorem methC_sound {m : String} {c : Cd} {args : List TV} {K : TV → St → Prop} (h : methC P m c args s K) {vs : Array Value} (hi : Inv Mine G s.hp s.T w)
    (hl : args.length = vs.size) (hr : ∀ (i : Nat) x y, args[i]? = some x → vs[i]? = some y → TR G x y) : ComesM P m vs w (CallPost Mine G s w K) := by
  unfold methC at h
  split at h
  case h_2 => exact h.elim
  rename_i e
  obtain ⟨p, hmc, hk⟩ := h
  obtain ⟨u, rfl⟩ : ∃ u, vs = #[u] := by
    have : vs.size = 1 := hl.symm
    exact ⟨vs[0], by
      apply Array.ext
      · simpa using this
      · intro i h1 h2
        have : i = 0 := by simp at h2; omega
        subst this; rfl⟩
  have hu := hr 0 (.ifc e) u rfl rfl
  have hb : TR G.bare (.ifc e) u := by
    cases hu with
    | ifc0 => exact .ifc0
    | ifc t x y h => exact .ifc t x y (h.bare (Cd.enc_nt _ _))
  obtain ⟨f, as, h1, h2⟩ := hmc G w u ⟨hi.cells, hi.mps⟩ hb
  refine ⟨f, as, h1, h2.mono ?_⟩
  rintro e w' ⟨v, G', rfl, hv, hok, hf, hnew, hs⟩
  obtain ⟨G2, q1, q2, q3, q4, q5⟩ := PCPost.caller hi hok hf hnew (fun b => Iff.rfl) hs
  exact ⟨v, _, s, G2, rfl, hk, .v _ _ (q5 _ _ hv), rfl, q1, q2, q3, Nat.le_refl _, q4⟩

theorem Inv.adopt {hp : Hp} {T : Toks} (h : Inv Mine G hp T w) (o : O) (x : Option Nat × Nat × Nat) (hno : ∀ g, o.has g ↔ g = o.gen)
    (hb1 : ∀ b, x.1 = some b → ∀ i o', hp[i]? = some (some o') → ¬ Owns G i o' b) (hb2 : ∀ b, x.1 = some b → ∀ t ∈ T.l, ∀ e c, G.tok t ≠ some (some b, e, c))
    (ho : OR Mine (G.setLoc hp.length o.gen x) w hp.length o) :
    Inv Mine (G.setLoc hp.length o.gen x) (hp ++ [some o]) T w ∧ Fz G (G.setLoc hp.length o.gen x) ∧ Lc hp.length G (G.setLoc hp.length o.gen x) := by
  have hf : Fz G (G.setLoc hp.length o.gen x) := ⟨fun _ _ _ x => x, fun _ _ x => x, fun _ _ x => x, fun _ _ _ _ _ x => x⟩
  have hl : Lc hp.length G (G.setLoc hp.length o.gen x) := by
    intro i hi g x hx
    simp only [Gh.setLoc]
    rw [if_neg (by omega)]; exact hx
  have hlo : ∀ i g, i < hp.length → (G.setLoc hp.length o.gen x).loc i g = G.loc i g := by
    intro i g hi; simp only [Gh.setLoc]; rw [if_neg (by omega)]
  have hlo' : ∀ i o' b, i < hp.length → Owns (G.setLoc hp.length o.gen x) i o' b → Owns G i o' b := by
    rintro i o' b hi ⟨g, s, c, h1, h2⟩
    exact ⟨g, s, c, h1, by rw [hlo _ _ hi] at h2; exact h2⟩
  have hown : ∀ b, Owns (G.setLoc hp.length o.gen x) hp.length o b → x.1 = some b := by
    rintro b ⟨g, s, c, h1, h2⟩
    rw [(hno g).1 h1] at h2
    simp only [Gh.setLoc, and_self, if_true] at h2
    cases h2; rfl
  have hnew : ∀ i o', (hp ++ [some o])[i]? = some (some o') → (i < hp.length ∧ hp[i]? = some (some o')) ∨ (i = hp.length ∧ o' = o) := by
    intro i o' hi
    rw [List.getElem?_append] at hi
    split at hi
    · exact .inl ⟨by assumption, hi⟩
    · have : i = hp.length := by
        rcases Nat.lt_or_ge (i - hp.length) 1 with h' | h'
        · omega
        · rw [List.getElem?_eq_none (by simpa using h')] at hi; cases hi
      subst this
      simp at hi
      exact .inr ⟨rfl, hi.symm⟩
  refine ⟨⟨h.cells, h.mps, ?_, ?_, h.toks, ?_, h.tinj, ?_, ?_, h.tfin, h.mine, h.old⟩, hf, hl⟩
  · intro i o' hi
    rcases hnew i o' hi with ⟨h1, h2⟩ | ⟨rfl, rfl⟩
    · exact (h.objs i o' h2).keep h.lb hf.f0 hl (fun b hb => ⟨rfl, id⟩) (fun _ _ g _ => hlo i g h1)
    · exact ho
  · intro i j oi oj b hij hi hj li lj
    rcases hnew i oi hi with ⟨h1, h2⟩ | ⟨rfl, rfl⟩
    · have li' := hlo' _ _ _ h1 li
      rcases hnew j oj hj with ⟨k1, k2⟩ | ⟨rfl, rfl⟩
      · exact h.inj i j oi oj b hij h2 k2 li' (hlo' _ _ _ k1 lj)
      · exact hb1 b (hown _ lj) i oi h2 li'
    · rcases hnew j oj hj with ⟨k1, k2⟩ | ⟨rfl, rfl⟩
      · exact hb1 b (hown _ li) j oj k2 (hlo' _ _ _ k1 lj)
      · exact hij rfl
  · intro t ht i o' b e c h1 hi hl'
    rcases hnew i o' hi with ⟨k1, k2⟩ | ⟨rfl, rfl⟩
    · exact h.tobj t ht i o' b e c h1 k2 (hlo' _ _ _ k1 hl')
    · exact hb2 b (hown _ hl') t ht e c h1
  · intro i g hi
    simp only [List.length_append, List.length_cons, List.length_nil] at hi
    simp only [Gh.setLoc]
    rw [if_neg (by omega)]; exact h.lb i g (by omega)
  · intro i o' g hi hg
    rcases hnew i o' hi with ⟨k1, k2⟩ | ⟨rfl, rfl⟩
    · rw [hlo _ _ k1]; exact h.gens i o' g k2 hg
    · simp only [Gh.setLoc]
      rw [if_neg (by omega)]; exact h.lb _ g (Nat.le_refl _)

theorem freshC_sound {E : Cx} {f : FuncId} {args : List TV} {K : TV → St → Prop} (h : freshC P E f args s K) {vs : Array Value} (hi : Inv Mine G s.hp s.T w)
    (hl : args.length = vs.size) (hr : ∀ (i : Nat) x y, args[i]? = some x → vs[i]? = some y → TR G x y) : Entered P f ∧ Calls P f vs w (CallPost Mine G s w K) := by
  unfold freshC at h
  split at h
  case h_2 => exact h.elim
  rename_i c avs hsig hav
  split at h
  case h_2 => exact h.elim
  rename_i hnt
  obtain ⟨l, hfc, hk⟩ := h
  have hargs := allV_get hav
  subst hargs
  obtain ⟨h1, h2⟩ := hfc G w vs ⟨hi.cells, hi.mps⟩ (by simpa using hl) (norm_args hnt fun i x y hx hy => by
    have := hr i (.v x) y (by rw [List.getElem?_map, hx]; rfl) hy
    cases this with
    | v _ _ h => exact h)
  refine ⟨h1, h2.mono ?_⟩
  rintro e w' ⟨v, G', rfl, hok, hf, hnew, hs, hres⟩
  obtain ⟨G2, q1, q2, q3, q4, q5, q6, q7⟩ := PCPost.caller' hi hok hf hnew (fun b => Iff.rfl) hs
  have old : ∀ b, w.heap.size ≤ b → (∀ i o', s.hp[i]? = some (some o') → ¬ Owns G2 i o' b) ∧ ∀ t ∈ s.T.l, ∀ e c, G2.tok t ≠ some (some b, e, c) := by
    intro b hb
    refine ⟨fun i o' hi' hown => ?_, fun t ht e c htk => ?_⟩
    · have : Owns G i o' b := by
        obtain ⟨g, sz, ct, k1, k2⟩ := hown
        exact ⟨g, sz, ct, k1, by rw [← q7.1]; exact k2⟩
      have := ((hi.objs i o' hi').blk this).2.2
      omega
    · rw [q7.2] at htk
      obtain ⟨bo, e', c', k1, k2⟩ := hi.toks t ht
      rw [htk] at k1; cases k1
      obtain ⟨_, ⟨cur, el, k3, _⟩, _⟩ := k2 b rfl
      have := heap_lt k3
      omega
  rcases hres with ⟨rfl, rfl⟩ | ⟨b, ct, cur, el, rfl, k1, k2, k3, k4, k5, k6⟩
  · obtain ⟨g1, g2, g3⟩ := q1.adopt (.arr 0 c [] fun _ => .no) (none, c.sz, 0) (fun _ => Iff.rfl) (fun b hb => by cases hb) (fun b hb => by cases hb) ⟨none, 0, by simp [Gh.setLoc, O.gen], by simp, rfl⟩
    exact ⟨_, _, _, _, rfl, hk, .arrNil _ 0 c.sz 0 (by simp [Gh.setLoc, O.gen]), rfl, g1, q2.trans g2, q3.trans g3, by simp, q4⟩
  · have hpr : G2.priv b := ⟨fun o => by rw [q6.1]; exact k3.1 o, by rw [q6.2]; exact k3.2⟩
    obtain ⟨g1, g2, g3⟩ := q1.adopt (.arr 0 c l fun _ => .no) (some b, c.sz, ct) (fun _ => Iff.rfl) (fun b' hb => by cases hb; exact (old b k2).1) (fun b' hb => by cases hb; exact (old b k2).2)
      ⟨some b, ct, by simp [Gh.setLoc, O.gen], k1, hi.mine b k2, ⟨hpr.1, hpr.2⟩, cur, el, k4, k5, fun e x hx j y hy => by
        have hy' : (c.cells x)[j]? = some y := by
          have : (c.encT x .no).cells = c.cells x := by cases c <;> rfl
          rw [← this]; exact hy
        obtain ⟨u, r1, r2, r3⟩ := k6 e x hx j y hy'
        exact ⟨u, r1, (q5 _ _ r2).mono (Fz.f0 (⟨fun _ _ _ y => y, fun _ _ y => y, fun _ _ y => y, fun _ _ _ _ _ y => y⟩ : Fz G2 (G2.setLoc s.hp.length 0 (some b, c.sz, ct)))), r3⟩⟩
    exact ⟨_, _, _, _, rfl, hk, .arr _ 0 0 l.length b c.sz ct ct 0 (by simp [Gh.setLoc, O.gen]) k1 (by omega) (fun _ => by simp), rfl, g1, q2.trans g2, q3.trans g3, by simp, q4⟩

theorem PC.of (htt : TTOK P tt) (hcs : CallS P call) (hcd : CallDet call) (hmix : P.follows .mixedOrders = true) {f : FuncId} {fn : Func} (hf : P.funcs[f]? = some fn)
    (hname : fn.name ≠ "runtime.NumGoroutine") {md : Mds} {msk : Nat → List Bool × Nat} {args : List V} {r : V}
    (h : fnK tt call md msk fn (args.map .v) ⟨[], [], ⟨0, []⟩⟩ fun x s' => frz s'.hp x fun v => v.norm = r ∧ r.nt = true) : PC P f args r := by
  intro G w vs hok hl hr
  have hb : fn.body.isSome = true := by
    unfold fnK at h
    split at h
    · rename_i hb; rw [hb]; rfl
    · exact h.elim
  refine ⟨⟨fn, hf, hname, hb⟩, ?_⟩
  have := fnK_sound (s := ⟨[], [], ⟨0, []⟩⟩) htt hcs hcd hmix hf h hok.inv (by simpa using hl) (fun i x y hx hy => by
    rw [List.getElem?_map] at hx
    cases ha : args[i]? with
    | none => rw [ha] at hx; cases hx
    | some q => rw [ha] at hx; cases hx; exact .v _ _ (hr i q y ha hy))
  refine this.mono ?_
  rintro e w' ⟨v, x, s', G', rfl, hk, hx, -, hi', hf', -, -, hs⟩
  obtain ⟨r', ⟨rfl, hnt⟩, hv⟩ := frz_sound hk hi' hx
  have hold := fzAll_old hi'
  exact ⟨v, G'.fzAll (mnOf G w) w', rfl, (hv.norm).bare hnt, fzAll_ok hi', ⟨fun b o v h => fzAll_fz.cell b o v (hf'.cell b o v h), fun r e h => fzAll_fz.mp r e (hf'.mp r e h), fun _ _ h => (by cases h), fun _ _ _ _ h => by cases h⟩,
    ⟨fun b o v h => hold.1 b o v h, fun r e h => hold.2 r e h⟩, hs⟩

theorem PC.ofX (htt : TTOK P tt) (hcs : CallS P call) (hcd : CallDet call) (hmix : P.follows .mixedOrders = true) {f : FuncId} {fn : Func} (hf : P.funcs[f]? = some fn)
    (hname : fn.name ≠ "runtime.NumGoroutine") {md : Mds} {msk : Nat → List Bool × Nat} {args : List V} {r : V}
    (h : fnK tt call md msk fn (args.map .v) ⟨[], [some (.heap XH.none)], ⟨0, []⟩⟩ fun x s' => frz s'.hp x fun v => v.norm = r ∧ r.nt = true) : PC P f args r := by
  intro G w vs hok hl hr
  have hb : fn.body.isSome = true := by
    unfold fnK at h
    split at h
    · rename_i hb; rw [hb]; rfl
    · exact h.elim
  refine ⟨⟨fn, hf, hname, hb⟩, ?_⟩
  have := fnK_sound (s := ⟨[], [some (.heap XH.none)], ⟨0, []⟩⟩) htt hcs hcd hmix hf h hok.invX (by simpa using hl) (fun i x y hx hy => by
    rw [List.getElem?_map] at hx
    cases ha : args[i]? with
    | none => rw [ha] at hx; cases hx
    | some q => rw [ha] at hx; cases hx; exact .v _ _ (hr i q y ha hy))
  refine this.mono ?_
  rintro e w' ⟨v, x, s', G', rfl, hk, hx, -, hi', hf', -, -, hs⟩
  obtain ⟨r', ⟨rfl, hnt⟩, hv⟩ := frz_sound hk hi' hx
  have hold := fzAll_old hi'
  exact ⟨v, G'.fzAll (mnOf G w) w', rfl, (hv.norm).bare hnt, fzAll_ok hi', ⟨fun b o v h => fzAll_fz.cell b o v (hf'.cell b o v h), fun r e h => fzAll_fz.mp r e (hf'.mp r e h), fun _ _ h => (by cases h), fun _ _ _ _ h => by cases h⟩,
    ⟨fun b o v h => hold.1 b o v h, fun r e h => hold.2 r e h⟩, hs⟩

theorem Cd.flat_bare {G G' : Gh} : ∀ (c : Cd), c.flat = true → ∀ (x : c.T) (q : V), q ∈ c.cells x → ∀ y, VR G q y → VR G' q y
  | .unit, _, x, q, hq, y, h => by simp [Cd.cells] at hq
  | .int k, _, x, q, hq, y, h => by simp [Cd.cells] at hq; subst hq; cases h; exact .int k x
  | .bool, _, x, q, hq, y, h => by simp [Cd.cells] at hq; subst hq; cases h; exact .bool x
  | .str, _, x, q, hq, y, h => by simp [Cd.cells] at hq; subst hq; cases h; exact .str x
  | .slice _, hf, x, q, hq, y, h => by simp [Cd.flat] at hf
  | .pair a b, hf, x, q, hq, y, h => by
    simp only [Cd.flat, Bool.and_eq_true] at hf
    simp only [Cd.cells, List.mem_append] at hq
    rcases hq with hq | hq
    · exact Cd.flat_bare a hf.1 x.1 q hq y h
    · exact Cd.flat_bare b hf.2 x.2 q hq y h

theorem flat_enc {G G' : Gh} {c : Cd} (hf : c.flat = true) {x : c.T} {y : Value} (h : VR G (c.enc x) y) : VR G' (c.enc x) y := by
  cases c with
  | unit =>
    cases h with
    | agg _ vs hl ho hh => exact .agg _ vs hl ho fun i q u hq hu => by simp at hq
  | int k => cases h; exact .int k x
  | bool => cases h; exact .bool x
  | str => cases h; exact .str x
  | slice c => simp [Cd.flat] at hf
  | pair a b =>
    cases h with
    | agg _ vs hl ho hh => exact .agg _ vs hl ho fun i q u hq hu => Cd.flat_bare (.pair a b) hf x q (List.mem_of_getElem? hq) u (hh i q u hq hu)

theorem flat_V {G G' : Gh} {c : Rc} (hf : c.flat = true) {x : c.T} {y : Value} (h : VR G (c.V x) y) : VR G' (c.V x) y := by
  cases c with
  | cd c => exact flat_enc (c := c) hf h
  | mp kc vc => cases hf

theorem flat_resVs {G G' : Gh} : ∀ (cs : List Rc), cs.all Rc.flat = true → ∀ (p : resT cs) q, q ∈ resVs cs p → ∀ y, VR G q y → VR G' q y
  | [], _, p, q, hq, y, h => by simp [resVs] at hq
  | [c], hf, p, q, hq, y, h => by
    simp [resVs] at hq
    subst hq
    exact flat_V (by simpa using hf) h
  | c :: d :: r, hf, p, q, hq, y, h => by
    simp only [List.all_cons, Bool.and_eq_true] at hf
    rcases List.mem_cons.1 hq with rfl | hq
    · exact flat_V hf.1 h
    · exact flat_resVs (d :: r) (by simp [hf.2]) p.2 q hq y h

theorem flat_resV {G G' : Gh} {cs : List Rc} (hf : cs.all Rc.flat = true) {p : resT cs} {y : Value} (h : VR G (resV cs p) y) : VR G' (resV cs p) y := by
  match cs, p, hf, h with
  | [], p, _, h =>
    cases h with
    | tup _ vs hl hh => exact .tup _ vs hl fun i q u hq hu => by simp at hq
  | [c], p, hf, h => exact flat_V (c := c) (by simpa using hf) h
  | c :: d :: r, p, hf, h =>
    cases h with
    | tup _ vs hl hh => exact .tup _ vs hl fun i q u hq hu => flat_resVs (c :: d :: r) hf p q (List.mem_of_getElem? hq) u (hh i q u hq hu)

theorem lendC_sound {E : Cx} {f : FuncId} {args : List TV} {K : TV → St → Prop} (h : lendC P E f args s K) {vs : Array Value} (hi : Inv Mine G s.hp s.T w)
    (hl : args.length = vs.size) (hr : ∀ (i : Nat) x y, args[i]? = some x → vs[i]? = some y → TR G x y) : Entered P f ∧ Calls P f vs w (CallPost Mine G s w K) := by
  unfold lendC at h
  split at h
  case h_2 => exact h.elim
  rename_i cs hsig
  split at h
  case h_2 => exact h.elim
  rename_i hflat
  obtain ⟨rs, h, hrl, hrs⟩ := frzL_sound (G := G) (G' := G.fzAll Mine w) (fun x y K h hx => frz1_sound h hi hx) args vs.toList _ h (by simpa using hl) (fun i x y hx hy => hr i x y hx (by rw [← Array.getElem?_toList]; exact hy))
  split at h
  case h_2 => exact h.elim
  rename_i hnt
  obtain ⟨p, hpc, hk⟩ := h
  obtain ⟨h1, h2⟩ := hpc (G.fzAll Mine w) w vs (fzAll_ok hi) (by simpa using hrl) (norm_args hnt fun i x y hx hy => hrs i x y hx (by rw [Array.getElem?_toList]; exact hy))
  refine ⟨h1, h2.mono ?_⟩
  rintro e w' ⟨v, G', rfl, hv, hok, hf, hnew, hs⟩
  have hokG : FzOK G w' := ⟨fun b o v h => hok.cells b o v (hf.cell b o v (fzAll_fz.cell b o v h)), fun r e h => hok.mps r e (hf.mp r e (fzAll_fz.mp r e h))⟩
  obtain ⟨G2, q1, q2, q3, q4, q5⟩ := PCPost.caller (G' := G) hi hokG (.refl _) ⟨fun b o v h => .inr h, fun r e h => .inr h⟩ (fun b => Iff.rfl) hs
  exact ⟨v, _, s, G2, rfl, hk, .v _ _ (flat_resV hflat hv), rfl, q1, q2, q3, Nat.le_refl _, q4⟩

theorem turnC_sound {E : Cx} {f : FuncId} {args : List TV} {K : TV → St → Prop} (h : turnC P E f args s K) {vs : Array Value} (hi : Inv Mine G s.hp s.T w)
    (hl : args.length = vs.size) (hr : ∀ (i : Nat) x y, args[i]? = some x → vs[i]? = some y → TR G x y) : Comes P f vs w (CallPost Mine G s w K) := by
  unfold turnC at h
  split at h
  case h_2 => exact h.elim
  rename_i cs as X hsig has hX
  obtain ⟨k1, k2, k3⟩ := xnArgs_R (vs := vs.toList) has (by simpa using hl) (fun i x y hx hy => hr i x y hx (by rw [← Array.getElem?_toList]; exact hy))
  have h1 := h (mnX G X w) G.bareX w vs (hi.small (hpX_get hX)) (by simpa using k1) (fun i x y hx hy => (k2 i x y hx (by rw [Array.getElem?_toList]; exact hy)).bareX (k3 x (List.mem_of_getElem? hx)))
  refine h1.mono ?_
  rintro e w' ⟨v, p, X', G', rfl, hk, hv, hi', hf, hl', hs⟩
  obtain ⟨G2, q1, q2, q3, q4, q5⟩ := hi.xcall (hpX_get hX) hi' hf hl' hs
  exact ⟨v, _, setX s X', G2, rfl, hk, q5 _ _ (xresV_ok cs p) hv, rfl, q1, q2, q3, by simp [setX, St.setO], q4⟩

theorem readC_sound {E : Cx} {f : FuncId} {args : List TV} {K : TV → St → Prop} (h : readC P E f args s K) {vs : Array Value} (hi : Inv Mine G s.hp s.T w)
    (hl : args.length = vs.size) (hr : ∀ (i : Nat) x y, args[i]? = some x → vs[i]? = some y → TR G x y) : Comes P f vs w (CallPost Mine G s w K) := by
  refine turnC_sound (E := E) (args := args) ?_ hi hl hr
  unfold readC at h
  unfold turnC
  split at h
  case h_2 => exact h.elim
  rename_i cs as X hsig has hX
  obtain ⟨p, hp, hk⟩ := h
  show XC P f cs as X fun p X' => K (xresV cs p) (setX s X')
  refine XC.mono hp fun p' X' h => ?_
  obtain ⟨rfl, rfl⟩ := h
  rw [setX_same hX]; exact hk

theorem callN_det {E : Cx} (n : Nat) : CallDet (callN P E n) := by
  refine ⟨?_, fun f args s K h => ?_, fun f args s K h s'' hq hT => ?_, fun m c f args s K h => ?_⟩
  rotate_left 3
  · have h : methC P m c args s K := by cases n <;> exact h
    have red : ∀ s'' K', methC P m c args s'' K' → callN P E n (.meth m c) f args s'' K' := fun s'' K' hh => by cases n <;> exact hh
    unfold methC at h
    split at h
    case h_2 => exact h.elim
    obtain ⟨p, hp, hk⟩ := h
    exact ⟨_, hk, fun s'' K' hk' => red s'' K' ⟨p, hp, hk'⟩⟩
  rotate_left 2
  · have h : turnC P E f args s K := by cases n <;> exact h
    have red : ∀ K', turnC P E f args s'' K' → callN P E n .xc f args s'' K' := fun K' hh => by cases n <;> exact hh
    refine red _ ?_
    unfold turnC at h ⊢
    split at h
    case h_2 => exact h.elim
    rename_i cs as X hsig has hX
    simp only [hsig, has, hq, hX]
    refine h.mono fun p X' hk => ⟨rfl, ?_, hT, ?_⟩
    · simp only [setX, St.setO, hq]; exact Loc.set _ _
    · simp only [setX, St.setO, hq, hT] at hk ⊢; exact hk
  rotate_left
  · have h : readC P E f args s K := by cases n <;> exact h
    have red : ∀ s'' K', readC P E f args s'' K' → callN P E n .rd f args s'' K' := fun s'' K' hh => by cases n <;> exact hh
    unfold readC at h
    split at h
    case h_2 => exact h.elim
    rename_i cs as X hsig has hX
    obtain ⟨p, hp, hk⟩ := h
    exact ⟨_, hk, fun s'' K' hq hk' => red s'' K' (by unfold readC; simp only [hsig, has, hq, hX]; exact ⟨p, hp, hk'⟩)⟩
  intro f args s K h
  have h : pureC P E f args s K := by cases n <;> exact h
  have red : ∀ s'' K', pureC P E f args s'' K' → callN P E n .dflt f args s'' K' := fun s'' K' hh => by cases n <;> exact hh
  unfold pureC at h
  split at h
  case h_2 => exact h.elim
  rename_i cs avs hsig hav
  split at h
  case h_2 => exact h.elim
  rename_i hnt
  obtain ⟨p, hpc, hk⟩ := h
  exact ⟨_, hk, fun s'' K' hk' => red s'' K' (by unfold pureC; simp only [hsig, hav, hnt]; exact ⟨p, hpc, hk'⟩)⟩

theorem XC.of (htt : TTOK P tt) (hcs : CallS P call) (hcd : CallDet call) (hmix : P.follows .mixedOrders = true) {f : FuncId} {fn : Func} (hf : P.funcs[f]? = some fn)
    (hname : fn.name ≠ "runtime.NumGoroutine") {md : Mds} {msk : Nat → List Bool × Nat} {cs : List Xd} {args : List TV} {X : XH} {Q : xresT cs → XH → Prop}
    (h : fnK tt call md msk fn args ⟨[], [some (.heap X)], ⟨0, []⟩⟩ (xfin cs Q)) : XC P f cs args X Q := by
  intro Mine G w vs hi hl hr
  have hb : fn.body.isSome = true := by
    unfold fnK at h
    split at h
    · rename_i hb; rw [hb]; rfl
    · exact h.elim
  refine .inl ⟨⟨fn, hf, hname, hb⟩, ?_⟩
  have := fnK_sound (s := ⟨[], [some (.heap X)], ⟨0, []⟩⟩) htt hcs hcd hmix hf h hi hl hr
  refine this.mono ?_
  rintro e w' ⟨v, x, s', G', rfl, hk, hx, -, hi', hf', hl', -, hs⟩
  -- the heap at the end
  obtain ⟨X', hX'⟩ : ∃ X', hpX s'.hp = some X' := by
    unfold xfin at hk
    obtain ⟨rs, _, h⟩ := xoutL_ex xout1_ex _ _ hk
    split at h
    · rename_i X' p hX _; exact ⟨X', hX⟩
    · exact h.elim
  obtain ⟨hp', hhp⟩ : ∃ hp', s'.hp = some (.heap X') :: hp' := by
    unfold hpX at hX'
    split at hX'
    · rename_i X2 r hh; cases hX'; exact ⟨r, hh⟩
    · cases hX'
  rw [hhp] at hi'
  obtain ⟨G1, hG1⟩ : ∃ G1, G1 = G'.fzAll ⟨fun b => Mine b ∧ ¬ Owns G' 0 (.heap X') b, G'.cell, G'.mp, []⟩ w' := ⟨_, rfl⟩
  have hk' : ∃ p, Q p X' ∧ TR G1 (xresV cs p) v := by
    unfold xfin at hk
    rw [hhp] at hk
    have many : ∀ (l : List TV) (vs : List Value), l.length = vs.length → (∀ (i : Nat) x y, l[i]? = some x → vs[i]? = some y → TR G' x y) → xretL cs x = l → (cs.length = 1 → ∃ u, vs = [u] ∧ v = u) → (cs.length ≠ 1 → v = .tuple vs.toArray) →
        ∃ p, Q p X' ∧ TR G1 (xresV cs p) v := by
      intro l vs hl hr hx1 hv1 hv2
      rw [hx1] at hk
      obtain ⟨rs, k1, k2, k3⟩ := xoutL_sound (G' := G1) (fun x y K h hx => xout1_sound h hi' hG1 hx) l vs _ hk hl hr
      split at k1
      case h_2 => exact k1.elim
      rename_i X2 p hX2 hp
      cases hX2
      obtain ⟨r0, r1, r2⟩ := xdecL_R cs rs vs p hp k2 k3
      refine ⟨p, k1, ?_⟩
      match cs, p, r0, r1, r2, hv1, hv2 with
      | [], p, r0, r1, r2, hv1, hv2 =>
        have : vs = [] := List.eq_nil_of_length_eq_zero r0.symm
        subst this
        rw [hv2 (by simp)]
        exact .v _ _ (.tup [] [] rfl (fun i x y hx => by simp at hx))
      | [c], p, r0, r1, r2, hv1, hv2 =>
        obtain ⟨u, rfl, rfl⟩ := hv1 rfl
        exact r2 0 _ _ rfl rfl
      | c :: d :: r, p, r0, r1, r2, hv1, hv2 =>
        rw [hv2 (by simp)]
        exact TR.mkTup (l := xresVs (c :: d :: r) p) r1 r2
    have bad : xretL cs x = [x] → cs.length ≠ 1 → False := by
      intro h1 h2
      rw [h1] at hk
      obtain ⟨rs, h3, h⟩ := xoutL_ex xout1_ex _ _ hk
      split at h
      case h_2 => exact h.elim
      rename_i X2 p _ hp
      match cs, rs, p, hp, h2, h3 with
      | [], [], _, _, _, h3 => simp at h3
      | [], _ :: _, _, hp, _, _ => cases hp
      | [c], _, _, _, h2, _ => exact h2 rfl
      | c :: d :: r, [], _, hp, _, _ => cases hp
      | c :: d :: r, [y], p, hp, _, _ =>
        have hp : (match c.decW y, xdecL (d :: r) [] with
          | some a, some p => some (a, p)
          | _, _ => none) = some p := hp
        have hn : xdecL (d :: r) [] = none := by cases r <;> rfl
        rw [hn] at hp
        cases h1 : c.decW y with
        | none => rw [h1] at hp; cases hp
        | some a => rw [h1] at hp; cases hp
      | c :: d :: r, _ :: _ :: _, _, _, _, h3 => simp at h3
    by_cases hc : cs.length = 1
    · have hx1 : xretL cs x = [x] := by
        match cs, hc with
        | [c], _ => rfl
      exact many [x] [v] rfl (fun i x' y hx' hy => by
        match i with
        | 0 => simp at hx' hy; subst hx' hy; exact hx
        | i + 1 => simp at hx') hx1 (fun _ => ⟨v, rfl, rfl⟩) (fun h => absurd hc h)
    · have hsh : ∀ l, x = .tup l → xretL cs x = l := by
        intro l e
        subst e
        match cs, hc with
        | [], _ => rfl
        | _ :: _ :: _, _ => rfl
        | [_], hc => exact absurd rfl hc
      have hsh' : (∀ l, x ≠ .tup l) → xretL cs x = [x] := by
        intro hn
        match cs, hc with
        | [], _ => cases x <;> first | rfl | exact absurd rfl (hn _)
        | _ :: _ :: _, _ => cases x <;> first | rfl | exact absurd rfl (hn _)
        | [_], hc => exact absurd rfl hc
      by_cases ht : ∃ l, x = .tup l
      · obtain ⟨l, rfl⟩ := ht
        cases hx with | tup _ vs h1 h2 =>
        exact many l vs h1 h2 (hsh l rfl) (fun h => absurd h hc) (fun _ => rfl)
      · exact (bad (hsh' fun l e => ht ⟨l, e⟩) hc).elim
  obtain ⟨p, hq, hv⟩ := hk'
  -- the ghosts that remain
  have hok := fzAll_ok (hi'.behind)
  have hold := fzAll_old (hi'.behind)
  have hfz1 : Fz G' G1 := by rw [hG1]; exact fzAll_fz
  have hsm := hi'.xor (X := X') rfl
  have hGtok : ∀ n, G.tok n = none := fun n => hi.tfin n (Nat.zero_le _)
  have e1 : ∀ g, G1.bareX.loc 0 g = G'.loc 0 g := fun g => by rw [hG1]; simp [Gh.bareX, Gh.fzAll]
  obtain ⟨-, h1, h2, h3⟩ := hsm
  have pr : ∀ b, Owns G' 0 (.heap X') b → G'.priv b → G1.bareX.priv b := by
    intro b hb hp
    rw [hG1]
    refine ⟨fun o => ?_, ?_⟩
    · simp only [Gh.bareX, Gh.fzAll, hp.1 o, Option.none_or]
      rw [if_neg (fun h => h.2 hb)]
    · simp only [Gh.bareX, Gh.fzAll, hp.2, Option.none_or]
      rw [if_neg (fun h => h.2 hb)]
  refine ⟨v, p, X', G1.bareX, rfl, hq, hv.bareX (xresV_ok cs p), ?_, ⟨fun b o v h => ?_, fun r e h => ?_, fun n x h => ?_, fun t t' x _ h => ?_⟩, fun i hi0 g x hx => ?_, hs⟩
  · refine ⟨fun b o v h => hok.cells b o v (by rw [hG1] at h; exact h), fun r e h => hok.mps r e (by rw [hG1] at h; exact h), fun i o hio => ?_, fun i j o o' b hij h h' => ?_, fun t ht => by simp at ht, fun t ht => by simp at ht,
      fun t ht => by simp at ht, fun i g hig => ?_, fun i o g h hg => ?_, fun n _ => rfl, fun b hb => hi'.mine b hb, ?_, ?_⟩
    · match i, hio with
      | 0, hio =>
        simp at hio
        subst hio
        refine ⟨rfl, fun h hh => ⟨(h1 h hh).1, by rw [e1]; exact (h1 h hh).2⟩, fun k o ho => ?_, fun k k' b sz ct sz' ct' hne n1 n2 l1 l2 => h3 k k' b sz ct sz' ct' hne n1 n2 (by rw [← e1]; exact l1) (by rw [← e1]; exact l2)⟩
        have hk : X'.f k ≠ none := by rw [ho]; simp
        have trm : ∀ {x : TV} {y : Value}, OkX x → TR G' x y → TR G1.bareX x y := fun ho h => (h.mono hi'.lb hfz1.f0 (fun i _ g x hx => by rw [hG1]; exact hx)).bareX ho
        cases o with
        | arr c l =>
          obtain ⟨b, q1, q2, q3, cur, el, q4, q5, q6⟩ := h2 k _ ho
          refine ⟨b, by rw [e1]; exact q1, q2, pr b ⟨k, _, _, hk, q1⟩ q3, cur, el, q4, q5, fun e x hx j y hy => ?_⟩
          obtain ⟨u, r1, r2, r3⟩ := q6 e x hx j y hy
          exact ⟨u, r1, trm (Xd.cells_ok c x y (List.mem_of_getElem? hy)) r2, r3⟩
        | map kc vc es =>
          obtain ⟨b, sz, ct, q1, q2, q3, ents, ck, q4, q5, q6, q7⟩ := h2 k _ ho
          refine ⟨b, sz, ct, by rw [e1]; exact q1, q2, pr b ⟨k, _, _, hk, q1⟩ q3, ents, ck, q4, q5, fun j e m he hm => ⟨?_, trm (vc.enc_ok e.2) (q6 j e m he hm).2⟩, q7⟩
          exact (((q6 j e m he hm).1.mono hfz1.f0).bare (Cd.enc_nt kc e.1)).mono bare_fz0
      | i + 1, hio => simp at hio
    · have e1 : i = 0 := by
        have := (List.getElem?_eq_some_iff.1 h).1
        simpa using this
      have e2 : j = 0 := by
        have := (List.getElem?_eq_some_iff.1 h').1
        simpa using this
      exact absurd (e1.trans e2.symm) hij
    · have hig : 1 ≤ i := hig
      simp only [Gh.bareX]
      rw [if_neg (by omega)]
    · match i, h with
      | 0, h =>
        simp at h
        subst h
        rw [e1]
        simp only [O.gen] at hg
        exact (h1 g (by omega)).2
      | i + 1, h => simp at h
    · intro b o v h
      rw [hG1] at h
      have h : ((G'.cell b o).or _) = some v := h
      cases hc : G'.cell b o with
      | some u =>
        rw [hc] at h
        simp only [Option.some_or] at h
        cases h
        exact hi'.old.1 b o _ hc
      | none =>
        rw [hc] at h
        simp only [Option.none_or] at h
        split at h
        · rename_i hm; exact .inl hm.1
        · cases h
    · intro r e h
      rw [hG1] at h
      have h : ((G'.mp r).or _) = some e := h
      cases hc : G'.mp r with
      | some u =>
        rw [hc] at h
        simp only [Option.some_or] at h
        cases h
        exact hi'.old.2 r _ hc
      | none =>
        rw [hc] at h
        simp only [Option.none_or] at h
        split at h
        · rename_i hm; exact .inl hm.1
        · cases h
  · exact hfz1.cell b o v (hf'.cell b o v h)
  · exact hfz1.mp r e (hf'.mp r e h)
  · rw [hGtok n] at h; cases h
  · rw [hGtok t'] at h; cases h
  · have hi1 : i = 0 := by omega
    subst hi1
    rw [e1]
    exact hl' 0 (by simp) g x hx

def FnsOK (P : Program) (E : Cx) : Prop := ∀ f fn, assoc f E.fns = some fn → P.funcs[f]? = some fn ∧ fn.name ≠ "runtime.NumGoroutine"

theorem callN_sound {E : Cx} (htt : TTOK P E.tt) (hmix : P.follows .mixedOrders = true) (hfn : FnsOK P E) : ∀ n, CallS P (callN P E n) := by
  intro n
  induction n with
  | zero =>
    intro md f args s K h Mine G w vs hi hl hr
    cases md with
    | dflt => exact .inl (pureC_sound h hi hl hr)
    | lend => exact .inl (lendC_sound h hi hl hr)
    | rd => exact readC_sound h hi hl hr
    | xc => exact turnC_sound h hi hl hr
    | inl => exact h.elim
    | x c => exact h.elim
    | meth m c => exact methC_sound h hi hl hr
    | «mut» => exact .inl (freshC_sound h hi hl hr)
  | succ n ih =>
    intro md f args s K h Mine G w vs hi hl hr
    cases md with
    | dflt => exact .inl (pureC_sound h hi hl hr)
    | lend => exact .inl (lendC_sound h hi hl hr)
    | rd => exact readC_sound h hi hl hr
    | xc => exact turnC_sound h hi hl hr
    | x c => exact h.elim
    | meth m c => exact methC_sound h hi hl hr
    | inl =>
      unfold callN at h
      split at h
      · rename_i fn hfn'
        obtain ⟨h1, h2⟩ := hfn f fn hfn'
        have hb : fn.body.isSome = true := by
          unfold fnK at h
          split at h
          · rename_i hb; rw [hb]; rfl
          · exact h.elim
        exact .inl ⟨⟨fn, h1, h2, hb⟩, fnK_sound htt ih (callN_det n) hmix h1 h hi hl hr⟩
      · exact h.elim
    | «mut» => exact .inl (freshC_sound h hi hl hr)

end
end Go.Proofs.YtdcljlafookliaaDoor.AB

namespace Go.Proofs.YtdcljlafookliaaDoor.AB
open Go

def strctB (tt : TT) : List (Nat × Nat) → List Field → Bool
 | [], [] => true
 | (off, ft) :: l, f :: r => Nat.beq f.offset off && Nat.beq f.type ft && (tt.at ft).ok && strctB tt l r
 | _, _ => false

def kokB (tt : TT) : TK → TypeDesc → Bool
 | .bool, .bool => true
 | .int k, .int k' => decide (k' = k)
 | .str, .string => true
 | .ptr e, .pointer e' => Nat.beq e' e
 | .slice e, .slice e' => Nat.beq e' e
 | .arr n e, .array n' e' => Nat.beq n' n && Nat.beq e' e && (tt.at e).ok
 | .map k e, .map k' e' => Nat.beq k' k && Nat.beq e' e && (tt.at k).ok && (tt.at e).ok
 | .strct fs, .struct fields => strctB tt fs fields.toList
 | .iface, .interface _ => true
 | .func, .func _ _ _ => true
 | _, _ => false

theorem strctB_spec {tt : TT} : ∀ {fs : List (Nat × Nat)} {l : List Field}, strctB tt fs l = true → fs.length = l.length ∧ ∀ (i : Nat) off ft, fs[i]? = some (off, ft) →
  ∃ f, l[i]? = some f ∧ f.offset = off ∧ f.type = ft ∧ (tt.at ft).ok = true
 | [], [], _ => ⟨rfl, fun i off ft h => by simp at h⟩
 | [], _ :: _, h => by simp [strctB] at h
 | _ :: _, [], h => by simp [strctB] at h
 | (off, ft) :: fs, f :: l, h => by
  simp only [strctB, Bool.and_eq_true] at h
  obtain ⟨⟨⟨h1, h2⟩, h3⟩, h4⟩ := h
  obtain ⟨k1, k2⟩ := strctB_spec h4
  refine ⟨by simp [k1], fun i off' ft' hi => ?_⟩
  cases i with
  | zero => simp at hi; obtain ⟨rfl, rfl⟩ := hi; exact ⟨f, rfl, Nat.eq_of_beq_eq_true h1, Nat.eq_of_beq_eq_true h2, h3⟩
  | succ i => simpa using k2 i off' ft' (by simpa using hi)

theorem kokB_spec {tt : TT} {k : TK} {d : TypeDesc} (h : kokB tt k d = true) : KOK tt k d := by
 unfold kokB at h
 split at h <;> first
  | rfl
  | (cases h; done)
  | skip
 ·exact congrArg _ (of_decide_eq_true h)
 ·exact congrArg _ (Nat.eq_of_beq_eq_true h)
 ·exact congrArg _ (Nat.eq_of_beq_eq_true h)
 ·simp only [Bool.and_eq_true] at h
  rw [Nat.eq_of_beq_eq_true h.1.1, Nat.eq_of_beq_eq_true h.1.2]
  exact ⟨rfl, h.2⟩
 ·simp only [Bool.and_eq_true] at h
  rw [Nat.eq_of_beq_eq_true h.1.1.1, Nat.eq_of_beq_eq_true h.1.1.2]
  exact ⟨rfl, h.1.2, h.2⟩
 ·rename_i fs fields
  obtain ⟨h1, h2⟩ := strctB_spec h
  refine ⟨fields, rfl, by simpa using h1, fun i off ft hi => ?_⟩
  obtain ⟨f, q1, q2⟩ := h2 i off ft hi
  exact ⟨f, by rw [← Array.getElem?_toList]; exact q1, q2⟩
 ·exact ⟨_, rfl⟩
 ·exact ⟨_, _, _, rfl⟩

def zeroB (k : TK) (z : Value) : Bool :=
 match k.isSl, z with
 | true, .slice none n c => Nat.beq n 0 && Nat.beq c 0
 | true, _ => false
 | false, _ => true

def tiB (P : Program) (tt : TT) (t : Nat) (ti : TI) : Bool :=
 match P.underlying t, P.info? t with
 | some d, some i => kokB tt ti.k d && match i.zero with
  | some z => Nat.beq i.size ti.size && Nat.beq i.bytes ti.bytes && vrZT ti.zero z && Nat.beq z.cells.size ti.size && Nat.beq ti.zero.cells.length ti.size && z.cells.all (·.oneCell') &&
    (!ti.cok || (Nat.beq ti.code.sz ti.size && Nat.blt 0 ti.size && Nat.blt 0 ti.bytes)) && zeroB ti.k z
  | none => false
 | _, _ => false

theorem tiB_spec {P : Program} {tt : TT} {t : Nat} {ti : TI} (h : tiB P tt t ti = true) : TIOK P tt t ti := by
 unfold tiB at h
 split at h
 case h_2 => cases h
 rename_i d i hd hi
 rw [Bool.and_eq_true] at h
 obtain ⟨hk, h⟩ := h
 split at h
 case h_2 => cases h
 rename_i z hz
 simp only [Bool.and_eq_true] at h
 obtain ⟨⟨⟨⟨⟨⟨⟨h1, h2⟩, h3⟩, h4⟩, h5⟩, h6⟩, h7⟩, h8⟩ := h
 refine ⟨⟨d, hd, kokB_spec hk⟩, ⟨i, z, hi, hz, Nat.eq_of_beq_eq_true h1, Nat.eq_of_beq_eq_true h2, fun G => vrZT_spec h3, Nat.eq_of_beq_eq_true h4, Nat.eq_of_beq_eq_true h5, h6⟩, fun hc => ?_, fun hs => ⟨i, hi, ?_⟩, ⟨i, z, hi, hz, h3⟩⟩
 rotate_left
 ·unfold zeroB at h8
  rw [hs] at h8
  split at h8
  ·simp only [Bool.and_eq_true] at h8
   rw [hz, Nat.eq_of_beq_eq_true h8.1, Nat.eq_of_beq_eq_true h8.2]
  ·cases h8
  ·rename_i q; cases q
 rw [hc] at h7
 simp only [Bool.not_true, Bool.false_or, Bool.and_eq_true] at h7
 obtain ⟨⟨q1, q2⟩, q3⟩ := h7
 rw [Nat.blt_eq] at q2 q3
 exact ⟨Nat.eq_of_beq_eq_true q1, q2, q3⟩

def ttB (P : Program) (tt : TT) : Nat → List TI → Bool
 | _, [] => true
 | n, ti :: l => (!ti.ok || tiB P tt n ti) && ttB P tt (n + 1) l

theorem ttB_spec {P : Program} {tt : TT} : ∀ (l : List TI) (n : Nat), ttB P tt n l = true → ∀ (i : Nat) ti, l[i]? = some ti → ti.ok = true → TIOK P tt (n + i) ti
 | [], n, _, i, ti, h, _ => by simp at h
 | x :: l, n, h, i, ti, hi, hok => by
  simp only [ttB, Bool.and_eq_true] at h
  cases i with
  | zero =>
   simp at hi; subst hi
   have := h.1
   rw [hok] at this
   exact tiB_spec (by simpa using this)
  | succ i =>
   have := ttB_spec l (n + 1) h.2 i ti (by simpa using hi) hok
   rwa [Nat.add_assoc, Nat.add_comm 1 i] at this

theorem ttok_of {P : Program} {tt : TT} (h : ttB P tt 0 tt = true) : TTOK P tt := by
 intro t ht
 unfold TT.at at ht ⊢
 simp only [List.getD] at ht ⊢
 cases hx : tt[t]? with
 | none => rw [hx] at ht; cases ht
 | some ti =>
  rw [hx] at ht
  have := ttB_spec tt 0 h t ti hx ht
  rw [Nat.zero_add] at this
  exact this

def fnsB (P : Program) : List (Nat × Func) → Prop
 | [] => True
 | (f, fn) :: l => P.funcs[f]? = some fn ∧ fn.name ≠ "runtime.NumGoroutine" ∧ fnsB P l

theorem fnsB_spec {P : Program} : ∀ {l : List (Nat × Func)}, fnsB P l → ∀ f fn, assoc f l = some fn → P.funcs[f]? = some fn ∧ fn.name ≠ "runtime.NumGoroutine"
 | [], _, f, fn, h => by cases h
 | (k, g) :: l, hb, f, fn, h => by
  unfold assoc at h
  split at h
  ·rename_i e
   cases h
   rw [← Nat.eq_of_beq_eq_true e]
   exact ⟨hb.1, hb.2.1⟩
  ·exact fnsB_spec hb.2.2 f fn h


def mkL : Nat → Nat → List (Nat × TV) → List TV
 | 0, _, _ => []
 | n + 1, i, [] => tu :: mkL n (i + 1) []
 | n + 1, i, (k, x) :: l => match Nat.beq k i with
  | true => x :: mkL n (i + 1) l
  | false => tu :: mkL n (i + 1) ((k, x) :: l)

def mkS (n : Nat) (l : List (Nat × TV)) (hp : Hp) (T : Toks) : St := ⟨mkL n 0 l, hp, T⟩

def mkM : Nat → Nat → List Nat → List Bool
 | 0, _, _ => []
 | n + 1, i, [] => false :: mkM n (i + 1) []
 | n + 1, i, k :: l => match Nat.beq k i with
  | true => true :: mkM n (i + 1) l
  | false => false :: mkM n (i + 1) (k :: l)

def bd (f : Func) : Code := match f.body with
 | some c => c
 | none => .skip

def codeAt : List Nat → Code → Code
 | [], c => c
 | n :: p, c => match c with
  | .seq x y => codeAt p (match n with
   | 0 => x
   | _ => y)
  | .block _ c => codeAt p c
  | .loop c => codeAt p c
  | .cond _ x y => codeAt p (match n with
   | 0 => x
   | _ => y)
  | _ => .skip

def regOps : Code → Array Oper
 | .region _ ops _ => ops
 | _ => #[]

structure Wrap (p : Prop) : Prop where
 out : p

theorem Wrap.cast {p q : Prop} (e : p = q) (h : Wrap p) : Wrap q := by subst e; exact h

def topK (R : V → Prop) (x : TV) (s : St) : Prop := frz s.hp x R

def Again {α : Type} (st : α → St) (J : α → Prop) (μ : α → Nat) (n : Nat) (s : St) : Prop := ∃ n', n' < n ∧ ∃ a, s = st a ∧ J a ∧ μ a = n'

theorem Again.mk {α : Type} {st : α → St} {J : α → Prop} {μ : α → Nat} {n : Nat} {s : St} (a : α) (hs : s = st a) (hJ : J a) (hn : μ a < n) : Again st J μ n s :=
 ⟨μ a, hn, a, hs, hJ, rfl⟩

theorem Loops.intro {α : Type} {body : (Exit → St → Prop) → St → Prop} {m : List Bool × Nat} {Q : Exit → St → Prop} {s : St} (st : α → St) (J : α → Prop) (μ : α → Nat) (a0 : α) (h0 : s = st a0) (hJ : J a0)
  (step : ∀ a, J a → body (loopQ m (Again st J μ (μ a)) Q) (st a)) : Loops body m Q s := by
 refine ⟨fun n s => ∃ a, s = st a ∧ J a ∧ μ a = n, ⟨_, a0, h0, hJ, rfl⟩, ?_⟩
 rintro n s ⟨a, rfl, hJa, rfl⟩
 exact step a hJa

end Go.Proofs.YtdcljlafookliaaDoor.AB

namespace Go.Proofs.YtdcljlafookliaaDoor.AB
open Go

def TabW (w : World) : Prop := ∀ b o v, tabG b o = some v → w.cell? ⟨b, o, none⟩ = some v

def ghW (w : World) (ht : TabW w) : Gh := ⟨fun b o => w.cell? ⟨b, o, none⟩, fun r => match w.heap[r]? with
 | some (.map ents _) => some (ents.toList.map fun m => (m.key, m.val))
 | _ => none, fun _ => none, fun _ _ => none, ht⟩

theorem ghW_ok (w : World) (ht : TabW w) : FzOK (ghW w ht) w := by
 refine ⟨fun b o v h => h, fun r es h => ?_⟩
 simp only [ghW] at h
 split at h
 ·rename_i ents ck he
  cases h
  exact ⟨ents, ck, he, rfl⟩
 ·cases h

mutual
def fitB (tt : TT) : Nat → Cd → Nat → Bool
 | 0, _, _ => false
 | n + 1, c, t => (tt.at t).ok && match c, (tt.at t).k with
  | .int k, .int k' => decide (k = k')
  | .bool, .bool => true
  | .str, .str => true
  | .slice c, .slice e => Nat.beq (tt.at e).size c.sz && Nat.blt 0 c.sz && fitB tt n c e
  | c, .strct fs => Nat.beq (tt.at t).size c.sz && fitFs tt n 0 c fs
  | _, _ => false
def fitFs (tt : TT) : Nat → Nat → Cd → List (Nat × Nat) → Bool
 | 0, _, _, _ => false
 | n + 1, off, c, fs => match fs with
  | [] => (match c with
   | .unit => true
   | _ => false)
  | [(o, t)] => (match c with
   | .pair a .unit => Nat.beq o off && Nat.beq (tt.at t).size a.sz && fitB tt n a t
   | c => Nat.beq o off && Nat.beq (tt.at t).size c.sz && fitB tt n c t)
  | (o, t) :: r => match c with
   | .pair a b => Nat.beq o off && Nat.beq (tt.at t).size a.sz && fitB tt n a t && fitFs tt n (off + a.sz) b r
   | _ => false
end

def Cd.wf : (c : Cd) → c.T → Prop
 | .unit, _ => True
 | .int k, n => k.min ≤ (n : Int) ∧ (n : Int) ≤ k.max
 | .bool, _ => True
 | .str, s => (s : List UInt8).length ≤ maxLen
 | .slice c, l => List.length l ≤ maxLen ∧ ∀ x ∈ (l : List c.T), c.wf x
 | .pair a b, p => a.wf p.1 ∧ b.wf p.2

def Cd.wt : (c : Cd) → c.T → Nat
 | .unit, _ => 0
 | .int _, _ => 0
 | .bool, _ => 0
 | .str, s => (s : List UInt8).length
 | .slice c, l => List.length l + (List.map c.wt l).sum
 | .pair a b, p => a.wt p.1 + b.wt p.2

structure Bk (H : Type) where
 b : DataW H → Nat
 bs : List (DataW H) → Nat
 nil : bs [] = 0
 cons : ∀ d r, bs (d :: r) = b d + bs r
 pos : ∀ d, 1 ≤ b d
 slice : ∀ e s, bs e + 1 ≤ b (.slice e s)
 agg : ∀ l, bs l + 1 ≤ b (.agg l)
 str : ∀ l, l.length + 1 ≤ b (.lit (.string l))

theorem bk_le2 {H α : Type} (B : Bk H) (f : α → Nat) : ∀ (l : List α) (ds : List (DataW H)), l.length = ds.length → (∀ (i : Nat) v d, l[i]? = some v → ds[i]? = some d → f v + 1 ≤ B.b d) → l.length + (l.map f).sum ≤ B.bs ds
 | [], [], _, _ => Nat.zero_le _
 | v :: l, d :: ds, hl, h => by
  rw [B.cons]
  have h0 := h 0 v d rfl rfl
  have := bk_le2 B f l ds (by simpa using hl) (fun i v d hv hd => h (i + 1) v d (by simpa using hv) (by simpa using hd))
  simp only [List.map_cons, List.sum_cons, List.length_cons]
  omega
 | [], _ :: _, hl, _ => by simp at hl
 | _ :: _, [], hl, _ => by simp at hl

def sumN (f : Nat → Nat) : Nat → Nat
 | 0 => 0
 | n + 1 => f 0 + sumN (fun i => f (i + 1)) n

theorem sumN_bs {H : Type} (B : Bk H) (z : DataW H) : ∀ (ds : List (DataW H)), sumN (fun i => B.b (ds.getD i z)) ds.length = B.bs ds
 | [] => by rw [B.nil]; rfl
 | d :: ds => by
  rw [B.cons, ← sumN_bs B z ds]
  rfl

theorem pick_list {α : Type} {Q : Nat → α → Prop} : ∀ n, (∀ i, i < n → ∃ v, Q i v) → ∃ l : List α, l.length = n ∧ ∀ i v, l[i]? = some v → Q i v
 | 0, _ => ⟨[], rfl, fun i v h => by simp at h⟩
 | n + 1, h => by
  obtain ⟨l, h1, h2⟩ := pick_list n fun i hi => h i (by omega)
  obtain ⟨v, hv⟩ := h n (by omega)
  refine ⟨l ++ [v], by simp [h1], fun i u hu => ?_⟩
  rcases Nat.lt_or_ge i l.length with hi | hi
  ·rw [List.getElem?_append_left hi] at hu; exact h2 i u hu
  ·rw [List.getElem?_append_right hi] at hu
   have hi0 : i - l.length = 0 := by
    have := (List.getElem?_eq_some_iff.1 hu).1
    simp at this; omega
   rw [hi0] at hu
   simp at hu
   have : i = n := by omega
   subst this; subst hu; exact hv

theorem cells?_get {w : World} {base n : Nat} {ad : Addr} {cs : List Value} (h : w.cells? base ad n = some cs) : cs.length = n ∧ ∀ (j : Nat) u, cs[j]? = some u → w.cell? (ad.add j) = some u := by
 unfold World.cells? at h
 split at h
 ·refine ⟨by simpa using mapM_some_length h, fun j u hu => ?_⟩
  have hj : j < n := by
   have := (List.getElem?_eq_some_iff.1 hu).1
   rw [show cs.length = n by simpa using mapM_some_length h] at this
   exact this
  have := mapM_some_get h j j (by simp [hj])
  rw [this]; exact hu
 ·cases h

theorem cell_spot {w : World} {ad : Addr} {u : Value} (h : w.cell? ad = some u) : ad.spot = none := by
 unfold World.cell? at h
 split at h
 ·cases hs : ad.spot with
  | none => rfl
  | some z => rw [hs] at h; simp at h
 ·cases h

theorem add_cell {w : World} {ad : Addr} {x j : Nat} {u : Value} (h : w.cell? ((ad.add x).add j) = some u) : w.cell? ⟨ad.block, ad.off + (x + j), none⟩ = some u ∧ (x + j = 0 → ad.spot = none) := by
 by_cases hx : x = 0
 ·by_cases hj : j = 0
  ·subst hx hj
   have h : w.cell? ad = some u := by simpa [Addr.add] using h
   have hs := cell_spot h
   obtain ⟨b, o, sp⟩ := ad
   simp only at hs
   subst hs
   exact ⟨h, fun _ => rfl⟩
  ·subst hx
   exact ⟨by simpa [Addr.add, hj] using h, fun e => by omega⟩
 ·refine ⟨?_, fun e => by omega⟩
  by_cases hj : j = 0
  ·subst hj
   simpa [Addr.add, hx] using h
  ·simpa [Addr.add, hx, hj, Nat.add_assoc] using h

section
variable {P : Program} {tt : TT} {w : World} {ht : TabW w} {H : Type} {encH : TypeId × Value → H} {base : Nat} {spare : Nat → Bool} {held : Bool}

def Fits (w : World) (ht : TabW w) (c : Cd) (v : c.T) (off : Nat) (cs : List Value) : Prop :=
 c.wf v ∧ ∀ (j : Nat) q u, (c.cells v)[j]? = some q → cs[off + j]? = some u → VR (ghW w ht) q u ∧ u.oneCell' = true

theorem cellsOf_eq (htt : TTOK P tt) {t : Nat} (hok : (tt.at t).ok = true) : P.cellsOf t = (tt.at t).size := by
 obtain ⟨i, z, h1, _, h3, _⟩ := (htt t hok).info
 unfold Program.cellsOf
 rw [h1]; exact h3

theorem trod_VR (htt : TTOK P tt) : ∀ n,
  (∀ (c : Cd) (t : Nat), fitB tt n c t = true → ∀ fuel cs x, DataW.trod encH P w base spare held fuel t cs = some x → ∃ v : c.T, Fits w ht c v 0 cs ∧ ∀ B : Bk H, c.wt v + 1 ≤ B.b x.1) ∧
  (∀ (off : Nat) (c : Cd) (fs : List (Nat × Nat)), fitFs tt n off c fs = true → ∀ (cs : List Value) (m : Nat) (xs : Nat → DataW H × List MemPlace),
   (∀ (i : Nat) o t, fs[i]? = some (o, t) → DataW.trod encH P w base spare held m t ((cs.drop o).take (tt.at t).size) = some (xs i)) → ∃ v : c.T, Fits w ht c v off cs ∧ ∀ B : Bk H, c.wt v ≤ sumN (fun i => B.b (xs i).1) fs.length) := by
 intro n
 induction n with
 | zero => exact ⟨fun c t h => by simp [fitB] at h, fun off c fs h => by simp [fitFs] at h⟩
 | succ n ih =>
  obtain ⟨ih1, ih2⟩ := ih
  refine ⟨fun c t h fuel cs x hx => ?_, fun off c fs h cs m xs hm => ?_⟩
  ·unfold fitB at h
   rw [Bool.and_eq_true] at h
   obtain ⟨hok, h⟩ := h
   obtain ⟨d, hd, hk⟩ := (htt t hok).und
   split at h
   ·rename_i k k' hkt
    have hkk : k = k' := of_decide_eq_true h
    subst hkk
    rw [hkt] at hk
    simp only [KOK] at hk
    subst hk
    obtain ⟨z, rfl, _, hwf⟩ := DataW.trod_int hd hx
    simp only [Lit.wf, Bool.and_eq_true, decide_eq_true_eq] at hwf
    refine ⟨z, ⟨hwf, fun j q u hq hu => ?_⟩, fun B => B.pos _⟩
    cases j with
    | zero => simp [Cd.cells] at hq hu; subst hq hu; exact ⟨.int k z, rfl⟩
    | succ j => simp [Cd.cells] at hq
   ·rename_i hkt
    rw [hkt] at hk
    simp only [KOK] at hk
    subst hk
    obtain ⟨b, rfl, _⟩ := DataW.trod_bool hd hx
    refine ⟨b, ⟨trivial, fun j q u hq hu => ?_⟩, fun B => B.pos _⟩
    cases j with
    | zero => simp [Cd.cells] at hq hu; subst hq hu; exact ⟨.bool b, rfl⟩
    | succ j => simp [Cd.cells] at hq
   ·rename_i hkt
    rw [hkt] at hk
    simp only [KOK] at hk
    subst hk
    obtain ⟨z, rfl, rfl, hl⟩ := DataW.trod_string hd hx
    refine ⟨z.data.toList, ⟨hl, fun j q u hq hu => ?_⟩, fun B => B.str z.data.toList⟩
    cases j with
    | zero =>
     simp [Cd.cells] at hq hu; subst hq hu
     have := VR.str (G := ghW w ht) z.data.toList
     exact ⟨this, rfl⟩
    | succ j => simp [Cd.cells] at hq
   ·rename_i c' e hkt
    rw [hkt] at hk
    simp only [KOK] at hk
    subst hk
    simp only [Bool.and_eq_true] at h
    obtain ⟨⟨h1, h2⟩, h3⟩ := h
    have hoke : (tt.at e).ok = true := by
     cases n with
     | zero => simp [fitB] at h3
     | succ n => unfold fitB at h3; rw [Bool.and_eq_true] at h3; exact h3.1
    have hsz : P.cellsOf e = c'.sz := by rw [cellsOf_eq htt hoke]; exact Nat.eq_of_beq_eq_true h1
    rw [Nat.blt_eq] at h2
    rcases DataW.trod_slice hd hx with ⟨rfl, _⟩ | ⟨ad, len, cap, elems, rest, m, _, rfl, rfl, _, hlc, hcap, hel, helem, _, _⟩
    ·refine ⟨[], ⟨⟨Nat.zero_le _, fun x hx => by cases hx⟩, fun j q u hq hu => ?_⟩, fun B => B.pos _⟩
     cases j with
     | zero =>
      simp [Cd.cells] at hq hu; subst hq hu
      exact ⟨VR.list c' [] .no none 0 0 0 (fun _ => Go.undef) (fun h => absurd rfl h) (Nat.le_refl _) (fun i x hx => by simp at hx) (fun i x hx => by simp at hx) (fun i x hx => by simp at hx) trivial, rfl⟩
     | succ j => simp [Cd.cells] at hq
    ·have each : ∀ i, i < len → ∃ v : c'.T, (c'.wf v ∧ ∀ (j : Nat) q, (c'.cells v)[j]? = some q → ∃ u, w.cell? ((ad.add (i * c'.sz)).add j) = some u ∧ VR (ghW w ht) q u ∧ u.oneCell' = true) ∧ ∀ (d : DataW H × List MemPlace), elems[i]? = some d → ∀ B : Bk H, c'.wt v + 1 ≤ B.b d.1 := by
      intro i hi
      have he := helem i hi
      rw [hsz, List.getElem?_eq_getElem (by omega), Option.bind_eq_some_iff] at he
      obtain ⟨ci, hci, htr⟩ := he
      obtain ⟨v, ⟨hv1, hv2⟩, hv3⟩ := ih1 c' e h3 _ _ _ htr
      obtain ⟨hl, hg⟩ := cells?_get hci
      refine ⟨v, ⟨hv1, fun j q hq => ?_⟩, fun d hd B => by rw [List.getElem?_eq_getElem (by omega)] at hd; cases hd; exact hv3 B⟩
      have hj : j < ci.length := by
       rw [hl, ← Cd.length_cells c' v]; exact (List.getElem?_eq_some_iff.1 hq).1
      have hu : ci[j]? = some ci[j] := List.getElem?_eq_getElem hj
      obtain ⟨r1, r2⟩ := hv2 j q ci[j] hq (by rw [Nat.zero_add]; exact hu)
      exact ⟨ci[j], hg j _ hu, r1, r2⟩
     obtain ⟨l, hl1, hl2⟩ := pick_list len each
     have hat0 : ∀ (k : Nat) q, (l.flatMap c'.cells)[k]? = some q → ∃ u, w.cell? ⟨ad.block, ad.off + k, none⟩ = some u ∧ (VR (ghW w ht) q u ∧ u.oneCell' = true) ∧ (k = 0 → ad.spot = none) := by
      intro k q hq
      obtain ⟨i, j, x, rfl, hj, hx, hq'⟩ := flat_split c' l hq
      obtain ⟨u, r1, r2⟩ := (hl2 i x hx).1.2 j q hq'
      obtain ⟨k1, k2⟩ := add_cell r1
      exact ⟨u, k1, r2, k2⟩
     refine ⟨l, ⟨⟨by omega, fun x hx => ?_⟩, fun j q u hq hu => ?_⟩, fun B => ?_⟩
     ·obtain ⟨i, hi, rfl⟩ := List.getElem_of_mem hx
      exact (hl2 i _ (List.getElem?_eq_getElem hi)).1.1
     ·cases j with
      | succ j => simp [Cd.cells] at hq
      | zero =>
       simp [Cd.cells] at hq hu
       subst hq hu
       have hat : ∀ (k : Nat) q, (l.flatMap c'.cells)[k]? = some q → ∃ u, w.cell? ⟨ad.block, ad.off + k, none⟩ = some u ∧ VR (ghW w ht) q u ∧ u.oneCell' = true := by
        intro k q hq
        obtain ⟨u, r1, r2, _⟩ := hat0 k q hq
        exact ⟨u, r1, r2⟩
       have ha : l ≠ [] → some ad = some ⟨ad.block, ad.off, none⟩ := by
        intro hne
        cases l with
        | nil => exact absurd rfl hne
        | cons y l =>
         have hfl : 0 < ((y :: l).flatMap c'.cells).length := by rw [length_flat]; exact Nat.mul_pos (by simp) h2
         obtain ⟨_, _, _, this⟩ := hat0 0 _ (List.getElem?_eq_getElem hfl)
         have := this rfl
         cases ad
         simp at this
         subst this; rfl
       have hvr := VR.list (G := ghW w ht) c' l .no (some ad) cap ad.block ad.off (fun k => (w.cell? ⟨ad.block, ad.off + k, none⟩).getD Go.undef) ha (by omega)
        (fun k q hq => by obtain ⟨u, r1, _⟩ := hat k q hq; show w.cell? _ = _; rw [r1]; rfl)
        (fun k q hq => by obtain ⟨u, r1, r2, r3⟩ := hat k q hq; rw [r1]; exact r3)
        (fun k q hq => by obtain ⟨u, r1, r2, r3⟩ := hat k q hq; rw [r1]; exact r2) trivial
       rw [hl1] at hvr
       exact ⟨hvr, rfl⟩
     ·have h1 := B.slice (elems.map (·.1)) (rest.map (·.1))
      have h3 := bk_le2 B c'.wt l (elems.map (·.1)) (by simp [hl1, hel]) (fun i v d hv hd => by
       rw [List.getElem?_map, Option.map_eq_some_iff] at hd
       obtain ⟨d', hd', rfl⟩ := hd
       exact (hl2 i v hv).2 d' hd' B)
      simp only [Cd.wt]
      omega
   ·rename_i fs hkt
    rw [hkt] at hk
    obtain ⟨fields, rfl, hfl, hfs⟩ := hk
    rw [Bool.and_eq_true] at h
    obtain ⟨xs, m, _, rfl, hcl, hxl, hall⟩ := DataW.trod_struct hd hx
    obtain ⟨v, hv, hv2⟩ := ih2 0 _ fs h.2 cs m (fun i => xs.getD i (.nil, [])) (fun i o t' hi => by
     obtain ⟨f, q1, rfl, rfl, q4⟩ := hfs i o t' hi
     have := hall i f q1
     rw [cellsOf_eq htt q4] at this
     have hi' : i < xs.length := by
      rw [hxl, ← hfl]; exact (List.getElem?_eq_some_iff.1 hi).1
     rw [List.getElem?_eq_getElem hi'] at this
     rw [this]
     simp [List.getD, hi'])
    refine ⟨v, hv, fun B => ?_⟩
    have h1 := hv2 B
    have h2 := B.agg (xs.map (·.1))
    have h3 := sumN_bs B .nil (xs.map (·.1))
    have h4 : (fun i => B.b ((xs.map (·.1)).getD i .nil)) = fun i => B.b (xs.getD i (.nil, [])).1 := by
     funext i
     simp only [List.getD, List.getElem?_map]
     cases xs[i]? <;> rfl
    have h5 : fs.length = (xs.map (·.1)).length := by rw [List.length_map, hxl, ← hfl]
    rw [h4, ← h5] at h3
    show _ ≤ B.b (.agg (xs.map (·.1)))
    omega
   ·cases h
  ·have one : ∀ {a : Cd} {o t : Nat}, fitB tt n a t = true → (tt.at t).size = a.sz → o = off → ∀ x, DataW.trod encH P w base spare held m t ((cs.drop o).take (tt.at t).size) = some x → ∃ v : a.T, Fits w ht a v off cs ∧ ∀ B : Bk H, a.wt v + 1 ≤ B.b x.1 := by
    rintro a o t h1 h2 rfl x hx
    obtain ⟨v, ⟨hv1, hv2⟩, hv3⟩ := ih1 a t h1 _ _ _ hx
    refine ⟨v, ⟨hv1, fun j q u hq hu => hv2 j q u hq ?_⟩, hv3⟩
    have hj : j < a.sz := by rw [← Cd.length_cells a v]; exact (List.getElem?_eq_some_iff.1 hq).1
    rw [Nat.zero_add, List.getElem?_take, if_pos (by omega), List.getElem?_drop]
    exact hu
   unfold fitFs at h
   split at h
   ·split at h
    ·exact ⟨(), ⟨trivial, fun j q u hq => by simp [Cd.cells] at hq⟩, fun B => Nat.zero_le _⟩
    ·cases h
   ·rename_i o t
    split at h
    ·rename_i a
     simp only [Bool.and_eq_true] at h
     obtain ⟨⟨h1, h2⟩, h3⟩ := h
     obtain ⟨v, ⟨hv1, hv2⟩, hv3⟩ := one h3 (Nat.eq_of_beq_eq_true h2) (Nat.eq_of_beq_eq_true h1) _ (hm 0 o t rfl)
     refine ⟨(v, ()), ⟨⟨hv1, trivial⟩, fun j q u hq hu => hv2 j q u ?_ hu⟩, fun B => by have := hv3 B; simp only [Cd.wt, sumN, List.length_cons, List.length_nil]; omega⟩
     simpa [Cd.cells] using hq
    ·simp only [Bool.and_eq_true] at h
     obtain ⟨⟨h1, h2⟩, h3⟩ := h
     obtain ⟨v, hv1, hv3⟩ := one h3 (Nat.eq_of_beq_eq_true h2) (Nat.eq_of_beq_eq_true h1) _ (hm 0 o t rfl)
     exact ⟨v, hv1, fun B => by have := hv3 B; simp only [sumN, List.length_cons, List.length_nil]; omega⟩
   ·rename_i o t r _
    split at h
    ·rename_i a b
     simp only [Bool.and_eq_true] at h
     obtain ⟨⟨⟨h1, h2⟩, h3⟩, h4⟩ := h
     obtain ⟨v, ⟨hv1, hv2⟩, hv3⟩ := one h3 (Nat.eq_of_beq_eq_true h2) (Nat.eq_of_beq_eq_true h1) _ (hm 0 o t rfl)
     obtain ⟨u', ⟨hu1, hu2⟩, hu3⟩ := ih2 _ _ _ h4 cs m (fun i => xs (i + 1)) (fun i o t hi => hm (i + 1) o t (by simpa using hi))
     refine ⟨(v, u'), ⟨⟨hv1, hu1⟩, fun j q u hq hu => ?_⟩, fun B => by have := hv3 B; have := hu3 B; simp only [Cd.wt, sumN, List.length_cons] at *; omega⟩
     simp only [Cd.cells, List.getElem?_append, Cd.length_cells] at hq
     split at hq
     ·exact hv2 j q u hq hu
     ·rename_i hj
      refine hu2 (j - a.sz) q u hq ?_
      rw [show off + a.sz + (j - a.sz) = off + j by omega]; exact hu
    ·cases h

end
end Go.Proofs.YtdcljlafookliaaDoor.AB

namespace Go.Proofs.YtdcljlafookliaaDoor.AB
open Go Go.RowKit

theorem vr_str_len {G : Gh} {l : List UInt8} {a : ByteArray} (h : VR G (.str l) (.string a)) : l.length = a.data.toList.length := by
 cases h; simp

section
variable {P : Program} {tt : TT} {w : World} {ht : TabW w} {H : Type} {encH : TypeId × Value → H} {base : Nat} {spare : Nat → Bool} {held : Bool}

theorem open_oneB (htt : TTOK P tt) {n : Nat} {c : Cd} {t : Nat} (hf : fitB tt n c t = true) (hc : c.isAgg = false) {v : Value} (hv : v.cells.toList = [v]) {d : DataW H} {ps : List MemPlace}
  (h : DataW.Trod encH P w base spare held t v d ps) : ∃ x : c.T, c.wf x ∧ VR (ghW w ht) (c.enc x) v ∧ ∀ B : Bk H, c.wt x + 1 ≤ B.b d := by
 obtain ⟨fuel, h⟩ := h
 obtain ⟨x, ⟨hx1, hx2⟩, hx3⟩ := (trod_VR htt n).1 c t hf fuel _ _ h
 refine ⟨x, hx1, ?_, hx3⟩
 rw [hv] at hx2
 have one : ∀ q, (c.cells x)[0]? = some q → VR (ghW w ht) q v := fun q hq => (hx2 0 q v hq rfl).1
 cases c with
 | unit => cases hc
 | pair a b => cases hc
 | int k => exact one _ rfl
 | bool => exact one _ rfl
 | str => exact one _ rfl
 | slice c => exact one _ rfl

theorem open_one (htt : TTOK P tt) {n : Nat} {c : Cd} {t : Nat} (hf : fitB tt n c t = true) (hc : c.isAgg = false) {v : Value} (hv : v.cells.toList = [v]) {d : DataW H} {ps : List MemPlace}
  (h : DataW.Trod encH P w base spare held t v d ps) : ∃ x : c.T, c.wf x ∧ VR (ghW w ht) (c.enc x) v :=
 let ⟨x, h1, h2, _⟩ := open_oneB htt hf hc hv h
 ⟨x, h1, h2⟩

theorem wt_le {α : Type} (f : α → Nat) {l : List α} {x : α} (h : x ∈ l) : f x ≤ (l.map f).sum := by
 induction l with
 | nil => cases h
 | cons y l ih =>
  simp only [List.map_cons, List.sum_cons]
  rcases List.mem_cons.1 h with rfl | h
  ·omega
  ·have := ih h; omega

theorem PC.law {f : FuncId} {args : List V} (h : PC P f args (.bool true)) {vs : Array Value} (hl : args.length = vs.size)
  (hr : ∀ (i : Nat) x y, args[i]? = some x → vs[i]? = some y → VR (ghW w ht) x y) :
  Calls P f vs w fun e w' => e = .returned (.bool true) ∧ Below w.heap.size w w' := by
 refine (h (ghW w ht) w vs (ghW_ok w ht) hl hr).2.mono ?_
 rintro e w' ⟨v, G', rfl, hv, _, _, _, hs⟩
 have hv' : v = .bool true := by cases hv; rfl
 subst hv'
 exact ⟨rfl, ⟨hs.os, hs.tape, hs.output, hs.size, fun k hk => hs.block k (fun hm => by
  have : w.heap.size ≤ k := hm
  omega)⟩⟩

end
end Go.Proofs.YtdcljlafookliaaDoor.AB

namespace Go.Proofs.YtdcljlafookliaaDoor.AB
open Go


variable {X X' : XH}

theorem at_lt {k : Nat} {o : XO} (h : X.at k = some o) : k < X.n := (at_get h).2

theorem at_set (X : XH) (h k : Nat) (o : XO) : (X.set h o).at k = if k = h ∧ h < X.n then some o else X.at k := by
  unfold XH.at XH.set
  dsimp only
  cases hb : Nat.blt k X.n with
  | true =>
    rw [Nat.blt_eq] at hb
    by_cases e : k = h
    · subst e; simp [hb]
    · simp [e]
  | false =>
    have hb' : ¬ k < X.n := by rw [← Nat.blt_eq, hb]; decide
    rw [if_neg (fun e : k = h ∧ h < X.n => hb' (by omega))]

theorem at_set_self {h : Nat} {o p : XO} (hp : X.at h = some p) : (X.set h o).at h = some o := by
  rw [at_set, if_pos ⟨rfl, at_lt hp⟩]

theorem at_set_ne {h k : Nat} {o : XO} (hk : k ≠ h) : (X.set h o).at k = X.at k := by
  rw [at_set, if_neg (fun e => hk e.1)]

theorem at_add_new (X : XH) (o : XO) : (X.add o).at X.n = some o := at_of (by simp [XH.add]) (Nat.lt_succ_self _)

theorem at_add_old {k : Nat} {o : XO} (h : k < X.n) : (X.add o).at k = X.at k := by
  have h1 : Nat.blt k (X.add o).n = true := by rw [Nat.blt_eq]; exact Nat.lt_succ_of_lt h
  have h2 : Nat.blt k X.n = true := by rw [Nat.blt_eq]; exact h
  unfold XH.at; rw [h1, h2]
  simp only [XH.add]; rw [if_neg (by omega)]

def Box (X : XH) (c : Xd) (h : Nat) (a : c.T) : Prop := X.at h = some (.arr c [a])

theorem Box.arr {c : Xd} {h : Nat} {a : c.T} (hb : Box X c h a) : X.arr c h = some [a] := arr_at.2 hb
theorem Box.el {c : Xd} {h : Nat} {a : c.T} (hb : Box X c h a) : X.el c h 0 = some a := by
  unfold XH.el; rw [hb.arr]; rfl
theorem Box.get {c : Xd} {h : Nat} {a b : c.T} (hb : Box X c h a) (he : X.el c h 0 = some b) : b = a := by
  rw [hb.el] at he; exact (Option.some.inj he).symm
theorem Box.setEl {c : Xd} {h : Nat} {a b : c.T} (hb : Box X c h a) : X.setEl c h 0 b = X.set h (.arr c [b]) := by
  unfold XH.setEl; rw [hb.arr]; rfl
theorem Box.lt {c : Xd} {h : Nat} {a : c.T} (hb : Box X c h a) : h < X.n := at_lt hb
theorem Box.set {c : Xd} {h : Nat} {a b : c.T} (hb : Box X c h a) : Box (X.set h (.arr c [b])) c h b := at_set_self hb
theorem Box.keep {c : Xd} {h : Nat} {a : c.T} (hb : Box X c h a) (e : X'.at h = X.at h) : Box X' c h a := e.trans hb

def hl : Option SlH → List Nat
  | none => []
  | some s => [s.h]

def SlAt (X : XH) (c : Xd) (x : Option SlH) (l : List c.T) : Prop :=
  match x with
  | none => l = []
  | some s => ∃ a, X.at s.h = some (.arr c a) ∧ s.off + s.cap ≤ a.length ∧ s.len ≤ s.cap ∧ l = (a.drop s.off).take s.len

variable {c : Xd} {x : Option SlH} {l : List c.T}

theorem SlAt.view (h : SlAt X c x l) : X.view c x = some l := by
  cases x with
  | none => simp only [SlAt] at h; subst h; rfl
  | some s =>
    obtain ⟨a, h1, h2, h3, h4⟩ := h
    simp only [XH.view, arr_at.2 h1, h4]

theorem SlAt.len (h : SlAt X c x l) : slN x = l.length := by
  cases x with
  | none => simp only [SlAt] at h; subst h; rfl
  | some s =>
    obtain ⟨a, h1, h2, h3, h4⟩ := h
    subst h4
    simp only [slN, List.length_take, List.length_drop]; omega

theorem SlAt.le (h : SlAt X c x l) : slN x ≤ slC x := by
  cases x with
  | none => exact Nat.le_refl _
  | some s => exact h.choose_spec.2.2.1

theorem SlAt.lt (h : SlAt X c x l) : ∀ k ∈ hl x, k < X.n := by
  cases x with
  | none => simp [hl]
  | some s =>
    obtain ⟨a, h1, _⟩ := h
    intro k hk
    simp only [hl, List.mem_singleton] at hk
    subst hk; exact at_lt h1

theorem SlAt.keep (h : SlAt X c x l) (e : ∀ k ∈ hl x, X'.at k = X.at k) : SlAt X' c x l := by
  cases x with
  | none => exact h
  | some s =>
    obtain ⟨a, h1, h2⟩ := h
    exact ⟨a, (e s.h (by simp [hl])).trans h1, h2⟩

theorem SlAt.el {s : SlH} (h : SlAt X c (some s) l) {i : Nat} (hi : i < l.length) : X.el c s.h (s.off + i) = some (l[i]'hi) := by
  obtain ⟨a, h1, h2, h3, h4⟩ := h
  have hl : l.length ≤ s.len := by rw [h4]; simp; omega
  unfold XH.el
  rw [arr_at.2 h1]
  dsimp only
  have : l[i]? = a[s.off + i]? := by
    rw [h4, List.getElem?_take, if_pos (by omega), List.getElem?_drop]
  rw [← this, List.getElem?_eq_getElem hi]

theorem over_length {α : Type} {a l' : List α} {p : Nat} (h : p + l'.length ≤ a.length) : (over a p l').length = a.length := by
  simp only [over, List.length_append, List.length_take, List.length_drop]; omega

theorem over_get {α : Type} {a l' : List α} {p i : Nat} (h : p + l'.length ≤ a.length) :
    (over a p l')[i]? = if p ≤ i ∧ i < p + l'.length then l'[i - p]? else a[i]? := by
  unfold over
  rw [List.append_assoc]
  by_cases h1 : i < p
  · rw [if_neg (by omega), List.getElem?_append_left (by simp; omega), List.getElem?_take, if_pos h1]
  · rw [List.getElem?_append_right (by simp; omega)]
    simp only [List.length_take]
    by_cases h2 : i < p + l'.length
    · rw [if_pos (by omega), List.getElem?_append_left (by omega)]
      congr 1; omega
    · rw [if_neg (by omega), List.getElem?_append_right (by omega), List.getElem?_drop]
      congr 1; omega

theorem XH.over_eq {s : SlH} {a : List c.T} (h : X.at s.h = some (.arr c a)) (k : Nat) (l' : List c.T) : X.over c (some s) k l' = X.set s.h (.arr c (AB.over a (s.off + k) l')) := by
  unfold XH.over; simp only [arr_at.2 h]

structure Mv (X : XH) (S : List Nat) (X' : XH) (S' : List Nat) : Prop where
  n : X.n ≤ X'.n
  keep : ∀ k, k < X.n → k ∉ S → X'.at k = X.at k
  own : ∀ k ∈ S', k ∈ S ∨ X.n ≤ k

theorem Mv.refl (X : XH) (S : List Nat) : Mv X S X S := ⟨Nat.le_refl _, fun _ _ _ => rfl, fun _ h => .inl h⟩
theorem Mv.trans {X Y Z : XH} {S S' S'' : List Nat} (h : Mv X S Y S') (k : Mv Y S' Z S'') : Mv X S Z S'' :=
  ⟨Nat.le_trans h.n k.n, fun i hi hn => by
    rw [k.keep i (Nat.lt_of_lt_of_le hi h.n) fun e => (h.own i e).elim hn (fun e => absurd e (by omega)), h.keep i hi hn],
   fun i hi => (k.own i hi).elim (h.own i) fun e => .inr (Nat.le_trans h.n e)⟩

theorem Mv.set {h : Nat} {o : XO} {S : List Nat} (hm : h ∈ S) : Mv X S (X.set h o) S :=
  ⟨Nat.le_refl _, fun k _ hk => at_set_ne (fun e => hk (e ▸ hm)), fun _ h => .inl h⟩

theorem Mv.add (X : XH) (o : XO) (S : List Nat) : Mv X S (X.add o) (X.n :: S) :=
  ⟨Nat.le_succ _, fun k hk _ => at_add_old hk, fun k hk => by
    rcases List.mem_cons.1 hk with rfl | h
    · exact .inr (Nat.le_refl _)
    · exact .inl h⟩

theorem Mv.weak {S S' T T' : List Nat} (h : Mv X S X' S') (h1 : ∀ k ∈ S, k ∈ T) (h2 : ∀ k ∈ T', k ∈ S' ∨ k ∈ T) : Mv X T X' T' :=
  ⟨h.n, fun k hk hn => h.keep k hk fun e => hn (h1 k e), fun k hk => (h2 k hk).elim (fun e => (h.own k e).imp (h1 k) id) .inl⟩

theorem XApp.spec {z : c.T} {l' : List c.T} {x' : Option SlH} (h : XApp X c z l l' x X' x') (hx : SlAt X c x l) : SlAt X' c x' (l ++ l') ∧ Mv X (hl x) X' (hl x') := by
  cases h with
  | none h =>
    subst h
    simp only [SlAt] at hx; subst hx
    exact ⟨rfl, .refl _ _⟩
  | room s hr =>
    have hlen := hx.len
    obtain ⟨a, h1, h2, h3, h4⟩ := hx
    simp only [slN] at hlen
    rw [XH.over_eq h1]
    refine ⟨⟨_, at_set_self h1, ?_, hr, ?_⟩, Mv.set (by simp [hl])⟩
    · rw [over_length (by omega)]; exact h2
    · refine List.ext_getElem? fun i => ?_
      dsimp only
      rw [List.getElem?_take]
      by_cases hi : i < s.len + l'.length
      · rw [if_pos hi, List.getElem?_drop, over_get (by omega)]
        by_cases hi2 : i < s.len
        · rw [if_neg (by omega), List.getElem?_append_left (by omega), h4, List.getElem?_take, if_pos hi2, List.getElem?_drop]
        · rw [if_pos (by omega), List.getElem?_append_right (by omega)]
          congr 1; omega
      · rw [if_neg hi, List.getElem?_eq_none (by simp; omega)]
  | grow k hk =>
    have hlen := hx.len
    refine ⟨⟨_, at_add_new _ _, ?_, ?_, ?_⟩, ?_⟩
    · simp only [List.length_append, List.length_replicate]; omega
    · dsimp only; omega
    · dsimp only
      rw [List.drop_zero, List.take_append_of_le_length (by simp only [List.length_append]; omega), List.take_of_length_le (by simp only [List.length_append]; omega)]
    · exact ⟨Nat.le_succ _, fun i hi _ => at_add_old hi, fun i hi => .inr (by simp only [hl, List.mem_singleton] at hi; omega)⟩

end Go.Proofs.YtdcljlafookliaaDoor.AB

namespace Go.Proofs.YtdcljlafookliaaDoor.AB
open Go

section
variable {Mine : Mn} {G G' : Gh} {hp : Hp} {T : Toks} {w w' : World}

theorem Inv.beyond (h : Inv Mine G hp T w) (hb : Go.RowKit.Below w.heap.size w w') (g : Nat) (hg : w.heap.size ≤ g) (f : Nat → Option Value)
  (hfr : ∀ o v, f o = some v → w'.cell? ⟨g, o, none⟩ = some v) :
  Inv Mine (G.addCells g f) hp T w' ∧ Fz G (G.addCells g f) ∧ Lc hp.length G (G.addCells g f) ∧ Stp Mine w w' := by
 have hno : ∀ o, G.cell g o = none := by
  intro o
  cases hc : G.cell g o with
  | none => rfl
  | some v => have := h.cell_lt hc; omega
 have hf : Fz G (G.addCells g f) := by
  refine ⟨fun b o v x => ?_, fun _ _ x => x, fun _ _ x => x, fun _ _ _ _ _ x => x⟩
  simp only [Gh.addCells]
  rw [if_neg (by have := h.cell_lt x; omega)]; exact x
 have hl : Lc hp.length G (G.addCells g f) := fun i hi g x hx => hx
 have hpriv : ∀ b, b < w.heap.size → G.priv b → (G.addCells g f).priv b := by
  intro b hb hp
  refine ⟨fun o => ?_, hp.2⟩
  simp only [Gh.addCells]; rw [if_neg (by omega)]; exact hp.1 o
 have hold : ∀ b o v, (G.addCells g f).cell b o = some v → Mine b ∨ Mine.cell b o = some v := by
  intro b o v hc
  simp only [Gh.addCells] at hc
  split at hc
  ·subst_vars; exact .inl (h.mine _ hg)
  ·exact h.old.1 b o v hc
 refine ⟨⟨?_, ?_, ?_, h.inj, ?_, h.tobj, h.tinj, h.lb, h.gens, h.tfin, ?_, hold, h.old.2⟩, hf, hl, ?_⟩
 ·intro b o v hc
  simp only [Gh.addCells] at hc
  split at hc
  ·subst_vars
   rw [hno, Option.none_or] at hc
   exact hfr o v hc
  ·rw [cell_of_heap (w := w) (by exact hb.block _ (h.cell_lt hc))]
   exact h.cells b o v hc
 ·intro r es hr
  rw [hb.block _ (h.mp_lt (r := r) (e := es) hr)]
  exact h.mps r es hr
 ·intro i o hi
  refine (h.objs i o hi).keep h.lb hf hl (fun b hb' => ?_)
  have := ((h.objs i o hi).blk hb').2.2
  exact ⟨hb.block _ this, hpriv b this⟩
 ·intro t ht
  obtain ⟨bo, e, c, h1, h2⟩ := h.toks t ht
  refine ⟨bo, e, c, h1, fun b hb' => ?_⟩
  obtain ⟨k1, ⟨cur', el', k2, k3⟩, k4, k5⟩ := h2 b hb'
  have := heap_lt k2
  refine ⟨k1, ⟨cur', el', by rw [hb.block _ this]; exact k2, k3⟩, fun o ho => ?_, k5⟩
  simp only [Gh.addCells]; rw [if_neg (by omega)]; exact k4 o ho
 ·intro b hb'
  have := hb.size
  exact h.mine b (by omega)
 ·exact ⟨hb.os, hb.tape, hb.output, hb.size, fun k hk => hb.block k (by rcases Nat.lt_or_ge k w.heap.size with q | q; exact q; exact absurd (h.mine k q) hk)⟩

theorem Inv.rowInt (h : Inv Mine G hp T w) (hb : Go.RowKit.Below w.heap.size w w') {e : TypeId} {v : Value} {l : List Int} (hr : w'.ownsRow w.heap.size e 1 v l.length (l.map fun n => .int .i64 n)) :
  ∃ G', TR G' (.v (.list (.int .i64) l .no)) v ∧ Inv Mine G' hp T w' ∧ Fz G G' ∧ Lc hp.length G G' ∧ Stp Mine w w' := by
 obtain ⟨h1, h2⟩ := hr
 have cellsE : ∀ l : List Int, (l.flatMap (Cd.int .i64).cells) = l.map fun n => V.int .i64 n := by
  intro l
  induction l with
  | nil => rfl
  | cons a l ih => rw [List.flatMap_cons, ih]; rfl
 rcases h2 with ⟨rfl, h2⟩ | ⟨g, cap, cur, rfl, h3, h4, h5, h6, h7, h8⟩
 ·have hl : l = [] := List.length_eq_zero_iff.1 h2
  subst hl
  obtain ⟨k1, k2, k3, k4⟩ := h.beyond hb w.heap.size (Nat.le_refl _) (fun _ => none) (fun o v e => by cases e)
  refine ⟨_, .v _ _ (.list (.int .i64) [] .no none 0 0 0 (fun _ => Go.undef) (fun e => absurd rfl e) (Nat.le_refl _) (fun i x hx => by simp at hx) (fun i x hx => by simp at hx) (fun i x hx => by simp at hx) trivial), k1, k2, k3, k4⟩
 ·obtain ⟨k1, k2, k3, k4⟩ := h.beyond hb g h3 (fun o => (l.map fun n => Value.int .i64 n)[o]?) (fun o v e => by
   unfold World.cell?
   simp only [h4]
   rw [← h8, List.getElem?_take] at e
   split at e
   ·simpa using e
   ·cases e)
  have hno : ∀ o, G.cell g o = none := by
   intro o
   cases hc : G.cell g o with
   | none => rfl
   | some v => have := h.cell_lt hc; omega
  have hget : ∀ (i : Nat) x, ((l.flatMap (Cd.int .i64).cells))[i]? = some x → ∃ n, l[i]? = some n ∧ x = .int .i64 n := by
   intro i x hx
   rw [cellsE, List.getElem?_map] at hx
   cases hl : l[i]? with
   | none => rw [hl] at hx; cases hx
   | some n => rw [hl] at hx; exact ⟨n, rfl, (Option.some.inj hx).symm⟩
  refine ⟨_, .v _ _ (.list (.int .i64) l .no (some ⟨g, 0, none⟩) cap g 0 (fun i => .int .i64 (l.getD i 0)) (fun _ => rfl) h5 (fun i x hx => ?_) (fun i x hx => rfl) (fun i x hx => ?_) trivial), k1, k2, k3, k4⟩
  ·obtain ⟨n, h9, rfl⟩ := hget i x hx
   simp only [Gh.addCells, if_true, Nat.zero_add, hno, Option.none_or, List.getElem?_map, h9, Option.map_some, List.getD, Option.getD_some]
  ·obtain ⟨n, h9, rfl⟩ := hget i x hx
   simp only [List.getD, h9, Option.getD_some]
   exact .int _ _

end
end Go.Proofs.YtdcljlafookliaaDoor.AB

